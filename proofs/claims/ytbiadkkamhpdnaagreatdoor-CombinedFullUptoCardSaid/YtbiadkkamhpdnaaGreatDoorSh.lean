/- Contracts of the library's functions at this seat, laid by the kit's tool, in plain words. -/
import Derived.Shelf.Strings.Builder1
import Derived.Shelf.Strings.Builder2
import Derived.Shelf.Strings.OnBuilder
import Derived.Shelf.Small.Strs
import Derived.Shelf.Strings.BuilderF
import Derived.Shelf.Strconv.Itoa0
import Derived.Shelf.Strconv.Itoa1
import Derived.Shelf.LaysM
import Derived.Shelf.Strconv.Itoa2
import Derived.Shelf.Strconv.Itoa3
import Derived.Shelf.Strings.Search1
import Derived.Shelf.Strings.Search2
import Derived.Shelf.Strings.Search3
import Derived.Shelf.Strings.Count
import Derived.Shelf.Strings.Shaped
import Derived.Shelf.Strings.Prefix
import Derived.Shelf.Bits.Mul64
import Derived.Shelf.Strings.Repeat
import Derived.Shelf.Unicode.DecodeSlow
import Derived.Shelf.Slices.Equal
import Derived.Test.YtbiadkkamhpdnaaGreatDoorChecked
set_option linter.unusedSimpArgs false
namespace Go.Proofs
open Go.Shelf
def Tryz.lays169_ren:Go.Shelf.Ren:=⟨fun | 169=>89 | n=>n,fun | 70=>122 | 9=>9 | 0=>0 | 72=>124 | 37=>115 | 127=>196 | 3=>3 | 5=>5 | n=>n,fun | n=>n⟩
theorem Tryz.lays169:Go.Proofs.Lays.n169 Tryz.prog Tryz.lays169_ren:={
  mixed:=by kernel_rfl
  f169:=Tryz.func89.trans (congrArg some (by kernel_rfl))
  t0:=Tryz.underlying0
  a0:=Tryz.isAgg0
  z0:=Tryz.sizeOf0
  v0:=Tryz.zeroValue0
  t3:=Tryz.underlying3
  a3:=Tryz.isAgg3
  z3:=Tryz.sizeOf3
  v3:=Tryz.zeroValue3
  t9:=Tryz.underlying9
  a9:=Tryz.isAgg9
  z9:=Tryz.sizeOf9
  v9:=Tryz.zeroValue9
  t37:=Tryz.underlying115
  a37:=Tryz.isAgg115
  z37:=Tryz.sizeOf115
  v37:=Tryz.zeroValue115
  t70:=Tryz.underlying122
  a70:=Tryz.isAgg122
  z70:=Tryz.sizeOf122
  v70:=Tryz.zeroValue122
  t72:=Tryz.underlying124
  a72:=Tryz.isAgg124
  z72:=Tryz.sizeOf124
  v72:=Tryz.zeroValue124
  t127:=Tryz.underlying196
  a127:=Tryz.isAgg196
  z127:=Tryz.sizeOf196
  v127:=Tryz.zeroValue196 }
theorem Tryz.Builder_Extra_169:Builder.Extra Tryz.prog Tryz.lays169_ren:={
  sizeBuilder:=by kernel_rfl
  liesBuilder:=by kernel_rfl
  t5:=Tryz.underlying5
  a5:=Tryz.isAgg5
  z5:=Tryz.sizeOf5
  v5:=Tryz.zeroValue5
  infoByte:=by kernel_rfl
  cellsByte:=by kernel_rfl
  sizeByte:=by kernel_rfl
  neB5:=by decide }
open Go.RowKit in
theorem Tryz.Builder_String_any (B b:Nat) (l:List UInt8) (w:World) (h:Lib.IsBuilder 124 5 B b (Lib.byteCells l) w) (hBw:B≤w.heap.size) :
    Calls Tryz.prog 89 #[.pointer (some ⟨b,0,none⟩)] w fun e w'=>e=.returned (.string ⟨l.toArray⟩)∧Below B w w':=Any.Builder_String_any Tryz.lays169 Tryz.Builder_Extra_169 B b l w h hBw
def Tryz.laysM171_ren:Go.Shelf.Ren:=⟨fun | 171=>205 | 243=>242 | 246=>263 | 283=>268 | 284=>269 | 285=>270 | 286=>271 | 129=>278 | 317=>277 | 318=>279 | 319=>280 | 320=>281 | 337=>284 | 338=>285 | n=>n,fun | 3=>3 | 9=>9 | 2=>2 | 4=>4 | 171=>291 | 0=>0 | 53=>114 | 37=>115 | 5=>5 | 173=>294 | 212=>299 | 51=>67 | 20=>20 | 213=>300 | 46=>70 | 232=>308 | 233=>309 | n=>n,fun | 17=>1 | 18=>4 | 19=>5 | n=>n⟩
theorem Tryz.laysM171:Go.Proofs.LaysM.n171 Tryz.prog Tryz.laysM171_ren:={
  mixed:=by kernel_rfl
  f129:=Tryz.func278.trans (congrArg some (by kernel_rfl))
  f171:=Tryz.func205.trans (congrArg some (by kernel_rfl))
  f243:=Tryz.func242.trans (congrArg some (by kernel_rfl))
  f246:=Tryz.func263.trans (congrArg some (by kernel_rfl))
  f283:=Tryz.func268.trans (congrArg some (by kernel_rfl))
  f284:=Tryz.func269.trans (congrArg some (by kernel_rfl))
  f285:=Tryz.func270.trans (congrArg some (by kernel_rfl))
  f286:=Tryz.func271.trans (congrArg some (by kernel_rfl))
  f317:=Tryz.func277.trans (congrArg some (by kernel_rfl))
  f318:=Tryz.func279.trans (congrArg some (by kernel_rfl))
  f319:=Tryz.func280.trans (congrArg some (by kernel_rfl))
  f320:=Tryz.func281.trans (congrArg some (by kernel_rfl))
  f337:=Tryz.func284.trans (congrArg some (by kernel_rfl))
  f338:=Tryz.func285.trans (congrArg some (by kernel_rfl))
  t0:=Tryz.underlying0
  a0:=Tryz.isAgg0
  z0:=Tryz.sizeOf0
  v0:=Tryz.zeroValue0
  t2:=Tryz.underlying2
  a2:=Tryz.isAgg2
  z2:=Tryz.sizeOf2
  v2:=Tryz.zeroValue2
  t3:=Tryz.underlying3
  a3:=Tryz.isAgg3
  z3:=Tryz.sizeOf3
  v3:=Tryz.zeroValue3
  t4:=Tryz.underlying4
  a4:=Tryz.isAgg4
  z4:=Tryz.sizeOf4
  v4:=Tryz.zeroValue4
  t5:=Tryz.underlying5
  a5:=Tryz.isAgg5
  z5:=Tryz.sizeOf5
  v5:=Tryz.zeroValue5
  t9:=Tryz.underlying9
  a9:=Tryz.isAgg9
  z9:=Tryz.sizeOf9
  v9:=Tryz.zeroValue9
  t20:=Tryz.underlying20
  a20:=Tryz.isAgg20
  z20:=Tryz.sizeOf20
  v20:=Tryz.zeroValue20
  t37:=Tryz.underlying115
  a37:=Tryz.isAgg115
  z37:=Tryz.sizeOf115
  v37:=Tryz.zeroValue115
  t46:=Tryz.underlying70
  a46:=Tryz.isAgg70
  z46:=Tryz.sizeOf70
  v46:=Tryz.zeroValue70
  t51:=Tryz.underlying67
  a51:=Tryz.isAgg67
  z51:=Tryz.sizeOf67
  v51:=Tryz.zeroValue67
  t53:=Tryz.underlying114
  a53:=Tryz.isAgg114
  z53:=Tryz.sizeOf114
  v53:=Tryz.zeroValue114
  t171:=Tryz.underlying291
  a171:=Tryz.isAgg291
  z171:=Tryz.sizeOf291
  v171:=Tryz.zeroValue291
  t173:=Tryz.underlying294
  a173:=Tryz.isAgg294
  z173:=Tryz.sizeOf294
  v173:=Tryz.zeroValue294
  t212:=Tryz.underlying299
  a212:=Tryz.isAgg299
  z212:=Tryz.sizeOf299
  v212:=Tryz.zeroValue299
  t213:=Tryz.underlying300
  a213:=Tryz.isAgg300
  z213:=Tryz.sizeOf300
  t232:=Tryz.underlying308
  a232:=Tryz.isAgg308
  z232:=Tryz.sizeOf308
  v232:=Tryz.zeroValue308
  t233:=Tryz.underlying309
  a233:=Tryz.isAgg309
  z233:=Tryz.sizeOf309
  v233:=Tryz.zeroValue309
  g17:=by kernel_rfl
  g18:=by kernel_rfl
  g19:=by kernel_rfl
  i0:=by kernel_rfl
  i2:=by kernel_rfl
  i3:=by kernel_rfl
  i4:=by kernel_rfl
  i5:=by kernel_rfl
  i9:=by kernel_rfl
  i20:=by kernel_rfl
  i37:=by kernel_rfl
  i46:=by kernel_rfl
  i51:=by kernel_rfl
  i53:=by kernel_rfl
  i171:=by kernel_rfl
  i173:=by kernel_rfl
  i212:=by kernel_rfl
  i232:=by kernel_rfl
  i233:=by kernel_rfl
  m17:=by kernel_rfl
  m18:=by kernel_rfl
  m19:=by kernel_rfl }
open Go.RowKit Go.Sort Go.Lib in
theorem Tryz.strconv_Itoa (n:Int) (h0:-9223372036854775808≤n) (h1:n≤9223372036854775807) (w:World) (htab:Lib.TabIs Tryz.prog w "internal/strconv.uint64pow10" .u64 Lib.pow10Tab) :
    Calls Tryz.prog 205 #[.int .i64 n] w fun e w'=>e=.returned (.string ⟨(Lib.itoa n).toArray⟩)∧∃k os,w'=grow (w.drewN k) os:=Any.strconv_Itoa Tryz.laysM171 n h0 h1 w htab
def Tryz.lays143_ren:Go.Shelf.Ren:=⟨fun | 143=>246 | 219=>264 | 217=>186 | 225=>272 | 224=>273 | 267=>274 | 266=>230 | 314=>282 | n=>n,fun | 9=>9 | 3=>3 | 4=>4 | 5=>5 | 46=>70 | 146=>273 | 51=>67 | n=>n,fun | 1=>0 | n=>n⟩
theorem Tryz.lays143:Go.Proofs.Lays.n143 Tryz.prog Tryz.lays143_ren:={
  mixed:=by kernel_rfl
  f143:=Tryz.func246.trans (congrArg some (by kernel_rfl))
  f217:=Tryz.func186.trans (congrArg some (by kernel_rfl))
  f219:=Tryz.func264.trans (congrArg some (by kernel_rfl))
  f224:=Tryz.func273.trans (congrArg some (by kernel_rfl))
  f225:=Tryz.func272.trans (congrArg some (by kernel_rfl))
  f266:=Tryz.func230.trans (congrArg some (by kernel_rfl))
  f267:=Tryz.func274.trans (congrArg some (by kernel_rfl))
  f314:=Tryz.func282.trans (congrArg some (by kernel_rfl))
  t3:=Tryz.underlying3
  a3:=Tryz.isAgg3
  z3:=Tryz.sizeOf3
  v3:=Tryz.zeroValue3
  t4:=Tryz.underlying4
  a4:=Tryz.isAgg4
  z4:=Tryz.sizeOf4
  v4:=Tryz.zeroValue4
  t5:=Tryz.underlying5
  a5:=Tryz.isAgg5
  z5:=Tryz.sizeOf5
  v5:=Tryz.zeroValue5
  t9:=Tryz.underlying9
  a9:=Tryz.isAgg9
  z9:=Tryz.sizeOf9
  v9:=Tryz.zeroValue9
  t46:=Tryz.underlying70
  a46:=Tryz.isAgg70
  z46:=Tryz.sizeOf70
  v46:=Tryz.zeroValue70
  t51:=Tryz.underlying67
  a51:=Tryz.isAgg67
  z51:=Tryz.sizeOf67
  v51:=Tryz.zeroValue67
  t146:=Tryz.underlying273
  a146:=Tryz.isAgg273
  z146:=Tryz.sizeOf273
  v146:=Tryz.zeroValue273
  g1:=by kernel_rfl }
open Go.RowKit Go.Lib in
theorem Tryz.strings_Index_one (s:ByteArray) (c:UInt8) (w:World) :
    Calls Tryz.prog 246 #[.string s,.string ⟨#[c]⟩] w fun e w'=>e=.returned (.int .i64 (Lib.indexByte s.data.toList c))∧w'=w:=Any.strings_Index_one Tryz.lays143 s c w
def Tryz.lays144_ren:Go.Shelf.Ren:=⟨fun | 144=>209 | 143=>246 | 219=>264 | 217=>186 | 225=>272 | 224=>273 | 267=>274 | 266=>230 | 314=>282 | n=>n,fun | 9=>9 | 4=>4 | 3=>3 | 5=>5 | 46=>70 | 146=>273 | 51=>67 | n=>n,fun | 1=>0 | n=>n⟩
theorem Tryz.lays144:Go.Proofs.Lays.n144 Tryz.prog Tryz.lays144_ren:={
  mixed:=by kernel_rfl
  f143:=Tryz.func246.trans (congrArg some (by kernel_rfl))
  f144:=Tryz.func209.trans (congrArg some (by kernel_rfl))
  f217:=Tryz.func186.trans (congrArg some (by kernel_rfl))
  f219:=Tryz.func264.trans (congrArg some (by kernel_rfl))
  f224:=Tryz.func273.trans (congrArg some (by kernel_rfl))
  f225:=Tryz.func272.trans (congrArg some (by kernel_rfl))
  f266:=Tryz.func230.trans (congrArg some (by kernel_rfl))
  f267:=Tryz.func274.trans (congrArg some (by kernel_rfl))
  f314:=Tryz.func282.trans (congrArg some (by kernel_rfl))
  t3:=Tryz.underlying3
  a3:=Tryz.isAgg3
  z3:=Tryz.sizeOf3
  v3:=Tryz.zeroValue3
  t4:=Tryz.underlying4
  a4:=Tryz.isAgg4
  z4:=Tryz.sizeOf4
  v4:=Tryz.zeroValue4
  t5:=Tryz.underlying5
  a5:=Tryz.isAgg5
  z5:=Tryz.sizeOf5
  v5:=Tryz.zeroValue5
  t9:=Tryz.underlying9
  a9:=Tryz.isAgg9
  z9:=Tryz.sizeOf9
  v9:=Tryz.zeroValue9
  t46:=Tryz.underlying70
  a46:=Tryz.isAgg70
  z46:=Tryz.sizeOf70
  v46:=Tryz.zeroValue70
  t51:=Tryz.underlying67
  a51:=Tryz.isAgg67
  z51:=Tryz.sizeOf67
  v51:=Tryz.zeroValue67
  t146:=Tryz.underlying273
  a146:=Tryz.isAgg273
  z146:=Tryz.sizeOf273
  v146:=Tryz.zeroValue273
  g1:=by kernel_rfl }
open Go.RowKit Go.Lib in
theorem Tryz.strings_Contains_one (s:ByteArray) (c:UInt8) (w:World) :
    Calls Tryz.prog 209 #[.string s,.string ⟨#[c]⟩] w fun e w'=>e=.returned (.bool (decide (0≤Lib.indexByte s.data.toList c)))∧w'=w:=Any.strings_Contains_one Tryz.lays144 s c w
def Tryz.lays138_ren:Go.Shelf.Ren:=⟨fun | 138=>216 | 195=>250 | 218=>251 | 143=>246 | 219=>264 | 217=>186 | 225=>272 | 224=>273 | 267=>274 | 266=>230 | 314=>282 | n=>n,fun | 9=>9 | 3=>3 | 4=>4 | 5=>5 | 0=>0 | 46=>70 | 146=>273 | 51=>67 | n=>n,fun | 1=>0 | n=>n⟩
theorem Tryz.lays138:Go.Proofs.Lays.n138 Tryz.prog Tryz.lays138_ren:={
  mixed:=by kernel_rfl
  f138:=Tryz.func216.trans (congrArg some (by kernel_rfl))
  f143:=Tryz.func246.trans (congrArg some (by kernel_rfl))
  f195:=Tryz.func250.trans (congrArg some (by kernel_rfl))
  f217:=Tryz.func186.trans (congrArg some (by kernel_rfl))
  f218:=Tryz.func251.trans (congrArg some (by kernel_rfl))
  f219:=Tryz.func264.trans (congrArg some (by kernel_rfl))
  f224:=Tryz.func273.trans (congrArg some (by kernel_rfl))
  f225:=Tryz.func272.trans (congrArg some (by kernel_rfl))
  f266:=Tryz.func230.trans (congrArg some (by kernel_rfl))
  f267:=Tryz.func274.trans (congrArg some (by kernel_rfl))
  f314:=Tryz.func282.trans (congrArg some (by kernel_rfl))
  t0:=Tryz.underlying0
  a0:=Tryz.isAgg0
  z0:=Tryz.sizeOf0
  v0:=Tryz.zeroValue0
  t3:=Tryz.underlying3
  a3:=Tryz.isAgg3
  z3:=Tryz.sizeOf3
  v3:=Tryz.zeroValue3
  t4:=Tryz.underlying4
  a4:=Tryz.isAgg4
  z4:=Tryz.sizeOf4
  v4:=Tryz.zeroValue4
  t5:=Tryz.underlying5
  a5:=Tryz.isAgg5
  z5:=Tryz.sizeOf5
  v5:=Tryz.zeroValue5
  t9:=Tryz.underlying9
  a9:=Tryz.isAgg9
  z9:=Tryz.sizeOf9
  v9:=Tryz.zeroValue9
  t46:=Tryz.underlying70
  a46:=Tryz.isAgg70
  z46:=Tryz.sizeOf70
  v46:=Tryz.zeroValue70
  t51:=Tryz.underlying67
  a51:=Tryz.isAgg67
  z51:=Tryz.sizeOf67
  v51:=Tryz.zeroValue67
  t146:=Tryz.underlying273
  a146:=Tryz.isAgg273
  z146:=Tryz.sizeOf273
  v146:=Tryz.zeroValue273
  g1:=by kernel_rfl }
open Go.RowKit Go.Lib in
theorem Tryz.strings_Count_one (s:ByteArray) (c:UInt8) (w:World) :
    Calls Tryz.prog 216 #[.string s,.string ⟨#[c]⟩] w fun e w'=>e=.returned (.int .i64 (Lib.countByte s.data.toList c))∧w'=w:=Any.strings_Count_one Tryz.lays138 s c w
def Tryz.lays100_ren:Go.Shelf.Ren:=⟨fun | 100=>200 | 207=>241 | n=>n,fun | 9=>9 | 4=>4 | 3=>3 | n=>n,fun | n=>n⟩
theorem Tryz.lays100:Go.Proofs.Lays.n100 Tryz.prog Tryz.lays100_ren:={
  mixed:=by kernel_rfl
  f100:=Tryz.func200.trans (congrArg some (by kernel_rfl))
  f207:=Tryz.func241.trans (congrArg some (by kernel_rfl))
  t3:=Tryz.underlying3
  a3:=Tryz.isAgg3
  z3:=Tryz.sizeOf3
  v3:=Tryz.zeroValue3
  t4:=Tryz.underlying4
  a4:=Tryz.isAgg4
  z4:=Tryz.sizeOf4
  v4:=Tryz.zeroValue4
  t9:=Tryz.underlying9
  a9:=Tryz.isAgg9
  z9:=Tryz.sizeOf9
  v9:=Tryz.zeroValue9 }
open Go.RowKit Go.Lib in
theorem Tryz.strings_HasSuffix (s p:ByteArray) (w:World) (hs:s.size≤9223372036854775807) :
    Calls Tryz.prog 200 #[.string s,.string p] w fun e w'=>e=.returned (.bool (Lib.hasSuffix s.data.toList p.data.toList))∧w'=w:=Any.strings_HasSuffix Tryz.lays100 s p w hs
def Tryz.lays102_ren:Go.Shelf.Ren:=⟨fun | 102=>225 | 209=>259 | 207=>241 | n=>n,fun | 9=>9 | 4=>4 | 3=>3 | n=>n,fun | n=>n⟩
theorem Tryz.lays102:Go.Proofs.Lays.n102 Tryz.prog Tryz.lays102_ren:={
  mixed:=by kernel_rfl
  f102:=Tryz.func225.trans (congrArg some (by kernel_rfl))
  f207:=Tryz.func241.trans (congrArg some (by kernel_rfl))
  f209:=Tryz.func259.trans (congrArg some (by kernel_rfl))
  t3:=Tryz.underlying3
  a3:=Tryz.isAgg3
  z3:=Tryz.sizeOf3
  v3:=Tryz.zeroValue3
  t4:=Tryz.underlying4
  a4:=Tryz.isAgg4
  z4:=Tryz.sizeOf4
  v4:=Tryz.zeroValue4
  t9:=Tryz.underlying9
  a9:=Tryz.isAgg9
  z9:=Tryz.sizeOf9
  v9:=Tryz.zeroValue9 }
open Go.RowKit Go.Lib in
theorem Tryz.strings_TrimSuffix (s p:ByteArray) (w:World) (hs:s.size≤9223372036854775807) :
    Calls Tryz.prog 225 #[.string s,.string p] w fun e w'=>e=.returned (.string ⟨(Lib.trimSuffix s.data.toList p.data.toList).toArray⟩)∧w'=w:=Any.strings_TrimSuffix Tryz.lays102 s p w hs
def Tryz.lays105_ren:Go.Shelf.Ren:=⟨fun | 105=>150 | 212=>206 | 99=>207 | 165=>187 | 166=>85 | 170=>208 | 169=>89 | 263=>243 | 264=>244 | 206=>245 | 240=>147 | 241=>231 | 276=>204 | 277=>260 | n=>n,fun | 9=>9 | 3=>3 | 4=>4 | 20=>20 | 0=>0 | 46=>70 | 109=>242 | 5=>5 | 72=>124 | 76=>127 | 51=>67 | 146=>273 | 53=>114 | 148=>275 | 70=>122 | 37=>115 | 75=>126 | 127=>196 | 164=>240 | 80=>132 | n=>n,fun | n=>n⟩
theorem Tryz.lays105:Go.Proofs.Lays.n105 Tryz.prog Tryz.lays105_ren:={
  mixed:=by kernel_rfl
  f99:=Tryz.func207.trans (congrArg some (by kernel_rfl))
  f105:=Tryz.func150.trans (congrArg some (by kernel_rfl))
  f165:=Tryz.func187.trans (congrArg some (by kernel_rfl))
  f166:=Tryz.func85.trans (congrArg some (by kernel_rfl))
  f169:=Tryz.func89.trans (congrArg some (by kernel_rfl))
  f170:=Tryz.func208.trans (congrArg some (by kernel_rfl))
  f206:=Tryz.func245.trans (congrArg some (by kernel_rfl))
  f212:=Tryz.func206.trans (congrArg some (by kernel_rfl))
  f240:=Tryz.func147.trans (congrArg some (by kernel_rfl))
  f241:=Tryz.func231.trans (congrArg some (by kernel_rfl))
  f263:=Tryz.func243.trans (congrArg some (by kernel_rfl))
  f264:=Tryz.func244.trans (congrArg some (by kernel_rfl))
  f276:=Tryz.func204.trans (congrArg some (by kernel_rfl))
  f277:=Tryz.func260.trans (congrArg some (by kernel_rfl))
  t0:=Tryz.underlying0
  a0:=Tryz.isAgg0
  z0:=Tryz.sizeOf0
  v0:=Tryz.zeroValue0
  t3:=Tryz.underlying3
  a3:=Tryz.isAgg3
  z3:=Tryz.sizeOf3
  v3:=Tryz.zeroValue3
  t4:=Tryz.underlying4
  a4:=Tryz.isAgg4
  z4:=Tryz.sizeOf4
  v4:=Tryz.zeroValue4
  t5:=Tryz.underlying5
  a5:=Tryz.isAgg5
  z5:=Tryz.sizeOf5
  v5:=Tryz.zeroValue5
  t9:=Tryz.underlying9
  a9:=Tryz.isAgg9
  z9:=Tryz.sizeOf9
  v9:=Tryz.zeroValue9
  t20:=Tryz.underlying20
  a20:=Tryz.isAgg20
  z20:=Tryz.sizeOf20
  v20:=Tryz.zeroValue20
  t37:=Tryz.underlying115
  a37:=Tryz.isAgg115
  z37:=Tryz.sizeOf115
  v37:=Tryz.zeroValue115
  t46:=Tryz.underlying70
  a46:=Tryz.isAgg70
  z46:=Tryz.sizeOf70
  v46:=Tryz.zeroValue70
  t51:=Tryz.underlying67
  a51:=Tryz.isAgg67
  z51:=Tryz.sizeOf67
  v51:=Tryz.zeroValue67
  t53:=Tryz.underlying114
  a53:=Tryz.isAgg114
  z53:=Tryz.sizeOf114
  v53:=Tryz.zeroValue114
  t70:=Tryz.underlying122
  a70:=Tryz.isAgg122
  z70:=Tryz.sizeOf122
  v70:=Tryz.zeroValue122
  t72:=Tryz.underlying124
  a72:=Tryz.isAgg124
  z72:=Tryz.sizeOf124
  v72:=Tryz.zeroValue124
  t75:=Tryz.underlying126
  a75:=Tryz.isAgg126
  z75:=Tryz.sizeOf126
  v75:=Tryz.zeroValue126
  t76:=Tryz.underlying127
  a76:=Tryz.isAgg127
  z76:=Tryz.sizeOf127
  v76:=Tryz.zeroValue127
  t109:=Tryz.underlying242
  a109:=Tryz.isAgg242
  z109:=Tryz.sizeOf242
  v109:=Tryz.zeroValue242
  t127:=Tryz.underlying196
  a127:=Tryz.isAgg196
  z127:=Tryz.sizeOf196
  v127:=Tryz.zeroValue196
  t146:=Tryz.underlying273
  a146:=Tryz.isAgg273
  z146:=Tryz.sizeOf273
  v146:=Tryz.zeroValue273
  t148:=Tryz.underlying275
  a148:=Tryz.isAgg275
  z148:=Tryz.sizeOf275
  v148:=Tryz.zeroValue275
  t164:=Tryz.underlying240
  a164:=Tryz.isAgg240
  z164:=Tryz.sizeOf240
  v164:=Tryz.zeroValue240 }
theorem Tryz.Builder_Extra_105:Builder.Extra Tryz.prog Tryz.lays105_ren:={
  sizeBuilder:=by kernel_rfl
  liesBuilder:=by kernel_rfl
  t5:=Tryz.underlying5
  a5:=Tryz.isAgg5
  z5:=Tryz.sizeOf5
  v5:=Tryz.zeroValue5
  infoByte:=by kernel_rfl
  cellsByte:=by kernel_rfl
  sizeByte:=by kernel_rfl
  neB5:=by decide }
open Go.RowKit Go.Lib in
theorem Tryz.strings_Repeat (s:ByteArray) (c:Nat) (w:World) (hc:c≤9223372036854775807) (hlen:s.size*c≤140737488355328) :
    Calls Tryz.prog 150 #[.string s,.int .i64 c] w fun e w'=>e=.returned (.string ⟨(Lib.repeatL s.data.toList c).toArray⟩)∧Below w.heap.size w w':=Any.strings_Repeat Tryz.lays105 Tryz.Builder_Extra_105 s c w hc hlen
end Go.Proofs
