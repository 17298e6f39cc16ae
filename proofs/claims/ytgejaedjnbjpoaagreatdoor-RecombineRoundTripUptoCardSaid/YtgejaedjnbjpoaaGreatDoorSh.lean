/- Contracts of the library's functions at this seat, laid by the kit's tool, in plain words. -/
import Derived.Shelf.Strings.Builder1
import Derived.Shelf.Strings.Builder2
import Derived.Shelf.Strings.OnBuilder
import Derived.Shelf.Small.Strs
import Derived.Shelf.Strings.BuilderF
import Derived.Shelf.Strconv.Itoa0
import Derived.Shelf.Strconv.Itoa1
import Derived.Shelf.LaysM
import Derived.Shelf.Strconv.Itoa2
import Derived.Shelf.Strconv.Itoa3
import Derived.Shelf.Strings.Search1
import Derived.Shelf.Strings.Search2
import Derived.Shelf.Strings.Search3
import Derived.Shelf.Strings.Count
import Derived.Shelf.Strings.Shaped
import Derived.Shelf.Strings.Prefix
import Derived.Shelf.Bits.Mul64
import Derived.Shelf.Strings.Repeat
import Derived.Shelf.Unicode.DecodeSlow
import Derived.Shelf.Slices.Equal
import Derived.Test.YtgejaedjnbjpoaaGreatDoorChecked
namespace Go.Proofs
open Go.Shelf
def Tryz.lays169_ren:Go.Shelf.Ren:=⟨fun | 169=>92 | n=>n,fun | 70=>142 | 9=>9 | 0=>0 | 72=>144 | 37=>133 | 127=>226 | 3=>3 | 5=>5 | n=>n,fun | n=>n⟩
theorem Tryz.lays169:Go.Proofs.Lays.n169 Tryz.prog Tryz.lays169_ren:={
  mixed:=by kernel_rfl
  f169:=Tryz.func92.trans (congrArg some (by kernel_rfl))
  t0:=Tryz.underlying0
  a0:=Tryz.isAgg0
  z0:=Tryz.sizeOf0
  v0:=Tryz.zeroValue0
  t3:=Tryz.underlying3
  a3:=Tryz.isAgg3
  z3:=Tryz.sizeOf3
  v3:=Tryz.zeroValue3
  t9:=Tryz.underlying9
  a9:=Tryz.isAgg9
  z9:=Tryz.sizeOf9
  v9:=Tryz.zeroValue9
  t37:=Tryz.underlying133
  a37:=Tryz.isAgg133
  z37:=Tryz.sizeOf133
  v37:=Tryz.zeroValue133
  t70:=Tryz.underlying142
  a70:=Tryz.isAgg142
  z70:=Tryz.sizeOf142
  v70:=Tryz.zeroValue142
  t72:=Tryz.underlying144
  a72:=Tryz.isAgg144
  z72:=Tryz.sizeOf144
  v72:=Tryz.zeroValue144
  t127:=Tryz.underlying226
  a127:=Tryz.isAgg226
  z127:=Tryz.sizeOf226
  v127:=Tryz.zeroValue226 }
theorem Tryz.Builder_Extra_169:Builder.Extra Tryz.prog Tryz.lays169_ren:={
  sizeBuilder:=by kernel_rfl
  liesBuilder:=by kernel_rfl
  t5:=Tryz.underlying5
  a5:=Tryz.isAgg5
  z5:=Tryz.sizeOf5
  v5:=Tryz.zeroValue5
  infoByte:=by kernel_rfl
  cellsByte:=by kernel_rfl
  sizeByte:=by kernel_rfl
  neB5:=by decide }
open Go.RowKit in
theorem Tryz.Builder_String_any (B b:Nat) (l:List UInt8) (w:World) (h:Lib.IsBuilder 144 5 B b (Lib.byteCells l) w) (hBw:B≤w.heap.size) :
    Calls Tryz.prog 92 #[.pointer (some ⟨b,0,none⟩)] w fun e w'=>e=.returned (.string ⟨l.toArray⟩)∧Below B w w':=Any.Builder_String_any Tryz.lays169 Tryz.Builder_Extra_169 B b l w h hBw
def Tryz.laysM171_ren:Go.Shelf.Ren:=⟨fun | 171=>228 | 243=>260 | 246=>273 | 283=>281 | 284=>282 | 285=>283 | 286=>284 | 129=>288 | 317=>287 | 318=>289 | 319=>290 | 320=>291 | 337=>292 | 338=>293 | n=>n,fun | 3=>3 | 9=>9 | 2=>2 | 4=>4 | 171=>309 | 0=>0 | 53=>111 | 37=>133 | 5=>5 | 173=>312 | 212=>320 | 51=>67 | 20=>20 | 213=>321 | 46=>87 | 232=>324 | 233=>325 | n=>n,fun | 17=>3 | 18=>4 | 19=>5 | n=>n⟩
theorem Tryz.laysM171:Go.Proofs.LaysM.n171 Tryz.prog Tryz.laysM171_ren:={
  mixed:=by kernel_rfl
  f129:=Tryz.func288.trans (congrArg some (by kernel_rfl))
  f171:=Tryz.func228.trans (congrArg some (by kernel_rfl))
  f243:=Tryz.func260.trans (congrArg some (by kernel_rfl))
  f246:=Tryz.func273.trans (congrArg some (by kernel_rfl))
  f283:=Tryz.func281.trans (congrArg some (by kernel_rfl))
  f284:=Tryz.func282.trans (congrArg some (by kernel_rfl))
  f285:=Tryz.func283.trans (congrArg some (by kernel_rfl))
  f286:=Tryz.func284.trans (congrArg some (by kernel_rfl))
  f317:=Tryz.func287.trans (congrArg some (by kernel_rfl))
  f318:=Tryz.func289.trans (congrArg some (by kernel_rfl))
  f319:=Tryz.func290.trans (congrArg some (by kernel_rfl))
  f320:=Tryz.func291.trans (congrArg some (by kernel_rfl))
  f337:=Tryz.func292.trans (congrArg some (by kernel_rfl))
  f338:=Tryz.func293.trans (congrArg some (by kernel_rfl))
  t0:=Tryz.underlying0
  a0:=Tryz.isAgg0
  z0:=Tryz.sizeOf0
  v0:=Tryz.zeroValue0
  t2:=Tryz.underlying2
  a2:=Tryz.isAgg2
  z2:=Tryz.sizeOf2
  v2:=Tryz.zeroValue2
  t3:=Tryz.underlying3
  a3:=Tryz.isAgg3
  z3:=Tryz.sizeOf3
  v3:=Tryz.zeroValue3
  t4:=Tryz.underlying4
  a4:=Tryz.isAgg4
  z4:=Tryz.sizeOf4
  v4:=Tryz.zeroValue4
  t5:=Tryz.underlying5
  a5:=Tryz.isAgg5
  z5:=Tryz.sizeOf5
  v5:=Tryz.zeroValue5
  t9:=Tryz.underlying9
  a9:=Tryz.isAgg9
  z9:=Tryz.sizeOf9
  v9:=Tryz.zeroValue9
  t20:=Tryz.underlying20
  a20:=Tryz.isAgg20
  z20:=Tryz.sizeOf20
  v20:=Tryz.zeroValue20
  t37:=Tryz.underlying133
  a37:=Tryz.isAgg133
  z37:=Tryz.sizeOf133
  v37:=Tryz.zeroValue133
  t46:=Tryz.underlying87
  a46:=Tryz.isAgg87
  z46:=Tryz.sizeOf87
  v46:=Tryz.zeroValue87
  t51:=Tryz.underlying67
  a51:=Tryz.isAgg67
  z51:=Tryz.sizeOf67
  v51:=Tryz.zeroValue67
  t53:=Tryz.underlying111
  a53:=Tryz.isAgg111
  z53:=Tryz.sizeOf111
  v53:=Tryz.zeroValue111
  t171:=Tryz.underlying309
  a171:=Tryz.isAgg309
  z171:=Tryz.sizeOf309
  v171:=Tryz.zeroValue309
  t173:=Tryz.underlying312
  a173:=Tryz.isAgg312
  z173:=Tryz.sizeOf312
  v173:=Tryz.zeroValue312
  t212:=Tryz.underlying320
  a212:=Tryz.isAgg320
  z212:=Tryz.sizeOf320
  v212:=Tryz.zeroValue320
  t213:=Tryz.underlying321
  a213:=Tryz.isAgg321
  z213:=Tryz.sizeOf321
  t232:=Tryz.underlying324
  a232:=Tryz.isAgg324
  z232:=Tryz.sizeOf324
  v232:=Tryz.zeroValue324
  t233:=Tryz.underlying325
  a233:=Tryz.isAgg325
  z233:=Tryz.sizeOf325
  v233:=Tryz.zeroValue325
  g17:=by kernel_rfl
  g18:=by kernel_rfl
  g19:=by kernel_rfl
  i0:=by kernel_rfl
  i2:=by kernel_rfl
  i3:=by kernel_rfl
  i4:=by kernel_rfl
  i5:=by kernel_rfl
  i9:=by kernel_rfl
  i20:=by kernel_rfl
  i37:=by kernel_rfl
  i46:=by kernel_rfl
  i51:=by kernel_rfl
  i53:=by kernel_rfl
  i171:=by kernel_rfl
  i173:=by kernel_rfl
  i212:=by kernel_rfl
  i232:=by kernel_rfl
  i233:=by kernel_rfl
  m17:=by kernel_rfl
  m18:=by kernel_rfl
  m19:=by kernel_rfl }
open Go.RowKit Go.Sort Go.Lib in
theorem Tryz.strconv_Itoa (n:Int) (h0:-9223372036854775808≤n) (h1:n≤9223372036854775807) (w:World) (htab:Lib.TabIs Tryz.prog w "internal/strconv.uint64pow10" .u64 Lib.pow10Tab) :
    Calls Tryz.prog 228 #[.int .i64 n] w fun e w'=>e=.returned (.string ⟨(Lib.itoa n).toArray⟩)∧∃k os,w'=grow (w.drewN k) os:=Any.strconv_Itoa Tryz.laysM171 n h0 h1 w htab
def Tryz.lays143_ren:Go.Shelf.Ren:=⟨fun | 143=>247 | 219=>269 | 217=>194 | 225=>276 | 224=>277 | 267=>278 | 266=>243 | 314=>285 | n=>n,fun | 9=>9 | 3=>3 | 4=>4 | 5=>5 | 46=>87 | 146=>299 | 51=>67 | n=>n,fun | 1=>0 | n=>n⟩
theorem Tryz.lays143:Go.Proofs.Lays.n143 Tryz.prog Tryz.lays143_ren:={
  mixed:=by kernel_rfl
  f143:=Tryz.func247.trans (congrArg some (by kernel_rfl))
  f217:=Tryz.func194.trans (congrArg some (by kernel_rfl))
  f219:=Tryz.func269.trans (congrArg some (by kernel_rfl))
  f224:=Tryz.func277.trans (congrArg some (by kernel_rfl))
  f225:=Tryz.func276.trans (congrArg some (by kernel_rfl))
  f266:=Tryz.func243.trans (congrArg some (by kernel_rfl))
  f267:=Tryz.func278.trans (congrArg some (by kernel_rfl))
  f314:=Tryz.func285.trans (congrArg some (by kernel_rfl))
  t3:=Tryz.underlying3
  a3:=Tryz.isAgg3
  z3:=Tryz.sizeOf3
  v3:=Tryz.zeroValue3
  t4:=Tryz.underlying4
  a4:=Tryz.isAgg4
  z4:=Tryz.sizeOf4
  v4:=Tryz.zeroValue4
  t5:=Tryz.underlying5
  a5:=Tryz.isAgg5
  z5:=Tryz.sizeOf5
  v5:=Tryz.zeroValue5
  t9:=Tryz.underlying9
  a9:=Tryz.isAgg9
  z9:=Tryz.sizeOf9
  v9:=Tryz.zeroValue9
  t46:=Tryz.underlying87
  a46:=Tryz.isAgg87
  z46:=Tryz.sizeOf87
  v46:=Tryz.zeroValue87
  t51:=Tryz.underlying67
  a51:=Tryz.isAgg67
  z51:=Tryz.sizeOf67
  v51:=Tryz.zeroValue67
  t146:=Tryz.underlying299
  a146:=Tryz.isAgg299
  z146:=Tryz.sizeOf299
  v146:=Tryz.zeroValue299
  g1:=by kernel_rfl }
open Go.RowKit Go.Lib in
theorem Tryz.strings_Index_one (s:ByteArray) (c:UInt8) (w:World) :
    Calls Tryz.prog 247 #[.string s,.string ⟨#[c]⟩] w fun e w'=>e=.returned (.int .i64 (Lib.indexByte s.data.toList c))∧w'=w:=Any.strings_Index_one Tryz.lays143 s c w
def Tryz.lays144_ren:Go.Shelf.Ren:=⟨fun | 144=>231 | 143=>247 | 219=>269 | 217=>194 | 225=>276 | 224=>277 | 267=>278 | 266=>243 | 314=>285 | n=>n,fun | 9=>9 | 4=>4 | 3=>3 | 5=>5 | 46=>87 | 146=>299 | 51=>67 | n=>n,fun | 1=>0 | n=>n⟩
theorem Tryz.lays144:Go.Proofs.Lays.n144 Tryz.prog Tryz.lays144_ren:={
  mixed:=by kernel_rfl
  f143:=Tryz.func247.trans (congrArg some (by kernel_rfl))
  f144:=Tryz.func231.trans (congrArg some (by kernel_rfl))
  f217:=Tryz.func194.trans (congrArg some (by kernel_rfl))
  f219:=Tryz.func269.trans (congrArg some (by kernel_rfl))
  f224:=Tryz.func277.trans (congrArg some (by kernel_rfl))
  f225:=Tryz.func276.trans (congrArg some (by kernel_rfl))
  f266:=Tryz.func243.trans (congrArg some (by kernel_rfl))
  f267:=Tryz.func278.trans (congrArg some (by kernel_rfl))
  f314:=Tryz.func285.trans (congrArg some (by kernel_rfl))
  t3:=Tryz.underlying3
  a3:=Tryz.isAgg3
  z3:=Tryz.sizeOf3
  v3:=Tryz.zeroValue3
  t4:=Tryz.underlying4
  a4:=Tryz.isAgg4
  z4:=Tryz.sizeOf4
  v4:=Tryz.zeroValue4
  t5:=Tryz.underlying5
  a5:=Tryz.isAgg5
  z5:=Tryz.sizeOf5
  v5:=Tryz.zeroValue5
  t9:=Tryz.underlying9
  a9:=Tryz.isAgg9
  z9:=Tryz.sizeOf9
  v9:=Tryz.zeroValue9
  t46:=Tryz.underlying87
  a46:=Tryz.isAgg87
  z46:=Tryz.sizeOf87
  v46:=Tryz.zeroValue87
  t51:=Tryz.underlying67
  a51:=Tryz.isAgg67
  z51:=Tryz.sizeOf67
  v51:=Tryz.zeroValue67
  t146:=Tryz.underlying299
  a146:=Tryz.isAgg299
  z146:=Tryz.sizeOf299
  v146:=Tryz.zeroValue299
  g1:=by kernel_rfl }
open Go.RowKit Go.Lib in
theorem Tryz.strings_Contains_one (s:ByteArray) (c:UInt8) (w:World) :
    Calls Tryz.prog 231 #[.string s,.string ⟨#[c]⟩] w fun e w'=>e=.returned (.bool (decide (0≤Lib.indexByte s.data.toList c)))∧w'=w:=Any.strings_Contains_one Tryz.lays144 s c w
def Tryz.lays138_ren:Go.Shelf.Ren:=⟨fun | 138=>196 | 195=>245 | 218=>246 | 143=>247 | 219=>269 | 217=>194 | 225=>276 | 224=>277 | 267=>278 | 266=>243 | 314=>285 | n=>n,fun | 9=>9 | 3=>3 | 4=>4 | 5=>5 | 0=>0 | 46=>87 | 146=>299 | 51=>67 | n=>n,fun | 1=>0 | n=>n⟩
theorem Tryz.lays138:Go.Proofs.Lays.n138 Tryz.prog Tryz.lays138_ren:={
  mixed:=by kernel_rfl
  f138:=Tryz.func196.trans (congrArg some (by kernel_rfl))
  f143:=Tryz.func247.trans (congrArg some (by kernel_rfl))
  f195:=Tryz.func245.trans (congrArg some (by kernel_rfl))
  f217:=Tryz.func194.trans (congrArg some (by kernel_rfl))
  f218:=Tryz.func246.trans (congrArg some (by kernel_rfl))
  f219:=Tryz.func269.trans (congrArg some (by kernel_rfl))
  f224:=Tryz.func277.trans (congrArg some (by kernel_rfl))
  f225:=Tryz.func276.trans (congrArg some (by kernel_rfl))
  f266:=Tryz.func243.trans (congrArg some (by kernel_rfl))
  f267:=Tryz.func278.trans (congrArg some (by kernel_rfl))
  f314:=Tryz.func285.trans (congrArg some (by kernel_rfl))
  t0:=Tryz.underlying0
  a0:=Tryz.isAgg0
  z0:=Tryz.sizeOf0
  v0:=Tryz.zeroValue0
  t3:=Tryz.underlying3
  a3:=Tryz.isAgg3
  z3:=Tryz.sizeOf3
  v3:=Tryz.zeroValue3
  t4:=Tryz.underlying4
  a4:=Tryz.isAgg4
  z4:=Tryz.sizeOf4
  v4:=Tryz.zeroValue4
  t5:=Tryz.underlying5
  a5:=Tryz.isAgg5
  z5:=Tryz.sizeOf5
  v5:=Tryz.zeroValue5
  t9:=Tryz.underlying9
  a9:=Tryz.isAgg9
  z9:=Tryz.sizeOf9
  v9:=Tryz.zeroValue9
  t46:=Tryz.underlying87
  a46:=Tryz.isAgg87
  z46:=Tryz.sizeOf87
  v46:=Tryz.zeroValue87
  t51:=Tryz.underlying67
  a51:=Tryz.isAgg67
  z51:=Tryz.sizeOf67
  v51:=Tryz.zeroValue67
  t146:=Tryz.underlying299
  a146:=Tryz.isAgg299
  z146:=Tryz.sizeOf299
  v146:=Tryz.zeroValue299
  g1:=by kernel_rfl }
open Go.RowKit Go.Lib in
theorem Tryz.strings_Count_one (s:ByteArray) (c:UInt8) (w:World) :
    Calls Tryz.prog 196 #[.string s,.string ⟨#[c]⟩] w fun e w'=>e=.returned (.int .i64 (Lib.countByte s.data.toList c))∧w'=w:=Any.strings_Count_one Tryz.lays138 s c w
def Tryz.lays100_ren:Go.Shelf.Ren:=⟨fun | 100=>209 | 207=>251 | n=>n,fun | 9=>9 | 4=>4 | 3=>3 | n=>n,fun | n=>n⟩
theorem Tryz.lays100:Go.Proofs.Lays.n100 Tryz.prog Tryz.lays100_ren:={
  mixed:=by kernel_rfl
  f100:=Tryz.func209.trans (congrArg some (by kernel_rfl))
  f207:=Tryz.func251.trans (congrArg some (by kernel_rfl))
  t3:=Tryz.underlying3
  a3:=Tryz.isAgg3
  z3:=Tryz.sizeOf3
  v3:=Tryz.zeroValue3
  t4:=Tryz.underlying4
  a4:=Tryz.isAgg4
  z4:=Tryz.sizeOf4
  v4:=Tryz.zeroValue4
  t9:=Tryz.underlying9
  a9:=Tryz.isAgg9
  z9:=Tryz.sizeOf9
  v9:=Tryz.zeroValue9 }
open Go.RowKit Go.Lib in
theorem Tryz.strings_HasSuffix (s p:ByteArray) (w:World) (hs:s.size≤9223372036854775807) :
    Calls Tryz.prog 209 #[.string s,.string p] w fun e w'=>e=.returned (.bool (Lib.hasSuffix s.data.toList p.data.toList))∧w'=w:=Any.strings_HasSuffix Tryz.lays100 s p w hs
def Tryz.lays102_ren:Go.Shelf.Ren:=⟨fun | 102=>224 | 209=>259 | 207=>251 | n=>n,fun | 9=>9 | 4=>4 | 3=>3 | n=>n,fun | n=>n⟩
theorem Tryz.lays102:Go.Proofs.Lays.n102 Tryz.prog Tryz.lays102_ren:={
  mixed:=by kernel_rfl
  f102:=Tryz.func224.trans (congrArg some (by kernel_rfl))
  f207:=Tryz.func251.trans (congrArg some (by kernel_rfl))
  f209:=Tryz.func259.trans (congrArg some (by kernel_rfl))
  t3:=Tryz.underlying3
  a3:=Tryz.isAgg3
  z3:=Tryz.sizeOf3
  v3:=Tryz.zeroValue3
  t4:=Tryz.underlying4
  a4:=Tryz.isAgg4
  z4:=Tryz.sizeOf4
  v4:=Tryz.zeroValue4
  t9:=Tryz.underlying9
  a9:=Tryz.isAgg9
  z9:=Tryz.sizeOf9
  v9:=Tryz.zeroValue9 }
open Go.RowKit Go.Lib in
theorem Tryz.strings_TrimSuffix (s p:ByteArray) (w:World) (hs:s.size≤9223372036854775807) :
    Calls Tryz.prog 224 #[.string s,.string p] w fun e w'=>e=.returned (.string ⟨(Lib.trimSuffix s.data.toList p.data.toList).toArray⟩)∧w'=w:=Any.strings_TrimSuffix Tryz.lays102 s p w hs
def Tryz.lays105_ren:Go.Shelf.Ren:=⟨fun | 105=>167 | 212=>229 | 99=>222 | 165=>195 | 166=>88 | 170=>230 | 169=>92 | 263=>261 | 264=>262 | 206=>257 | 240=>165 | 241=>244 | 276=>227 | 277=>268 | n=>n,fun | 9=>9 | 3=>3 | 4=>4 | 20=>20 | 0=>0 | 46=>87 | 109=>280 | 5=>5 | 72=>144 | 76=>147 | 51=>67 | 146=>299 | 53=>111 | 148=>301 | 70=>142 | 37=>133 | 75=>146 | 127=>226 | 164=>278 | 80=>151 | n=>n,fun | n=>n⟩
theorem Tryz.lays105:Go.Proofs.Lays.n105 Tryz.prog Tryz.lays105_ren:={
  mixed:=by kernel_rfl
  f99:=Tryz.func222.trans (congrArg some (by kernel_rfl))
  f105:=Tryz.func167.trans (congrArg some (by kernel_rfl))
  f165:=Tryz.func195.trans (congrArg some (by kernel_rfl))
  f166:=Tryz.func88.trans (congrArg some (by kernel_rfl))
  f169:=Tryz.func92.trans (congrArg some (by kernel_rfl))
  f170:=Tryz.func230.trans (congrArg some (by kernel_rfl))
  f206:=Tryz.func257.trans (congrArg some (by kernel_rfl))
  f212:=Tryz.func229.trans (congrArg some (by kernel_rfl))
  f240:=Tryz.func165.trans (congrArg some (by kernel_rfl))
  f241:=Tryz.func244.trans (congrArg some (by kernel_rfl))
  f263:=Tryz.func261.trans (congrArg some (by kernel_rfl))
  f264:=Tryz.func262.trans (congrArg some (by kernel_rfl))
  f276:=Tryz.func227.trans (congrArg some (by kernel_rfl))
  f277:=Tryz.func268.trans (congrArg some (by kernel_rfl))
  t0:=Tryz.underlying0
  a0:=Tryz.isAgg0
  z0:=Tryz.sizeOf0
  v0:=Tryz.zeroValue0
  t3:=Tryz.underlying3
  a3:=Tryz.isAgg3
  z3:=Tryz.sizeOf3
  v3:=Tryz.zeroValue3
  t4:=Tryz.underlying4
  a4:=Tryz.isAgg4
  z4:=Tryz.sizeOf4
  v4:=Tryz.zeroValue4
  t5:=Tryz.underlying5
  a5:=Tryz.isAgg5
  z5:=Tryz.sizeOf5
  v5:=Tryz.zeroValue5
  t9:=Tryz.underlying9
  a9:=Tryz.isAgg9
  z9:=Tryz.sizeOf9
  v9:=Tryz.zeroValue9
  t20:=Tryz.underlying20
  a20:=Tryz.isAgg20
  z20:=Tryz.sizeOf20
  v20:=Tryz.zeroValue20
  t37:=Tryz.underlying133
  a37:=Tryz.isAgg133
  z37:=Tryz.sizeOf133
  v37:=Tryz.zeroValue133
  t46:=Tryz.underlying87
  a46:=Tryz.isAgg87
  z46:=Tryz.sizeOf87
  v46:=Tryz.zeroValue87
  t51:=Tryz.underlying67
  a51:=Tryz.isAgg67
  z51:=Tryz.sizeOf67
  v51:=Tryz.zeroValue67
  t53:=Tryz.underlying111
  a53:=Tryz.isAgg111
  z53:=Tryz.sizeOf111
  v53:=Tryz.zeroValue111
  t70:=Tryz.underlying142
  a70:=Tryz.isAgg142
  z70:=Tryz.sizeOf142
  v70:=Tryz.zeroValue142
  t72:=Tryz.underlying144
  a72:=Tryz.isAgg144
  z72:=Tryz.sizeOf144
  v72:=Tryz.zeroValue144
  t75:=Tryz.underlying146
  a75:=Tryz.isAgg146
  z75:=Tryz.sizeOf146
  v75:=Tryz.zeroValue146
  t76:=Tryz.underlying147
  a76:=Tryz.isAgg147
  z76:=Tryz.sizeOf147
  v76:=Tryz.zeroValue147
  t109:=Tryz.underlying280
  a109:=Tryz.isAgg280
  z109:=Tryz.sizeOf280
  v109:=Tryz.zeroValue280
  t127:=Tryz.underlying226
  a127:=Tryz.isAgg226
  z127:=Tryz.sizeOf226
  v127:=Tryz.zeroValue226
  t146:=Tryz.underlying299
  a146:=Tryz.isAgg299
  z146:=Tryz.sizeOf299
  v146:=Tryz.zeroValue299
  t148:=Tryz.underlying301
  a148:=Tryz.isAgg301
  z148:=Tryz.sizeOf301
  v148:=Tryz.zeroValue301
  t164:=Tryz.underlying278
  a164:=Tryz.isAgg278
  z164:=Tryz.sizeOf278
  v164:=Tryz.zeroValue278 }
theorem Tryz.Builder_Extra_105:Builder.Extra Tryz.prog Tryz.lays105_ren:={
  sizeBuilder:=by kernel_rfl
  liesBuilder:=by kernel_rfl
  t5:=Tryz.underlying5
  a5:=Tryz.isAgg5
  z5:=Tryz.sizeOf5
  v5:=Tryz.zeroValue5
  infoByte:=by kernel_rfl
  cellsByte:=by kernel_rfl
  sizeByte:=by kernel_rfl
  neB5:=by decide }
open Go.RowKit Go.Lib in
theorem Tryz.strings_Repeat (s:ByteArray) (c:Nat) (w:World) (hc:c≤9223372036854775807) (hlen:s.size*c≤140737488355328) :
    Calls Tryz.prog 167 #[.string s,.int .i64 c] w fun e w'=>e=.returned (.string ⟨(Lib.repeatL s.data.toList c).toArray⟩)∧Below w.heap.size w w':=Any.strings_Repeat Tryz.lays105 Tryz.Builder_Extra_105 s c w hc hlen
end Go.Proofs
