/- Contracts of the library's functions at this seat, laid by the kit's tool, in plain words. -/
import Derived.Shelf.Strings.Builder1
import Derived.Shelf.Strings.Builder2
import Derived.Shelf.Strings.OnBuilder
import Derived.Shelf.Small.Strs
import Derived.Shelf.Strings.BuilderF
import Derived.Shelf.Strconv.Itoa0
import Derived.Shelf.Strconv.Itoa1
import Derived.Shelf.LaysM
import Derived.Shelf.Strconv.Itoa2
import Derived.Shelf.Strconv.Itoa3
import Derived.Shelf.Strings.Search1
import Derived.Shelf.Strings.Search2
import Derived.Shelf.Strings.Search3
import Derived.Shelf.Strings.Cut
import Derived.Shelf.Strings.Count
import Derived.Shelf.Strings.Shaped
import Derived.Shelf.Strings.Prefix
import Derived.Shelf.Bits.Mul64
import Derived.Shelf.Strings.Repeat
import Derived.Shelf.Unicode.DecodeSlow
import Derived.Shelf.Slices.Equal
import Derived.Test.YtgkjogphmmoakaaGreatDoorChecked
set_option linter.all false
namespace Go.Proofs
open Go.Shelf
def Tryz.lays169_ren:Go.Shelf.Ren:=⟨fun | 169=>39 | n=>n,fun | 70=>77 | 9=>9 | 0=>0 | 72=>80 | 37=>78 | 127=>179 | 3=>3 | 5=>5 | n=>n,fun | n=>n⟩
theorem Tryz.lays169:Go.Proofs.Lays.n169 Tryz.prog Tryz.lays169_ren:={
  mixed:=by kernel_rfl
  f169:=Tryz.func39.trans (congrArg some (by kernel_rfl))
  t0:=Tryz.underlying0
  a0:=Tryz.isAgg0
  z0:=Tryz.sizeOf0
  v0:=Tryz.zeroValue0
  t3:=Tryz.underlying3
  a3:=Tryz.isAgg3
  z3:=Tryz.sizeOf3
  v3:=Tryz.zeroValue3
  t9:=Tryz.underlying9
  a9:=Tryz.isAgg9
  z9:=Tryz.sizeOf9
  v9:=Tryz.zeroValue9
  t37:=Tryz.underlying78
  a37:=Tryz.isAgg78
  z37:=Tryz.sizeOf78
  v37:=Tryz.zeroValue78
  t70:=Tryz.underlying77
  a70:=Tryz.isAgg77
  z70:=Tryz.sizeOf77
  v70:=Tryz.zeroValue77
  t72:=Tryz.underlying80
  a72:=Tryz.isAgg80
  z72:=Tryz.sizeOf80
  v72:=Tryz.zeroValue80
  t127:=Tryz.underlying179
  a127:=Tryz.isAgg179
  z127:=Tryz.sizeOf179
  v127:=Tryz.zeroValue179 }
theorem Tryz.Builder_Extra_169:Builder.Extra Tryz.prog Tryz.lays169_ren:={
  sizeBuilder:=by kernel_rfl
  liesBuilder:=by kernel_rfl
  t5:=Tryz.underlying5
  a5:=Tryz.isAgg5
  z5:=Tryz.sizeOf5
  v5:=Tryz.zeroValue5
  infoByte:=by kernel_rfl
  cellsByte:=by kernel_rfl
  sizeByte:=by kernel_rfl
  neB5:=by decide }
open Go.RowKit in
theorem Tryz.Builder_String_any(B b:Nat)(l:List UInt8)(w:World)(h:Lib.IsBuilder 80 5 B b (Lib.byteCells l) w)(hBw:B<=w.heap.size) :
    Calls Tryz.prog 39 #[.pointer (some ⟨b,0,none⟩)] w fun e w'=>e=.returned (.string ⟨l.toArray⟩)/\Below B w w':=Any.Builder_String_any Tryz.lays169 Tryz.Builder_Extra_169 B b l w h hBw
def Tryz.laysM171_ren:Go.Shelf.Ren:=⟨fun | 171=>117 | 243=>188 | 246=>251 | 283=>293 | 284=>294 | 285=>295 | 286=>296 | 129=>321 | 317=>320 | 318=>322 | 319=>323 | 320=>324 | 337=>345 | 338=>346 | n=>n,fun | 3=>3 | 9=>9 | 2=>2 | 4=>4 | 171=>441 | 0=>0 | 53=>104 | 37=>78 | 5=>5 | 173=>444 | 212=>463 | 51=>87 | 20=>20 | 213=>464 | 46=>62 | 232=>489 | 233=>490 | n=>n,fun | 17=>1 | 18=>4 | 19=>5 | n=>n⟩
theorem Tryz.laysM171:Go.Proofs.LaysM.n171 Tryz.prog Tryz.laysM171_ren:={
  mixed:=by kernel_rfl
  f129:=Tryz.func321.trans (congrArg some (by kernel_rfl))
  f171:=Tryz.func117.trans (congrArg some (by kernel_rfl))
  f243:=Tryz.func188.trans (congrArg some (by kernel_rfl))
  f246:=Tryz.func251.trans (congrArg some (by kernel_rfl))
  f283:=Tryz.func293.trans (congrArg some (by kernel_rfl))
  f284:=Tryz.func294.trans (congrArg some (by kernel_rfl))
  f285:=Tryz.func295.trans (congrArg some (by kernel_rfl))
  f286:=Tryz.func296.trans (congrArg some (by kernel_rfl))
  f317:=Tryz.func320.trans (congrArg some (by kernel_rfl))
  f318:=Tryz.func322.trans (congrArg some (by kernel_rfl))
  f319:=Tryz.func323.trans (congrArg some (by kernel_rfl))
  f320:=Tryz.func324.trans (congrArg some (by kernel_rfl))
  f337:=Tryz.func345.trans (congrArg some (by kernel_rfl))
  f338:=Tryz.func346.trans (congrArg some (by kernel_rfl))
  t0:=Tryz.underlying0
  a0:=Tryz.isAgg0
  z0:=Tryz.sizeOf0
  v0:=Tryz.zeroValue0
  t2:=Tryz.underlying2
  a2:=Tryz.isAgg2
  z2:=Tryz.sizeOf2
  v2:=Tryz.zeroValue2
  t3:=Tryz.underlying3
  a3:=Tryz.isAgg3
  z3:=Tryz.sizeOf3
  v3:=Tryz.zeroValue3
  t4:=Tryz.underlying4
  a4:=Tryz.isAgg4
  z4:=Tryz.sizeOf4
  v4:=Tryz.zeroValue4
  t5:=Tryz.underlying5
  a5:=Tryz.isAgg5
  z5:=Tryz.sizeOf5
  v5:=Tryz.zeroValue5
  t9:=Tryz.underlying9
  a9:=Tryz.isAgg9
  z9:=Tryz.sizeOf9
  v9:=Tryz.zeroValue9
  t20:=Tryz.underlying20
  a20:=Tryz.isAgg20
  z20:=Tryz.sizeOf20
  v20:=Tryz.zeroValue20
  t37:=Tryz.underlying78
  a37:=Tryz.isAgg78
  z37:=Tryz.sizeOf78
  v37:=Tryz.zeroValue78
  t46:=Tryz.underlying62
  a46:=Tryz.isAgg62
  z46:=Tryz.sizeOf62
  v46:=Tryz.zeroValue62
  t51:=Tryz.underlying87
  a51:=Tryz.isAgg87
  z51:=Tryz.sizeOf87
  v51:=Tryz.zeroValue87
  t53:=Tryz.underlying104
  a53:=Tryz.isAgg104
  z53:=Tryz.sizeOf104
  v53:=Tryz.zeroValue104
  t171:=Tryz.underlying441
  a171:=Tryz.isAgg441
  z171:=Tryz.sizeOf441
  v171:=Tryz.zeroValue441
  t173:=Tryz.underlying444
  a173:=Tryz.isAgg444
  z173:=Tryz.sizeOf444
  v173:=Tryz.zeroValue444
  t212:=Tryz.underlying463
  a212:=Tryz.isAgg463
  z212:=Tryz.sizeOf463
  v212:=Tryz.zeroValue463
  t213:=Tryz.underlying464
  a213:=Tryz.isAgg464
  z213:=Tryz.sizeOf464
  t232:=Tryz.underlying489
  a232:=Tryz.isAgg489
  z232:=Tryz.sizeOf489
  v232:=Tryz.zeroValue489
  t233:=Tryz.underlying490
  a233:=Tryz.isAgg490
  z233:=Tryz.sizeOf490
  v233:=Tryz.zeroValue490
  g17:=by kernel_rfl
  g18:=by kernel_rfl
  g19:=by kernel_rfl
  i0:=by kernel_rfl
  i2:=by kernel_rfl
  i3:=by kernel_rfl
  i4:=by kernel_rfl
  i5:=by kernel_rfl
  i9:=by kernel_rfl
  i20:=by kernel_rfl
  i37:=by kernel_rfl
  i46:=by kernel_rfl
  i51:=by kernel_rfl
  i53:=by kernel_rfl
  i171:=by kernel_rfl
  i173:=by kernel_rfl
  i212:=by kernel_rfl
  i232:=by kernel_rfl
  i233:=by kernel_rfl
  m17:=by kernel_rfl
  m18:=by kernel_rfl
  m19:=by kernel_rfl }
open Go.RowKit Go.Sort Go.Lib in
theorem Tryz.strconv_Itoa(n:Int)(h0:-9223372036854775808<=n)(h1:n<=9223372036854775807)(w:World)(htab:Lib.TabIs Tryz.prog w "internal/strconv.uint64pow10" .u64 Lib.pow10Tab) :
    Calls Tryz.prog 117 #[.int .i64 n] w fun e w'=>e=.returned (.string ⟨(Lib.itoa n).toArray⟩)/\∃k os,w'=grow (w.drewN k) os:=Any.strconv_Itoa Tryz.laysM171 n h0 h1 w htab
def Tryz.lays143_ren:Go.Shelf.Ren:=⟨fun | 143=>233 | 219=>287 | 217=>177 | 225=>316 | 224=>317 | 267=>318 | 266=>247 | 314=>343 | n=>n,fun | 9=>9 | 3=>3 | 4=>4 | 5=>5 | 46=>62 | 146=>380 | 51=>87 | n=>n,fun | 1=>0 | n=>n⟩
theorem Tryz.lays143:Go.Proofs.Lays.n143 Tryz.prog Tryz.lays143_ren:={
  mixed:=by kernel_rfl
  f143:=Tryz.func233.trans (congrArg some (by kernel_rfl))
  f217:=Tryz.func177.trans (congrArg some (by kernel_rfl))
  f219:=Tryz.func287.trans (congrArg some (by kernel_rfl))
  f224:=Tryz.func317.trans (congrArg some (by kernel_rfl))
  f225:=Tryz.func316.trans (congrArg some (by kernel_rfl))
  f266:=Tryz.func247.trans (congrArg some (by kernel_rfl))
  f267:=Tryz.func318.trans (congrArg some (by kernel_rfl))
  f314:=Tryz.func343.trans (congrArg some (by kernel_rfl))
  t3:=Tryz.underlying3
  a3:=Tryz.isAgg3
  z3:=Tryz.sizeOf3
  v3:=Tryz.zeroValue3
  t4:=Tryz.underlying4
  a4:=Tryz.isAgg4
  z4:=Tryz.sizeOf4
  v4:=Tryz.zeroValue4
  t5:=Tryz.underlying5
  a5:=Tryz.isAgg5
  z5:=Tryz.sizeOf5
  v5:=Tryz.zeroValue5
  t9:=Tryz.underlying9
  a9:=Tryz.isAgg9
  z9:=Tryz.sizeOf9
  v9:=Tryz.zeroValue9
  t46:=Tryz.underlying62
  a46:=Tryz.isAgg62
  z46:=Tryz.sizeOf62
  v46:=Tryz.zeroValue62
  t51:=Tryz.underlying87
  a51:=Tryz.isAgg87
  z51:=Tryz.sizeOf87
  v51:=Tryz.zeroValue87
  t146:=Tryz.underlying380
  a146:=Tryz.isAgg380
  z146:=Tryz.sizeOf380
  v146:=Tryz.zeroValue380
  g1:=by kernel_rfl }
open Go.RowKit Go.Lib in
theorem Tryz.strings_Index_one(s:ByteArray)(c:UInt8)(w:World) :
    Calls Tryz.prog 233 #[.string s,.string ⟨#[c]⟩] w fun e w'=>e=.returned (.int .i64 (Lib.indexByte s.data.toList c))/\w'=w:=Any.strings_Index_one Tryz.lays143 s c w
def Tryz.lays144_ren:Go.Shelf.Ren:=⟨fun | 144=>183 | 143=>233 | 219=>287 | 217=>177 | 225=>316 | 224=>317 | 267=>318 | 266=>247 | 314=>343 | n=>n,fun | 9=>9 | 4=>4 | 3=>3 | 5=>5 | 46=>62 | 146=>380 | 51=>87 | n=>n,fun | 1=>0 | n=>n⟩
theorem Tryz.lays144:Go.Proofs.Lays.n144 Tryz.prog Tryz.lays144_ren:={
  mixed:=by kernel_rfl
  f143:=Tryz.func233.trans (congrArg some (by kernel_rfl))
  f144:=Tryz.func183.trans (congrArg some (by kernel_rfl))
  f217:=Tryz.func177.trans (congrArg some (by kernel_rfl))
  f219:=Tryz.func287.trans (congrArg some (by kernel_rfl))
  f224:=Tryz.func317.trans (congrArg some (by kernel_rfl))
  f225:=Tryz.func316.trans (congrArg some (by kernel_rfl))
  f266:=Tryz.func247.trans (congrArg some (by kernel_rfl))
  f267:=Tryz.func318.trans (congrArg some (by kernel_rfl))
  f314:=Tryz.func343.trans (congrArg some (by kernel_rfl))
  t3:=Tryz.underlying3
  a3:=Tryz.isAgg3
  z3:=Tryz.sizeOf3
  v3:=Tryz.zeroValue3
  t4:=Tryz.underlying4
  a4:=Tryz.isAgg4
  z4:=Tryz.sizeOf4
  v4:=Tryz.zeroValue4
  t5:=Tryz.underlying5
  a5:=Tryz.isAgg5
  z5:=Tryz.sizeOf5
  v5:=Tryz.zeroValue5
  t9:=Tryz.underlying9
  a9:=Tryz.isAgg9
  z9:=Tryz.sizeOf9
  v9:=Tryz.zeroValue9
  t46:=Tryz.underlying62
  a46:=Tryz.isAgg62
  z46:=Tryz.sizeOf62
  v46:=Tryz.zeroValue62
  t51:=Tryz.underlying87
  a51:=Tryz.isAgg87
  z51:=Tryz.sizeOf87
  v51:=Tryz.zeroValue87
  t146:=Tryz.underlying380
  a146:=Tryz.isAgg380
  z146:=Tryz.sizeOf380
  v146:=Tryz.zeroValue380
  g1:=by kernel_rfl }
open Go.RowKit Go.Lib in
theorem Tryz.strings_Contains_one(s:ByteArray)(c:UInt8)(w:World) :
    Calls Tryz.prog 183 #[.string s,.string ⟨#[c]⟩] w fun e w'=>e=.returned (.bool (decide (0<=Lib.indexByte s.data.toList c)))/\w'=w:=Any.strings_Contains_one Tryz.lays144 s c w
def Tryz.lays138_ren:Go.Shelf.Ren:=⟨fun | 138=>187 | 195=>249 | 218=>250 | 143=>233 | 219=>287 | 217=>177 | 225=>316 | 224=>317 | 267=>318 | 266=>247 | 314=>343 | n=>n,fun | 9=>9 | 3=>3 | 4=>4 | 5=>5 | 0=>0 | 46=>62 | 146=>380 | 51=>87 | n=>n,fun | 1=>0 | n=>n⟩
theorem Tryz.lays138:Go.Proofs.Lays.n138 Tryz.prog Tryz.lays138_ren:={
  mixed:=by kernel_rfl
  f138:=Tryz.func187.trans (congrArg some (by kernel_rfl))
  f143:=Tryz.func233.trans (congrArg some (by kernel_rfl))
  f195:=Tryz.func249.trans (congrArg some (by kernel_rfl))
  f217:=Tryz.func177.trans (congrArg some (by kernel_rfl))
  f218:=Tryz.func250.trans (congrArg some (by kernel_rfl))
  f219:=Tryz.func287.trans (congrArg some (by kernel_rfl))
  f224:=Tryz.func317.trans (congrArg some (by kernel_rfl))
  f225:=Tryz.func316.trans (congrArg some (by kernel_rfl))
  f266:=Tryz.func247.trans (congrArg some (by kernel_rfl))
  f267:=Tryz.func318.trans (congrArg some (by kernel_rfl))
  f314:=Tryz.func343.trans (congrArg some (by kernel_rfl))
  t0:=Tryz.underlying0
  a0:=Tryz.isAgg0
  z0:=Tryz.sizeOf0
  v0:=Tryz.zeroValue0
  t3:=Tryz.underlying3
  a3:=Tryz.isAgg3
  z3:=Tryz.sizeOf3
  v3:=Tryz.zeroValue3
  t4:=Tryz.underlying4
  a4:=Tryz.isAgg4
  z4:=Tryz.sizeOf4
  v4:=Tryz.zeroValue4
  t5:=Tryz.underlying5
  a5:=Tryz.isAgg5
  z5:=Tryz.sizeOf5
  v5:=Tryz.zeroValue5
  t9:=Tryz.underlying9
  a9:=Tryz.isAgg9
  z9:=Tryz.sizeOf9
  v9:=Tryz.zeroValue9
  t46:=Tryz.underlying62
  a46:=Tryz.isAgg62
  z46:=Tryz.sizeOf62
  v46:=Tryz.zeroValue62
  t51:=Tryz.underlying87
  a51:=Tryz.isAgg87
  z51:=Tryz.sizeOf87
  v51:=Tryz.zeroValue87
  t146:=Tryz.underlying380
  a146:=Tryz.isAgg380
  z146:=Tryz.sizeOf380
  v146:=Tryz.zeroValue380
  g1:=by kernel_rfl }
open Go.RowKit Go.Lib in
theorem Tryz.strings_Count_one(s:ByteArray)(c:UInt8)(w:World) :
    Calls Tryz.prog 187 #[.string s,.string ⟨#[c]⟩] w fun e w'=>e=.returned (.int .i64 (Lib.countByte s.data.toList c))/\w'=w:=Any.strings_Count_one Tryz.lays138 s c w
def Tryz.lays100_ren:Go.Shelf.Ren:=⟨fun | 100=>170 | 207=>231 | n=>n,fun | 9=>9 | 4=>4 | 3=>3 | n=>n,fun | n=>n⟩
theorem Tryz.lays100:Go.Proofs.Lays.n100 Tryz.prog Tryz.lays100_ren:={
  mixed:=by kernel_rfl
  f100:=Tryz.func170.trans (congrArg some (by kernel_rfl))
  f207:=Tryz.func231.trans (congrArg some (by kernel_rfl))
  t3:=Tryz.underlying3
  a3:=Tryz.isAgg3
  z3:=Tryz.sizeOf3
  v3:=Tryz.zeroValue3
  t4:=Tryz.underlying4
  a4:=Tryz.isAgg4
  z4:=Tryz.sizeOf4
  v4:=Tryz.zeroValue4
  t9:=Tryz.underlying9
  a9:=Tryz.isAgg9
  z9:=Tryz.sizeOf9
  v9:=Tryz.zeroValue9 }
open Go.RowKit Go.Lib in
theorem Tryz.strings_HasSuffix(s p:ByteArray)(w:World)(hs:s.size<=9223372036854775807) :
    Calls Tryz.prog 170 #[.string s,.string p] w fun e w'=>e=.returned (.bool (Lib.hasSuffix s.data.toList p.data.toList))/\w'=w:=Any.strings_HasSuffix Tryz.lays100 s p w hs
def Tryz.lays102_ren:Go.Shelf.Ren:=⟨fun | 102=>106 | 209=>178 | 207=>231 | n=>n,fun | 9=>9 | 4=>4 | 3=>3 | n=>n,fun | n=>n⟩
theorem Tryz.lays102:Go.Proofs.Lays.n102 Tryz.prog Tryz.lays102_ren:={
  mixed:=by kernel_rfl
  f102:=Tryz.func106.trans (congrArg some (by kernel_rfl))
  f207:=Tryz.func231.trans (congrArg some (by kernel_rfl))
  f209:=Tryz.func178.trans (congrArg some (by kernel_rfl))
  t3:=Tryz.underlying3
  a3:=Tryz.isAgg3
  z3:=Tryz.sizeOf3
  v3:=Tryz.zeroValue3
  t4:=Tryz.underlying4
  a4:=Tryz.isAgg4
  z4:=Tryz.sizeOf4
  v4:=Tryz.zeroValue4
  t9:=Tryz.underlying9
  a9:=Tryz.isAgg9
  z9:=Tryz.sizeOf9
  v9:=Tryz.zeroValue9 }
open Go.RowKit Go.Lib in
theorem Tryz.strings_TrimSuffix(s p:ByteArray)(w:World)(hs:s.size<=9223372036854775807) :
    Calls Tryz.prog 106 #[.string s,.string p] w fun e w'=>e=.returned (.string ⟨(Lib.trimSuffix s.data.toList p.data.toList).toArray⟩)/\w'=w:=Any.strings_TrimSuffix Tryz.lays102 s p w hs
def Tryz.lays105_ren:Go.Shelf.Ren:=⟨fun | 105=>93 | 212=>168 | 99=>158 | 165=>169 | 166=>35 | 170=>50 | 169=>39 | 263=>239 | 264=>240 | 206=>237 | 240=>91 | 241=>241 | 276=>166 | 277=>289 | n=>n,fun | 9=>9 | 3=>3 | 4=>4 | 20=>20 | 0=>0 | 46=>62 | 109=>289 | 5=>5 | 72=>80 | 76=>83 | 51=>87 | 146=>380 | 53=>104 | 148=>382 | 70=>77 | 37=>78 | 75=>82 | 127=>179 | 164=>287 | 80=>91 | n=>n,fun | n=>n⟩
theorem Tryz.lays105:Go.Proofs.Lays.n105 Tryz.prog Tryz.lays105_ren:={
  mixed:=by kernel_rfl
  f99:=Tryz.func158.trans (congrArg some (by kernel_rfl))
  f105:=Tryz.func93.trans (congrArg some (by kernel_rfl))
  f165:=Tryz.func169.trans (congrArg some (by kernel_rfl))
  f166:=Tryz.func35.trans (congrArg some (by kernel_rfl))
  f169:=Tryz.func39.trans (congrArg some (by kernel_rfl))
  f170:=Tryz.func50.trans (congrArg some (by kernel_rfl))
  f206:=Tryz.func237.trans (congrArg some (by kernel_rfl))
  f212:=Tryz.func168.trans (congrArg some (by kernel_rfl))
  f240:=Tryz.func91.trans (congrArg some (by kernel_rfl))
  f241:=Tryz.func241.trans (congrArg some (by kernel_rfl))
  f263:=Tryz.func239.trans (congrArg some (by kernel_rfl))
  f264:=Tryz.func240.trans (congrArg some (by kernel_rfl))
  f276:=Tryz.func166.trans (congrArg some (by kernel_rfl))
  f277:=Tryz.func289.trans (congrArg some (by kernel_rfl))
  t0:=Tryz.underlying0
  a0:=Tryz.isAgg0
  z0:=Tryz.sizeOf0
  v0:=Tryz.zeroValue0
  t3:=Tryz.underlying3
  a3:=Tryz.isAgg3
  z3:=Tryz.sizeOf3
  v3:=Tryz.zeroValue3
  t4:=Tryz.underlying4
  a4:=Tryz.isAgg4
  z4:=Tryz.sizeOf4
  v4:=Tryz.zeroValue4
  t5:=Tryz.underlying5
  a5:=Tryz.isAgg5
  z5:=Tryz.sizeOf5
  v5:=Tryz.zeroValue5
  t9:=Tryz.underlying9
  a9:=Tryz.isAgg9
  z9:=Tryz.sizeOf9
  v9:=Tryz.zeroValue9
  t20:=Tryz.underlying20
  a20:=Tryz.isAgg20
  z20:=Tryz.sizeOf20
  v20:=Tryz.zeroValue20
  t37:=Tryz.underlying78
  a37:=Tryz.isAgg78
  z37:=Tryz.sizeOf78
  v37:=Tryz.zeroValue78
  t46:=Tryz.underlying62
  a46:=Tryz.isAgg62
  z46:=Tryz.sizeOf62
  v46:=Tryz.zeroValue62
  t51:=Tryz.underlying87
  a51:=Tryz.isAgg87
  z51:=Tryz.sizeOf87
  v51:=Tryz.zeroValue87
  t53:=Tryz.underlying104
  a53:=Tryz.isAgg104
  z53:=Tryz.sizeOf104
  v53:=Tryz.zeroValue104
  t70:=Tryz.underlying77
  a70:=Tryz.isAgg77
  z70:=Tryz.sizeOf77
  v70:=Tryz.zeroValue77
  t72:=Tryz.underlying80
  a72:=Tryz.isAgg80
  z72:=Tryz.sizeOf80
  v72:=Tryz.zeroValue80
  t75:=Tryz.underlying82
  a75:=Tryz.isAgg82
  z75:=Tryz.sizeOf82
  v75:=Tryz.zeroValue82
  t76:=Tryz.underlying83
  a76:=Tryz.isAgg83
  z76:=Tryz.sizeOf83
  v76:=Tryz.zeroValue83
  t109:=Tryz.underlying289
  a109:=Tryz.isAgg289
  z109:=Tryz.sizeOf289
  v109:=Tryz.zeroValue289
  t127:=Tryz.underlying179
  a127:=Tryz.isAgg179
  z127:=Tryz.sizeOf179
  v127:=Tryz.zeroValue179
  t146:=Tryz.underlying380
  a146:=Tryz.isAgg380
  z146:=Tryz.sizeOf380
  v146:=Tryz.zeroValue380
  t148:=Tryz.underlying382
  a148:=Tryz.isAgg382
  z148:=Tryz.sizeOf382
  v148:=Tryz.zeroValue382
  t164:=Tryz.underlying287
  a164:=Tryz.isAgg287
  z164:=Tryz.sizeOf287
  v164:=Tryz.zeroValue287 }
theorem Tryz.Builder_Extra_105:Builder.Extra Tryz.prog Tryz.lays105_ren:={
  sizeBuilder:=by kernel_rfl
  liesBuilder:=by kernel_rfl
  t5:=Tryz.underlying5
  a5:=Tryz.isAgg5
  z5:=Tryz.sizeOf5
  v5:=Tryz.zeroValue5
  infoByte:=by kernel_rfl
  cellsByte:=by kernel_rfl
  sizeByte:=by kernel_rfl
  neB5:=by decide }
open Go.RowKit Go.Lib in
theorem Tryz.strings_Repeat(s:ByteArray)(c:Nat)(w:World)(hc:c<=9223372036854775807)(hlen:s.size*c<=140737488355328) :
    Calls Tryz.prog 93 #[.string s,.int .i64 c] w fun e w'=>e=.returned (.string ⟨(Lib.repeatL s.data.toList c).toArray⟩)/\Below w.heap.size w w':=Any.strings_Repeat Tryz.lays105 Tryz.Builder_Extra_105 s c w hc hlen
end Go.Proofs
