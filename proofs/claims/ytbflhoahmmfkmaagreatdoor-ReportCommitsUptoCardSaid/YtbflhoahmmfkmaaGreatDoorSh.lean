/- Contracts of the library's functions at this seat, laid by the kit's tool, in plain words. -/
import Derived.Shelf.Strings.Builder1
import Derived.Shelf.Strings.Builder2
import Derived.Shelf.Small.Strs
import Derived.Shelf.Strings.BuilderF
import Derived.Shelf.Strconv.Itoa0
import Derived.Shelf.Strconv.Itoa1
import Derived.Shelf.LaysM
import Derived.Shelf.Strconv.Itoa2
import Derived.Shelf.Strconv.Itoa3
import Derived.Shelf.Strings.Search1
import Derived.Shelf.Strings.Search2
import Derived.Shelf.Strings.Search3
import Derived.Shelf.Strings.Cut
import Derived.Shelf.Strings.Count
import Derived.Shelf.Strings.Shaped
import Derived.Shelf.Strings.Prefix
import Derived.Shelf.Bits.Mul64
import Derived.Shelf.Strings.Repeat
import Derived.Shelf.Unicode.DecodeSlow
import Derived.Test.YtbflhoahmmfkmaaGreatDoorChecked
set_option linter.all false
namespace Go.Proofs
open Go.Shelf
def Tryz.lays169_ren:Go.Shelf.Ren:=⟨fun | 169=>56 | n=>n,fun | 70=>106 | 9=>9 | 0=>0 | 72=>109 | 37=>107 | 127=>185 | 3=>3 | 5=>5 | n=>n,fun | n=>n⟩
theorem Tryz.lays169:Go.Proofs.Lays.n169 Tryz.prog Tryz.lays169_ren:={
  mixed:=by kernel_rfl
  f169:=Tryz.func56.trans (congrArg some (by kernel_rfl))
  t0:=Tryz.underlying0
  a0:=Tryz.isAgg0
  z0:=Tryz.sizeOf0
  v0:=Tryz.zeroValue0
  t3:=Tryz.underlying3
  a3:=Tryz.isAgg3
  z3:=Tryz.sizeOf3
  v3:=Tryz.zeroValue3
  t9:=Tryz.underlying9
  a9:=Tryz.isAgg9
  z9:=Tryz.sizeOf9
  v9:=Tryz.zeroValue9
  t37:=Tryz.underlying107
  a37:=Tryz.isAgg107
  z37:=Tryz.sizeOf107
  v37:=Tryz.zeroValue107
  t70:=Tryz.underlying106
  a70:=Tryz.isAgg106
  z70:=Tryz.sizeOf106
  v70:=Tryz.zeroValue106
  t72:=Tryz.underlying109
  a72:=Tryz.isAgg109
  z72:=Tryz.sizeOf109
  v72:=Tryz.zeroValue109
  t127:=Tryz.underlying185
  a127:=Tryz.isAgg185
  z127:=Tryz.sizeOf185
  v127:=Tryz.zeroValue185 }
theorem Tryz.Builder_Extra_169:Builder.Extra Tryz.prog Tryz.lays169_ren:={
  sizeBuilder:=by kernel_rfl
  liesBuilder:=by kernel_rfl
  t5:=Tryz.underlying5
  a5:=Tryz.isAgg5
  z5:=Tryz.sizeOf5
  v5:=Tryz.zeroValue5
  infoByte:=by kernel_rfl
  cellsByte:=by kernel_rfl
  sizeByte:=by kernel_rfl
  neB5:=by decide }
open Go.RowKit in
theorem Tryz.Builder_String_any(B b:Nat)(l:List UInt8)(w:World)(h:Lib.IsBuilder 109 5 B b (Lib.byteCells l) w)(hBw:B<=w.heap.size) :
    Calls Tryz.prog 56 #[.pointer (some ⟨b,0,none⟩)] w fun e w'=>e=.returned (.string ⟨l.toArray⟩)/\Below B w w':=Any.Builder_String_any Tryz.lays169 Tryz.Builder_Extra_169 B b l w h hBw
def Tryz.lays106_ren:Go.Shelf.Ren:=⟨fun | 106=>234 | 213=>289 | 265=>320 | n=>n,fun | 9=>9 | 3=>3 | n=>n,fun | n=>n⟩
theorem Tryz.lays106:Go.Proofs.Lays.n106 Tryz.prog Tryz.lays106_ren:={
  mixed:=by kernel_rfl
  f106:=Tryz.func234.trans (congrArg some (by kernel_rfl))
  f213:=Tryz.func289.trans (congrArg some (by kernel_rfl))
  f265:=Tryz.func320.trans (congrArg some (by kernel_rfl))
  t3:=Tryz.underlying3
  a3:=Tryz.isAgg3
  z3:=Tryz.sizeOf3
  v3:=Tryz.zeroValue3
  t9:=Tryz.underlying9
  a9:=Tryz.isAgg9
  z9:=Tryz.sizeOf9
  v9:=Tryz.zeroValue9 }
open Go.RowKit in
theorem Tryz.strings_Compare(a b:ByteArray)(w:World) :
    Calls Tryz.prog 234 #[.string a,.string b] w fun e w'=>e=.returned (.int .i64 (Lib.compareBytes a.data.toList b.data.toList))/\w'=w:=Any.strings_Compare Tryz.lays106 a b w
def Tryz.lays129_ren:Go.Shelf.Ren:=⟨fun | 129=>280 | n=>n,fun | 53=>127 | 3=>3 | 4=>4 | 46=>73 | 5=>5 | 9=>9 | n=>n,fun | n=>n⟩
theorem Tryz.lays129:Go.Proofs.Lays.n129 Tryz.prog Tryz.lays129_ren:={
  mixed:=by kernel_rfl
  f129:=Tryz.func280.trans (congrArg some (by kernel_rfl))
  t3:=Tryz.underlying3
  a3:=Tryz.isAgg3
  z3:=Tryz.sizeOf3
  v3:=Tryz.zeroValue3
  t4:=Tryz.underlying4
  a4:=Tryz.isAgg4
  z4:=Tryz.sizeOf4
  v4:=Tryz.zeroValue4
  t5:=Tryz.underlying5
  a5:=Tryz.isAgg5
  z5:=Tryz.sizeOf5
  v5:=Tryz.zeroValue5
  t9:=Tryz.underlying9
  a9:=Tryz.isAgg9
  z9:=Tryz.sizeOf9
  v9:=Tryz.zeroValue9
  t46:=Tryz.underlying73
  a46:=Tryz.isAgg73
  z46:=Tryz.sizeOf73
  v46:=Tryz.zeroValue73
  t53:=Tryz.underlying127
  a53:=Tryz.isAgg127
  z53:=Tryz.sizeOf127
  v53:=Tryz.zeroValue127 }
theorem Tryz.bits_Len64(x:Int)(w:World)(h0:0<=x)(h1:x<=18446744073709551615) :
    Calls Tryz.prog 280 #[.int .u64 x] w fun e w'=>e=.returned (.int .i64 (Lib.bitLen x.toNat))/\w'=w:=Any.bits_Len64 Tryz.lays129 x w h0 h1
def Tryz.laysM171_ren:Go.Shelf.Ren:=⟨fun | 171=>51 | 243=>98 | 246=>154 | 283=>221 | 284=>222 | 285=>223 | 286=>224 | 129=>280 | 317=>279 | 318=>281 | 319=>282 | 320=>283 | 337=>304 | 338=>305 | n=>n,fun | 3=>3 | 9=>9 | 2=>2 | 4=>4 | 171=>350 | 0=>0 | 53=>127 | 37=>107 | 5=>5 | 173=>353 | 212=>418 | 51=>244 | 20=>20 | 213=>419 | 46=>73 | 232=>444 | 233=>445 | n=>n,fun | 17=>0 | 18=>2 | 19=>3 | n=>n⟩
theorem Tryz.laysM171:Go.Proofs.LaysM.n171 Tryz.prog Tryz.laysM171_ren:={
  mixed:=by kernel_rfl
  f129:=Tryz.func280.trans (congrArg some (by kernel_rfl))
  f171:=Tryz.func51.trans (congrArg some (by kernel_rfl))
  f243:=Tryz.func98.trans (congrArg some (by kernel_rfl))
  f246:=Tryz.func154.trans (congrArg some (by kernel_rfl))
  f283:=Tryz.func221.trans (congrArg some (by kernel_rfl))
  f284:=Tryz.func222.trans (congrArg some (by kernel_rfl))
  f285:=Tryz.func223.trans (congrArg some (by kernel_rfl))
  f286:=Tryz.func224.trans (congrArg some (by kernel_rfl))
  f317:=Tryz.func279.trans (congrArg some (by kernel_rfl))
  f318:=Tryz.func281.trans (congrArg some (by kernel_rfl))
  f319:=Tryz.func282.trans (congrArg some (by kernel_rfl))
  f320:=Tryz.func283.trans (congrArg some (by kernel_rfl))
  f337:=Tryz.func304.trans (congrArg some (by kernel_rfl))
  f338:=Tryz.func305.trans (congrArg some (by kernel_rfl))
  t0:=Tryz.underlying0
  a0:=Tryz.isAgg0
  z0:=Tryz.sizeOf0
  v0:=Tryz.zeroValue0
  t2:=Tryz.underlying2
  a2:=Tryz.isAgg2
  z2:=Tryz.sizeOf2
  v2:=Tryz.zeroValue2
  t3:=Tryz.underlying3
  a3:=Tryz.isAgg3
  z3:=Tryz.sizeOf3
  v3:=Tryz.zeroValue3
  t4:=Tryz.underlying4
  a4:=Tryz.isAgg4
  z4:=Tryz.sizeOf4
  v4:=Tryz.zeroValue4
  t5:=Tryz.underlying5
  a5:=Tryz.isAgg5
  z5:=Tryz.sizeOf5
  v5:=Tryz.zeroValue5
  t9:=Tryz.underlying9
  a9:=Tryz.isAgg9
  z9:=Tryz.sizeOf9
  v9:=Tryz.zeroValue9
  t20:=Tryz.underlying20
  a20:=Tryz.isAgg20
  z20:=Tryz.sizeOf20
  v20:=Tryz.zeroValue20
  t37:=Tryz.underlying107
  a37:=Tryz.isAgg107
  z37:=Tryz.sizeOf107
  v37:=Tryz.zeroValue107
  t46:=Tryz.underlying73
  a46:=Tryz.isAgg73
  z46:=Tryz.sizeOf73
  v46:=Tryz.zeroValue73
  t51:=Tryz.underlying244
  a51:=Tryz.isAgg244
  z51:=Tryz.sizeOf244
  v51:=Tryz.zeroValue244
  t53:=Tryz.underlying127
  a53:=Tryz.isAgg127
  z53:=Tryz.sizeOf127
  v53:=Tryz.zeroValue127
  t171:=Tryz.underlying350
  a171:=Tryz.isAgg350
  z171:=Tryz.sizeOf350
  v171:=Tryz.zeroValue350
  t173:=Tryz.underlying353
  a173:=Tryz.isAgg353
  z173:=Tryz.sizeOf353
  v173:=Tryz.zeroValue353
  t212:=Tryz.underlying418
  a212:=Tryz.isAgg418
  z212:=Tryz.sizeOf418
  v212:=Tryz.zeroValue418
  t213:=Tryz.underlying419
  a213:=Tryz.isAgg419
  z213:=Tryz.sizeOf419
  t232:=Tryz.underlying444
  a232:=Tryz.isAgg444
  z232:=Tryz.sizeOf444
  v232:=Tryz.zeroValue444
  t233:=Tryz.underlying445
  a233:=Tryz.isAgg445
  z233:=Tryz.sizeOf445
  v233:=Tryz.zeroValue445
  g17:=by kernel_rfl
  g18:=by kernel_rfl
  g19:=by kernel_rfl
  i0:=by kernel_rfl
  i2:=by kernel_rfl
  i3:=by kernel_rfl
  i4:=by kernel_rfl
  i5:=by kernel_rfl
  i9:=by kernel_rfl
  i20:=by kernel_rfl
  i37:=by kernel_rfl
  i46:=by kernel_rfl
  i51:=by kernel_rfl
  i53:=by kernel_rfl
  i171:=by kernel_rfl
  i173:=by kernel_rfl
  i212:=by kernel_rfl
  i232:=by kernel_rfl
  i233:=by kernel_rfl
  m17:=by kernel_rfl
  m18:=by kernel_rfl
  m19:=by kernel_rfl }
open Go.RowKit Go.Sort Go.Lib in
theorem Tryz.strconv_Itoa(n:Int)(h0:-9223372036854775808<=n)(h1:n<=9223372036854775807)(w:World)(htab:Lib.TabIs Tryz.prog w "internal/strconv.uint64pow10" .u64 Lib.pow10Tab) :
    Calls Tryz.prog 51 #[.int .i64 n] w fun e w'=>e=.returned (.string ⟨(Lib.itoa n).toArray⟩)/\∃k os,w'=grow (w.drewN k) os:=Any.strconv_Itoa Tryz.laysM171 n h0 h1 w htab
def Tryz.lays143_ren:Go.Shelf.Ren:=⟨fun | 143=>226 | 219=>284 | 217=>306 | 225=>307 | 224=>308 | 267=>309 | 266=>327 | 314=>328 | n=>n,fun | 9=>9 | 3=>3 | 4=>4 | 5=>5 | 46=>73 | 146=>363 | 51=>244 | n=>n,fun | 1=>1 | n=>n⟩
theorem Tryz.lays143:Go.Proofs.Lays.n143 Tryz.prog Tryz.lays143_ren:={
  mixed:=by kernel_rfl
  f143:=Tryz.func226.trans (congrArg some (by kernel_rfl))
  f217:=Tryz.func306.trans (congrArg some (by kernel_rfl))
  f219:=Tryz.func284.trans (congrArg some (by kernel_rfl))
  f224:=Tryz.func308.trans (congrArg some (by kernel_rfl))
  f225:=Tryz.func307.trans (congrArg some (by kernel_rfl))
  f266:=Tryz.func327.trans (congrArg some (by kernel_rfl))
  f267:=Tryz.func309.trans (congrArg some (by kernel_rfl))
  f314:=Tryz.func328.trans (congrArg some (by kernel_rfl))
  t3:=Tryz.underlying3
  a3:=Tryz.isAgg3
  z3:=Tryz.sizeOf3
  v3:=Tryz.zeroValue3
  t4:=Tryz.underlying4
  a4:=Tryz.isAgg4
  z4:=Tryz.sizeOf4
  v4:=Tryz.zeroValue4
  t5:=Tryz.underlying5
  a5:=Tryz.isAgg5
  z5:=Tryz.sizeOf5
  v5:=Tryz.zeroValue5
  t9:=Tryz.underlying9
  a9:=Tryz.isAgg9
  z9:=Tryz.sizeOf9
  v9:=Tryz.zeroValue9
  t46:=Tryz.underlying73
  a46:=Tryz.isAgg73
  z46:=Tryz.sizeOf73
  v46:=Tryz.zeroValue73
  t51:=Tryz.underlying244
  a51:=Tryz.isAgg244
  z51:=Tryz.sizeOf244
  v51:=Tryz.zeroValue244
  t146:=Tryz.underlying363
  a146:=Tryz.isAgg363
  z146:=Tryz.sizeOf363
  v146:=Tryz.zeroValue363
  g1:=by kernel_rfl }
open Go.RowKit Go.Lib in
theorem Tryz.strings_Index_one(s:ByteArray)(c:UInt8)(w:World) :
    Calls Tryz.prog 226 #[.string s,.string ⟨#[c]⟩] w fun e w'=>e=.returned (.int .i64 (Lib.indexByte s.data.toList c))/\w'=w:=Any.strings_Index_one Tryz.lays143 s c w
open Go.RowKit Go.Lib in
theorem Tryz.strings_Index(s sub:ByteArray)(m:Int)(w:World)(hs:s.size<4294967281)(hm:w.cell? ⟨1,0,none⟩=some (.int .i64 m)) :
    Calls Tryz.prog 226 #[.string s,.string sub] w fun e w'=>e=.returned (.int .i64 (Lib.index s.data.toList sub.data.toList))/\w'=w:=Any.strings_Index Tryz.lays143 s sub m w hs hm
def Tryz.lays144_ren:Go.Shelf.Ren:=⟨fun | 144=>165 | 143=>226 | 219=>284 | 217=>306 | 225=>307 | 224=>308 | 267=>309 | 266=>327 | 314=>328 | n=>n,fun | 9=>9 | 4=>4 | 3=>3 | 5=>5 | 46=>73 | 146=>363 | 51=>244 | n=>n,fun | 1=>1 | n=>n⟩
theorem Tryz.lays144:Go.Proofs.Lays.n144 Tryz.prog Tryz.lays144_ren:={
  mixed:=by kernel_rfl
  f143:=Tryz.func226.trans (congrArg some (by kernel_rfl))
  f144:=Tryz.func165.trans (congrArg some (by kernel_rfl))
  f217:=Tryz.func306.trans (congrArg some (by kernel_rfl))
  f219:=Tryz.func284.trans (congrArg some (by kernel_rfl))
  f224:=Tryz.func308.trans (congrArg some (by kernel_rfl))
  f225:=Tryz.func307.trans (congrArg some (by kernel_rfl))
  f266:=Tryz.func327.trans (congrArg some (by kernel_rfl))
  f267:=Tryz.func309.trans (congrArg some (by kernel_rfl))
  f314:=Tryz.func328.trans (congrArg some (by kernel_rfl))
  t3:=Tryz.underlying3
  a3:=Tryz.isAgg3
  z3:=Tryz.sizeOf3
  v3:=Tryz.zeroValue3
  t4:=Tryz.underlying4
  a4:=Tryz.isAgg4
  z4:=Tryz.sizeOf4
  v4:=Tryz.zeroValue4
  t5:=Tryz.underlying5
  a5:=Tryz.isAgg5
  z5:=Tryz.sizeOf5
  v5:=Tryz.zeroValue5
  t9:=Tryz.underlying9
  a9:=Tryz.isAgg9
  z9:=Tryz.sizeOf9
  v9:=Tryz.zeroValue9
  t46:=Tryz.underlying73
  a46:=Tryz.isAgg73
  z46:=Tryz.sizeOf73
  v46:=Tryz.zeroValue73
  t51:=Tryz.underlying244
  a51:=Tryz.isAgg244
  z51:=Tryz.sizeOf244
  v51:=Tryz.zeroValue244
  t146:=Tryz.underlying363
  a146:=Tryz.isAgg363
  z146:=Tryz.sizeOf363
  v146:=Tryz.zeroValue363
  g1:=by kernel_rfl }
open Go.RowKit Go.Lib in
theorem Tryz.strings_Contains_one(s:ByteArray)(c:UInt8)(w:World) :
    Calls Tryz.prog 165 #[.string s,.string ⟨#[c]⟩] w fun e w'=>e=.returned (.bool (decide (0<=Lib.indexByte s.data.toList c)))/\w'=w:=Any.strings_Contains_one Tryz.lays144 s c w
def Tryz.lays138_ren:Go.Shelf.Ren:=⟨fun | 138=>169 | 195=>228 | 218=>229 | 143=>226 | 219=>284 | 217=>306 | 225=>307 | 224=>308 | 267=>309 | 266=>327 | 314=>328 | n=>n,fun | 9=>9 | 3=>3 | 4=>4 | 5=>5 | 0=>0 | 46=>73 | 146=>363 | 51=>244 | n=>n,fun | 1=>1 | n=>n⟩
theorem Tryz.lays138:Go.Proofs.Lays.n138 Tryz.prog Tryz.lays138_ren:={
  mixed:=by kernel_rfl
  f138:=Tryz.func169.trans (congrArg some (by kernel_rfl))
  f143:=Tryz.func226.trans (congrArg some (by kernel_rfl))
  f195:=Tryz.func228.trans (congrArg some (by kernel_rfl))
  f217:=Tryz.func306.trans (congrArg some (by kernel_rfl))
  f218:=Tryz.func229.trans (congrArg some (by kernel_rfl))
  f219:=Tryz.func284.trans (congrArg some (by kernel_rfl))
  f224:=Tryz.func308.trans (congrArg some (by kernel_rfl))
  f225:=Tryz.func307.trans (congrArg some (by kernel_rfl))
  f266:=Tryz.func327.trans (congrArg some (by kernel_rfl))
  f267:=Tryz.func309.trans (congrArg some (by kernel_rfl))
  f314:=Tryz.func328.trans (congrArg some (by kernel_rfl))
  t0:=Tryz.underlying0
  a0:=Tryz.isAgg0
  z0:=Tryz.sizeOf0
  v0:=Tryz.zeroValue0
  t3:=Tryz.underlying3
  a3:=Tryz.isAgg3
  z3:=Tryz.sizeOf3
  v3:=Tryz.zeroValue3
  t4:=Tryz.underlying4
  a4:=Tryz.isAgg4
  z4:=Tryz.sizeOf4
  v4:=Tryz.zeroValue4
  t5:=Tryz.underlying5
  a5:=Tryz.isAgg5
  z5:=Tryz.sizeOf5
  v5:=Tryz.zeroValue5
  t9:=Tryz.underlying9
  a9:=Tryz.isAgg9
  z9:=Tryz.sizeOf9
  v9:=Tryz.zeroValue9
  t46:=Tryz.underlying73
  a46:=Tryz.isAgg73
  z46:=Tryz.sizeOf73
  v46:=Tryz.zeroValue73
  t51:=Tryz.underlying244
  a51:=Tryz.isAgg244
  z51:=Tryz.sizeOf244
  v51:=Tryz.zeroValue244
  t146:=Tryz.underlying363
  a146:=Tryz.isAgg363
  z146:=Tryz.sizeOf363
  v146:=Tryz.zeroValue363
  g1:=by kernel_rfl }
open Go.RowKit Go.Lib in
theorem Tryz.strings_Count_one(s:ByteArray)(c:UInt8)(w:World) :
    Calls Tryz.prog 169 #[.string s,.string ⟨#[c]⟩] w fun e w'=>e=.returned (.int .i64 (Lib.countByte s.data.toList c))/\w'=w:=Any.strings_Count_one Tryz.lays138 s c w
def Tryz.laysM143_ren:Go.Shelf.Ren:=⟨fun | 143=>226 | 219=>284 | 217=>306 | 225=>307 | 224=>308 | 267=>309 | 266=>327 | 314=>328 | n=>n,fun | 9=>9 | 3=>3 | 4=>4 | 5=>5 | 46=>73 | 146=>363 | 51=>244 | n=>n,fun | 1=>1 | n=>n⟩
theorem Tryz.laysM143:Go.Proofs.LaysM.n143 Tryz.prog Tryz.laysM143_ren:={
  mixed:=by kernel_rfl
  f143:=Tryz.func226.trans (congrArg some (by kernel_rfl))
  f217:=Tryz.func306.trans (congrArg some (by kernel_rfl))
  f219:=Tryz.func284.trans (congrArg some (by kernel_rfl))
  f224:=Tryz.func308.trans (congrArg some (by kernel_rfl))
  f225:=Tryz.func307.trans (congrArg some (by kernel_rfl))
  f266:=Tryz.func327.trans (congrArg some (by kernel_rfl))
  f267:=Tryz.func309.trans (congrArg some (by kernel_rfl))
  f314:=Tryz.func328.trans (congrArg some (by kernel_rfl))
  t3:=Tryz.underlying3
  a3:=Tryz.isAgg3
  z3:=Tryz.sizeOf3
  v3:=Tryz.zeroValue3
  t4:=Tryz.underlying4
  a4:=Tryz.isAgg4
  z4:=Tryz.sizeOf4
  v4:=Tryz.zeroValue4
  t5:=Tryz.underlying5
  a5:=Tryz.isAgg5
  z5:=Tryz.sizeOf5
  v5:=Tryz.zeroValue5
  t9:=Tryz.underlying9
  a9:=Tryz.isAgg9
  z9:=Tryz.sizeOf9
  v9:=Tryz.zeroValue9
  t46:=Tryz.underlying73
  a46:=Tryz.isAgg73
  z46:=Tryz.sizeOf73
  v46:=Tryz.zeroValue73
  t51:=Tryz.underlying244
  a51:=Tryz.isAgg244
  z51:=Tryz.sizeOf244
  v51:=Tryz.zeroValue244
  t146:=Tryz.underlying363
  a146:=Tryz.isAgg363
  z146:=Tryz.sizeOf363
  v146:=Tryz.zeroValue363
  g1:=by kernel_rfl
  i3:=by kernel_rfl
  i4:=by kernel_rfl
  i5:=by kernel_rfl
  i9:=by kernel_rfl
  i46:=by kernel_rfl
  i51:=by kernel_rfl
  i146:=by kernel_rfl
  m1:=by kernel_rfl
  s1_3:=fun w h=>Go.Proofs.cell_of_shapedOpen_int (zero:=#[.int .i64 0]) (t:=3) h (of_decide_eq_true (by kernel_rfl)) (by kernel_rfl) rfl (by kernel_rfl) (by kernel_rfl) Tryz.underlying3 }
def Tryz.lays100_ren:Go.Shelf.Ren:=⟨fun | 100=>230 | 207=>225 | n=>n,fun | 9=>9 | 4=>4 | 3=>3 | n=>n,fun | n=>n⟩
theorem Tryz.lays100:Go.Proofs.Lays.n100 Tryz.prog Tryz.lays100_ren:={
  mixed:=by kernel_rfl
  f100:=Tryz.func230.trans (congrArg some (by kernel_rfl))
  f207:=Tryz.func225.trans (congrArg some (by kernel_rfl))
  t3:=Tryz.underlying3
  a3:=Tryz.isAgg3
  z3:=Tryz.sizeOf3
  v3:=Tryz.zeroValue3
  t4:=Tryz.underlying4
  a4:=Tryz.isAgg4
  z4:=Tryz.sizeOf4
  v4:=Tryz.zeroValue4
  t9:=Tryz.underlying9
  a9:=Tryz.isAgg9
  z9:=Tryz.sizeOf9
  v9:=Tryz.zeroValue9 }
open Go.RowKit Go.Lib in
theorem Tryz.strings_HasSuffix(s p:ByteArray)(w:World)(hs:s.size<=9223372036854775807) :
    Calls Tryz.prog 230 #[.string s,.string p] w fun e w'=>e=.returned (.bool (Lib.hasSuffix s.data.toList p.data.toList))/\w'=w:=Any.strings_HasSuffix Tryz.lays100 s p w hs
def Tryz.lays102_ren:Go.Shelf.Ren:=⟨fun | 102=>99 | 209=>155 | 207=>225 | n=>n,fun | 9=>9 | 4=>4 | 3=>3 | n=>n,fun | n=>n⟩
theorem Tryz.lays102:Go.Proofs.Lays.n102 Tryz.prog Tryz.lays102_ren:={
  mixed:=by kernel_rfl
  f102:=Tryz.func99.trans (congrArg some (by kernel_rfl))
  f207:=Tryz.func225.trans (congrArg some (by kernel_rfl))
  f209:=Tryz.func155.trans (congrArg some (by kernel_rfl))
  t3:=Tryz.underlying3
  a3:=Tryz.isAgg3
  z3:=Tryz.sizeOf3
  v3:=Tryz.zeroValue3
  t4:=Tryz.underlying4
  a4:=Tryz.isAgg4
  z4:=Tryz.sizeOf4
  v4:=Tryz.zeroValue4
  t9:=Tryz.underlying9
  a9:=Tryz.isAgg9
  z9:=Tryz.sizeOf9
  v9:=Tryz.zeroValue9 }
open Go.RowKit Go.Lib in
theorem Tryz.strings_TrimSuffix(s p:ByteArray)(w:World)(hs:s.size<=9223372036854775807) :
    Calls Tryz.prog 99 #[.string s,.string p] w fun e w'=>e=.returned (.string ⟨(Lib.trimSuffix s.data.toList p.data.toList).toArray⟩)/\w'=w:=Any.strings_TrimSuffix Tryz.lays102 s p w hs
end Go.Proofs
