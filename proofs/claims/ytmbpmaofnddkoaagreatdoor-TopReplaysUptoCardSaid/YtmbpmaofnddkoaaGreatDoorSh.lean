/- Contracts of the library's functions at this seat, laid by the kit's tool, in plain words. -/
import Derived.Shelf.Strings.Builder1
import Derived.Shelf.Strings.Builder2
import Derived.Shelf.Strings.OnBuilder
import Derived.Shelf.Small.Strs
import Derived.Shelf.Strings.BuilderF
import Derived.Shelf.Strconv.Itoa0
import Derived.Shelf.Strconv.Itoa1
import Derived.Shelf.LaysM
import Derived.Shelf.Strconv.Itoa2
import Derived.Shelf.Strconv.Itoa3
import Derived.Shelf.Strings.Search1
import Derived.Shelf.Strings.Search2
import Derived.Shelf.Strings.Search3
import Derived.Shelf.Strings.Cut
import Derived.Shelf.Strings.Count
import Derived.Shelf.Strings.Shaped
import Derived.Shelf.Strings.Prefix
import Derived.Shelf.Unicode.DecodeSlow
import Derived.Shelf.Slices.Equal
import Derived.Test.YtmbpmaofnddkoaaGreatDoorChecked
set_option linter.all false
namespace Go.Proofs
open Go.Shelf
open Go.Proofs.Tryz (prog)
def Tryz.lays169_ren:Go.Shelf.Ren:=⟨fun | 169=>98 | n=>n,fun | 70=>181 | 9=>9 | 0=>0 | 72=>184 | 37=>182 | 127=>233 | 3=>3 | 5=>5 | n=>n,fun | n=>n⟩
theorem Tryz.lays169:Go.Proofs.Lays.n169 prog Tryz.lays169_ren:={
  mixed:=by kernel_rfl
  f169:=Tryz.func98.trans (congrArg some (by kernel_rfl))
  t0:=Tryz.underlying0
  a0:=Tryz.isAgg0
  z0:=Tryz.sizeOf0
  v0:=Tryz.zeroValue0
  t3:=Tryz.underlying3
  a3:=Tryz.isAgg3
  z3:=Tryz.sizeOf3
  v3:=Tryz.zeroValue3
  t9:=Tryz.underlying9
  a9:=Tryz.isAgg9
  z9:=Tryz.sizeOf9
  v9:=Tryz.zeroValue9
  t37:=Tryz.underlying182
  a37:=Tryz.isAgg182
  z37:=Tryz.sizeOf182
  v37:=Tryz.zeroValue182
  t70:=Tryz.underlying181
  a70:=Tryz.isAgg181
  z70:=Tryz.sizeOf181
  v70:=Tryz.zeroValue181
  t72:=Tryz.underlying184
  a72:=Tryz.isAgg184
  z72:=Tryz.sizeOf184
  v72:=Tryz.zeroValue184
  t127:=Tryz.underlying233
  a127:=Tryz.isAgg233
  z127:=Tryz.sizeOf233
  v127:=Tryz.zeroValue233 }
theorem Tryz.Builder_Extra_169:Builder.Extra prog Tryz.lays169_ren:={
  sizeBuilder:=by kernel_rfl
  liesBuilder:=by kernel_rfl
  t5:=Tryz.underlying5
  a5:=Tryz.isAgg5
  z5:=Tryz.sizeOf5
  v5:=Tryz.zeroValue5
  infoByte:=by kernel_rfl
  cellsByte:=by kernel_rfl
  sizeByte:=by kernel_rfl
  neB5:=by decide }
open Go.RowKit in
theorem Tryz.Builder_String_any(B b:Nat)(l:List UInt8)(w:World)(h:Lib.IsBuilder 184 5 B b (Lib.byteCells l) w)(hBw:B<=w.heap.size) :
    Calls prog 98 #[.pointer (some ⟨b,0,none⟩)] w fun e w'=>e=.returned (.string ⟨l.toArray⟩)/\Below B w w':=Any.Builder_String_any Tryz.lays169 Tryz.Builder_Extra_169 B b l w h hBw
def Tryz.lays156_ren:Go.Shelf.Ren:=⟨fun | 156=>63 | 165=>104 | 166=>95 | 169=>98 | 240=>132 | 241=>140 | 276=>165 | 277=>169 | n=>n,fun | 31=>27 | 9=>9 | 3=>3 | 4=>4 | 0=>0 | 20=>20 | 72=>184 | 76=>187 | 70=>181 | 37=>182 | 75=>186 | 127=>233 | 164=>265 | 5=>5 | 80=>190 | n=>n,fun | n=>n⟩
theorem Tryz.lays156:Go.Proofs.Lays.n156 prog Tryz.lays156_ren:={
  mixed:=by kernel_rfl
  f156:=Tryz.func63.trans (congrArg some (by kernel_rfl))
  f165:=Tryz.func104.trans (congrArg some (by kernel_rfl))
  f166:=Tryz.func95.trans (congrArg some (by kernel_rfl))
  f169:=Tryz.func98.trans (congrArg some (by kernel_rfl))
  f240:=Tryz.func132.trans (congrArg some (by kernel_rfl))
  f241:=Tryz.func140.trans (congrArg some (by kernel_rfl))
  f276:=Tryz.func165.trans (congrArg some (by kernel_rfl))
  f277:=Tryz.func169.trans (congrArg some (by kernel_rfl))
  t0:=Tryz.underlying0
  a0:=Tryz.isAgg0
  z0:=Tryz.sizeOf0
  v0:=Tryz.zeroValue0
  t3:=Tryz.underlying3
  a3:=Tryz.isAgg3
  z3:=Tryz.sizeOf3
  v3:=Tryz.zeroValue3
  t4:=Tryz.underlying4
  a4:=Tryz.isAgg4
  z4:=Tryz.sizeOf4
  v4:=Tryz.zeroValue4
  t9:=Tryz.underlying9
  a9:=Tryz.isAgg9
  z9:=Tryz.sizeOf9
  v9:=Tryz.zeroValue9
  t20:=Tryz.underlying20
  a20:=Tryz.isAgg20
  z20:=Tryz.sizeOf20
  v20:=Tryz.zeroValue20
  t31:=Tryz.underlying27
  a31:=Tryz.isAgg27
  z31:=Tryz.sizeOf27
  v31:=Tryz.zeroValue27
  t37:=Tryz.underlying182
  a37:=Tryz.isAgg182
  z37:=Tryz.sizeOf182
  v37:=Tryz.zeroValue182
  t70:=Tryz.underlying181
  a70:=Tryz.isAgg181
  z70:=Tryz.sizeOf181
  v70:=Tryz.zeroValue181
  t72:=Tryz.underlying184
  a72:=Tryz.isAgg184
  z72:=Tryz.sizeOf184
  v72:=Tryz.zeroValue184
  t75:=Tryz.underlying186
  a75:=Tryz.isAgg186
  z75:=Tryz.sizeOf186
  v75:=Tryz.zeroValue186
  t76:=Tryz.underlying187
  a76:=Tryz.isAgg187
  z76:=Tryz.sizeOf187
  v76:=Tryz.zeroValue187
  t127:=Tryz.underlying233
  a127:=Tryz.isAgg233
  z127:=Tryz.sizeOf233
  v127:=Tryz.zeroValue233
  t164:=Tryz.underlying265
  a164:=Tryz.isAgg265
  z164:=Tryz.sizeOf265
  v164:=Tryz.zeroValue265 }
theorem Tryz.Builder_Extra_156:Builder.Extra prog Tryz.lays156_ren:={
  sizeBuilder:=by kernel_rfl
  liesBuilder:=by kernel_rfl
  t5:=Tryz.underlying5
  a5:=Tryz.isAgg5
  z5:=Tryz.sizeOf5
  v5:=Tryz.zeroValue5
  infoByte:=by kernel_rfl
  cellsByte:=by kernel_rfl
  sizeByte:=by kernel_rfl
  neB5:=by decide }
open Go.RowKit in
theorem Tryz.strings_Join_none(a:Option Addr)(c:Nat)(sep:ByteArray)(w:World) :
    Calls prog 63 #[.slice a 0 c,.string sep] w fun e w'=>e=.returned (.string ⟨#[]⟩)/\w'=w:=Any.strings_Join_none Tryz.lays156 Tryz.Builder_Extra_156 a c sep w
open Go.RowKit in
theorem Tryz.strings_Join(bk o c:Nat)(xs:List ByteArray)(sep:ByteArray)(w:World)(hcells:∀(j:Nat) x,xs[j]?=some x->w.cell? ⟨bk,o+j,none⟩=some (.string x))(hbk:bk<w.heap.size)(hN:xs.length<=140737488355328)(hcap:xs.length<=c)(hlen:(Lib.join (xs.map (·.data.toList)) sep.data.toList).length<=140737488355328) :
    Calls prog 63 #[.slice (some ⟨bk,o,none⟩) xs.length c,.string sep] w fun e w'=>e=.returned (.string ⟨(Lib.join (xs.map (·.data.toList)) sep.data.toList).toArray⟩)/\Below w.heap.size w w':=Any.strings_Join Tryz.lays156 Tryz.Builder_Extra_156 bk o c xs sep w hcells hbk hN hcap hlen
def Tryz.lays106_ren:Go.Shelf.Ren:=⟨fun | 106=>177 | 213=>191 | 265=>211 | n=>n,fun | 9=>9 | 3=>3 | n=>n,fun | n=>n⟩
theorem Tryz.lays106:Go.Proofs.Lays.n106 prog Tryz.lays106_ren:={
  mixed:=by kernel_rfl
  f106:=Tryz.func177.trans (congrArg some (by kernel_rfl))
  f213:=Tryz.func191.trans (congrArg some (by kernel_rfl))
  f265:=Tryz.func211.trans (congrArg some (by kernel_rfl))
  t3:=Tryz.underlying3
  a3:=Tryz.isAgg3
  z3:=Tryz.sizeOf3
  v3:=Tryz.zeroValue3
  t9:=Tryz.underlying9
  a9:=Tryz.isAgg9
  z9:=Tryz.sizeOf9
  v9:=Tryz.zeroValue9 }
open Go.RowKit in
theorem Tryz.strings_Compare(a b:ByteArray)(w:World) :
    Calls prog 177 #[.string a,.string b] w fun e w'=>e=.returned (.int .i64 (Lib.compareBytes a.data.toList b.data.toList))/\w'=w:=Any.strings_Compare Tryz.lays106 a b w
def Tryz.lays137_ren:Go.Shelf.Ren:=⟨fun | 137=>62 | 217=>103 | 266=>139 | n=>n,fun | 9=>9 | 5=>5 | 3=>3 | n=>n,fun | n=>n⟩
theorem Tryz.lays137:Go.Proofs.Lays.n137 prog Tryz.lays137_ren:={
  mixed:=by kernel_rfl
  f137:=Tryz.func62.trans (congrArg some (by kernel_rfl))
  f217:=Tryz.func103.trans (congrArg some (by kernel_rfl))
  f266:=Tryz.func139.trans (congrArg some (by kernel_rfl))
  t3:=Tryz.underlying3
  a3:=Tryz.isAgg3
  z3:=Tryz.sizeOf3
  v3:=Tryz.zeroValue3
  t5:=Tryz.underlying5
  a5:=Tryz.isAgg5
  z5:=Tryz.sizeOf5
  v5:=Tryz.zeroValue5
  t9:=Tryz.underlying9
  a9:=Tryz.isAgg9
  z9:=Tryz.sizeOf9
  v9:=Tryz.zeroValue9 }
open Go.RowKit in
theorem Tryz.strings_IndexByte(s:ByteArray)(c:Int)(w:World) :
    Calls prog 62 #[.string s,.int .u8 c] w fun e w'=>e=.returned (.int .i64 (Lib.indexByte s.data.toList c.toNat.toUInt8))/\w'=w:=Any.strings_IndexByte Tryz.lays137 s c w
def Tryz.lays129_ren:Go.Shelf.Ren:=⟨fun | 129=>210 | n=>n,fun | 53=>86 | 3=>3 | 4=>4 | 46=>53 | 5=>5 | 9=>9 | n=>n,fun | n=>n⟩
theorem Tryz.lays129:Go.Proofs.Lays.n129 prog Tryz.lays129_ren:={
  mixed:=by kernel_rfl
  f129:=Tryz.func210.trans (congrArg some (by kernel_rfl))
  t3:=Tryz.underlying3
  a3:=Tryz.isAgg3
  z3:=Tryz.sizeOf3
  v3:=Tryz.zeroValue3
  t4:=Tryz.underlying4
  a4:=Tryz.isAgg4
  z4:=Tryz.sizeOf4
  v4:=Tryz.zeroValue4
  t5:=Tryz.underlying5
  a5:=Tryz.isAgg5
  z5:=Tryz.sizeOf5
  v5:=Tryz.zeroValue5
  t9:=Tryz.underlying9
  a9:=Tryz.isAgg9
  z9:=Tryz.sizeOf9
  v9:=Tryz.zeroValue9
  t46:=Tryz.underlying53
  a46:=Tryz.isAgg53
  z46:=Tryz.sizeOf53
  v46:=Tryz.zeroValue53
  t53:=Tryz.underlying86
  a53:=Tryz.isAgg86
  z53:=Tryz.sizeOf86
  v53:=Tryz.zeroValue86 }
theorem Tryz.bits_Len64(x:Int)(w:World)(h0:0<=x)(h1:x<=18446744073709551615) :
    Calls prog 210 #[.int .u64 x] w fun e w'=>e=.returned (.int .i64 (Lib.bitLen x.toNat))/\w'=w:=Any.bits_Len64 Tryz.lays129 x w h0 h1
def Tryz.laysM171_ren:Go.Shelf.Ren:=⟨fun | 171=>166 | 243=>184 | 246=>194 | 283=>212 | 284=>213 | 285=>214 | 286=>215 | 129=>210 | 317=>227 | 318=>228 | 319=>229 | 320=>230 | 337=>237 | 338=>238 | n=>n,fun | 3=>3 | 9=>9 | 2=>2 | 4=>4 | 171=>302 | 0=>0 | 53=>86 | 37=>182 | 5=>5 | 173=>304 | 212=>319 | 51=>284 | 20=>20 | 213=>320 | 46=>53 | 232=>330 | 233=>331 | n=>n,fun | 17=>3 | 18=>4 | 19=>5 | n=>n⟩
theorem Tryz.laysM171:Go.Proofs.LaysM.n171 prog Tryz.laysM171_ren:={
  mixed:=by kernel_rfl
  f129:=Tryz.func210.trans (congrArg some (by kernel_rfl))
  f171:=Tryz.func166.trans (congrArg some (by kernel_rfl))
  f243:=Tryz.func184.trans (congrArg some (by kernel_rfl))
  f246:=Tryz.func194.trans (congrArg some (by kernel_rfl))
  f283:=Tryz.func212.trans (congrArg some (by kernel_rfl))
  f284:=Tryz.func213.trans (congrArg some (by kernel_rfl))
  f285:=Tryz.func214.trans (congrArg some (by kernel_rfl))
  f286:=Tryz.func215.trans (congrArg some (by kernel_rfl))
  f317:=Tryz.func227.trans (congrArg some (by kernel_rfl))
  f318:=Tryz.func228.trans (congrArg some (by kernel_rfl))
  f319:=Tryz.func229.trans (congrArg some (by kernel_rfl))
  f320:=Tryz.func230.trans (congrArg some (by kernel_rfl))
  f337:=Tryz.func237.trans (congrArg some (by kernel_rfl))
  f338:=Tryz.func238.trans (congrArg some (by kernel_rfl))
  t0:=Tryz.underlying0
  a0:=Tryz.isAgg0
  z0:=Tryz.sizeOf0
  v0:=Tryz.zeroValue0
  t2:=Tryz.underlying2
  a2:=Tryz.isAgg2
  z2:=Tryz.sizeOf2
  v2:=Tryz.zeroValue2
  t3:=Tryz.underlying3
  a3:=Tryz.isAgg3
  z3:=Tryz.sizeOf3
  v3:=Tryz.zeroValue3
  t4:=Tryz.underlying4
  a4:=Tryz.isAgg4
  z4:=Tryz.sizeOf4
  v4:=Tryz.zeroValue4
  t5:=Tryz.underlying5
  a5:=Tryz.isAgg5
  z5:=Tryz.sizeOf5
  v5:=Tryz.zeroValue5
  t9:=Tryz.underlying9
  a9:=Tryz.isAgg9
  z9:=Tryz.sizeOf9
  v9:=Tryz.zeroValue9
  t20:=Tryz.underlying20
  a20:=Tryz.isAgg20
  z20:=Tryz.sizeOf20
  v20:=Tryz.zeroValue20
  t37:=Tryz.underlying182
  a37:=Tryz.isAgg182
  z37:=Tryz.sizeOf182
  v37:=Tryz.zeroValue182
  t46:=Tryz.underlying53
  a46:=Tryz.isAgg53
  z46:=Tryz.sizeOf53
  v46:=Tryz.zeroValue53
  t51:=Tryz.underlying284
  a51:=Tryz.isAgg284
  z51:=Tryz.sizeOf284
  v51:=Tryz.zeroValue284
  t53:=Tryz.underlying86
  a53:=Tryz.isAgg86
  z53:=Tryz.sizeOf86
  v53:=Tryz.zeroValue86
  t171:=Tryz.underlying302
  a171:=Tryz.isAgg302
  z171:=Tryz.sizeOf302
  v171:=Tryz.zeroValue302
  t173:=Tryz.underlying304
  a173:=Tryz.isAgg304
  z173:=Tryz.sizeOf304
  v173:=Tryz.zeroValue304
  t212:=Tryz.underlying319
  a212:=Tryz.isAgg319
  z212:=Tryz.sizeOf319
  v212:=Tryz.zeroValue319
  t213:=Tryz.underlying320
  a213:=Tryz.isAgg320
  z213:=Tryz.sizeOf320
  t232:=Tryz.underlying330
  a232:=Tryz.isAgg330
  z232:=Tryz.sizeOf330
  v232:=Tryz.zeroValue330
  t233:=Tryz.underlying331
  a233:=Tryz.isAgg331
  z233:=Tryz.sizeOf331
  v233:=Tryz.zeroValue331
  g17:=by kernel_rfl
  g18:=by kernel_rfl
  g19:=by kernel_rfl
  i0:=by kernel_rfl
  i2:=by kernel_rfl
  i3:=by kernel_rfl
  i4:=by kernel_rfl
  i5:=by kernel_rfl
  i9:=by kernel_rfl
  i20:=by kernel_rfl
  i37:=by kernel_rfl
  i46:=by kernel_rfl
  i51:=by kernel_rfl
  i53:=by kernel_rfl
  i171:=by kernel_rfl
  i173:=by kernel_rfl
  i212:=by kernel_rfl
  i232:=by kernel_rfl
  i233:=by kernel_rfl
  m17:=by kernel_rfl
  m18:=by kernel_rfl
  m19:=by kernel_rfl }
open Go.RowKit Go.Sort Go.Lib in
theorem Tryz.strconv_Itoa(n:Int)(h0:-9223372036854775808<=n)(h1:n<=9223372036854775807)(w:World)(htab:Lib.TabIs prog w "internal/strconv.uint64pow10" .u64 Lib.pow10Tab) :
    Calls prog 166 #[.int .i64 n] w fun e w'=>e=.returned (.string ⟨(Lib.itoa n).toArray⟩)/\∃k os,w'=grow (w.drewN k) os:=Any.strconv_Itoa Tryz.laysM171 n h0 h1 w htab
def Tryz.lays219_ren:Go.Shelf.Ren:=⟨fun | 219=>162 | 217=>103 | 225=>180 | 224=>181 | 267=>182 | 266=>139 | 314=>193 | n=>n,fun | 9=>9 | 3=>3 | 4=>4 | 5=>5 | 46=>53 | 146=>285 | 51=>284 | n=>n,fun | 1=>0 | n=>n⟩
theorem Tryz.lays219:Go.Proofs.Lays.n219 prog Tryz.lays219_ren:={
  mixed:=by kernel_rfl
  f217:=Tryz.func103.trans (congrArg some (by kernel_rfl))
  f219:=Tryz.func162.trans (congrArg some (by kernel_rfl))
  f224:=Tryz.func181.trans (congrArg some (by kernel_rfl))
  f225:=Tryz.func180.trans (congrArg some (by kernel_rfl))
  f266:=Tryz.func139.trans (congrArg some (by kernel_rfl))
  f267:=Tryz.func182.trans (congrArg some (by kernel_rfl))
  f314:=Tryz.func193.trans (congrArg some (by kernel_rfl))
  t3:=Tryz.underlying3
  a3:=Tryz.isAgg3
  z3:=Tryz.sizeOf3
  v3:=Tryz.zeroValue3
  t4:=Tryz.underlying4
  a4:=Tryz.isAgg4
  z4:=Tryz.sizeOf4
  v4:=Tryz.zeroValue4
  t5:=Tryz.underlying5
  a5:=Tryz.isAgg5
  z5:=Tryz.sizeOf5
  v5:=Tryz.zeroValue5
  t9:=Tryz.underlying9
  a9:=Tryz.isAgg9
  z9:=Tryz.sizeOf9
  v9:=Tryz.zeroValue9
  t46:=Tryz.underlying53
  a46:=Tryz.isAgg53
  z46:=Tryz.sizeOf53
  v46:=Tryz.zeroValue53
  t51:=Tryz.underlying284
  a51:=Tryz.isAgg284
  z51:=Tryz.sizeOf284
  v51:=Tryz.zeroValue284
  t146:=Tryz.underlying285
  a146:=Tryz.isAgg285
  z146:=Tryz.sizeOf285
  v146:=Tryz.zeroValue285
  g1:=by kernel_rfl }
open Go.RowKit Go.Lib in
theorem Tryz.stringslite_Index(s sub:ByteArray)(m:Int)(w:World)(hs:s.size<4294967281)(hm:w.cell? ⟨0,0,none⟩=some (.int .i64 m)) :
    Calls prog 162 #[.string s,.string sub] w fun e w'=>e=.returned (.int .i64 (Lib.index s.data.toList sub.data.toList))/\w'=w:=Any.stringslite_Index Tryz.lays219 s sub m w hs hm
def Tryz.lays143_ren:Go.Shelf.Ren:=⟨fun | 143=>128 | 219=>162 | 217=>103 | 225=>180 | 224=>181 | 267=>182 | 266=>139 | 314=>193 | n=>n,fun | 9=>9 | 3=>3 | 4=>4 | 5=>5 | 46=>53 | 146=>285 | 51=>284 | n=>n,fun | 1=>0 | n=>n⟩
theorem Tryz.lays143:Go.Proofs.Lays.n143 prog Tryz.lays143_ren:={
  mixed:=by kernel_rfl
  f143:=Tryz.func128.trans (congrArg some (by kernel_rfl))
  f217:=Tryz.func103.trans (congrArg some (by kernel_rfl))
  f219:=Tryz.func162.trans (congrArg some (by kernel_rfl))
  f224:=Tryz.func181.trans (congrArg some (by kernel_rfl))
  f225:=Tryz.func180.trans (congrArg some (by kernel_rfl))
  f266:=Tryz.func139.trans (congrArg some (by kernel_rfl))
  f267:=Tryz.func182.trans (congrArg some (by kernel_rfl))
  f314:=Tryz.func193.trans (congrArg some (by kernel_rfl))
  t3:=Tryz.underlying3
  a3:=Tryz.isAgg3
  z3:=Tryz.sizeOf3
  v3:=Tryz.zeroValue3
  t4:=Tryz.underlying4
  a4:=Tryz.isAgg4
  z4:=Tryz.sizeOf4
  v4:=Tryz.zeroValue4
  t5:=Tryz.underlying5
  a5:=Tryz.isAgg5
  z5:=Tryz.sizeOf5
  v5:=Tryz.zeroValue5
  t9:=Tryz.underlying9
  a9:=Tryz.isAgg9
  z9:=Tryz.sizeOf9
  v9:=Tryz.zeroValue9
  t46:=Tryz.underlying53
  a46:=Tryz.isAgg53
  z46:=Tryz.sizeOf53
  v46:=Tryz.zeroValue53
  t51:=Tryz.underlying284
  a51:=Tryz.isAgg284
  z51:=Tryz.sizeOf284
  v51:=Tryz.zeroValue284
  t146:=Tryz.underlying285
  a146:=Tryz.isAgg285
  z146:=Tryz.sizeOf285
  v146:=Tryz.zeroValue285
  g1:=by kernel_rfl }
open Go.RowKit Go.Lib in
theorem Tryz.strings_Index_one(s:ByteArray)(c:UInt8)(w:World) :
    Calls prog 128 #[.string s,.string ⟨#[c]⟩] w fun e w'=>e=.returned (.int .i64 (Lib.indexByte s.data.toList c))/\w'=w:=Any.strings_Index_one Tryz.lays143 s c w
def Tryz.lays144_ren:Go.Shelf.Ren:=⟨fun | 144=>158 | 143=>128 | 219=>162 | 217=>103 | 225=>180 | 224=>181 | 267=>182 | 266=>139 | 314=>193 | n=>n,fun | 9=>9 | 4=>4 | 3=>3 | 5=>5 | 46=>53 | 146=>285 | 51=>284 | n=>n,fun | 1=>0 | n=>n⟩
theorem Tryz.lays144:Go.Proofs.Lays.n144 prog Tryz.lays144_ren:={
  mixed:=by kernel_rfl
  f143:=Tryz.func128.trans (congrArg some (by kernel_rfl))
  f144:=Tryz.func158.trans (congrArg some (by kernel_rfl))
  f217:=Tryz.func103.trans (congrArg some (by kernel_rfl))
  f219:=Tryz.func162.trans (congrArg some (by kernel_rfl))
  f224:=Tryz.func181.trans (congrArg some (by kernel_rfl))
  f225:=Tryz.func180.trans (congrArg some (by kernel_rfl))
  f266:=Tryz.func139.trans (congrArg some (by kernel_rfl))
  f267:=Tryz.func182.trans (congrArg some (by kernel_rfl))
  f314:=Tryz.func193.trans (congrArg some (by kernel_rfl))
  t3:=Tryz.underlying3
  a3:=Tryz.isAgg3
  z3:=Tryz.sizeOf3
  v3:=Tryz.zeroValue3
  t4:=Tryz.underlying4
  a4:=Tryz.isAgg4
  z4:=Tryz.sizeOf4
  v4:=Tryz.zeroValue4
  t5:=Tryz.underlying5
  a5:=Tryz.isAgg5
  z5:=Tryz.sizeOf5
  v5:=Tryz.zeroValue5
  t9:=Tryz.underlying9
  a9:=Tryz.isAgg9
  z9:=Tryz.sizeOf9
  v9:=Tryz.zeroValue9
  t46:=Tryz.underlying53
  a46:=Tryz.isAgg53
  z46:=Tryz.sizeOf53
  v46:=Tryz.zeroValue53
  t51:=Tryz.underlying284
  a51:=Tryz.isAgg284
  z51:=Tryz.sizeOf284
  v51:=Tryz.zeroValue284
  t146:=Tryz.underlying285
  a146:=Tryz.isAgg285
  z146:=Tryz.sizeOf285
  v146:=Tryz.zeroValue285
  g1:=by kernel_rfl }
open Go.RowKit Go.Lib in
theorem Tryz.strings_Contains_one(s:ByteArray)(c:UInt8)(w:World) :
    Calls prog 158 #[.string s,.string ⟨#[c]⟩] w fun e w'=>e=.returned (.bool (decide (0<=Lib.indexByte s.data.toList c)))/\w'=w:=Any.strings_Contains_one Tryz.lays144 s c w
def Tryz.lays138_ren:Go.Shelf.Ren:=⟨fun | 138=>83 | 195=>126 | 218=>127 | 143=>128 | 219=>162 | 217=>103 | 225=>180 | 224=>181 | 267=>182 | 266=>139 | 314=>193 | n=>n,fun | 9=>9 | 3=>3 | 4=>4 | 5=>5 | 0=>0 | 46=>53 | 146=>285 | 51=>284 | n=>n,fun | 1=>0 | n=>n⟩
theorem Tryz.lays138:Go.Proofs.Lays.n138 prog Tryz.lays138_ren:={
  mixed:=by kernel_rfl
  f138:=Tryz.func83.trans (congrArg some (by kernel_rfl))
  f143:=Tryz.func128.trans (congrArg some (by kernel_rfl))
  f195:=Tryz.func126.trans (congrArg some (by kernel_rfl))
  f217:=Tryz.func103.trans (congrArg some (by kernel_rfl))
  f218:=Tryz.func127.trans (congrArg some (by kernel_rfl))
  f219:=Tryz.func162.trans (congrArg some (by kernel_rfl))
  f224:=Tryz.func181.trans (congrArg some (by kernel_rfl))
  f225:=Tryz.func180.trans (congrArg some (by kernel_rfl))
  f266:=Tryz.func139.trans (congrArg some (by kernel_rfl))
  f267:=Tryz.func182.trans (congrArg some (by kernel_rfl))
  f314:=Tryz.func193.trans (congrArg some (by kernel_rfl))
  t0:=Tryz.underlying0
  a0:=Tryz.isAgg0
  z0:=Tryz.sizeOf0
  v0:=Tryz.zeroValue0
  t3:=Tryz.underlying3
  a3:=Tryz.isAgg3
  z3:=Tryz.sizeOf3
  v3:=Tryz.zeroValue3
  t4:=Tryz.underlying4
  a4:=Tryz.isAgg4
  z4:=Tryz.sizeOf4
  v4:=Tryz.zeroValue4
  t5:=Tryz.underlying5
  a5:=Tryz.isAgg5
  z5:=Tryz.sizeOf5
  v5:=Tryz.zeroValue5
  t9:=Tryz.underlying9
  a9:=Tryz.isAgg9
  z9:=Tryz.sizeOf9
  v9:=Tryz.zeroValue9
  t46:=Tryz.underlying53
  a46:=Tryz.isAgg53
  z46:=Tryz.sizeOf53
  v46:=Tryz.zeroValue53
  t51:=Tryz.underlying284
  a51:=Tryz.isAgg284
  z51:=Tryz.sizeOf284
  v51:=Tryz.zeroValue284
  t146:=Tryz.underlying285
  a146:=Tryz.isAgg285
  z146:=Tryz.sizeOf285
  v146:=Tryz.zeroValue285
  g1:=by kernel_rfl }
open Go.RowKit Go.Lib in
theorem Tryz.strings_Count_one(s:ByteArray)(c:UInt8)(w:World) :
    Calls prog 83 #[.string s,.string ⟨#[c]⟩] w fun e w'=>e=.returned (.int .i64 (Lib.countByte s.data.toList c))/\w'=w:=Any.strings_Count_one Tryz.lays138 s c w
def Tryz.laysM143_ren:Go.Shelf.Ren:=⟨fun | 143=>128 | 219=>162 | 217=>103 | 225=>180 | 224=>181 | 267=>182 | 266=>139 | 314=>193 | n=>n,fun | 9=>9 | 3=>3 | 4=>4 | 5=>5 | 46=>53 | 146=>285 | 51=>284 | n=>n,fun | 1=>0 | n=>n⟩
theorem Tryz.laysM143:Go.Proofs.LaysM.n143 prog Tryz.laysM143_ren:={
  mixed:=by kernel_rfl
  f143:=Tryz.func128.trans (congrArg some (by kernel_rfl))
  f217:=Tryz.func103.trans (congrArg some (by kernel_rfl))
  f219:=Tryz.func162.trans (congrArg some (by kernel_rfl))
  f224:=Tryz.func181.trans (congrArg some (by kernel_rfl))
  f225:=Tryz.func180.trans (congrArg some (by kernel_rfl))
  f266:=Tryz.func139.trans (congrArg some (by kernel_rfl))
  f267:=Tryz.func182.trans (congrArg some (by kernel_rfl))
  f314:=Tryz.func193.trans (congrArg some (by kernel_rfl))
  t3:=Tryz.underlying3
  a3:=Tryz.isAgg3
  z3:=Tryz.sizeOf3
  v3:=Tryz.zeroValue3
  t4:=Tryz.underlying4
  a4:=Tryz.isAgg4
  z4:=Tryz.sizeOf4
  v4:=Tryz.zeroValue4
  t5:=Tryz.underlying5
  a5:=Tryz.isAgg5
  z5:=Tryz.sizeOf5
  v5:=Tryz.zeroValue5
  t9:=Tryz.underlying9
  a9:=Tryz.isAgg9
  z9:=Tryz.sizeOf9
  v9:=Tryz.zeroValue9
  t46:=Tryz.underlying53
  a46:=Tryz.isAgg53
  z46:=Tryz.sizeOf53
  v46:=Tryz.zeroValue53
  t51:=Tryz.underlying284
  a51:=Tryz.isAgg284
  z51:=Tryz.sizeOf284
  v51:=Tryz.zeroValue284
  t146:=Tryz.underlying285
  a146:=Tryz.isAgg285
  z146:=Tryz.sizeOf285
  v146:=Tryz.zeroValue285
  g1:=by kernel_rfl
  i3:=by kernel_rfl
  i4:=by kernel_rfl
  i5:=by kernel_rfl
  i9:=by kernel_rfl
  i46:=by kernel_rfl
  i51:=by kernel_rfl
  i146:=by kernel_rfl
  m1:=by kernel_rfl
  s1_3:=fun w h=>Go.Proofs.cell_of_shapedOpen_int (zero:=#[.int .i64 0]) (t:=3) h (of_decide_eq_true (by kernel_rfl)) (by kernel_rfl) rfl (by kernel_rfl) (by kernel_rfl) Tryz.underlying3 }
def Tryz.lays100_ren:Go.Shelf.Ren:=⟨fun | 100=>101 | 207=>136 | n=>n,fun | 9=>9 | 4=>4 | 3=>3 | n=>n,fun | n=>n⟩
theorem Tryz.lays100:Go.Proofs.Lays.n100 prog Tryz.lays100_ren:={
  mixed:=by kernel_rfl
  f100:=Tryz.func101.trans (congrArg some (by kernel_rfl))
  f207:=Tryz.func136.trans (congrArg some (by kernel_rfl))
  t3:=Tryz.underlying3
  a3:=Tryz.isAgg3
  z3:=Tryz.sizeOf3
  v3:=Tryz.zeroValue3
  t4:=Tryz.underlying4
  a4:=Tryz.isAgg4
  z4:=Tryz.sizeOf4
  v4:=Tryz.zeroValue4
  t9:=Tryz.underlying9
  a9:=Tryz.isAgg9
  z9:=Tryz.sizeOf9
  v9:=Tryz.zeroValue9 }
open Go.RowKit Go.Lib in
theorem Tryz.strings_HasSuffix(s p:ByteArray)(w:World)(hs:s.size<=9223372036854775807) :
    Calls prog 101 #[.string s,.string p] w fun e w'=>e=.returned (.bool (Lib.hasSuffix s.data.toList p.data.toList))/\w'=w:=Any.strings_HasSuffix Tryz.lays100 s p w hs
def Tryz.lays102_ren:Go.Shelf.Ren:=⟨fun | 102=>117 | 209=>155 | 207=>136 | n=>n,fun | 9=>9 | 4=>4 | 3=>3 | n=>n,fun | n=>n⟩
theorem Tryz.lays102:Go.Proofs.Lays.n102 prog Tryz.lays102_ren:={
  mixed:=by kernel_rfl
  f102:=Tryz.func117.trans (congrArg some (by kernel_rfl))
  f207:=Tryz.func136.trans (congrArg some (by kernel_rfl))
  f209:=Tryz.func155.trans (congrArg some (by kernel_rfl))
  t3:=Tryz.underlying3
  a3:=Tryz.isAgg3
  z3:=Tryz.sizeOf3
  v3:=Tryz.zeroValue3
  t4:=Tryz.underlying4
  a4:=Tryz.isAgg4
  z4:=Tryz.sizeOf4
  v4:=Tryz.zeroValue4
  t9:=Tryz.underlying9
  a9:=Tryz.isAgg9
  z9:=Tryz.sizeOf9
  v9:=Tryz.zeroValue9 }
open Go.RowKit Go.Lib in
theorem Tryz.strings_TrimSuffix(s p:ByteArray)(w:World)(hs:s.size<=9223372036854775807) :
    Calls prog 117 #[.string s,.string p] w fun e w'=>e=.returned (.string ⟨(Lib.trimSuffix s.data.toList p.data.toList).toArray⟩)/\w'=w:=Any.strings_TrimSuffix Tryz.lays102 s p w hs
end Go.Proofs
