/- Contracts of the library's functions at this seat, laid by the kit's tool, in plain words. -/
import Derived.Shelf.Small.Strs
import Derived.Shelf.Strconv.Itoa0
import Derived.Shelf.Strings.Search1
import Derived.Shelf.Strings.Search2
import Derived.Shelf.Strings.Search3
import Derived.Shelf.Strings.Cut
import Derived.Shelf.Strings.Count
import Derived.Shelf.LaysM
import Derived.Shelf.Strings.Shaped
import Derived.Shelf.Strings.Prefix
import Derived.Shelf.Unicode.DecodeSlow
import Derived.Test.YtabbdaafimcjhaaGreatDoorChecked
set_option linter.all false
namespace Go.Proofs
open Go.Shelf
open Tryz (prog)
def Tryz.lays106_ren:Go.Shelf.Ren:=⟨fun | 106=>167 | 213=>188 | 265=>211 | n=>n,fun | 9=>9 | 3=>3 | n=>n,fun | n=>n⟩
theorem Tryz.lays106:Go.Proofs.Lays.n106 prog Tryz.lays106_ren:={
  mixed:=by kernel_rfl
  f106:=Tryz.func167.trans (congrArg some (by kernel_rfl))
  f213:=Tryz.func188.trans (congrArg some (by kernel_rfl))
  f265:=Tryz.func211.trans (congrArg some (by kernel_rfl))
  t3:=Tryz.underlying3
  a3:=Tryz.isAgg3
  z3:=Tryz.sizeOf3
  v3:=Tryz.zeroValue3
  t9:=Tryz.underlying9
  a9:=Tryz.isAgg9
  z9:=Tryz.sizeOf9
  v9:=Tryz.zeroValue9 }
open Go.RowKit in
theorem Tryz.strings_Compare(a b:ByteArray)(w:World) :
    Calls prog 167 #[.string a,.string b] w fun e w'=>e=.returned (.int .i64 (Lib.compareBytes a.data.toList b.data.toList))/\w'=w:=Any.strings_Compare Tryz.lays106 a b w
def Tryz.lays137_ren:Go.Shelf.Ren:=⟨fun | 137=>193 | 217=>212 | 266=>233 | n=>n,fun | 9=>9 | 5=>5 | 3=>3 | n=>n,fun | n=>n⟩
theorem Tryz.lays137:Go.Proofs.Lays.n137 prog Tryz.lays137_ren:={
  mixed:=by kernel_rfl
  f137:=Tryz.func193.trans (congrArg some (by kernel_rfl))
  f217:=Tryz.func212.trans (congrArg some (by kernel_rfl))
  f266:=Tryz.func233.trans (congrArg some (by kernel_rfl))
  t3:=Tryz.underlying3
  a3:=Tryz.isAgg3
  z3:=Tryz.sizeOf3
  v3:=Tryz.zeroValue3
  t5:=Tryz.underlying5
  a5:=Tryz.isAgg5
  z5:=Tryz.sizeOf5
  v5:=Tryz.zeroValue5
  t9:=Tryz.underlying9
  a9:=Tryz.isAgg9
  z9:=Tryz.sizeOf9
  v9:=Tryz.zeroValue9 }
open Go.RowKit in
theorem Tryz.strings_IndexByte(s:ByteArray)(c:Int)(w:World) :
    Calls prog 193 #[.string s,.int .u8 c] w fun e w'=>e=.returned (.int .i64 (Lib.indexByte s.data.toList c.toNat.toUInt8))/\w'=w:=Any.strings_IndexByte Tryz.lays137 s c w
def Tryz.lays129_ren:Go.Shelf.Ren:=⟨fun | 129=>210 | n=>n,fun | 53=>75 | 3=>3 | 4=>4 | 46=>47 | 5=>5 | 9=>9 | n=>n,fun | n=>n⟩
theorem Tryz.lays129:Go.Proofs.Lays.n129 prog Tryz.lays129_ren:={
  mixed:=by kernel_rfl
  f129:=Tryz.func210.trans (congrArg some (by kernel_rfl))
  t3:=Tryz.underlying3
  a3:=Tryz.isAgg3
  z3:=Tryz.sizeOf3
  v3:=Tryz.zeroValue3
  t4:=Tryz.underlying4
  a4:=Tryz.isAgg4
  z4:=Tryz.sizeOf4
  v4:=Tryz.zeroValue4
  t5:=Tryz.underlying5
  a5:=Tryz.isAgg5
  z5:=Tryz.sizeOf5
  v5:=Tryz.zeroValue5
  t9:=Tryz.underlying9
  a9:=Tryz.isAgg9
  z9:=Tryz.sizeOf9
  v9:=Tryz.zeroValue9
  t46:=Tryz.underlying47
  a46:=Tryz.isAgg47
  z46:=Tryz.sizeOf47
  v46:=Tryz.zeroValue47
  t53:=Tryz.underlying75
  a53:=Tryz.isAgg75
  z53:=Tryz.sizeOf75
  v53:=Tryz.zeroValue75 }
theorem Tryz.bits_Len64(x:Int)(w:World)(h0:0<=x)(h1:x<=18446744073709551615) :
    Calls prog 210 #[.int .u64 x] w fun e w'=>e=.returned (.int .i64 (Lib.bitLen x.toNat))/\w'=w:=Any.bits_Len64 Tryz.lays129 x w h0 h1
def Tryz.lays219_ren:Go.Shelf.Ren:=⟨fun | 219=>189 | 217=>212 | 225=>213 | 224=>214 | 267=>215 | 266=>233 | 314=>234 | n=>n,fun | 9=>9 | 3=>3 | 4=>4 | 5=>5 | 46=>47 | 146=>271 | 51=>254 | n=>n,fun | 1=>0 | n=>n⟩
theorem Tryz.lays219:Go.Proofs.Lays.n219 prog Tryz.lays219_ren:={
  mixed:=by kernel_rfl
  f217:=Tryz.func212.trans (congrArg some (by kernel_rfl))
  f219:=Tryz.func189.trans (congrArg some (by kernel_rfl))
  f224:=Tryz.func214.trans (congrArg some (by kernel_rfl))
  f225:=Tryz.func213.trans (congrArg some (by kernel_rfl))
  f266:=Tryz.func233.trans (congrArg some (by kernel_rfl))
  f267:=Tryz.func215.trans (congrArg some (by kernel_rfl))
  f314:=Tryz.func234.trans (congrArg some (by kernel_rfl))
  t3:=Tryz.underlying3
  a3:=Tryz.isAgg3
  z3:=Tryz.sizeOf3
  v3:=Tryz.zeroValue3
  t4:=Tryz.underlying4
  a4:=Tryz.isAgg4
  z4:=Tryz.sizeOf4
  v4:=Tryz.zeroValue4
  t5:=Tryz.underlying5
  a5:=Tryz.isAgg5
  z5:=Tryz.sizeOf5
  v5:=Tryz.zeroValue5
  t9:=Tryz.underlying9
  a9:=Tryz.isAgg9
  z9:=Tryz.sizeOf9
  v9:=Tryz.zeroValue9
  t46:=Tryz.underlying47
  a46:=Tryz.isAgg47
  z46:=Tryz.sizeOf47
  v46:=Tryz.zeroValue47
  t51:=Tryz.underlying254
  a51:=Tryz.isAgg254
  z51:=Tryz.sizeOf254
  v51:=Tryz.zeroValue254
  t146:=Tryz.underlying271
  a146:=Tryz.isAgg271
  z146:=Tryz.sizeOf271
  v146:=Tryz.zeroValue271
  g1:=by kernel_rfl }
open Go.RowKit Go.Lib in
theorem Tryz.stringslite_Index(s sub:ByteArray)(m:Int)(w:World)(hs:s.size<4294967281)(hm:w.cell? ⟨0,0,none⟩=some (.int .i64 m)) :
    Calls prog 189 #[.string s,.string sub] w fun e w'=>e=.returned (.int .i64 (Lib.index s.data.toList sub.data.toList))/\w'=w:=Any.stringslite_Index Tryz.lays219 s sub m w hs hm
def Tryz.lays143_ren:Go.Shelf.Ren:=⟨fun | 143=>170 | 219=>189 | 217=>212 | 225=>213 | 224=>214 | 267=>215 | 266=>233 | 314=>234 | n=>n,fun | 9=>9 | 3=>3 | 4=>4 | 5=>5 | 46=>47 | 146=>271 | 51=>254 | n=>n,fun | 1=>0 | n=>n⟩
theorem Tryz.lays143:Go.Proofs.Lays.n143 prog Tryz.lays143_ren:={
  mixed:=by kernel_rfl
  f143:=Tryz.func170.trans (congrArg some (by kernel_rfl))
  f217:=Tryz.func212.trans (congrArg some (by kernel_rfl))
  f219:=Tryz.func189.trans (congrArg some (by kernel_rfl))
  f224:=Tryz.func214.trans (congrArg some (by kernel_rfl))
  f225:=Tryz.func213.trans (congrArg some (by kernel_rfl))
  f266:=Tryz.func233.trans (congrArg some (by kernel_rfl))
  f267:=Tryz.func215.trans (congrArg some (by kernel_rfl))
  f314:=Tryz.func234.trans (congrArg some (by kernel_rfl))
  t3:=Tryz.underlying3
  a3:=Tryz.isAgg3
  z3:=Tryz.sizeOf3
  v3:=Tryz.zeroValue3
  t4:=Tryz.underlying4
  a4:=Tryz.isAgg4
  z4:=Tryz.sizeOf4
  v4:=Tryz.zeroValue4
  t5:=Tryz.underlying5
  a5:=Tryz.isAgg5
  z5:=Tryz.sizeOf5
  v5:=Tryz.zeroValue5
  t9:=Tryz.underlying9
  a9:=Tryz.isAgg9
  z9:=Tryz.sizeOf9
  v9:=Tryz.zeroValue9
  t46:=Tryz.underlying47
  a46:=Tryz.isAgg47
  z46:=Tryz.sizeOf47
  v46:=Tryz.zeroValue47
  t51:=Tryz.underlying254
  a51:=Tryz.isAgg254
  z51:=Tryz.sizeOf254
  v51:=Tryz.zeroValue254
  t146:=Tryz.underlying271
  a146:=Tryz.isAgg271
  z146:=Tryz.sizeOf271
  v146:=Tryz.zeroValue271
  g1:=by kernel_rfl }
open Go.RowKit Go.Lib in
theorem Tryz.strings_Index_one(s:ByteArray)(c:UInt8)(w:World) :
    Calls prog 170 #[.string s,.string ⟨#[c]⟩] w fun e w'=>e=.returned (.int .i64 (Lib.indexByte s.data.toList c))/\w'=w:=Any.strings_Index_one Tryz.lays143 s c w
open Go.RowKit Go.Lib in
theorem Tryz.strings_Index(s sub:ByteArray)(m:Int)(w:World)(hs:s.size<4294967281)(hm:w.cell? ⟨0,0,none⟩=some (.int .i64 m)) :
    Calls prog 170 #[.string s,.string sub] w fun e w'=>e=.returned (.int .i64 (Lib.index s.data.toList sub.data.toList))/\w'=w:=Any.strings_Index Tryz.lays143 s sub m w hs hm
def Tryz.lays144_ren:Go.Shelf.Ren:=⟨fun | 144=>183 | 143=>170 | 219=>189 | 217=>212 | 225=>213 | 224=>214 | 267=>215 | 266=>233 | 314=>234 | n=>n,fun | 9=>9 | 4=>4 | 3=>3 | 5=>5 | 46=>47 | 146=>271 | 51=>254 | n=>n,fun | 1=>0 | n=>n⟩
theorem Tryz.lays144:Go.Proofs.Lays.n144 prog Tryz.lays144_ren:={
  mixed:=by kernel_rfl
  f143:=Tryz.func170.trans (congrArg some (by kernel_rfl))
  f144:=Tryz.func183.trans (congrArg some (by kernel_rfl))
  f217:=Tryz.func212.trans (congrArg some (by kernel_rfl))
  f219:=Tryz.func189.trans (congrArg some (by kernel_rfl))
  f224:=Tryz.func214.trans (congrArg some (by kernel_rfl))
  f225:=Tryz.func213.trans (congrArg some (by kernel_rfl))
  f266:=Tryz.func233.trans (congrArg some (by kernel_rfl))
  f267:=Tryz.func215.trans (congrArg some (by kernel_rfl))
  f314:=Tryz.func234.trans (congrArg some (by kernel_rfl))
  t3:=Tryz.underlying3
  a3:=Tryz.isAgg3
  z3:=Tryz.sizeOf3
  v3:=Tryz.zeroValue3
  t4:=Tryz.underlying4
  a4:=Tryz.isAgg4
  z4:=Tryz.sizeOf4
  v4:=Tryz.zeroValue4
  t5:=Tryz.underlying5
  a5:=Tryz.isAgg5
  z5:=Tryz.sizeOf5
  v5:=Tryz.zeroValue5
  t9:=Tryz.underlying9
  a9:=Tryz.isAgg9
  z9:=Tryz.sizeOf9
  v9:=Tryz.zeroValue9
  t46:=Tryz.underlying47
  a46:=Tryz.isAgg47
  z46:=Tryz.sizeOf47
  v46:=Tryz.zeroValue47
  t51:=Tryz.underlying254
  a51:=Tryz.isAgg254
  z51:=Tryz.sizeOf254
  v51:=Tryz.zeroValue254
  t146:=Tryz.underlying271
  a146:=Tryz.isAgg271
  z146:=Tryz.sizeOf271
  v146:=Tryz.zeroValue271
  g1:=by kernel_rfl }
open Go.RowKit Go.Lib in
theorem Tryz.strings_Contains_one(s:ByteArray)(c:UInt8)(w:World) :
    Calls prog 183 #[.string s,.string ⟨#[c]⟩] w fun e w'=>e=.returned (.bool (decide (0<=Lib.indexByte s.data.toList c)))/\w'=w:=Any.strings_Contains_one Tryz.lays144 s c w
def Tryz.lays138_ren:Go.Shelf.Ren:=⟨fun | 138=>121 | 195=>168 | 218=>169 | 143=>170 | 219=>189 | 217=>212 | 225=>213 | 224=>214 | 267=>215 | 266=>233 | 314=>234 | n=>n,fun | 9=>9 | 3=>3 | 4=>4 | 5=>5 | 0=>0 | 46=>47 | 146=>271 | 51=>254 | n=>n,fun | 1=>0 | n=>n⟩
theorem Tryz.lays138:Go.Proofs.Lays.n138 prog Tryz.lays138_ren:={
  mixed:=by kernel_rfl
  f138:=Tryz.func121.trans (congrArg some (by kernel_rfl))
  f143:=Tryz.func170.trans (congrArg some (by kernel_rfl))
  f195:=Tryz.func168.trans (congrArg some (by kernel_rfl))
  f217:=Tryz.func212.trans (congrArg some (by kernel_rfl))
  f218:=Tryz.func169.trans (congrArg some (by kernel_rfl))
  f219:=Tryz.func189.trans (congrArg some (by kernel_rfl))
  f224:=Tryz.func214.trans (congrArg some (by kernel_rfl))
  f225:=Tryz.func213.trans (congrArg some (by kernel_rfl))
  f266:=Tryz.func233.trans (congrArg some (by kernel_rfl))
  f267:=Tryz.func215.trans (congrArg some (by kernel_rfl))
  f314:=Tryz.func234.trans (congrArg some (by kernel_rfl))
  t0:=Tryz.underlying0
  a0:=Tryz.isAgg0
  z0:=Tryz.sizeOf0
  v0:=Tryz.zeroValue0
  t3:=Tryz.underlying3
  a3:=Tryz.isAgg3
  z3:=Tryz.sizeOf3
  v3:=Tryz.zeroValue3
  t4:=Tryz.underlying4
  a4:=Tryz.isAgg4
  z4:=Tryz.sizeOf4
  v4:=Tryz.zeroValue4
  t5:=Tryz.underlying5
  a5:=Tryz.isAgg5
  z5:=Tryz.sizeOf5
  v5:=Tryz.zeroValue5
  t9:=Tryz.underlying9
  a9:=Tryz.isAgg9
  z9:=Tryz.sizeOf9
  v9:=Tryz.zeroValue9
  t46:=Tryz.underlying47
  a46:=Tryz.isAgg47
  z46:=Tryz.sizeOf47
  v46:=Tryz.zeroValue47
  t51:=Tryz.underlying254
  a51:=Tryz.isAgg254
  z51:=Tryz.sizeOf254
  v51:=Tryz.zeroValue254
  t146:=Tryz.underlying271
  a146:=Tryz.isAgg271
  z146:=Tryz.sizeOf271
  v146:=Tryz.zeroValue271
  g1:=by kernel_rfl }
open Go.RowKit Go.Lib in
theorem Tryz.strings_Count_one(s:ByteArray)(c:UInt8)(w:World) :
    Calls prog 121 #[.string s,.string ⟨#[c]⟩] w fun e w'=>e=.returned (.int .i64 (Lib.countByte s.data.toList c))/\w'=w:=Any.strings_Count_one Tryz.lays138 s c w
def Tryz.laysM143_ren:Go.Shelf.Ren:=⟨fun | 143=>170 | 219=>189 | 217=>212 | 225=>213 | 224=>214 | 267=>215 | 266=>233 | 314=>234 | n=>n,fun | 9=>9 | 3=>3 | 4=>4 | 5=>5 | 46=>47 | 146=>271 | 51=>254 | n=>n,fun | 1=>0 | n=>n⟩
theorem Tryz.laysM143:Go.Proofs.LaysM.n143 prog Tryz.laysM143_ren:={
  mixed:=by kernel_rfl
  f143:=Tryz.func170.trans (congrArg some (by kernel_rfl))
  f217:=Tryz.func212.trans (congrArg some (by kernel_rfl))
  f219:=Tryz.func189.trans (congrArg some (by kernel_rfl))
  f224:=Tryz.func214.trans (congrArg some (by kernel_rfl))
  f225:=Tryz.func213.trans (congrArg some (by kernel_rfl))
  f266:=Tryz.func233.trans (congrArg some (by kernel_rfl))
  f267:=Tryz.func215.trans (congrArg some (by kernel_rfl))
  f314:=Tryz.func234.trans (congrArg some (by kernel_rfl))
  t3:=Tryz.underlying3
  a3:=Tryz.isAgg3
  z3:=Tryz.sizeOf3
  v3:=Tryz.zeroValue3
  t4:=Tryz.underlying4
  a4:=Tryz.isAgg4
  z4:=Tryz.sizeOf4
  v4:=Tryz.zeroValue4
  t5:=Tryz.underlying5
  a5:=Tryz.isAgg5
  z5:=Tryz.sizeOf5
  v5:=Tryz.zeroValue5
  t9:=Tryz.underlying9
  a9:=Tryz.isAgg9
  z9:=Tryz.sizeOf9
  v9:=Tryz.zeroValue9
  t46:=Tryz.underlying47
  a46:=Tryz.isAgg47
  z46:=Tryz.sizeOf47
  v46:=Tryz.zeroValue47
  t51:=Tryz.underlying254
  a51:=Tryz.isAgg254
  z51:=Tryz.sizeOf254
  v51:=Tryz.zeroValue254
  t146:=Tryz.underlying271
  a146:=Tryz.isAgg271
  z146:=Tryz.sizeOf271
  v146:=Tryz.zeroValue271
  g1:=by kernel_rfl
  i3:=by kernel_rfl
  i4:=by kernel_rfl
  i5:=by kernel_rfl
  i9:=by kernel_rfl
  i46:=by kernel_rfl
  i51:=by kernel_rfl
  i146:=by kernel_rfl
  m1:=by kernel_rfl
  s1_3:=fun w h=>Go.Proofs.cell_of_shapedOpen_int (zero:=#[.int .i64 0]) (t:=3) h (of_decide_eq_true (by kernel_rfl)) (by kernel_rfl) rfl (by kernel_rfl) (by kernel_rfl) Tryz.underlying3 }
def Tryz.lays100_ren:Go.Shelf.Ren:=⟨fun | 100=>171 | 207=>175 | n=>n,fun | 9=>9 | 4=>4 | 3=>3 | n=>n,fun | n=>n⟩
theorem Tryz.lays100:Go.Proofs.Lays.n100 prog Tryz.lays100_ren:={
  mixed:=by kernel_rfl
  f100:=Tryz.func171.trans (congrArg some (by kernel_rfl))
  f207:=Tryz.func175.trans (congrArg some (by kernel_rfl))
  t3:=Tryz.underlying3
  a3:=Tryz.isAgg3
  z3:=Tryz.sizeOf3
  v3:=Tryz.zeroValue3
  t4:=Tryz.underlying4
  a4:=Tryz.isAgg4
  z4:=Tryz.sizeOf4
  v4:=Tryz.zeroValue4
  t9:=Tryz.underlying9
  a9:=Tryz.isAgg9
  z9:=Tryz.sizeOf9
  v9:=Tryz.zeroValue9 }
open Go.RowKit Go.Lib in
theorem Tryz.strings_HasSuffix(s p:ByteArray)(w:World)(hs:s.size<=9223372036854775807) :
    Calls prog 171 #[.string s,.string p] w fun e w'=>e=.returned (.bool (Lib.hasSuffix s.data.toList p.data.toList))/\w'=w:=Any.strings_HasSuffix Tryz.lays100 s p w hs
def Tryz.lays102_ren:Go.Shelf.Ren:=⟨fun | 102=>89 | 209=>136 | 207=>175 | n=>n,fun | 9=>9 | 4=>4 | 3=>3 | n=>n,fun | n=>n⟩
theorem Tryz.lays102:Go.Proofs.Lays.n102 prog Tryz.lays102_ren:={
  mixed:=by kernel_rfl
  f102:=Tryz.func89.trans (congrArg some (by kernel_rfl))
  f207:=Tryz.func175.trans (congrArg some (by kernel_rfl))
  f209:=Tryz.func136.trans (congrArg some (by kernel_rfl))
  t3:=Tryz.underlying3
  a3:=Tryz.isAgg3
  z3:=Tryz.sizeOf3
  v3:=Tryz.zeroValue3
  t4:=Tryz.underlying4
  a4:=Tryz.isAgg4
  z4:=Tryz.sizeOf4
  v4:=Tryz.zeroValue4
  t9:=Tryz.underlying9
  a9:=Tryz.isAgg9
  z9:=Tryz.sizeOf9
  v9:=Tryz.zeroValue9 }
open Go.RowKit Go.Lib in
theorem Tryz.strings_TrimSuffix(s p:ByteArray)(w:World)(hs:s.size<=9223372036854775807) :
    Calls prog 89 #[.string s,.string p] w fun e w'=>e=.returned (.string ⟨(Lib.trimSuffix s.data.toList p.data.toList).toArray⟩)/\w'=w:=Any.strings_TrimSuffix Tryz.lays102 s p w hs
end Go.Proofs
