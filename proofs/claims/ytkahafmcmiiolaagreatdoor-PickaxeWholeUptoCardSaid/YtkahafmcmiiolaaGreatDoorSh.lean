/- Contracts of the library's functions at this seat, laid by the kit's tool, in plain words. -/
import Derived.Shelf.Small.Strs
import Derived.Shelf.Strconv.Itoa0
import Derived.Shelf.Strings.Search1
import Derived.Shelf.Strings.Search2
import Derived.Shelf.Strings.Search3
import Derived.Shelf.Strings.Cut
import Derived.Shelf.Strings.Count
import Derived.Shelf.LaysM
import Derived.Shelf.Strings.Shaped
import Derived.Shelf.Strings.Prefix
import Derived.Shelf.Unicode.DecodeSlow
import Derived.Test.YtkahafmcmiiolaaGreatDoorChecked
set_option linter.unusedSimpArgs false
namespace Go.Proofs
open Go.Shelf
def Tryz.lays106_ren:Go.Shelf.Ren:=⟨fun | 106=>123 | 213=>146 | 265=>171 | n=>n,fun | 9=>9 | 3=>3 | n=>n,fun | n=>n⟩
theorem Tryz.lays106:Go.Proofs.Lays.n106 Tryz.prog Tryz.lays106_ren:={
  mixed:=by kernel_rfl
  f106:=Tryz.func123.trans (congrArg some (by kernel_rfl))
  f213:=Tryz.func146.trans (congrArg some (by kernel_rfl))
  f265:=Tryz.func171.trans (congrArg some (by kernel_rfl))
  t3:=Tryz.underlying3
  a3:=Tryz.isAgg3
  z3:=Tryz.sizeOf3
  v3:=Tryz.zeroValue3
  t9:=Tryz.underlying9
  a9:=Tryz.isAgg9
  z9:=Tryz.sizeOf9
  v9:=Tryz.zeroValue9 }
open Go.RowKit in
theorem Tryz.strings_Compare (a b:ByteArray) (w:World) :
    Calls Tryz.prog 123 #[.string a,.string b] w fun e w'=>e=.returned (.int .i64 (Lib.compareBytes a.data.toList b.data.toList))∧w'=w:=Any.strings_Compare Tryz.lays106 a b w
def Tryz.lays137_ren:Go.Shelf.Ren:=⟨fun | 137=>172 | 217=>157 | 266=>181 | n=>n,fun | 9=>9 | 5=>5 | 3=>3 | n=>n,fun | n=>n⟩
theorem Tryz.lays137:Go.Proofs.Lays.n137 Tryz.prog Tryz.lays137_ren:={
  mixed:=by kernel_rfl
  f137:=Tryz.func172.trans (congrArg some (by kernel_rfl))
  f217:=Tryz.func157.trans (congrArg some (by kernel_rfl))
  f266:=Tryz.func181.trans (congrArg some (by kernel_rfl))
  t3:=Tryz.underlying3
  a3:=Tryz.isAgg3
  z3:=Tryz.sizeOf3
  v3:=Tryz.zeroValue3
  t5:=Tryz.underlying5
  a5:=Tryz.isAgg5
  z5:=Tryz.sizeOf5
  v5:=Tryz.zeroValue5
  t9:=Tryz.underlying9
  a9:=Tryz.isAgg9
  z9:=Tryz.sizeOf9
  v9:=Tryz.zeroValue9 }
open Go.RowKit in
theorem Tryz.strings_IndexByte (s:ByteArray) (c:Int) (w:World) :
    Calls Tryz.prog 172 #[.string s,.int .u8 c] w fun e w'=>e=.returned (.int .i64 (Lib.indexByte s.data.toList c.toNat.toUInt8))∧w'=w:=Any.strings_IndexByte Tryz.lays137 s c w
def Tryz.lays129_ren:Go.Shelf.Ren:=⟨fun | 129=>170 | n=>n,fun | 53=>69 | 3=>3 | 4=>4 | 46=>53 | 5=>5 | 9=>9 | n=>n,fun | n=>n⟩
theorem Tryz.lays129:Go.Proofs.Lays.n129 Tryz.prog Tryz.lays129_ren:={
  mixed:=by kernel_rfl
  f129:=Tryz.func170.trans (congrArg some (by kernel_rfl))
  t3:=Tryz.underlying3
  a3:=Tryz.isAgg3
  z3:=Tryz.sizeOf3
  v3:=Tryz.zeroValue3
  t4:=Tryz.underlying4
  a4:=Tryz.isAgg4
  z4:=Tryz.sizeOf4
  v4:=Tryz.zeroValue4
  t5:=Tryz.underlying5
  a5:=Tryz.isAgg5
  z5:=Tryz.sizeOf5
  v5:=Tryz.zeroValue5
  t9:=Tryz.underlying9
  a9:=Tryz.isAgg9
  z9:=Tryz.sizeOf9
  v9:=Tryz.zeroValue9
  t46:=Tryz.underlying53
  a46:=Tryz.isAgg53
  z46:=Tryz.sizeOf53
  v46:=Tryz.zeroValue53
  t53:=Tryz.underlying69
  a53:=Tryz.isAgg69
  z53:=Tryz.sizeOf69
  v53:=Tryz.zeroValue69 }
theorem Tryz.bits_Len64 (x:Int) (w:World) (h0:0≤x) (h1:x≤18446744073709551615) :
    Calls Tryz.prog 170 #[.int .u64 x] w fun e w'=>e=.returned (.int .i64 (Lib.bitLen x.toNat))∧w'=w:=Any.bits_Len64 Tryz.lays129 x w h0 h1
def Tryz.lays143_ren:Go.Shelf.Ren:=⟨fun | 143=>118 | 219=>143 | 217=>157 | 225=>158 | 224=>159 | 267=>160 | 266=>181 | 314=>182 | n=>n,fun | 9=>9 | 3=>3 | 4=>4 | 5=>5 | 46=>53 | 146=>232 | 51=>227 | n=>n,fun | 1=>0 | n=>n⟩
theorem Tryz.lays143:Go.Proofs.Lays.n143 Tryz.prog Tryz.lays143_ren:={
  mixed:=by kernel_rfl
  f143:=Tryz.func118.trans (congrArg some (by kernel_rfl))
  f217:=Tryz.func157.trans (congrArg some (by kernel_rfl))
  f219:=Tryz.func143.trans (congrArg some (by kernel_rfl))
  f224:=Tryz.func159.trans (congrArg some (by kernel_rfl))
  f225:=Tryz.func158.trans (congrArg some (by kernel_rfl))
  f266:=Tryz.func181.trans (congrArg some (by kernel_rfl))
  f267:=Tryz.func160.trans (congrArg some (by kernel_rfl))
  f314:=Tryz.func182.trans (congrArg some (by kernel_rfl))
  t3:=Tryz.underlying3
  a3:=Tryz.isAgg3
  z3:=Tryz.sizeOf3
  v3:=Tryz.zeroValue3
  t4:=Tryz.underlying4
  a4:=Tryz.isAgg4
  z4:=Tryz.sizeOf4
  v4:=Tryz.zeroValue4
  t5:=Tryz.underlying5
  a5:=Tryz.isAgg5
  z5:=Tryz.sizeOf5
  v5:=Tryz.zeroValue5
  t9:=Tryz.underlying9
  a9:=Tryz.isAgg9
  z9:=Tryz.sizeOf9
  v9:=Tryz.zeroValue9
  t46:=Tryz.underlying53
  a46:=Tryz.isAgg53
  z46:=Tryz.sizeOf53
  v46:=Tryz.zeroValue53
  t51:=Tryz.underlying227
  a51:=Tryz.isAgg227
  z51:=Tryz.sizeOf227
  v51:=Tryz.zeroValue227
  t146:=Tryz.underlying232
  a146:=Tryz.isAgg232
  z146:=Tryz.sizeOf232
  v146:=Tryz.zeroValue232
  g1:=by kernel_rfl }
open Go.RowKit Go.Lib in
theorem Tryz.strings_Index_one (s:ByteArray) (c:UInt8) (w:World) :
    Calls Tryz.prog 118 #[.string s,.string ⟨#[c]⟩] w fun e w'=>e=.returned (.int .i64 (Lib.indexByte s.data.toList c))∧w'=w:=Any.strings_Index_one Tryz.lays143 s c w
open Go.RowKit Go.Lib in
theorem Tryz.strings_Index (s sub:ByteArray) (m:Int) (w:World) (hs:s.size < 4294967281) (hm:w.cell? ⟨0,0,none⟩=some (.int .i64 m)) :
    Calls Tryz.prog 118 #[.string s,.string sub] w fun e w'=>e=.returned (.int .i64 (Lib.index s.data.toList sub.data.toList))∧w'=w:=Any.strings_Index Tryz.lays143 s sub m w hs hm
def Tryz.lays144_ren:Go.Shelf.Ren:=⟨fun | 144=>153 | 143=>118 | 219=>143 | 217=>157 | 225=>158 | 224=>159 | 267=>160 | 266=>181 | 314=>182 | n=>n,fun | 9=>9 | 4=>4 | 3=>3 | 5=>5 | 46=>53 | 146=>232 | 51=>227 | n=>n,fun | 1=>0 | n=>n⟩
theorem Tryz.lays144:Go.Proofs.Lays.n144 Tryz.prog Tryz.lays144_ren:={
  mixed:=by kernel_rfl
  f143:=Tryz.func118.trans (congrArg some (by kernel_rfl))
  f144:=Tryz.func153.trans (congrArg some (by kernel_rfl))
  f217:=Tryz.func157.trans (congrArg some (by kernel_rfl))
  f219:=Tryz.func143.trans (congrArg some (by kernel_rfl))
  f224:=Tryz.func159.trans (congrArg some (by kernel_rfl))
  f225:=Tryz.func158.trans (congrArg some (by kernel_rfl))
  f266:=Tryz.func181.trans (congrArg some (by kernel_rfl))
  f267:=Tryz.func160.trans (congrArg some (by kernel_rfl))
  f314:=Tryz.func182.trans (congrArg some (by kernel_rfl))
  t3:=Tryz.underlying3
  a3:=Tryz.isAgg3
  z3:=Tryz.sizeOf3
  v3:=Tryz.zeroValue3
  t4:=Tryz.underlying4
  a4:=Tryz.isAgg4
  z4:=Tryz.sizeOf4
  v4:=Tryz.zeroValue4
  t5:=Tryz.underlying5
  a5:=Tryz.isAgg5
  z5:=Tryz.sizeOf5
  v5:=Tryz.zeroValue5
  t9:=Tryz.underlying9
  a9:=Tryz.isAgg9
  z9:=Tryz.sizeOf9
  v9:=Tryz.zeroValue9
  t46:=Tryz.underlying53
  a46:=Tryz.isAgg53
  z46:=Tryz.sizeOf53
  v46:=Tryz.zeroValue53
  t51:=Tryz.underlying227
  a51:=Tryz.isAgg227
  z51:=Tryz.sizeOf227
  v51:=Tryz.zeroValue227
  t146:=Tryz.underlying232
  a146:=Tryz.isAgg232
  z146:=Tryz.sizeOf232
  v146:=Tryz.zeroValue232
  g1:=by kernel_rfl }
open Go.RowKit Go.Lib in
theorem Tryz.strings_Contains_one (s:ByteArray) (c:UInt8) (w:World) :
    Calls Tryz.prog 153 #[.string s,.string ⟨#[c]⟩] w fun e w'=>e=.returned (.bool (decide (0≤Lib.indexByte s.data.toList c)))∧w'=w:=Any.strings_Contains_one Tryz.lays144 s c w
def Tryz.lays138_ren:Go.Shelf.Ren:=⟨fun | 138=>102 | 195=>136 | 218=>137 | 143=>118 | 219=>143 | 217=>157 | 225=>158 | 224=>159 | 267=>160 | 266=>181 | 314=>182 | n=>n,fun | 9=>9 | 3=>3 | 4=>4 | 5=>5 | 0=>0 | 46=>53 | 146=>232 | 51=>227 | n=>n,fun | 1=>0 | n=>n⟩
theorem Tryz.lays138:Go.Proofs.Lays.n138 Tryz.prog Tryz.lays138_ren:={
  mixed:=by kernel_rfl
  f138:=Tryz.func102.trans (congrArg some (by kernel_rfl))
  f143:=Tryz.func118.trans (congrArg some (by kernel_rfl))
  f195:=Tryz.func136.trans (congrArg some (by kernel_rfl))
  f217:=Tryz.func157.trans (congrArg some (by kernel_rfl))
  f218:=Tryz.func137.trans (congrArg some (by kernel_rfl))
  f219:=Tryz.func143.trans (congrArg some (by kernel_rfl))
  f224:=Tryz.func159.trans (congrArg some (by kernel_rfl))
  f225:=Tryz.func158.trans (congrArg some (by kernel_rfl))
  f266:=Tryz.func181.trans (congrArg some (by kernel_rfl))
  f267:=Tryz.func160.trans (congrArg some (by kernel_rfl))
  f314:=Tryz.func182.trans (congrArg some (by kernel_rfl))
  t0:=Tryz.underlying0
  a0:=Tryz.isAgg0
  z0:=Tryz.sizeOf0
  v0:=Tryz.zeroValue0
  t3:=Tryz.underlying3
  a3:=Tryz.isAgg3
  z3:=Tryz.sizeOf3
  v3:=Tryz.zeroValue3
  t4:=Tryz.underlying4
  a4:=Tryz.isAgg4
  z4:=Tryz.sizeOf4
  v4:=Tryz.zeroValue4
  t5:=Tryz.underlying5
  a5:=Tryz.isAgg5
  z5:=Tryz.sizeOf5
  v5:=Tryz.zeroValue5
  t9:=Tryz.underlying9
  a9:=Tryz.isAgg9
  z9:=Tryz.sizeOf9
  v9:=Tryz.zeroValue9
  t46:=Tryz.underlying53
  a46:=Tryz.isAgg53
  z46:=Tryz.sizeOf53
  v46:=Tryz.zeroValue53
  t51:=Tryz.underlying227
  a51:=Tryz.isAgg227
  z51:=Tryz.sizeOf227
  v51:=Tryz.zeroValue227
  t146:=Tryz.underlying232
  a146:=Tryz.isAgg232
  z146:=Tryz.sizeOf232
  v146:=Tryz.zeroValue232
  g1:=by kernel_rfl }
open Go.RowKit Go.Lib in
theorem Tryz.strings_Count_one (s:ByteArray) (c:UInt8) (w:World) :
    Calls Tryz.prog 102 #[.string s,.string ⟨#[c]⟩] w fun e w'=>e=.returned (.int .i64 (Lib.countByte s.data.toList c))∧w'=w:=Any.strings_Count_one Tryz.lays138 s c w
def Tryz.laysM143_ren:Go.Shelf.Ren:=⟨fun | 143=>118 | 219=>143 | 217=>157 | 225=>158 | 224=>159 | 267=>160 | 266=>181 | 314=>182 | n=>n,fun | 9=>9 | 3=>3 | 4=>4 | 5=>5 | 46=>53 | 146=>232 | 51=>227 | n=>n,fun | 1=>0 | n=>n⟩
theorem Tryz.laysM143:Go.Proofs.LaysM.n143 Tryz.prog Tryz.laysM143_ren:={
  mixed:=by kernel_rfl
  f143:=Tryz.func118.trans (congrArg some (by kernel_rfl))
  f217:=Tryz.func157.trans (congrArg some (by kernel_rfl))
  f219:=Tryz.func143.trans (congrArg some (by kernel_rfl))
  f224:=Tryz.func159.trans (congrArg some (by kernel_rfl))
  f225:=Tryz.func158.trans (congrArg some (by kernel_rfl))
  f266:=Tryz.func181.trans (congrArg some (by kernel_rfl))
  f267:=Tryz.func160.trans (congrArg some (by kernel_rfl))
  f314:=Tryz.func182.trans (congrArg some (by kernel_rfl))
  t3:=Tryz.underlying3
  a3:=Tryz.isAgg3
  z3:=Tryz.sizeOf3
  v3:=Tryz.zeroValue3
  t4:=Tryz.underlying4
  a4:=Tryz.isAgg4
  z4:=Tryz.sizeOf4
  v4:=Tryz.zeroValue4
  t5:=Tryz.underlying5
  a5:=Tryz.isAgg5
  z5:=Tryz.sizeOf5
  v5:=Tryz.zeroValue5
  t9:=Tryz.underlying9
  a9:=Tryz.isAgg9
  z9:=Tryz.sizeOf9
  v9:=Tryz.zeroValue9
  t46:=Tryz.underlying53
  a46:=Tryz.isAgg53
  z46:=Tryz.sizeOf53
  v46:=Tryz.zeroValue53
  t51:=Tryz.underlying227
  a51:=Tryz.isAgg227
  z51:=Tryz.sizeOf227
  v51:=Tryz.zeroValue227
  t146:=Tryz.underlying232
  a146:=Tryz.isAgg232
  z146:=Tryz.sizeOf232
  v146:=Tryz.zeroValue232
  g1:=by kernel_rfl
  i3:=by kernel_rfl
  i4:=by kernel_rfl
  i5:=by kernel_rfl
  i9:=by kernel_rfl
  i46:=by kernel_rfl
  i51:=by kernel_rfl
  i146:=by kernel_rfl
  m1:=by kernel_rfl
  s1_3:=fun w h=>Go.Proofs.cell_of_shapedOpen_int (zero:=#[.int .i64 0]) (t:=3) h (of_decide_eq_true (by kernel_rfl)) (by kernel_rfl) rfl (by kernel_rfl) (by kernel_rfl) Tryz.underlying3 }
def Tryz.lays100_ren:Go.Shelf.Ren:=⟨fun | 100=>138 | 207=>142 | n=>n,fun | 9=>9 | 4=>4 | 3=>3 | n=>n,fun | n=>n⟩
theorem Tryz.lays100:Go.Proofs.Lays.n100 Tryz.prog Tryz.lays100_ren:={
  mixed:=by kernel_rfl
  f100:=Tryz.func138.trans (congrArg some (by kernel_rfl))
  f207:=Tryz.func142.trans (congrArg some (by kernel_rfl))
  t3:=Tryz.underlying3
  a3:=Tryz.isAgg3
  z3:=Tryz.sizeOf3
  v3:=Tryz.zeroValue3
  t4:=Tryz.underlying4
  a4:=Tryz.isAgg4
  z4:=Tryz.sizeOf4
  v4:=Tryz.zeroValue4
  t9:=Tryz.underlying9
  a9:=Tryz.isAgg9
  z9:=Tryz.sizeOf9
  v9:=Tryz.zeroValue9 }
open Go.RowKit Go.Lib in
theorem Tryz.strings_HasSuffix (s p:ByteArray) (w:World) (hs:s.size≤9223372036854775807) :
    Calls Tryz.prog 138 #[.string s,.string p] w fun e w'=>e=.returned (.bool (Lib.hasSuffix s.data.toList p.data.toList))∧w'=w:=Any.strings_HasSuffix Tryz.lays100 s p w hs
def Tryz.lays102_ren:Go.Shelf.Ren:=⟨fun | 102=>80 | 209=>117 | 207=>142 | n=>n,fun | 9=>9 | 4=>4 | 3=>3 | n=>n,fun | n=>n⟩
theorem Tryz.lays102:Go.Proofs.Lays.n102 Tryz.prog Tryz.lays102_ren:={
  mixed:=by kernel_rfl
  f102:=Tryz.func80.trans (congrArg some (by kernel_rfl))
  f207:=Tryz.func142.trans (congrArg some (by kernel_rfl))
  f209:=Tryz.func117.trans (congrArg some (by kernel_rfl))
  t3:=Tryz.underlying3
  a3:=Tryz.isAgg3
  z3:=Tryz.sizeOf3
  v3:=Tryz.zeroValue3
  t4:=Tryz.underlying4
  a4:=Tryz.isAgg4
  z4:=Tryz.sizeOf4
  v4:=Tryz.zeroValue4
  t9:=Tryz.underlying9
  a9:=Tryz.isAgg9
  z9:=Tryz.sizeOf9
  v9:=Tryz.zeroValue9 }
open Go.RowKit Go.Lib in
theorem Tryz.strings_TrimSuffix (s p:ByteArray) (w:World) (hs:s.size≤9223372036854775807) :
    Calls Tryz.prog 80 #[.string s,.string p] w fun e w'=>e=.returned (.string ⟨(Lib.trimSuffix s.data.toList p.data.toList).toArray⟩)∧w'=w:=Any.strings_TrimSuffix Tryz.lays102 s p w hs
end Go.Proofs
