/- Walks of the program's functions. -/
import Derived.Test.YtbiadkkamhpdnaaGreatDoorFa
import Derived.Test.YtbiadkkamhpdnaaGreatDoorFs
import Derived.Lib.AppendIntMem
set_option linter.unusedSimpArgs false
namespace Go.Proofs.YtbiadkkamhpdnaaGreatDoor
open Go Go.AL
set_option maxRecDepth 100000
theorem H78 (c:UInt8):FnOk Tryz.prog 197 [pByte c] (fun rs=>rs=[N1 (C67 c)]):=by
 refine FnOk.intro Tryz.func197 (by decide) Z Z Z Z ?_
 refine k2 (A3 (A7 Z Z (A5 ?_)));refine k1 (k2 (A3 (A4 Z Z (A6 (B61 Z Z) Z (A4 Z Z (B2 Z Z Z Z (fun hg=>by rw [hg];exact C3 Z Z) ?_))))));refine B2 Z Z Z Z (fun hg=>by rw [hg];exact A39 Z Z) ?_;refine J5 Z Z ?_;refine A4 Z Z (B2 Z Z Z Z (fun hg=>by rw [hg];exact C3 Z Z) ?_);refine B2 Z Z Z Z (fun hg=>by rw [hg];exact O6 Z Z) ?_;refine J5 Z Z ?_;refine A4 Z Z (B2 Z Z Z Z (fun hg=>by rw [hg];exact C3 Z Z) ?_);refine B2 Z Z Z Z (fun hg=>by rw [hg];exact O6 Z Z) ?_;refine J5 Z Z ?_;refine A7 Z Z (A5 ?_);refine k1 (k10 (B9 (I5 Z Z Z) ?_))
 simp only [Q2]
 congr 4
 unfold C67
 congr 1
 simp;omega
end Go.Proofs.YtbiadkkamhpdnaaGreatDoor
namespace Go.Proofs.YtbiadkkamhpdnaaGreatDoor
open Go Go.AL Go.RowKit
set_option maxRecDepth 100000
theorem u8dig (q:Nat) (h:q < 8):IntKind.u8.wrap (48+(q:Int))=((UInt8.ofNat (48+q)).toNat:Int):=by
 rw [IntWalk.u8_in _ (by omega)]
 have:(UInt8.ofNat (48+q)).toNat=48+q:=by rw [UInt8.toNat_ofNat'];omega
 rw [this];simp
theorem H39 (x:Nat) (h:x < 256):IntKind.u8.wrap ((BitVec.ofInt IntKind.u8.bits (x:Int) &&& BitVec.ofInt IntKind.u8.bits 7).toNat:Int)=((x % 8:Nat):Int):=by
 have h1:(BitVec.ofInt IntKind.u8.bits (x:Int) &&& BitVec.ofInt IntKind.u8.bits 7).toNat=x % 8:=by
  rw [BitVec.toNat_and,BitVec.toNat_ofInt,BitVec.toNat_ofInt]
  have e1:((x:Int) % ((2 ^ IntKind.u8.bits:Nat):Int)).toNat=x:=by
   rw [show ((2 ^ IntKind.u8.bits:Nat):Int)=256 by rfl];omega
  have e2:((7:Int) % ((2 ^ IntKind.u8.bits:Nat):Int)).toNat=2 ^ 3 - 1:=by rfl
  rw [e1,e2,Nat.and_two_pow_sub_one_eq_mod]
 rw [h1,IntWalk.u8_in _ (by omega)]
theorem shr_u8 (x:Nat) (c:Nat) (h:c≤8):(x:Int).fdiv (2 ^ min (Int.toNat (c:Int)) IntKind.u8.bits)=((x / 2 ^ c:Nat):Int):=by
 rw [shr_eq _ _ IntKind.u8.bits ⟨by omega,by show (c:Int)≤8;omega⟩]
 simp
theorem G74 (c:UInt8):FnOk Tryz.prog 198 [pByte c] (fun rs=>rs=[P8 (A46 c)]):=by
 have hc:=c.toNat_lt
 refine FnOk.intro Tryz.func198 (by decide) Z Z Z Z ?_
 refine k2 (A3 (A7 Z Z (A5 ?_)));refine k1 (k2 (k3 (k2 (A3 (A4 Z Z (A6 (Q0 Z Z) Z (A4 Z Z (B2 Z Z Z Z (fun hg=>by rw [hg];exact C3 Z Z) ?_))))))));refine B2 Z Z Z Z (fun hg=>by rw [hg];exact Q0 Z Z) ?_;refine J5 Z Z ?_;refine A7 Z Z (A5 ?_);refine k1 ?_;refine B5 rfl (fun ht=>?_) (fun ht=>?_)
 ·have h:=A0 (or_pick.symm.trans ht)
  refine k2 (A3 (A4 Z Z (A6 (B63 Z (by omega)) Z (A6 (L0 Z Z (by simp)) Z (A7 Z Z (A5 ?_))))));refine k1 (k10 (k12 (k11 ?_)))
  exact B9 (I5 rfl rfl rfl) (by rw [A46,if_pos (by omega)];rfl)
 ·have h:=A1 (or_pick.symm.trans ht)
  refine k2 (A3 (A4 Z Z (A6 (Q0 Z Z) Z (A7 Z Z (A5 ?_)))));refine k1 ?_;refine B5 rfl (fun ht=>?_) (fun ht=>?_)
  ·have h1:=A0 ht
   refine k2 (A3 (A7 Z Z (A5 ?_)));refine k1 (k10 (k12 (k11 ?_)))
   exact B9 (I5 rfl rfl rfl) (by rw [A46,if_neg (by omega),if_pos (by omega)])
  ·have h1:=A1 ht
   refine k2 (A3 (A4 Z Z (A6 (Q0 Z Z) Z (A7 Z Z (A5 ?_)))));refine k1 ?_;refine B5 rfl (fun ht=>?_) (fun ht=>?_)
   ·have h2:=A0 ht
    refine k2 (A3 (A7 Z Z (A5 ?_)));refine k1 (k10 (k12 (k11 ?_)))
    exact B9 (I5 rfl rfl rfl) (by rw [A46,if_neg (by omega),if_neg (by omega),if_pos (by omega)])
   ·have h2:=A1 ht
    refine k2 (A3 (A4 Z Z (F4 Z Z Z (A4 Z Z (B2 Z Z Z Z (fun hg=>by rw [hg];exact C3 Z Z) ?_)))));refine B2 Z Z Z Z (fun hg=>by rw [hg];exact R0 Z Z) ?_;refine J5 Z Z ?_;refine A7 Z Z (A5 ?_);refine k1 ?_;refine B5 rfl (fun ht=>?_) (fun ht=>?_)
    ·have h3:=A0 (or_pick.symm.trans ht)
     refine k2 ?_
     have f6:(c.toNat:Int).fdiv (2 ^ min (Int.toNat 6) IntKind.u8.bits)=((c.toNat / 64:Nat):Int):=shr_u8 c.toNat 6 (by omega)
     have f3:(c.toNat:Int).fdiv (2 ^ min (Int.toNat 3) IntKind.u8.bits)=((c.toNat / 8:Nat):Int):=shr_u8 c.toNat 3 (by omega)
     have e1:=u8dig (c.toNat / 64) (by omega)
     have e2:=u8dig (c.toNat / 8 % 8) (by omega)
     have e3:=u8dig (c.toNat % 8) (by omega)
     have hol:=G24 c
     refine A3 (A4 Z Z (A6 (B60 Z Z (by omega)) Z (A6 (C02 Z Z) Z (A4 Z Z (A6 (B60 Z Z (by omega)) Z (A6 (Z4 Z Z Z (fun _=>rfl)) Z (A6 (C02 Z Z) Z (A4 Z Z (A6 (Z4 Z Z Z (fun _=>rfl)) Z (A6 (C02 Z Z) Z ?_))))))))));rw [f6,f3,H39 (c.toNat / 8) (by omega),H39 c.toNat (by omega),e1,e2,e3];refine A6 (C9 (c:=u8C) (ys:=[UInt8.ofNat (48+c.toNat / 64),UInt8.ofNat (48+c.toNat / 8 % 8),UInt8.ofNat (48+c.toNat % 8)]) (E0 Z Z Z Z (E0 Z Z Z Z (E0 Z Z Z Z G6))) Z Z Z) Z (A6 (y6 TyStr.out Z (.pure _ _ _ _)) Z (A6 (L0 Z Z (by simp)) Z (A7 Z Z (A5 ?_))));refine k1 (k10 (k12 (k11 ?_)))
     exact B9 (I5 rfl rfl rfl) (by rw [A46,if_neg (by omega),if_neg (by omega),if_neg (by omega),if_pos (by omega),hol];rfl)
    ·have h3:=A1 (or_pick.symm.trans ht)
     refine k5 (k2 (A3 (A4 Z Z (A6 (B63 Z (by omega)) Z (A7 Z Z (A5 ?_))))));refine k1 (k10 ?_)
     exact B9 (I5 rfl rfl rfl) (by rw [A46,if_neg (by omega),if_neg (by omega),if_neg (by omega),if_neg (by omega)])
theorem itoa_ok (n:Int) (h:0≤n∧n≤2147483647):FnOk Tryz.prog 205 [J0 n] (fun rs=>rs=[P8 (Lib.itoa n)]) :=
 I95 (xs:=[.int .i64 n]) (r:=.string ⟨(Lib.itoa n).toArray⟩) ⟨_,rfl,rfl,rfl⟩ rfl fun w hw =>
  (Tryz.strconv_Itoa n (by omega) (by omega) w (hw.pow10 rfl)).mono fun e w' ⟨he,k,os,hw'⟩=>⟨he,by subst hw';exact Lib.below_grow _ _ (Nat.le_refl _) _ _⟩
theorem n9 (n:Int):FnOk Tryz.prog 148 [J0 n] (fun rs=>rs=[P8 (A96 n)]):=by
 refine FnOk.intro Tryz.func148 (by decide) Z Z Z Z ?_
 refine k2 (A3 (A7 Z Z (A5 ?_)));refine k1 (k2 (k2 (A3 (A4 Z Z (F4 Z Z Z (A4 Z Z (B2 Z Z Z Z (fun hg=>by rw [hg];exact C3 Z Z) ?_)))))));refine B2 Z Z Z Z (fun hg=>by rw [hg];exact R0 Z Z) ?_;refine J5 Z Z ?_;refine A5 ?_;refine k1 ?_;refine B5 rfl (fun ht=>?_) (fun ht=>?_)
 ·have h:=A0 (or_pick.symm.trans ht)
  refine k2 (A3 (A7 Z Z (A5 ?_)));refine k1 (k10 (k11 ?_))
  exact B9 (I5 rfl rfl rfl) (by rw [A96,if_pos (by omega)])
 ·have h:=A1 (or_pick.symm.trans ht)
  refine k5 (k1 (k2 (A3 (A4 Z Z (C6 (itoa_ok n (by omega)) Z Z Z ?_)))));rintro _ rfl;refine A7 Z Z (A5 ?_);refine k1 (k10 ?_)
  exact B9 (I5 rfl rfl rfl) (by rw [A96,if_neg (by omega)])
theorem E72 (a n:Int) (ha:-4611686018427387904≤a∧a≤4611686018427387904) (hn:-4611686018427387904≤n∧n≤4611686018427387904):FnOk Tryz.prog 151 [J0 a,J0 n] (fun rs=>rs=[P8 (U9 a n)]):=by
 refine FnOk.intro Tryz.func151 (by decide) Z Z Z Z ?_
 refine k2 (A3 (A7 Z Z (A5 ?_)));refine k1 (k2 (k2 (A3 (A4 Z Z (F4 Z Z Z (A4 Z Z (B2 Z Z Z Z (fun hg=>by rw [hg];exact C3 Z Z) ?_)))))));refine B2 Z Z Z Z (fun hg=>by rw [hg];exact B02 Z Z) ?_;refine J5 Z Z ?_;refine A4 Z Z (B2 Z Z Z Z (fun hg=>by rw [hg];exact C3 Z Z) ?_);refine B2 Z Z Z Z (fun hg=>by rw [hg];exact R0 Z Z) ?_;refine J5 Z Z ?_;refine A4 Z Z (B2 Z Z Z Z (fun hg=>by rw [hg];exact C3 Z Z) ?_);refine B2 Z Z Z Z (fun hg=>by rw [hg];exact C3 Z Z) ?_;refine B2 Z Z Z Z (fun hg=>by rw [hg];exact U3 Z Z (by (first | omega | (simp at hq;omega)))) ?_;refine B2 Z Z Z Z (fun hg=>by rw [hg];exact R0 Z Z) ?_;refine J5 Z Z ?_;refine A5 ?_;refine k1 ?_
 have l1:=p9 a
 have l2:=p9 (a+1)
 have l3:=p9 n
 refine B5 rfl (fun ht=>?_) (fun ht=>?_)
 ·have h:=A0 ((by simp only [or_pick] at ht;exact ht):decide _=true)
  refine k2 (A3 (A7 Z Z (A5 ?_)));refine k1 (k10 (k11 ?_))
  exact B9 (I5 rfl rfl rfl) (by rw [U9,if_pos (by omega)])
 ·have h:=A1 ((by simp only [or_pick] at ht;exact ht):decide _=false)
  refine k5 (k1 (k2 (k2 (A3 (A4 Z Z (A5 ?_))))));refine k1 (k3 (k2 (A3 (A6 (Q0 Z Z) Z (A7 Z Z (A5 ?_))))));refine k1 ?_;refine B5 rfl (fun ht=>?_) (fun ht=>?_)
  ·have h0:=A0 ht
   refine k2 (A3 (A4 Z Z (C6 (n9 a) Z Z Z ?_)));rintro _ rfl;refine A6 (L0 Z Z (by simp;omega)) Z (A7 Z Z (A5 ?_));refine k1 (k10 (k12 (k11 ?_)))
   exact B9 (I5 rfl rfl rfl) (by rw [U9,if_neg (by omega),if_pos h0])
  ·have h0:=A1 ht
   refine k2 (A3 (A6 (Q0 Z Z) Z (A7 Z Z (A5 ?_))));refine k1 ?_;refine B5 rfl (fun ht=>?_) (fun ht=>?_)
   ·have h1:=A0 ht
    refine k2 (A3 (A4 Z Z (C5 Z Z Z (C6 (n9 (a+1)) Z Z Z ?_))));rintro _ rfl;refine A7 Z Z (A5 ?_);refine k1 (k10 (k12 (k11 ?_)))
    exact B9 (I5 rfl rfl rfl) (by rw [U9,if_neg (by omega),if_neg h0,if_pos h1])
   ·have h1:=A1 ht
    refine k5 (k2 (A3 (A4 Z Z (C5 Z Z Z (C6 (n9 (a+1)) Z Z Z ?_)))));rintro _ rfl;refine A6 (L0 Z Z (by simp;omega)) Z (A4 Z Z (C6 (n9 n) Z Z Z ?_));rintro _ rfl;refine A6 (L0 Z Z (by simp;omega)) Z (A7 Z Z (A5 ?_));refine k1 (k10 ?_)
    exact B9 (I5 rfl rfl rfl) (by rw [U9,if_neg (by omega),if_neg h0,if_neg h1])
theorem A34 (B b:Nat) (l:List UInt8) (w:World) (h:Lib.IsBuilder 124 5 B b (Lib.byteCells l) w) (hBw:B≤w.heap.size) :
  Calls Tryz.prog 89 #[.pointer (some ⟨b,0,none⟩)] w fun e w'=>e=.returned (.string ⟨l.toArray⟩)∧Below B w w':=Tryz.Builder_String_any B b l w h hBw
theorem E73 (s:Str) (hs:s.length≤16777216):FnOk Tryz.prog 134 [P8 s] (fun rs=>rs=[P8 (j8 s)]):=by
 refine FnOk.intro Tryz.func134 (by decide) Z Z Z Z ?_
 refine k2 (A3 (A7 Z Z (A5 ?_)));refine k1 (k2 (A3 (A4 Z Z (A6 (D24 Z Z) Z (A7 Z Z (A5 ?_))))));refine k1 (k2 (k2 (A3 (A4 Z Z (A6 (Q3 Z) Z (A4 Z Z (A5 ?_)))))));refine k1 (k3 ?_);refine D2 (X:=Nat) (fun i=>([(0,X0 s),(3,I9 (.bool (plains s i))),(10,B6 s.length),(11,B6 i)],[])) (fun i=>i≤s.length) (fun i=>s.length - i) 0 (Nat.zero_le _) ?_ ?_
 ·rw [G25]
  exact I81 ⟨le1 rfl,le1 rfl,le1 rfl,le1 rfl,trivial⟩ trivial
 intro i hi
 dsimp only at hi ⊢
 refine k2 (A3 (F4 Z Z Z (A5 ?_)));refine k1 (k2 ?_);refine B5 rfl (fun ht=>?_) (fun ht=>?_)
 ·have hlt:i < s.length:=by have:=A0 ht;omega
  have hv:s[i]?=some s[i]:=by simp [hlt]
  obtain ⟨c,hc⟩:∃c,c=s[i]:=⟨_,rfl⟩
  have h2:=G26 s i hlt
  rw [←hc] at hv h2
  refine k5 (k1 (k2 (k3 (k2 (A3 (A4 Z Z (A7 Z Z (A5 ?_))))))));refine k1 (A3 (A4 Z Z (A4 Z Z (B2 Z Z Z Z (fun hg=>by rw [hg];exact C3 Z Z) ?_))));refine B2 Z Z Z Z (fun hg=>by rw [hg];exact C3 Z Z) ?_;refine B2 Z Z Z Z (fun hg=>by have hq:=hg;(try simp at hq);rw [hg];exact B40 Z Z (by omega) hv) ?_;refine B2 Z Z Z Z (fun hg=>by have hq:=hg;(try simp at hq);rw [hg];exact O4 (H78 c) Z Z) ?_;refine J5 Z Z ?_;refine A7 Z Z (A5 ?_);refine k4 (k1 (A3 (C5 Z Z Z (A4 Z Z (A5 ?_)))));refine k1 ?_;refine ⟨i+1,hlt,by omega,?_⟩
  rw [show (if plains s i=true then C67 c else false)=plains s (i+1) from by rw [h2];cases plains s i<;>rfl]
  exact I81 ⟨le1 rfl,le1 rfl,le1 rfl,le1 rfl,trivial⟩ trivial
 have hi':i=s.length:=by have:=A1 ht;omega
 subst hi'
 refine k6 (k2 (k2 (A3 (A4 Z Z (A5 ?_)))));refine k1 ?_;refine B5 rfl (fun ht=>?_) (fun ht=>?_)
 ·have h:plains s s.length=true:=ht
  refine k2 (A3 (A4 Z Z (A7 Z Z (A5 ?_))));refine k1 (k10 (k11 ?_))
  exact B9 (I5 rfl rfl rfl) (by rw [D81,if_pos h])
 have h:plains s s.length=false:=ht
 have hq:j8 s=(34::escs s s.length)++[34]:=by rw [D81,h];rfl
 refine k5 (k1 (k2 (A3 (C2 (D39 700 Z) Z (A5 ?_)))));refine k1 (k2 (H5 (I94 701 UInt8 1 u8C 5 (kb:=700) (o:=1) Z Z Z) ?_))
 refine A3 (A15 (B71 (xs:=[]) (c:=34) ⟨⟨_,.inl rfl,rfl⟩,rfl⟩ (by simp)) Z Z Z ?_);rintro _ _ ⟨rfl,rfl⟩;refine A5 ?_;refine k1 (k2 (k2 (A3 (A4 Z Z (A6 (Q3 Z) Z (A4 Z Z (A5 ?_)))))));refine k1 (k3 (D2 (X:=Nat) (fun i=>([(0,X0 s),(5,.s (.one (.ref 700 0))),(26,B6 s.length),(27,B6 i)],[(700,.tbx 124 [.ref 700 0,.buf 701 UInt8 1 u8C (34::escs s i)]),(701,.spare (34::escs s i).length 1 5)])) (fun i=>i≤s.length) (fun i=>s.length - i) 0 (Nat.zero_le _) (I81 ⟨le1 rfl,le1 rfl,le1 rfl,le1 rfl,trivial⟩ ⟨rfl,rfl,trivial⟩) ?_))
 intro i hi
 dsimp only at hi ⊢
 have hel:=I58 s i hi
 refine k2 (A3 (F4 Z Z Z (A5 ?_)));refine k1 (k2 ?_);refine B5 rfl (fun ht=>?_) (fun ht=>?_)
 ·have hlt:i < s.length:=by have:=A0 ht;omega
  have hv:s[i]?=some s[i]:=by simp [hlt]
  obtain ⟨c,hc⟩:∃c,c=s[i]:=⟨_,rfl⟩
  have h1:=I09 s i hlt
  have h2:=E81 c
  rw [←hc] at hv h1
  refine k5 (k1 (k2 (k3 (k2 (A3 (A4 Z Z (A7 Z Z (A5 ?_))))))));refine k1 (A3 (A4 Z Z (A4 Z Z (A6 (B40 Z Z (by omega) hv) Z (C6 (G74 c) Z Z Z ?_)))));rintro _ rfl;refine A15 (P9 (xs:=34::escs s i) (s:=A46 c) ⟨⟨_,.inr rfl,rfl⟩,rfl⟩ (by simp only [J16];omega)) Z Z Z ?_;rintro _ _ ⟨rfl,rfl⟩;refine A5 ?_;refine k4 (k1 (A3 (C5 Z Z Z (A4 Z Z (A5 ?_)))));refine k1 ?_;refine ⟨i+1,hlt,by omega,?_⟩
  rw [h1]
  exact I81 ⟨le1 rfl,le1 rfl,le1 rfl,le1 rfl,trivial⟩ ⟨rfl,rfl,trivial⟩
 have hi':i=s.length:=by have:=A1 ht;omega
 subst hi'
 refine k6 (k2 (A3 (A15 (B71 (xs:=34::escs s s.length) (c:=34) ⟨⟨_,.inr rfl,rfl⟩,rfl⟩ (by simp only [J16];omega)) Z Z Z ?_)));rintro _ _ ⟨rfl,rfl⟩;refine A5 ?_;refine k1 (k2 (A3 (C58 (k:=700) (k':=701) ⟨_,rfl,rfl,rfl⟩ A34 Z Z Z Z Z (.inr Z) Z (A7 Z Z (A5 ?_)))));refine k1 (k10 ?_)
 exact B9 (I5 rfl rfl rfl) (by rw [hq])
theorem E74 (s:Str) (c:UInt8):FnOk Tryz.prog 216 [P8 s,P8 [c]] (fun rs=>rs=[J0 (s.count c)]) :=
 I87 (xs:=[.string ⟨s.toArray⟩,.string ⟨#[c]⟩]) ⟨_,rfl,rfl,rfl⟩ rfl fun w=>by simpa [Lib.countByte] using Tryz.strings_Count_one ⟨s.toArray⟩ c w
theorem H79 (s:Str) (c:UInt8):FnOk Tryz.prog 246 [P8 s,P8 [c]] (fun rs=>rs=[J0 (Lib.indexByte s c)]) :=
 I87 (xs:=[.string ⟨s.toArray⟩,.string ⟨#[c]⟩]) ⟨_,rfl,rfl,rfl⟩ rfl fun w=>by simpa using Tryz.strings_Index_one ⟨s.toArray⟩ c w
theorem F92 (s:Str) (hs:s.length≤536870912):FnOk Tryz.prog 217 [P8 s,P8 [10],J0 1,J0 (-1)] (fun rs=>rs=[A12 (Q7 s)]):=by
 have hP:=X3 s []
 have hc:s.count 10≤s.length:=List.count_le_length
 have h10:([10]:Str).length=1:=rfl
 obtain ⟨P,hPe⟩:∃P,P=Q7 s:=⟨_,rfl⟩
 have hPl:P.length=s.count 10+1:=by rw [hPe];exact hP
 refine FnOk.intro Tryz.func217 (by decide) Z Z Z Z ?_
 refine k2 (A3 (A7 Z Z (A5 ?_)));refine k1 (k2 (k2 (A3 (A4 Z Z (A6 (Q0 Z Z) Z (A5 ?_))))));refine k1 ?_;refine B5 rfl (fun ht=>?_) (fun ht=>?_)
 ·exact absurd (A0 ht) (by omega)
 refine k5 (k1 (k2 (k2 (A3 (A4 Z Z (A6 (D23 Z Z) Z (A5 ?_)))))));refine k1 ?_;refine B5 rfl (fun ht=>?_) (fun ht=>?_)
 ·exact absurd (A0 ht) (by simp)
 refine k5 (k1 (k2 (k2 (A3 (A4 Z Z (F4 Z Z Z (A5 ?_)))))));refine k1 ?_;refine B5 rfl (fun ht=>?_) (fun ht=>?_)
 rotate_left
 ·exact absurd (A1 ht) (by omega)
 skip
 refine A3 (A4 Z Z (A4 Z Z (C6 (E74 s 10) Z Z Z ?_)));rintro _ rfl;refine C5 Z Z Z (A7 Z Z (A5 ?_));refine k1 (k2 (A3 (A4 Z Z (A4 Z Z (A6 (Q3 Z) Z (C5 Z Z Z (A6 (F69 Z Z) Z (A7 Z Z (A5 ?_)))))))));refine k1 (k2 ?_)
 rw [show (if (s.length:Int)+1 < (s.count 10:Int)+1 then (s.length:Int)+1 else (s.count 10:Int)+1)=(P.length:Int) from by split<;>omega]
 refine A3 (A4 Z Z (C2 (W2 9 Str M6 [] Z Z (by omega) (by omega) (fun _=>by first | exact ⟨⟨rfl,rfl⟩,trivial⟩ | exact ⟨N3 _ _ _,trivial⟩) (by first | rfl | (simp [H6,I4,Ob.free,SV.free,S1.free,TC.free]<;>rfl))) Z ?_));refine A7 Z Z (A5 ?_);refine k1 (k2 (A3 (A4 Z Z (A6 (U3 Z Z (by omega)) Z (A7 Z Z (A5 ?_))))));refine k1 (k2 (A3 (A7 Z Z (A5 ?_))));refine k1 (k2 (k3 (D2 (X:=Nat × Str) (fun x=>([(0,X0 x.2),(1,X0 [10]),(2,B6 1),(3,B6 ((P.length:Int) - 1)),(9,.s (.one (.mut 9))),(10,B6 x.1)],[(9,.arr Str 1 M6 (P.take x.1++List.replicate (P.length - x.1) []))])) (fun x=>x.1+1≤P.length∧P.drop x.1=Q7 x.2∧x.2.length≤s.length) (fun x=>P.length - x.1) (0,s) ⟨by dsimp only;omega,hPe,Nat.le_refl _⟩ (I81 ⟨le1 rfl,le1 rfl,le1 rfl,le1 rfl,le1 rfl,le1 rfl,trivial⟩ ⟨rfl,trivial⟩) ?_)))
 rintro ⟨i,r⟩ ⟨hi,hp,hr⟩
 dsimp only at hi hp hr ⊢
 refine k2 (k2 (A3 (A4 Z Z (A4 Z Z (F4 Z Z Z (A5 ?_))))));refine k1 ?_;refine B5 rfl (fun ht=>?_) (fun ht=>?_)
 ·have hlt:i+1 < P.length:=by have:=A0 ht;omega
  have hin:(10:UInt8)∈r:=by
   have h1:=X3 r []
   have h2:(P.drop i).length=r.count 10+1:=by rw [hp];exact h1
   rw [J31] at h2
   exact List.count_pos_iff.1 (by omega)
  rcases w8 10 r with ⟨h1,_⟩ | ⟨a,b,h1,h2,h3⟩
  ·exact absurd hin h1
  obtain ⟨h4,h5⟩:=H03 hp h1 h2
  have hl:r.length=a.length+1+b.length:=by rw [h1];simp;omega
  refine k5 (k1 (k3 (k2 (A3 (A4 Z Z (A4 Z Z (C6 (H79 r 10) Z Z Z ?_)))))));rintro _ rfl;refine A7 Z Z (A5 ?_);refine k1 (k2 (k2 (A3 (A4 Z Z (F4 Z Z Z (A5 ?_))))));refine k1 ?_
  rw [h3]
  refine B5 rfl (fun ht=>?_) (fun ht=>?_)
  ·exact absurd (A0 ht) (by omega)
  refine k5 (k1 (k2 (A3 (A4 Z Z (A4 Z Z (A4 Z Z (A4 Z Z (A4 Z Z (C5 Z Z Z (A6 (H29 Z Z (by omega) (by omega)) Z (A6 (E2 Z Z Z (by omega) (by (simp;omega))) Z (G1 (H0 TySz.out Z Z (by simp;omega) Z Z) (A5 ?_)))))))))))));refine k1 (k2 (A3 (A4 Z Z (A4 Z Z (A4 Z Z (A6 (Q3 Z) Z (C5 Z Z Z (A6 (n_sub_l Z Z (by omega) (by omega)) Z (A7 Z Z (A5 ?_))))))))));refine k1 (A3 (A4 Z Z (C5 Z Z Z (A7 Z Z (A5 ?_)))));refine k4 (k1 ?_)
  have e1:r.take (((a.length:Int)+1).toNat)=a++[10]:=by rw [h1,show ((a.length:Int)+1).toNat=a.length+1 by omega,show a++10::b=(a++[10])++b by simp,List.take_left' (by simp)]
  have e2:r.drop (((a.length:Int)+(([10]:Str).length:Int)).toNat)=b:=by rw [h1,h10,show ((a.length:Int)+((1:Nat):Int)).toNat=a.length+1 by omega,show a++10::b=(a++[10])++b by simp,List.drop_left' (by simp)]
  refine ⟨(i+1,b),⟨by dsimp only;omega,h5,by dsimp only;omega⟩,by dsimp only;omega,?_⟩
  rw [e1,e2]
  dsimp only
  rw [←E82 P [] _ i h4]
  exact I81 ⟨le1 rfl,le1 rfl,le1 rfl,le1 rfl,le1 rfl,le1 rfl,trivial⟩ ⟨rfl,trivial⟩
 ·have hge:i+1=P.length:=by have:=A1 ht;omega
  have h1:=X3 r []
  have h2:(P.drop i).length=r.count 10+1:=by rw [hp];exact h1
  rw [J31] at h2
  have h3:(10:UInt8)∉r:=List.count_eq_zero.1 (by omega)
  have h4:P[i]?=some r:=by rw [←List.head?_drop,hp];unfold Q7;rw [E46 _ _ h3];rfl
  refine k6 (k2 (A3 (A4 Z Z (A4 Z Z (A4 Z Z (A6 (E2 Z Z Z (by omega) (by (simp;omega))) Z (G1 (H0 TySz.out Z Z (by simp;omega) Z Z) (A5 ?_))))))));refine k1 (k2 ?_)
  have e:(P.take i++List.replicate (P.length - i) ([]:Str)).set (i:Int).toNat r=P:=by rw [J21,E82 P [] r i h4,hge];simp
  rw [e]
  refine H5 (Sees.freeze (k:=9) Z) ?_
  refine A3 (A4 Z Z (A4 Z Z (C5 Z Z Z (A6 (E51 Z (.pure _ _ _ _) Z (by omega) (by omega)) Z (A7 Z Z (A5 ?_))))));refine k1 (k10 ?_)
  exact B9 (I5 rfl rfl rfl) (by rw [show ((i:Int)+1).toNat=P.length by omega,J32,hPe])
theorem E35 (s:Str) (hs:s.length≤536870912):FnOk Tryz.prog 174 [P8 s,P8 [10]] (fun rs=>rs=[A12 (Q7 s)]):=by
 refine FnOk.intro Tryz.func174 (by decide) Z Z Z Z ?_
 refine k2 (A3 (A7 Z Z (A5 ?_)));refine k1 (k2 (A3 (A4 Z Z (A4 Z Z (A4 Z Z (A6 (Q3 Z) Z (C6 (F92 s hs) Z Z Z ?_)))))));rintro _ rfl;refine A7 Z Z (A5 ?_);refine k1 (k10 ?_)
 exact B9 (I5 rfl rfl rfl) rfl
theorem H80 (s:Str) (hs:s.length≤536870912):FnOk Tryz.prog 173 [P8 s] (fun rs=>rs=[J0 (X8 s)]):=by
 have hl:=E47 s
 have hc:s.count 10≤s.length:=List.count_le_length
 refine FnOk.intro Tryz.func173 (by decide) Z Z Z Z ?_
 refine k2 (A3 (A7 Z Z (A5 ?_)));refine k1 (k2 (A3 (A4 Z Z (C6 (E74 s 10) Z Z Z ?_))));rintro _ rfl;refine A7 Z Z (A5 ?_);refine K4 ?_
 refine z6 [(0,X0 s),(3,B6 (B8 s).length)] [] ?_ ?_
 ·refine k2 (A3 (A4 Z Z (A6 (D24 Z Z) Z (A4 Z Z (B2 Z Z Z Z (fun hg=>by rw [hg];exact C3 Z Z) ?_)))));refine B2 Z Z Z Z (fun hg=>by have hq:=hg;(try simp at hq);rw [hg];exact O4 (B46 s (by omega)) Z Z) ?_;refine B2 Z Z Z Z (fun hg=>by rw [hg];exact M3 Z) ?_;refine J5 Z Z ?_;refine A5 ?_;refine k1 ?_;refine B5 rfl (fun ht=>?_) (fun ht=>?_)
  ·have h:s≠[]∧ended s=false:=by
    by_cases h1:s=[]
    ·simp [h1] at ht
    ·refine ⟨h1,?_⟩;simpa [h1] using ht
   rw [if_pos h] at hl
   skip
   refine A3 (A4 Z Z (C5 Z Z Z (A7 Z Z (A5 ?_))));refine k1 ?_
   rw [hl,Int.natCast_add]
   exact I81 ⟨le1 rfl,le1 rfl,trivial⟩ trivial
  ·have h:¬(s≠[]∧ended s=false):=by
    rintro ⟨h1,h2⟩
    simp [h1,h2] at ht
   rw [if_neg h] at hl
   refine k5 (k1 ?_)
   rw [hl]
   exact I81 ⟨le1 rfl,le1 rfl,trivial⟩ trivial
 ·refine k2 (k2 (A3 (A4 Z Z (A6 (Q3 Z) Z (A6 (R0 Z Z) Z (A4 Z Z (B2 Z Z Z Z (fun hg=>by rw [hg];exact C3 Z Z) ?_)))))));refine B2 Z Z Z Z (fun hg=>by rw [hg];exact R0 Z Z) ?_;refine J5 Z Z ?_;refine A5 ?_;refine k1 ?_;refine B5 rfl (fun ht=>?_) (fun ht=>?_)
  ·have h:=A0 (or_pick.symm.trans ht)
   refine k2 (A3 (A7 Z Z (A5 ?_)));refine k1 (k10 (k11 ?_))
   exact B9 (I5 rfl rfl rfl) (by rw [X8,if_pos (by omega)])
  ·have h:=A1 (or_pick.symm.trans ht)
   refine k5 (k1 (k2 (A3 (A7 Z Z (A5 ?_)))));refine k1 (k10 ?_)
   exact B9 (I5 rfl rfl rfl) (by rw [X8,if_neg (by omega)])
theorem H81 (s:Str) (hs:s.length≤536870912):FnOk Tryz.prog 107 [P8 s] (fun rs=>rs=[A12 (B50 s).1,J0 (B50 s).2]):=by
 have hp:B8 s=if (Q7 s).getLastD []=[] then (Q7 s).dropLast else Q7 s:=G27 s []
 have hc:(Q7 s).length=s.count 10+1:=X3 s []
 have hcl:s.count 10≤s.length:=List.count_le_length
 refine FnOk.intro Tryz.func107 (by decide) Z Z Z Z ?_
 refine k2 (A3 (A7 Z Z (A7 Z Z (A5 ?_))));refine k1 (k2 (k2 (A3 (A4 Z Z (C6 (H80 s hs) Z Z Z ?_)))));rintro _ rfl;refine A7 Z Z (A5 ?_);refine k1 (k2 (A3 (A4 Z Z (A6 (O6 Z Z) Z (A5 ?_)))));refine k1 ?_;refine B5 rfl (fun ht=>?_) (fun ht=>?_)
 ·have h:X8 s≠0:=by simpa using ht
  have h1:s.length > 1048576∨(B8 s).length > 4096:=by
   by_cases h1:s.length > 1048576∨(B8 s).length > 4096
   ·exact h1
   ·exact absurd (by rw [X8,if_neg h1]) h
  refine k2 (A3 (A4 Z Z (A6 (M5 _ 1 M6) Z (A7 Z Z (A5 ?_)))));refine k1 (k10 (k11 ?_))
  exact B9 (y7 rfl rfl rfl rfl rfl) (by rw [B50,if_pos h1,X8,if_pos h1])
 ·have h:X8 s=0:=by simpa using ht
  have h1:¬(s.length > 1048576∨(B8 s).length > 4096):=fun h1=>by rw [X8,if_pos h1] at h;omega
  have hv:(Q7 s)[(Q7 s).length - 1]?=some ((Q7 s).getLastD []):=by
   rw [←List.getLast?_eq_getElem?,List.getLast?_eq_some_getLast (fun e=>by rw [e] at hc;simp at hc)]
   rw [List.getLastD_eq_getLast?,List.getLast?_eq_some_getLast (fun e=>by rw [e] at hc;simp at hc)];rfl
  have hi:(((Q7 s).length:Int) - 1).toNat=(Q7 s).length - 1:=by omega
  refine k5 (k1 (k2 (A3 (A4 Z Z (C6 (E35 s hs) Z Z Z ?_)))));rintro _ rfl;refine A7 Z Z (A5 ?_);refine K4 ?_
  refine z6 [(5,C0 Str 1 M6 (B8 s))] [] ?_ ?_
  ·refine k2 (A3 (A4 Z Z (A4 Z Z (E4 Z Z (A6 (U3 Z Z (by omega)) Z (A6 (A9 Z (.pure _ _ _ _) Z (by omega) (by rw [hi];exact hv)) Z ?_))))));refine A6 (B3 Z Z) Z (A6 (D23 Z Z) Z (A5 ?_));refine k1 ?_;refine B5 rfl (fun ht=>?_) (fun ht=>?_)
   ·have h2:=A0 ht
    skip
    refine A3 (A4 Z Z (A4 Z Z (E4 Z Z (A6 (U3 Z Z (by omega)) Z (A6 (E51 Z (.pure _ _ _ _) Z (by omega) (by omega)) Z (A7 Z Z (A5 ?_)))))));refine k1 ?_
    rw [hp,if_pos h2,List.dropLast_eq_take,←hi]
    exact I81 ⟨le1 rfl,trivial⟩ trivial
   ·have h2:=A1 ht
    refine k5 (k1 ?_)
    rw [hp,if_neg h2]
    exact I81 ⟨le1 rfl,trivial⟩ trivial
  ·refine k2 (A3 (A4 Z Z (A7 Z Z (A7 Z Z (A5 ?_)))));refine k1 (k10 ?_)
   exact B9 (y7 rfl rfl rfl rfl rfl) (by rw [B50,if_neg h1])
end Go.Proofs.YtbiadkkamhpdnaaGreatDoor
namespace Go.Proofs.YtbiadkkamhpdnaaGreatDoor
open Go Go.AL
set_option maxRecDepth 100000
end Go.Proofs.YtbiadkkamhpdnaaGreatDoor
namespace Go.Proofs.YtbiadkkamhpdnaaGreatDoor
open Go Go.AL
set_option maxRecDepth 100000
set_option maxHeartbeats 1000000
end Go.Proofs.YtbiadkkamhpdnaaGreatDoor
namespace Go.Proofs.YtbiadkkamhpdnaaGreatDoor
open Go Go.AL
set_option maxRecDepth 100000
end Go.Proofs.YtbiadkkamhpdnaaGreatDoor
namespace Go.Proofs.YtbiadkkamhpdnaaGreatDoor
open Go Go.AL
set_option maxRecDepth 100000
end Go.Proofs.YtbiadkkamhpdnaaGreatDoor
