/- Walks of the program's functions. -/
import Derived.Test.YtbiadkkamhpdnaaGreatDoorFa
import Derived.Test.YtbiadkkamhpdnaaGreatDoorFs
import Derived.Lib.AppendIntMem
set_option linter.unusedSimpArgs false
namespace Go.Proofs.YtbiadkkamhpdnaaGreatDoor
open Go Go.AL
set_option maxRecDepth 100000
theorem I59 (c:UInt8):FnOk Tryz.prog 197 [pByte c] (fun rs=>rs=[O9 (D32 c)]):=by
 refine FnOk.intro Tryz.func197 (by decide) Z Z Z Z ?_
 refine k2 ?_
 refine A4 (A3 (A6 Z Z) Z (A7 ?_))
 refine k1 (k2 ?_)
 refine A4 (A3 (A5 Z Z) Z (A3 (A88 Z Z) Z (A3 (A5 Z Z) Z (B1 Z Z Z Z (fun hg=>by rw [hg];exact A5 Z Z) ?_))));refine B1 Z Z Z Z (fun hg=>by rw [hg];exact A57 Z Z) ?_;refine A3 (B5 Z (fun h=>by first | rfl | (rw [h];rfl)) (fun h=>by first | rfl | (rw [h];rfl))) Z ?_;refine A3 (A5 Z Z) Z (B1 Z Z Z Z (fun hg=>by rw [hg];exact A5 Z Z) ?_);refine B1 Z Z Z Z (fun hg=>by rw [hg];exact K2 Z Z) ?_;refine A3 (B5 Z (fun h=>by first | rfl | (rw [h];rfl)) (fun h=>by first | rfl | (rw [h];rfl))) Z ?_;refine A3 (A5 Z Z) Z (B1 Z Z Z Z (fun hg=>by rw [hg];exact A5 Z Z) ?_);refine B1 Z Z Z Z (fun hg=>by rw [hg];exact K2 Z Z) ?_;refine A3 (B5 Z (fun h=>by first | rfl | (rw [h];rfl)) (fun h=>by first | rfl | (rw [h];rfl))) Z ?_;refine A3 (A6 Z Z) Z (A7 ?_)
 refine k1 (k10 ?_)
 refine B7 (H6 Z Z Z) ?_
 simp only [L8]
 congr 4
 unfold D32
 congr 1
 simp;omega
end Go.Proofs.YtbiadkkamhpdnaaGreatDoor
namespace Go.Proofs.YtbiadkkamhpdnaaGreatDoor
open Go Go.AL Go.RowKit
set_option maxRecDepth 100000
theorem u8dig (q:Nat) (h:q < 8):IntKind.u8.wrap (48+(q:Int))=((UInt8.ofNat (48+q)).toNat:Int):=by
 rw [IntWalk.u8_in _ (by omega)]
 have:(UInt8.ofNat (48+q)).toNat=48+q:=by rw [UInt8.toNat_ofNat'];omega
 rw [this];simp
theorem I29 (x:Nat) (h:x < 256):IntKind.u8.wrap ((BitVec.ofInt IntKind.u8.bits (x:Int) &&& BitVec.ofInt IntKind.u8.bits 7).toNat:Int)=((x % 8:Nat):Int):=by
 have h1:(BitVec.ofInt IntKind.u8.bits (x:Int) &&& BitVec.ofInt IntKind.u8.bits 7).toNat=x % 8:=by
  rw [BitVec.toNat_and,BitVec.toNat_ofInt,BitVec.toNat_ofInt]
  have e1:((x:Int) % ((2 ^ IntKind.u8.bits:Nat):Int)).toNat=x:=by
   rw [show ((2 ^ IntKind.u8.bits:Nat):Int)=256 by rfl];omega
  have e2:((7:Int) % ((2 ^ IntKind.u8.bits:Nat):Int)).toNat=2 ^ 3 - 1:=by rfl
  rw [e1,e2,Nat.and_two_pow_sub_one_eq_mod]
 rw [h1,IntWalk.u8_in _ (by omega)]
theorem shr_u8 (x:Nat) (c:Nat) (h:c≤8):(x:Int).fdiv (2 ^ min (Int.toNat (c:Int)) IntKind.u8.bits)=((x / 2 ^ c:Nat):Int):=by
 rw [shr_eq _ _ IntKind.u8.bits ⟨by omega,by show (c:Int)≤8;omega⟩]
 simp
theorem H63 (c:UInt8):FnOk Tryz.prog 198 [pByte c] (fun rs=>rs=[M9 (A99 c)]):=by
 have hc:=c.toNat_lt
 refine FnOk.intro Tryz.func198 (by decide) Z Z Z Z ?_
 refine k2 ?_
 refine A4 (A3 (A6 Z Z) Z (A7 ?_))
 refine k1 (k2 (k3 (k2 ?_)))
 refine A4 (A3 (A5 Z Z) Z (A3 (Q0 Z Z) Z (A3 (A5 Z Z) Z (B1 Z Z Z Z (fun hg=>by rw [hg];exact A5 Z Z) ?_))));refine B1 Z Z Z Z (fun hg=>by rw [hg];exact Q0 Z Z) ?_;refine A3 (B5 Z (fun h=>by first | rfl | (rw [h];rfl)) (fun h=>by first | rfl | (rw [h];rfl))) Z ?_;refine A3 (A6 Z Z) Z (A7 ?_)
 refine k1 ?_
 refine B6 rfl (fun ht=>?_) (fun ht=>?_)
 ·have h:=A0 (or_pick.symm.trans ht)
  refine k2 ?_
  refine A4 (A3 (A5 Z Z) Z (A3 (C17 Z (by omega)) Z (A3 (I5 Z Z (by simp)) Z (A3 (A6 Z Z) Z (A7 ?_)))))
  refine k1 (k10 (k12 (k11 ?_)))
  exact B7 (H6 rfl rfl rfl) (by rw [A99,if_pos (by omega)];rfl)
 ·have h:=A1 (or_pick.symm.trans ht)
  refine k2 ?_
  refine A4 (A3 (A5 Z Z) Z (A3 (Q0 Z Z) Z (A3 (A6 Z Z) Z (A7 ?_))))
  refine k1 ?_
  refine B6 rfl (fun ht=>?_) (fun ht=>?_)
  ·have h1:=A0 ht
   refine k2 ?_
   refine A4 (A3 (A6 Z Z) Z (A7 ?_))
   refine k1 (k10 (k12 (k11 ?_)))
   exact B7 (H6 rfl rfl rfl) (by rw [A99,if_neg (by omega),if_pos (by omega)])
  ·have h1:=A1 ht
   refine k2 ?_
   refine A4 (A3 (A5 Z Z) Z (A3 (Q0 Z Z) Z (A3 (A6 Z Z) Z (A7 ?_))))
   refine k1 ?_
   refine B6 rfl (fun ht=>?_) (fun ht=>?_)
   ·have h2:=A0 ht
    refine k2 ?_
    refine A4 (A3 (A6 Z Z) Z (A7 ?_))
    refine k1 (k10 (k12 (k11 ?_)))
    exact B7 (H6 rfl rfl rfl) (by rw [A99,if_neg (by omega),if_neg (by omega),if_pos (by omega)])
   ·have h2:=A1 ht
    refine k2 ?_
    refine A4 (A3 (A5 Z Z) Z (A3 (F0 Z Z) Z (A3 (A5 Z Z) Z (B1 Z Z Z Z (fun hg=>by rw [hg];exact A5 Z Z) ?_))));refine B1 Z Z Z Z (fun hg=>by rw [hg];exact R5 Z Z) ?_;refine A3 (B5 Z (fun h=>by first | rfl | (rw [h];rfl)) (fun h=>by first | rfl | (rw [h];rfl))) Z ?_;refine A3 (A6 Z Z) Z (A7 ?_)
    refine k1 ?_
    refine B6 rfl (fun ht=>?_) (fun ht=>?_)
    ·have h3:=A0 (or_pick.symm.trans ht)
     refine k2 ?_
     have f6:(c.toNat:Int).fdiv (2 ^ min (Int.toNat 6) IntKind.u8.bits)=((c.toNat / 64:Nat):Int):=shr_u8 c.toNat 6 (by omega)
     have f3:(c.toNat:Int).fdiv (2 ^ min (Int.toNat 3) IntKind.u8.bits)=((c.toNat / 8:Nat):Int):=shr_u8 c.toNat 3 (by omega)
     have e1:=u8dig (c.toNat / 64) (by omega)
     have e2:=u8dig (c.toNat / 8 % 8) (by omega)
     have e3:=u8dig (c.toNat % 8) (by omega)
     have hol:=H06 c
     refine A4 (A3 (A5 Z Z) Z (A3 (D48 Z Z (by omega)) Z (A3 (C57 Z Z) Z (A3 (A5 Z Z) Z (A3 (D48 Z Z (by omega)) Z (A3 (A75 Z Z Z (fun _=>rfl)) Z (A3 (C57 Z Z) Z (A3 (A5 Z Z) Z (A3 (A75 Z Z Z (fun _=>rfl)) Z (A3 (C57 Z Z) Z ?_))))))))));rw [f6,f3,I29 (c.toNat / 8) (by omega),I29 c.toNat (by omega),e1,e2,e3];refine A3 (E6 (c:=u8C) (ys:=[UInt8.ofNat (48+c.toNat / 64),UInt8.ofNat (48+c.toNat / 8 % 8),UInt8.ofNat (48+c.toNat % 8)]) (F3 Z Z Z Z (F3 Z Z Z Z (F3 Z Z Z Z I6))) Z Z Z) Z (A3 (E10 TyStr.out Z (.pure _ _ _ _)) Z (A3 (I5 Z Z (by simp)) Z (A3 (A6 Z Z) Z (A7 ?_))))
     refine k1 (k10 (k12 (k11 ?_)))
     exact B7 (H6 rfl rfl rfl) (by rw [A99,if_neg (by omega),if_neg (by omega),if_neg (by omega),if_pos (by omega),hol];rfl)
    ·have h3:=A1 (or_pick.symm.trans ht)
     refine k5 (k2 ?_)
     refine A4 (A3 (A5 Z Z) Z (A3 (C17 Z (by omega)) Z (A3 (A6 Z Z) Z (A7 ?_))))
     refine k1 (k10 ?_)
     exact B7 (H6 rfl rfl rfl) (by rw [A99,if_neg (by omega),if_neg (by omega),if_neg (by omega),if_neg (by omega)])
theorem itoa_ok (n:Int) (h:0≤n∧n≤2147483647):FnOk Tryz.prog 205 [G5 n] (fun rs=>rs=[M9 (Lib.itoa n)]) :=
 J83 (xs:=[.int .i64 n]) (r:=.string ⟨(Lib.itoa n).toArray⟩) ⟨_,rfl,rfl,rfl⟩ rfl fun w hw =>
  (Tryz.strconv_Itoa n (by omega) (by omega) w (hw.pow10 rfl)).mono fun e w' ⟨he,k,os,hw'⟩=>⟨he,by subst hw';exact Lib.below_grow _ _ (Nat.le_refl _) _ _⟩
theorem x9 (n:Int):FnOk Tryz.prog 148 [G5 n] (fun rs=>rs=[M9 (B44 n)]):=by
 refine FnOk.intro Tryz.func148 (by decide) Z Z Z Z ?_
 refine k2 ?_
 refine A4 (A3 (A6 Z Z) Z (A7 ?_))
 refine k1 (k2 (k2 ?_))
 refine A4 (A3 (A5 Z Z) Z (A3 (F0 Z Z) Z (A3 (A5 Z Z) Z (B1 Z Z Z Z (fun hg=>by rw [hg];exact A5 Z Z) ?_))));refine B1 Z Z Z Z (fun hg=>by rw [hg];exact R5 Z Z) ?_;refine A3 (B5 Z (fun h=>by first | rfl | (rw [h];rfl)) (fun h=>by first | rfl | (rw [h];rfl))) Z ?_;refine A7 ?_
 refine k1 ?_
 refine B6 rfl (fun ht=>?_) (fun ht=>?_)
 ·have h:=A0 (or_pick.symm.trans ht)
  refine k2 ?_
  refine A4 (A3 (A6 Z Z) Z (A7 ?_))
  refine k1 (k10 (k11 ?_))
  exact B7 (H6 rfl rfl rfl) (by rw [B44,if_pos (by omega)])
 ·have h:=A1 (or_pick.symm.trans ht)
  refine k5 (k1 (k2 ?_))
  refine A4 (A3 (A5 Z Z) Z (C9 (itoa_ok n (by omega)) Z Z Z ?_));rintro _ rfl;refine A3 (A6 Z Z) Z (A7 ?_)
  refine k1 (k10 ?_)
  exact B7 (H6 rfl rfl rfl) (by rw [B44,if_neg (by omega)])
theorem C01 (a n:Int) (ha:-4611686018427387904≤a∧a≤4611686018427387904) (hn:-4611686018427387904≤n∧n≤4611686018427387904):FnOk Tryz.prog 151 [G5 a,G5 n] (fun rs=>rs=[M9 (V9 a n)]):=by
 refine FnOk.intro Tryz.func151 (by decide) Z Z Z Z ?_
 refine k2 ?_
 refine A4 (A3 (A6 Z Z) Z (A7 ?_))
 refine k1 (k2 (k2 ?_))
 refine A4 (A3 (A5 Z Z) Z (A3 (F0 Z Z) Z (A3 (A5 Z Z) Z (B1 Z Z Z Z (fun hg=>by rw [hg];exact A5 Z Z) ?_))));refine B1 Z Z Z Z (fun hg=>by rw [hg];exact F0 Z Z) ?_;refine A3 (B5 Z (fun h=>by first | rfl | (rw [h];rfl)) (fun h=>by first | rfl | (rw [h];rfl))) Z ?_;refine A3 (A5 Z Z) Z (B1 Z Z Z Z (fun hg=>by rw [hg];exact A5 Z Z) ?_);refine B1 Z Z Z Z (fun hg=>by rw [hg];exact R5 Z Z) ?_;refine A3 (B5 Z (fun h=>by first | rfl | (rw [h];rfl)) (fun h=>by first | rfl | (rw [h];rfl))) Z ?_;refine A3 (A5 Z Z) Z (B1 Z Z Z Z (fun hg=>by rw [hg];exact A5 Z Z) ?_);refine B1 Z Z Z Z (fun hg=>by rw [hg];exact A5 Z Z) ?_;refine B1 Z Z Z Z (fun hg=>by rw [hg];exact N5 Z Z (by (first | omega | (simp at hq;omega)))) ?_;refine B1 Z Z Z Z (fun hg=>by rw [hg];exact R5 Z Z) ?_;refine A3 (B5 Z (fun h=>by first | rfl | (rw [h];rfl)) (fun h=>by first | rfl | (rw [h];rfl))) Z ?_;refine A7 ?_
 refine k1 ?_
 have l1:=y5 a
 have l2:=y5 (a+1)
 have l3:=y5 n
 refine B6 rfl (fun ht=>?_) (fun ht=>?_)
 ·have h:=A0 ((by simp only [or_pick] at ht;exact ht):decide _=true)
  refine k2 ?_
  refine A4 (A3 (A6 Z Z) Z (A7 ?_))
  refine k1 (k10 (k11 ?_))
  exact B7 (H6 rfl rfl rfl) (by rw [V9,if_pos (by omega)])
 ·have h:=A1 ((by simp only [or_pick] at ht;exact ht):decide _=false)
  refine k5 (k1 (k2 (k2 ?_)))
  refine A4 (A3 (A5 Z Z) Z (A7 ?_))
  refine k1 (k3 (k2 ?_))
  refine A4 (A3 (Q0 Z Z) Z (A3 (A6 Z Z) Z (A7 ?_)))
  refine k1 ?_
  refine B6 rfl (fun ht=>?_) (fun ht=>?_)
  ·have h0:=A0 ht
   refine k2 ?_
   refine A4 (A3 (A5 Z Z) Z (C9 (x9 a) Z Z Z ?_));rintro _ rfl;refine A3 (I5 Z Z (by simp;omega)) Z (A3 (A6 Z Z) Z (A7 ?_))
   refine k1 (k10 (k12 (k11 ?_)))
   exact B7 (H6 rfl rfl rfl) (by rw [V9,if_neg (by omega),if_pos h0])
  ·have h0:=A1 ht
   refine k2 ?_
   refine A4 (A3 (Q0 Z Z) Z (A3 (A6 Z Z) Z (A7 ?_)))
   refine k1 ?_
   refine B6 rfl (fun ht=>?_) (fun ht=>?_)
   ·have h1:=A0 ht
    refine k2 ?_
    refine A4 (A3 (A5 Z Z) Z (A3 (C6 Z Z (by omega)) Z (C9 (x9 (a+1)) Z Z Z ?_)));rintro _ rfl;refine A3 (A6 Z Z) Z (A7 ?_)
    refine k1 (k10 (k12 (k11 ?_)))
    exact B7 (H6 rfl rfl rfl) (by rw [V9,if_neg (by omega),if_neg h0,if_pos h1])
   ·have h1:=A1 ht
    refine k5 (k2 ?_)
    refine A4 (A3 (A5 Z Z) Z (A3 (C6 Z Z (by omega)) Z (C9 (x9 (a+1)) Z Z Z ?_)));rintro _ rfl;refine A3 (I5 Z Z (by simp;omega)) Z (A3 (A5 Z Z) Z (C9 (x9 n) Z Z Z ?_));rintro _ rfl;refine A3 (I5 Z Z (by simp;omega)) Z (A3 (A6 Z Z) Z (A7 ?_))
    refine k1 (k10 ?_)
    exact B7 (H6 rfl rfl rfl) (by rw [V9,if_neg (by omega),if_neg h0,if_neg h1])
theorem A81 (B b:Nat) (l:List UInt8) (w:World) (h:Lib.IsBuilder 124 5 B b (Lib.byteCells l) w) (hBw:B≤w.heap.size) :
  Calls Tryz.prog 89 #[.pointer (some ⟨b,0,none⟩)] w fun e w'=>e=.returned (.string ⟨l.toArray⟩)∧Below B w w':=Tryz.Builder_String_any B b l w h hBw
theorem C02 (s:Str) (hs:s.length≤16777216):FnOk Tryz.prog 134 [M9 s] (fun rs=>rs=[M9 (c8 s)]):=by
 refine FnOk.intro Tryz.func134 (by decide) Z Z Z Z ?_
 refine k2 ?_
 refine A4 (A3 (A6 Z Z) Z (A7 ?_))
 refine k1 (k2 ?_)
 refine A4 (A3 (A5 Z Z) Z (A3 (C58 Z Z) Z (A3 (A6 Z Z) Z (A7 ?_))))
 refine k1 (k2 (k2 ?_))
 refine A4 (A3 (A5 Z Z) Z (A3 (N1 Z) Z (A3 (A5 Z Z) Z (A7 ?_))))
 refine k1 (k3 ?_)
 refine E2 (X:=Nat) (fun i=>([(0,Y3 s),(3,J7 (.bool (plains s i))),(10,C0 s.length),(11,C0 i)],[])) (fun i=>i≤s.length) (fun i=>s.length - i) 0 (Nat.zero_le _) ?_ ?_
 ·rw [H07]
  exact J70 ⟨le1 rfl,le1 rfl,le1 rfl,le1 rfl,trivial⟩ trivial
 intro i hi
 dsimp only at hi ⊢
 refine k2 ?_
 refine A4 (A3 (F0 Z Z) Z (A7 ?_))
 refine k1 (k2 ?_)
 refine B6 rfl (fun ht=>?_) (fun ht=>?_)
 ·have hlt:i < s.length:=by have:=A0 ht;omega
  have hv:s[i]?=some s[i]:=by simp [hlt]
  obtain ⟨c,hc⟩:∃c,c=s[i]:=⟨_,rfl⟩
  have h2:=H08 s i hlt
  rw [←hc] at hv h2
  refine k5 (k1 (k2 (k3 (k2 ?_))))
  refine A4 (A3 (A5 Z Z) Z (A3 (A6 Z Z) Z (A7 ?_)))
  refine k1 ?_
  refine A4 (A3 (A5 Z Z) Z (A3 (A5 Z Z) Z (B1 Z Z Z Z (fun hg=>by rw [hg];exact A5 Z Z) ?_)));refine B1 Z Z Z Z (fun hg=>by rw [hg];exact A5 Z Z) ?_;refine B1 Z Z Z Z (fun hg=>by have hq:=hg;(try simp at hq);rw [hg];exact B90 Z Z (by omega) hv) ?_;refine B1 Z Z Z Z (fun hg=>by have hq:=hg;(try simp at hq);rw [hg];exact I0 (I59 c) Z Z) ?_;refine A3 (B5 Z (fun h=>by first | rfl | (rw [h];rfl)) (fun h=>by first | rfl | (rw [h];rfl))) Z ?_;refine A3 (A6 Z Z) Z (A7 ?_)
  refine k4 (k1 ?_)
  refine A4 (A3 (C6 Z Z (by omega)) Z (A3 (A5 Z Z) Z (A7 ?_)))
  refine k1 ?_
  refine ⟨i+1,hlt,by omega,?_⟩
  rw [show (if plains s i=true then D32 c else false)=plains s (i+1) from by rw [h2];cases plains s i<;>rfl]
  exact J70 ⟨le1 rfl,le1 rfl,le1 rfl,le1 rfl,trivial⟩ trivial
 have hi':i=s.length:=by have:=A1 ht;omega
 subst hi'
 refine k6 (k2 (k2 ?_))
 refine A4 (A3 (A5 Z Z) Z (A7 ?_))
 refine k1 ?_
 refine B6 rfl (fun ht=>?_) (fun ht=>?_)
 ·have h:plains s s.length=true:=ht
  refine k2 ?_
  refine A4 (A3 (A5 Z Z) Z (A3 (A6 Z Z) Z (A7 ?_)))
  refine k1 (k10 (k11 ?_))
  exact B7 (H6 rfl rfl rfl) (by rw [E64,if_pos h])
 have h:plains s s.length=false:=ht
 have hq:c8 s=(34::escs s s.length)++[34]:=by rw [E64,h];rfl
 refine k5 (k1 (k2 ?_))
 refine A4 (C5 (E18 700 Z) Z (A7 ?_))
 refine k1 (k2 ?_)
 refine G6 (J82 701 UInt8 1 u8C 5 (kb:=700) (o:=1) Z Z Z) ?_
 refine A4 (X9 (A80 (xs:=[]) (c:=34) ⟨⟨_,.inl rfl,rfl⟩,rfl⟩ (by simp)) Z Z Z ?_);rintro _ _ ⟨rfl,rfl⟩;refine A7 ?_
 refine k1 (k2 (k2 ?_))
 refine A4 (A3 (A5 Z Z) Z (A3 (N1 Z) Z (A3 (A5 Z Z) Z (A7 ?_))))
 refine k1 (k3 ?_)
 refine E2 (X:=Nat) (fun i=>([(0,Y3 s),(5,.s (.one (.ref 700 0))),(26,C0 s.length),(27,C0 i)],[(700,.tbx 124 [.ref 700 0,.buf 701 UInt8 1 u8C (34::escs s i)]),(701,.spare (34::escs s i).length 1 5)])) (fun i=>i≤s.length) (fun i=>s.length - i) 0 (Nat.zero_le _) (J70 ⟨le1 rfl,le1 rfl,le1 rfl,le1 rfl,trivial⟩ ⟨rfl,rfl,trivial⟩) ?_
 intro i hi
 dsimp only at hi ⊢
 have hel:=J53 s i hi
 refine k2 ?_
 refine A4 (A3 (F0 Z Z) Z (A7 ?_))
 refine k1 (k2 ?_)
 refine B6 rfl (fun ht=>?_) (fun ht=>?_)
 ·have hlt:i < s.length:=by have:=A0 ht;omega
  have hv:s[i]?=some s[i]:=by simp [hlt]
  obtain ⟨c,hc⟩:∃c,c=s[i]:=⟨_,rfl⟩
  have h1:=I97 s i hlt
  have h2:=F72 c
  rw [←hc] at hv h1
  refine k5 (k1 (k2 (k3 (k2 ?_))))
  refine A4 (A3 (A5 Z Z) Z (A3 (A6 Z Z) Z (A7 ?_)))
  refine k1 ?_
  refine A4 (A3 (A5 Z Z) Z (A3 (A5 Z Z) Z (A3 (B90 Z Z (by omega) hv) Z (C9 (H63 c) Z Z Z ?_))));rintro _ rfl;refine X9 (O4 (xs:=34::escs s i) (s:=A99 c) ⟨⟨_,.inr rfl,rfl⟩,rfl⟩ (by simp only [K07];omega)) Z Z Z ?_;rintro _ _ ⟨rfl,rfl⟩;refine A7 ?_
  refine k4 (k1 ?_)
  refine A4 (A3 (C6 Z Z (by omega)) Z (A3 (A5 Z Z) Z (A7 ?_)))
  refine k1 ?_
  refine ⟨i+1,hlt,by omega,?_⟩
  rw [h1]
  exact J70 ⟨le1 rfl,le1 rfl,le1 rfl,le1 rfl,trivial⟩ ⟨rfl,rfl,trivial⟩
 have hi':i=s.length:=by have:=A1 ht;omega
 subst hi'
 refine k6 (k2 ?_)
 refine A4 (X9 (A80 (xs:=34::escs s s.length) (c:=34) ⟨⟨_,.inr rfl,rfl⟩,rfl⟩ (by simp only [K07];omega)) Z Z Z ?_);rintro _ _ ⟨rfl,rfl⟩;refine A7 ?_
 refine k1 (k2 ?_)
 refine A4 (D17 (k:=700) (k':=701) ⟨_,rfl,rfl,rfl⟩ A81 Z Z Z Z Z (.inr Z) Z (A3 (A6 Z Z) Z (A7 ?_)))
 refine k1 (k10 ?_)
 exact B7 (H6 rfl rfl rfl) (by rw [hq])
theorem F62 (s:Str) (c:UInt8):FnOk Tryz.prog 216 [M9 s,M9 [c]] (fun rs=>rs=[G5 (s.count c)]) :=
 J76 (xs:=[.string ⟨s.toArray⟩,.string ⟨#[c]⟩]) ⟨_,rfl,rfl,rfl⟩ rfl fun w=>by simpa [Lib.countByte] using Tryz.strings_Count_one ⟨s.toArray⟩ c w
theorem I60 (s:Str) (c:UInt8):FnOk Tryz.prog 246 [M9 s,M9 [c]] (fun rs=>rs=[G5 (Lib.indexByte s c)]) :=
 J76 (xs:=[.string ⟨s.toArray⟩,.string ⟨#[c]⟩]) ⟨_,rfl,rfl,rfl⟩ rfl fun w=>by simpa using Tryz.strings_Index_one ⟨s.toArray⟩ c w
theorem G73 (s:Str) (hs:s.length≤536870912):FnOk Tryz.prog 217 [M9 s,M9 [10],G5 1,G5 (-1)] (fun rs=>rs=[d6 (Q7 s)]):=by
 have hP:=Z4 s []
 have hc:s.count 10≤s.length:=List.count_le_length
 have h10:([10]:Str).length=1:=rfl
 obtain ⟨P,hPe⟩:∃P,P=Q7 s:=⟨_,rfl⟩
 have hPl:P.length=s.count 10+1:=by rw [hPe];exact hP
 refine FnOk.intro Tryz.func217 (by decide) Z Z Z Z ?_
 refine k2 ?_
 refine A4 (A3 (A6 Z Z) Z (A7 ?_))
 refine k1 (k2 (k2 ?_))
 refine A4 (A3 (A5 Z Z) Z (A3 (Q0 Z Z) Z (A7 ?_)))
 refine k1 ?_
 refine B6 rfl (fun ht=>?_) (fun ht=>?_)
 ·exact absurd (A0 ht) (by omega)
 refine k5 (k1 (k2 (k2 ?_)))
 refine A4 (A3 (A5 Z Z) Z (A3 (B89 Z Z) Z (A7 ?_)))
 refine k1 ?_
 refine B6 rfl (fun ht=>?_) (fun ht=>?_)
 ·exact absurd (A0 ht) (by simp)
 refine k5 (k1 (k2 (k2 ?_)))
 refine A4 (A3 (A5 Z Z) Z (A3 (F0 Z Z) Z (A7 ?_)))
 refine k1 ?_
 refine B6 rfl (fun ht=>?_) (fun ht=>?_)
 rotate_left
 ·exact absurd (A1 ht) (by omega)
 skip
 refine A4 (A3 (A5 Z Z) Z (A3 (A5 Z Z) Z (C9 (F62 s 10) Z Z Z ?_)));rintro _ rfl;refine A3 (C6 Z Z (by omega)) Z (A3 (A6 Z Z) Z (A7 ?_))
 refine k1 (k2 ?_)
 refine A4 (A3 (A5 Z Z) Z (A3 (A5 Z Z) Z (A3 (N1 Z) Z (A3 (C6 Z Z (by omega)) Z (A3 (G54 Z Z) Z (A3 (A6 Z Z) Z (A7 ?_)))))))
 refine k1 (k2 ?_)
 rw [show (if (s.length:Int)+1 < (s.count 10:Int)+1 then (s.length:Int)+1 else (s.count 10:Int)+1)=(P.length:Int) from by split<;>omega]
 refine A4 (A3 (A5 Z Z) Z (C5 (A59 9 Str K6 [] Z Z (by omega) (by omega) (fun _=>by first | exact ⟨⟨rfl,rfl⟩,trivial⟩ | exact ⟨S2 _ _ _,trivial⟩) (by first | rfl | (simp [G4,J6,Ob.free,SV.free,S1.free,TC.free]<;>rfl))) Z ?_));refine A3 (A6 Z Z) Z (A7 ?_)
 refine k1 (k2 ?_)
 refine A4 (A3 (A5 Z Z) Z (A3 (N5 Z Z (by omega)) Z (A3 (A6 Z Z) Z (A7 ?_))))
 refine k1 (k2 ?_)
 refine A4 (A3 (A6 Z Z) Z (A7 ?_))
 refine k1 (k2 (k3 ?_))
 refine E2 (X:=Nat × Str) (fun x=>([(0,Y3 x.2),(1,Y3 [10]),(2,C0 1),(3,C0 ((P.length:Int) - 1)),(9,.s (.one (.mut 9))),(10,C0 x.1)],[(9,.arr Str 1 K6 (P.take x.1++List.replicate (P.length - x.1) []))])) (fun x=>x.1+1≤P.length∧P.drop x.1=Q7 x.2∧x.2.length≤s.length) (fun x=>P.length - x.1) (0,s) ⟨by dsimp only;omega,hPe,Nat.le_refl _⟩ (J70 ⟨le1 rfl,le1 rfl,le1 rfl,le1 rfl,le1 rfl,le1 rfl,trivial⟩ ⟨rfl,trivial⟩) ?_
 rintro ⟨i,r⟩ ⟨hi,hp,hr⟩
 dsimp only at hi hp hr ⊢
 refine k2 (k2 ?_)
 refine A4 (A3 (A5 Z Z) Z (A3 (A5 Z Z) Z (A3 (F0 Z Z) Z (A7 ?_))))
 refine k1 ?_
 refine B6 rfl (fun ht=>?_) (fun ht=>?_)
 ·have hlt:i+1 < P.length:=by have:=A0 ht;omega
  have hin:(10:UInt8)∈r:=by
   have h1:=Z4 r []
   have h2:(P.drop i).length=r.count 10+1:=by rw [hp];exact h1
   rw [K24] at h2
   exact List.count_pos_iff.1 (by omega)
  rcases m6 10 r with ⟨h1,_⟩ | ⟨a,b,h1,h2,h3⟩
  ·exact absurd hin h1
  obtain ⟨h4,h5⟩:=H89 hp h1 h2
  have hl:r.length=a.length+1+b.length:=by rw [h1];simp;omega
  refine k5 (k1 (k3 (k2 ?_)))
  refine A4 (A3 (A5 Z Z) Z (A3 (A5 Z Z) Z (C9 (I60 r 10) Z Z Z ?_)));rintro _ rfl;refine A3 (A6 Z Z) Z (A7 ?_)
  refine k1 (k2 (k2 ?_))
  refine A4 (A3 (A5 Z Z) Z (A3 (F0 Z Z) Z (A7 ?_)))
  refine k1 ?_
  rw [h3]
  refine B6 rfl (fun ht=>?_) (fun ht=>?_)
  ·exact absurd (A0 ht) (by omega)
  refine k5 (k1 (k2 ?_))
  refine A4 (A3 (A5 Z Z) Z (A3 (A5 Z Z) Z (A3 (A5 Z Z) Z (A3 (A5 Z Z) Z (A3 (A5 Z Z) Z (A3 (C6 Z Z (by omega)) Z (A3 (I18 Z Z (by omega) (by omega)) Z (A3 (H9 Z Z Z (by omega) (by (simp;omega))) Z (E7 (L2 TySz.out Z Z (by simp;omega) Z Z) (A7 ?_))))))))))
  refine k1 (k2 ?_)
  refine A4 (A3 (A5 Z Z) Z (A3 (A5 Z Z) Z (A3 (A5 Z Z) Z (A3 (N1 Z) Z (A3 (C6 Z Z (by omega)) Z (A3 (n_sub_l Z Z (by omega) (by omega)) Z (A3 (A6 Z Z) Z (A7 ?_))))))))
  refine k1 ?_
  refine A4 (A3 (A5 Z Z) Z (A3 (C6 Z Z (by omega)) Z (A3 (A6 Z Z) Z (A7 ?_))))
  refine k4 (k1 ?_)
  have e1:r.take (((a.length:Int)+1).toNat)=a++[10]:=by rw [h1,show ((a.length:Int)+1).toNat=a.length+1 by omega,show a++10::b=(a++[10])++b by simp,List.take_left' (by simp)]
  have e2:r.drop (((a.length:Int)+(([10]:Str).length:Int)).toNat)=b:=by rw [h1,h10,show ((a.length:Int)+((1:Nat):Int)).toNat=a.length+1 by omega,show a++10::b=(a++[10])++b by simp,List.drop_left' (by simp)]
  refine ⟨(i+1,b),⟨by dsimp only;omega,h5,by dsimp only;omega⟩,by dsimp only;omega,?_⟩
  rw [e1,e2]
  dsimp only
  rw [←F73 P [] _ i h4]
  exact J70 ⟨le1 rfl,le1 rfl,le1 rfl,le1 rfl,le1 rfl,le1 rfl,trivial⟩ ⟨rfl,trivial⟩
 ·have hge:i+1=P.length:=by have:=A1 ht;omega
  have h1:=Z4 r []
  have h2:(P.drop i).length=r.count 10+1:=by rw [hp];exact h1
  rw [K24] at h2
  have h3:(10:UInt8)∉r:=List.count_eq_zero.1 (by omega)
  have h4:P[i]?=some r:=by rw [←List.head?_drop,hp];unfold Q7;rw [F36 _ _ h3];rfl
  refine k6 (k2 ?_)
  refine A4 (A3 (A5 Z Z) Z (A3 (A5 Z Z) Z (A3 (A5 Z Z) Z (A3 (H9 Z Z Z (by omega) (by (simp;omega))) Z (E7 (L2 TySz.out Z Z (by simp;omega) Z Z) (A7 ?_))))))
  refine k1 (k2 ?_)
  have e:(P.take i++List.replicate (P.length - i) ([]:Str)).set (i:Int).toNat r=P:=by rw [K12,F73 P [] r i h4,hge];simp
  rw [e]
  refine G6 (Sees.freeze (k:=9) Z) ?_
  refine A4 (A3 (A5 Z Z) Z (A3 (A5 Z Z) Z (A3 (C6 Z Z (by omega)) Z (A3 (F47 Z (.pure _ _ _ _) Z (by omega) (by omega)) Z (A3 (A6 Z Z) Z (A7 ?_))))))
  refine k1 (k10 ?_)
  exact B7 (H6 rfl rfl rfl) (by rw [show ((i:Int)+1).toNat=P.length by omega,K28,hPe])
theorem F27 (s:Str) (hs:s.length≤536870912):FnOk Tryz.prog 174 [M9 s,M9 [10]] (fun rs=>rs=[d6 (Q7 s)]):=by
 refine FnOk.intro Tryz.func174 (by decide) Z Z Z Z ?_
 refine k2 ?_
 refine A4 (A3 (A6 Z Z) Z (A7 ?_))
 refine k1 (k2 ?_)
 refine A4 (A3 (A5 Z Z) Z (A3 (A5 Z Z) Z (A3 (A5 Z Z) Z (A3 (N1 Z) Z (C9 (G73 s hs) Z Z Z ?_)))));rintro _ rfl;refine A3 (A6 Z Z) Z (A7 ?_)
 refine k1 (k10 ?_)
 exact B7 (H6 rfl rfl rfl) rfl
theorem I61 (s:Str) (hs:s.length≤536870912):FnOk Tryz.prog 173 [M9 s] (fun rs=>rs=[G5 (A64 s)]):=by
 have hl:=F37 s
 have hc:s.count 10≤s.length:=List.count_le_length
 refine FnOk.intro Tryz.func173 (by decide) Z Z Z Z ?_
 refine k2 ?_
 refine A4 (A3 (A6 Z Z) Z (A7 ?_))
 refine k1 (k2 ?_)
 refine A4 (A3 (A5 Z Z) Z (C9 (F62 s 10) Z Z Z ?_));rintro _ rfl;refine A3 (A6 Z Z) Z (A7 ?_)
 refine L1 ?_
 refine A77 [(0,Y3 s),(3,C0 (B8 s).length)] [] ?_ ?_
 ·refine k2 ?_
  refine A4 (A3 (A5 Z Z) Z (A3 (C58 Z Z) Z (A3 (A5 Z Z) Z (B1 Z Z Z Z (fun hg=>by rw [hg];exact A5 Z Z) ?_))));refine B1 Z Z Z Z (fun hg=>by have hq:=hg;(try simp at hq);rw [hg];exact I0 (A36 s (by omega)) Z Z) ?_;refine B1 Z Z Z Z (fun hg=>by rw [hg];exact I7 Z) ?_;refine A3 (B5 Z (fun h=>by first | rfl | (rw [h];rfl)) (fun h=>by first | rfl | (rw [h];rfl))) Z ?_;refine A7 ?_
  refine k1 ?_
  refine B6 rfl (fun ht=>?_) (fun ht=>?_)
  ·have h:s≠[]∧ended s=false:=by
    by_cases h1:s=[]
    ·simp [h1] at ht
    ·refine ⟨h1,?_⟩;simpa [h1] using ht
   rw [if_pos h] at hl
   skip
   refine A4 (A3 (A5 Z Z) Z (A3 (C6 Z Z (by omega)) Z (A3 (A6 Z Z) Z (A7 ?_))))
   refine k1 ?_
   rw [hl,Int.natCast_add]
   exact J70 ⟨le1 rfl,le1 rfl,trivial⟩ trivial
  ·have h:¬(s≠[]∧ended s=false):=by
    rintro ⟨h1,h2⟩
    simp [h1,h2] at ht
   rw [if_neg h] at hl
   refine k5 (k1 ?_)
   rw [hl]
   exact J70 ⟨le1 rfl,le1 rfl,trivial⟩ trivial
 ·refine k2 (k2 ?_)
  refine A4 (A3 (A5 Z Z) Z (A3 (N1 Z) Z (A3 (R5 Z Z) Z (A3 (A5 Z Z) Z (B1 Z Z Z Z (fun hg=>by rw [hg];exact A5 Z Z) ?_)))));refine B1 Z Z Z Z (fun hg=>by rw [hg];exact R5 Z Z) ?_;refine A3 (B5 Z (fun h=>by first | rfl | (rw [h];rfl)) (fun h=>by first | rfl | (rw [h];rfl))) Z ?_;refine A7 ?_
  refine k1 ?_
  refine B6 rfl (fun ht=>?_) (fun ht=>?_)
  ·have h:=A0 (or_pick.symm.trans ht)
   refine k2 ?_
   refine A4 (A3 (A6 Z Z) Z (A7 ?_))
   refine k1 (k10 (k11 ?_))
   exact B7 (H6 rfl rfl rfl) (by rw [A64,if_pos (by omega)])
  ·have h:=A1 (or_pick.symm.trans ht)
   refine k5 (k1 (k2 ?_))
   refine A4 (A3 (A6 Z Z) Z (A7 ?_))
   refine k1 (k10 ?_)
   exact B7 (H6 rfl rfl rfl) (by rw [A64,if_neg (by omega)])
theorem C03 (s:Str) (hs:s.length≤536870912):FnOk Tryz.prog 107 [M9 s] (fun rs=>rs=[d6 (W0 s).1,G5 (W0 s).2]):=by
 have hp:B8 s=if (Q7 s).getLastD []=[] then (Q7 s).dropLast else Q7 s:=H09 s []
 have hc:(Q7 s).length=s.count 10+1:=Z4 s []
 have hcl:s.count 10≤s.length:=List.count_le_length
 refine FnOk.intro Tryz.func107 (by decide) Z Z Z Z ?_
 refine k2 ?_
 refine A4 (A3 (A6 Z Z) Z (A3 (A6 Z Z) Z (A7 ?_)))
 refine k1 (k2 (k2 ?_))
 refine A4 (A3 (A5 Z Z) Z (C9 (I61 s hs) Z Z Z ?_));rintro _ rfl;refine A3 (A6 Z Z) Z (A7 ?_)
 refine k1 (k2 ?_)
 refine A4 (A3 (A5 Z Z) Z (A3 (K2 Z Z) Z (A7 ?_)))
 refine k1 ?_
 refine B6 rfl (fun ht=>?_) (fun ht=>?_)
 ·have h:A64 s≠0:=by simpa using ht
  have h1:s.length > 1048576∨(B8 s).length > 4096:=by
   by_cases h1:s.length > 1048576∨(B8 s).length > 4096
   ·exact h1
   ·exact absurd (by rw [A64,if_neg h1]) h
  refine k2 ?_
  refine A4 (A3 (A5 Z Z) Z (A3 (T0 _ 1 K6) Z (A3 (A6 Z Z) Z (A7 ?_))))
  refine k1 (k10 (k11 ?_))
  exact B7 (p9 rfl rfl rfl rfl rfl) (by rw [W0,if_pos h1,A64,if_pos h1])
 ·have h:A64 s=0:=by simpa using ht
  have h1:¬(s.length > 1048576∨(B8 s).length > 4096):=fun h1=>by rw [A64,if_pos h1] at h;omega
  have hv:(Q7 s)[(Q7 s).length - 1]?=some ((Q7 s).getLastD []):=by
   rw [←List.getLast?_eq_getElem?,List.getLast?_eq_some_getLast (fun e=>by rw [e] at hc;simp at hc)]
   rw [List.getLastD_eq_getLast?,List.getLast?_eq_some_getLast (fun e=>by rw [e] at hc;simp at hc)];rfl
  have hi:(((Q7 s).length:Int) - 1).toNat=(Q7 s).length - 1:=by omega
  refine k5 (k1 (k2 ?_))
  refine A4 (A3 (A5 Z Z) Z (C9 (F27 s hs) Z Z Z ?_));rintro _ rfl;refine A3 (A6 Z Z) Z (A7 ?_)
  refine L1 ?_
  refine A77 [(5,C7 Str 1 K6 (B8 s))] [] ?_ ?_
  ·refine k2 ?_
   refine A4 (A3 (A5 Z Z) Z (A3 (A5 Z Z) Z (A3 (E3 Z (.pure _ _ _ _)) Z (A3 (N5 Z Z (by omega)) Z (A3 (B4 Z (.pure _ _ _ _) Z (by omega) (by rw [hi];exact hv)) Z ?_)))));refine A3 (C8 Z Z) Z (A3 (B89 Z Z) Z (A7 ?_))
   refine k1 ?_
   refine B6 rfl (fun ht=>?_) (fun ht=>?_)
   ·have h2:=A0 ht
    skip
    refine A4 (A3 (A5 Z Z) Z (A3 (A5 Z Z) Z (A3 (E3 Z (.pure _ _ _ _)) Z (A3 (N5 Z Z (by omega)) Z (A3 (F47 Z (.pure _ _ _ _) Z (by omega) (by omega)) Z (A3 (A6 Z Z) Z (A7 ?_)))))))
    refine k1 ?_
    rw [hp,if_pos h2,List.dropLast_eq_take,←hi]
    exact J70 ⟨le1 rfl,trivial⟩ trivial
   ·have h2:=A1 ht
    refine k5 (k1 ?_)
    rw [hp,if_neg h2]
    exact J70 ⟨le1 rfl,trivial⟩ trivial
  ·refine k2 ?_
   refine A4 (A3 (A5 Z Z) Z (A3 (A6 Z Z) Z (A3 (A6 Z Z) Z (A7 ?_))))
   refine k1 (k10 ?_)
   exact B7 (p9 rfl rfl rfl rfl rfl) (by rw [W0,if_neg h1])
end Go.Proofs.YtbiadkkamhpdnaaGreatDoor
namespace Go.Proofs.YtbiadkkamhpdnaaGreatDoor
open Go Go.AL
set_option maxRecDepth 100000
theorem A62 (a b:UInt8):decide ((a.toNat:Int)≠(b.toNat:Int))=decide (a≠b):=by
 by_cases h:a=b
 ·subst h;simp
 ·have:(a.toNat:Int)≠(b.toNat:Int):=fun e=>h (UInt8.toNat_inj.1 (by omega))
  rw [decide_eq_true this,decide_eq_true h]
theorem kn32 (c:UInt8):decide ((c.toNat:Int)≠32)=decide (c≠32):=A62 c 32
theorem kn45 (c:UInt8):decide ((c.toNat:Int)≠45)=decide (c≠45):=A62 c 45
theorem kn43 (c:UInt8):decide ((c.toNat:Int)≠43)=decide (c≠43):=A62 c 43
theorem notB (b:Bool):(!b)=decide (b=false):=by cases b<;>rfl
theorem G74 (ls:List PatchLine) (n:Nat) (h:n < ls.length):X5 (ls.take (n+1))=(if X5 (ls.take n)=true then true else decide (ls[n].Kind≠32)):=by
 unfold X5
 rw [K14 h,List.any_append]
 cases (ls.take n).any _<;>simp
end Go.Proofs.YtbiadkkamhpdnaaGreatDoor
namespace Go.Proofs.YtbiadkkamhpdnaaGreatDoor
open Go Go.AL
set_option maxRecDepth 100000
set_option maxHeartbeats 1000000
end Go.Proofs.YtbiadkkamhpdnaaGreatDoor
namespace Go.Proofs.YtbiadkkamhpdnaaGreatDoor
open Go Go.AL
set_option maxRecDepth 100000
theorem C04 (s:Str):FnOk Tryz.prog 79 [M9 s] (fun rs=>rs=[O9 (K4 s)]):=by
 refine FnOk.intro Tryz.func79 (by decide) Z Z Z Z ?_
 refine k2 ?_
 refine A4 (A3 (A6 Z Z) Z (A7 ?_))
 refine k1 (k2 ?_)
 refine A4 (A3 (A5 Z Z) Z (A3 (N1 Z) Z (A3 (A88 Z Z) Z (A3 (A5 Z Z) Z (B1 Z Z Z Z (fun hg=>by rw [hg];exact A5 Z Z) ?_)))));refine B1 Z Z Z Z (fun hg=>by rw [hg];exact N1 Z) ?_;refine B1 Z Z Z Z (fun hg=>by rw [hg];exact A57 Z Z) ?_;refine A3 (B5 Z (fun h=>by first | rfl | (rw [h];rfl)) (fun h=>by first | rfl | (rw [h];rfl))) Z ?_;refine A3 (A6 Z Z) Z (A7 ?_)
 refine k1 (k10 ?_)
 refine B7 (H6 Z Z Z) ?_
 simp only [L8]
 congr 4
 unfold K4
 congr 1
 apply propext
 omega
theorem H64 (s:Str) (hs:s.length≤1099511627776):FnOk Tryz.prog 202 [M9 s] (fun rs=>rs=[O9 (H7 s)]):=by
 refine FnOk.intro Tryz.func202 (by decide) Z Z Z Z ?_
 refine k2 ?_
 refine A4 (A3 (A6 Z Z) Z (A7 ?_))
 refine k1 (k2 ?_)
 refine A4 (A3 (A5 Z Z) Z (A3 (C58 Z Z) Z (A3 (A5 Z Z) Z (B1 Z Z Z Z (fun hg=>by rw [hg];exact A5 Z Z) ?_))));refine B1 Z Z Z Z (fun hg=>by have hq:=hg;(try simp at hq);rw [hg];exact I0 (G71 s hs) Z Z) ?_;refine B1 Z Z Z Z (fun hg=>by have hq:=hg;(try simp at hq);rw [hg];exact I0 (C75 (B21 s) 10) Z Z) ?_;refine B1 Z Z Z Z (fun hg=>by rw [hg];exact I7 Z) ?_;refine A3 (B5 Z (fun h=>by first | rfl | (rw [h];rfl)) (fun h=>by first | rfl | (rw [h];rfl))) Z ?_;refine A3 (A6 Z Z) Z (A7 ?_)
 refine k1 (k10 ?_)
 exact B7 (H6 rfl rfl rfl) (by rw [F71])
theorem F63 (h:PatchHunk) (hl:h.Lines.length≤268435456):FnOk Tryz.prog 199 [pPhunk h] (fun rs=>rs=[G5 (M2 h),G5 (O7 h)]):=by
 refine FnOk.intro Tryz.func199 (by decide) Z Z Z Z ?_
 refine k2 ?_
 refine A4 (C5 (Q1 1 Z Z Z) Z (A3 (A6 Z Z) Z (A3 (A6 Z Z) Z (A7 ?_))))
 refine k1 (k2 ?_)
 refine A4 (A3 (A6 Z Z) Z (A3 (A6 Z Z) Z (A7 ?_)))
 refine k1 (k2 (k2 ?_))
 refine A4 (A3 (A8 Z) Z (A3 (A9 Z Z Z) Z (A3 (E3 Z (.pure _ _ _ _)) Z (A3 (A5 Z Z) Z (A7 ?_)))))
 refine k1 (k3 ?_)
 refine E2 (X:=Nat) (fun i=>([(4,C0 (C4 (h.Lines.take i) 43).length),(5,C0 (C4 (h.Lines.take i) 45).length),(9,C7 PatchLine 2 plineC h.Lines),(10,C0 h.Lines.length),(11,C0 i)],[])) (fun i=>i≤h.Lines.length) (fun i=>h.Lines.length - i) 0 (Nat.zero_le _) (J70 ⟨le1 rfl,le1 rfl,le1 rfl,le1 rfl,le1 rfl,trivial⟩ trivial) ?_
 intro i hi
 dsimp only at hi ⊢
 have h1:=N9 (h.Lines.take i) 43
 have h2:=N9 (h.Lines.take i) 45
 rw [K22] at h1 h2
 refine k2 ?_
 refine A4 (A3 (F0 Z Z) Z (A7 ?_))
 refine k1 (k2 ?_)
 refine B6 rfl (fun ht=>?_) (fun ht=>?_)
 ·have hlt:i < h.Lines.length:=by have:=A0 ht;omega
  have hv:h.Lines[i]?=some h.Lines[i]:=by simp [hlt]
  have s1:=A05 h.Lines 43 i hlt
  have s2:=A05 h.Lines 45 i hlt
  obtain ⟨x,hx⟩:∃x,x=h.Lines[i]:=⟨_,rfl⟩
  rw [←hx] at hv s1 s2
  refine k5 (k1 (k2 (k3 (k2 ?_))))
  refine A4 (A3 (B4 Z (.pure _ _ _ _) Z (by omega) hv) Z (A3 (D6 Z Z) Z (C5 (E8 7 Z) Z (E7 (B2 TySz.out Z Z Z Z Z Z) (A7 ?_)))))
  refine L1 ?_
  refine A77 [(4,C0 (C4 (h.Lines.take (i+1)) 43).length),(5,C0 (C4 (h.Lines.take i) 45).length),(7,.s (.one (.ref 7 0))),(9,C7 PatchLine 2 plineC h.Lines),(10,C0 h.Lines.length),(11,C0 i)] [(7,.box [.p (.v (.int .u8 x.Kind.toNat)),.p (.v (.string ⟨x.Text.toArray⟩))])] ?_ ?_
  ·refine k2 ?_
   refine A4 (A3 (A8 Z) Z (A3 (A9 Z Z Z) Z (A3 (K2 Z Z) Z (A7 ?_))))
   refine k1 ?_
   refine B6 rfl (fun ht=>?_) (fun ht=>?_)
   ·rw [kn43] at ht
    have h3:x.Kind≠43:=A0 ht
    rw [if_pos h3] at s1
    skip
    refine A4 (A3 (A5 Z Z) Z (A3 (C6 Z Z (by omega)) Z (A3 (A6 Z Z) Z (A7 ?_))))
    refine k1 ?_
    rw [s1,K05,Int.natCast_add]
    exact J70 ⟨le1 rfl,le1 rfl,le1 rfl,le1 rfl,le1 rfl,le1 rfl,trivial⟩ ⟨rfl,trivial⟩
   ·rw [kn43] at ht
    have h3:¬x.Kind≠43:=A1 ht
    rw [if_neg h3] at s1
    refine k5 (k1 ?_)
    rw [s1]
    exact J70 ⟨le1 rfl,le1 rfl,le1 rfl,le1 rfl,le1 rfl,le1 rfl,trivial⟩ ⟨rfl,trivial⟩
  ·refine k2 ?_
   refine A4 (A3 (A8 Z) Z (A3 (A9 Z Z Z) Z (A3 (K2 Z Z) Z (A7 ?_))))
   refine k1 ?_
   refine B6 rfl (fun ht=>?_) (fun ht=>?_)
   ·rw [kn45] at ht
    have h3:x.Kind≠45:=A0 ht
    rw [if_pos h3] at s2
    skip
    refine A4 (A3 (A5 Z Z) Z (A3 (C6 Z Z (by omega)) Z (A3 (A6 Z Z) Z (A7 ?_))))
    refine k4 (k1 ?_)
    refine A4 (A3 (C6 Z Z (by omega)) Z (A3 (A5 Z Z) Z (A7 ?_)))
    refine k1 ?_
    refine ⟨i+1,by omega,by omega,?_⟩
    rw [s2,K05,Int.natCast_add]
    exact J70 ⟨le1 rfl,le1 rfl,le1 rfl,le1 rfl,le1 rfl,trivial⟩ trivial
   ·rw [kn45] at ht
    have h3:¬x.Kind≠45:=A1 ht
    rw [if_neg h3] at s2
    refine k5 (k4 (k1 ?_))
    refine A4 (A3 (C6 Z Z (by omega)) Z (A3 (A5 Z Z) Z (A7 ?_)))
    refine k1 ?_
    refine ⟨i+1,by omega,by omega,?_⟩
    rw [s2]
    exact J70 ⟨le1 rfl,le1 rfl,le1 rfl,le1 rfl,le1 rfl,trivial⟩ trivial
 ·have hi':i=h.Lines.length:=by have:=A1 ht;omega
  subst hi'
  rw [K28]
  refine k6 (k2 ?_)
  refine A4 (A3 (A5 Z Z) Z (A3 (A5 Z Z) Z (A3 (A6 Z Z) Z (A3 (A6 Z Z) Z (A7 ?_)))))
  refine k1 (k10 ?_)
  exact B7 (p9 rfl rfl rfl rfl rfl) rfl
theorem E43 (h:PatchHunk) (hl:h.Lines.length≤268435456) (ho:-4611686018427387904≤h.Old∧h.Old≤4611686018427387904) (hn:-4611686018427387904≤h.New∧h.New≤4611686018427387904):FnOk Tryz.prog 135 [pPhunk h] (fun rs=>rs=[M9 (j5 h)]):=by
 have h1:=N9 h.Lines 43
 have h2:=N9 h.Lines 45
 have h3:0≤M2 h∧M2 h≤268435456:=by unfold M2;omega
 have h4:0≤O7 h∧O7 h≤268435456:=by unfold O7;omega
 have h5:=Z3 h.Old (M2 h)
 have h6:=Z3 h.New (O7 h)
 refine FnOk.intro Tryz.func135 (by decide) Z Z Z Z ?_
 refine k2 ?_
 refine A4 (C5 (Q1 1 Z Z Z) Z (A3 (A6 Z Z) Z (A7 ?_)))
 refine k1 (k2 ?_)
 refine A4 (A3 (D1 Z Z Z) Z (C9 (F63 h hl) Z Z Z ?_));rintro _ rfl;refine A3 (A5 Z Z) Z (A3 (C1 Z Z) Z (A3 (C1 Z Z) Z (A3 (A6 Z Z) Z (A3 (A6 Z Z) Z (A7 ?_)))))
 refine k1 (k2 ?_)
 refine E1 (by kernel_rfl) (by kernel_rfl) (B0 (A8 Z) Z Z (B0 (A9 Z Z Z) Z Z (B0 (A5 Z Z) Z Z (B0 (I0 (C01 h.Old (M2 h) ho (by omega)) Z Z) Z Z (B0 (I5 Z Z (by (simp only [K07,K10];omega))) Z Z (B0 (I5 Z Z (by (simp only [K05,K07,K10];omega))) Z Z (B0 (A8 Z) Z Z (B0 (A9 Z Z Z) Z Z (B0 (A5 Z Z) Z Z (B0 (I0 (C01 h.New (O7 h) hn (by omega)) Z Z) Z Z (B0 (I5 Z Z (by (simp only [K05,K07,K10];omega))) Z Z (B0 (I5 Z Z (by (simp only [K05,K07,K10];omega))) Z Z (B0 (A6 Z Z) Z Z (L4 ?_))))))))))))))
 refine k1 (k10 ?_)
 exact B7 (H6 rfl rfl rfl) rfl
theorem E44 (h:PatchHunk) (hl:(h.Lines.map szL).sum≤1099511627776):FnOk Tryz.prog 140 [pPhunk h] (fun rs=>rs=[O9 (h.Lines.all n6&&X5 h.Lines)]):=by
 have h3:=B25 h.Lines
 refine FnOk.intro Tryz.func140 (by decide) Z Z Z Z ?_
 refine k2 ?_
 refine A4 (C5 (Q1 1 Z Z Z) Z (A3 (A6 Z Z) Z (A7 ?_)))
 refine k1 (k2 ?_)
 refine A4 (A3 (A6 Z Z) Z (A7 ?_))
 refine k1 (k2 (k2 ?_))
 refine A4 (A3 (A8 Z) Z (A3 (A9 Z Z Z) Z (A3 (E3 Z (.pure _ _ _ _)) Z (A3 (A5 Z Z) Z (A7 ?_)))))
 refine k1 (k3 ?_)
 refine E2 (X:=Nat) (fun n=>([(3,J7 (.bool (X5 (h.Lines.take n)))),(7,C7 PatchLine 2 plineC h.Lines),(8,C0 h.Lines.length),(9,C0 n)],[])) (fun n=>n≤h.Lines.length∧h.Lines.all n6=(h.Lines.drop n).all n6) (fun n=>h.Lines.length - n) 0 ⟨Nat.zero_le _,rfl⟩ (J70 ⟨le1 rfl,le1 rfl,le1 rfl,le1 rfl,trivial⟩ trivial) ?_
 rintro n ⟨hn1,hn2⟩
 dsimp only at hn1 hn2 ⊢
 refine k2 ?_
 refine A4 (A3 (F0 Z Z) Z (A7 ?_))
 refine k1 (k2 ?_)
 refine B6 rfl (fun ht=>?_) (fun ht=>?_)
 ·have hlt2:n < h.Lines.length:=by have:=A0 ht;omega
  have hv2:h.Lines[n]?=some h.Lines[n]:=by simp [hlt2]
  have hmem2:=E01 (K17 hlt2)
  have hsucc:=G74 h.Lines n hlt2
  rw [K11 hlt2,List.all_cons] at hn2
  obtain ⟨x,hx2⟩:∃x,x=h.Lines[n]:=⟨_,rfl⟩
  rw [←hx2] at hv2 hmem2 hsucc hn2
  refine k5 (k1 (k2 (k3 (k2 ?_))))
  refine A4 (A3 (B4 Z (.pure _ _ _ _) Z (by omega) hv2) Z (A3 (D6 Z Z) Z (C5 (E8 5 Z) Z (E7 (B2 TySz.out Z Z Z Z Z Z) (A7 ?_)))))
  refine k1 (k2 (k2 ?_))
  refine A4 (A3 (A8 Z) Z (A3 (A9 Z Z Z) Z (A3 (K2 Z Z) Z (A3 (A5 Z Z) Z (B1 Z Z Z Z (fun hg=>by rw [hg];exact A8 Z) ?_)))));refine B1 Z Z Z Z (fun hg=>by rw [hg];exact A9 Z Z Z) ?_;refine B1 Z Z Z Z (fun hg=>by rw [hg];exact K2 Z Z) ?_;refine A3 (B5 Z (fun h=>by first | rfl | (rw [h];rfl)) (fun h=>by first | rfl | (rw [h];rfl))) Z ?_;refine A3 (A5 Z Z) Z (B1 Z Z Z Z (fun hg=>by rw [hg];exact A8 Z) ?_);refine B1 Z Z Z Z (fun hg=>by rw [hg];exact A9 Z Z Z) ?_;refine B1 Z Z Z Z (fun hg=>by rw [hg];exact K2 Z Z) ?_;refine A3 (B5 Z (fun h=>by first | rfl | (rw [h];rfl)) (fun h=>by first | rfl | (rw [h];rfl))) Z ?_;refine A3 (A5 Z Z) Z (B1 Z Z Z Z (fun hg=>by rw [hg];exact A8 Z) ?_);refine B1 Z Z Z Z (fun hg=>by rw [hg];exact A9 Z Z Z) ?_;refine B1 Z Z Z Z (fun hg=>by have hq:=hg;(try simp at hq);rw [hg];exact I0 (H64 x.Text (by omega)) Z Z) ?_;refine B1 Z Z Z Z (fun hg=>by rw [hg];exact I7 Z) ?_;refine A3 (B5 Z (fun h=>by first | rfl | (rw [h];rfl)) (fun h=>by first | rfl | (rw [h];rfl))) Z ?_;refine A7 ?_
  refine k1 ?_
  refine B6 rfl (fun ht=>?_) (fun ht=>?_)
  ·simp only [kn32,kn45,kn43,L8,notB,or_pick] at ht
   have hb:H11 x:=A0 ht
   refine k2 ?_
   refine A4 (A3 (A6 Z Z) Z (A7 ?_))
   refine k1 (k10 (k11 (k12 (k11 (k11 (k12 (k11 ?_)))))))
   refine B7 (H6 Z Z Z) ?_
   have:n6 x=false:=decide_eq_false (fun hh=>hh hb)
   rw [hn2,this];rfl
  ·simp only [kn32,kn45,kn43,L8,notB,or_pick] at ht
   have hb:¬H11 x:=A1 ht
   have hgl:n6 x=true:=decide_eq_true hb
   rw [hgl,Bool.true_and] at hn2
   refine k5 (k1 ?_)
   refine A4 (A3 (A5 Z Z) Z (A3 (A5 Z Z) Z (B1 Z Z Z Z (fun hg=>by rw [hg];exact A8 Z) ?_)));refine B1 Z Z Z Z (fun hg=>by rw [hg];exact A9 Z Z Z) ?_;refine B1 Z Z Z Z (fun hg=>by rw [hg];exact K2 Z Z) ?_;refine A3 (B5 Z (fun h=>by first | rfl | (rw [h];rfl)) (fun h=>by first | rfl | (rw [h];rfl))) Z ?_;refine A3 (A6 Z Z) Z (A7 ?_)
   refine k4 (k1 ?_)
   refine A4 (A3 (C6 Z Z (by omega)) Z (A3 (A5 Z Z) Z (A7 ?_)))
   refine k1 ?_
   refine ⟨n+1,⟨by omega,hn2⟩,by omega,?_⟩
   rw [kn32,←hsucc]
   exact J70 ⟨le1 rfl,le1 rfl,le1 rfl,le1 rfl,trivial⟩ trivial
 ·have hn':n=h.Lines.length:=by have:=A1 ht;omega
  subst hn'
  rw [K28]
  rw [K15 (Nat.le_refl _)] at hn2
  refine k6 (k2 ?_)
  refine A4 (A3 (A5 Z Z) Z (A3 (A6 Z Z) Z (A7 ?_)))
  refine k1 (k10 ?_)
  exact B7 (H6 rfl rfl rfl) (by rw [hn2];rfl)
theorem A97 {gf:Fr} {ob:Obs} {k:Nat} {e:Int} {o:Bool} {t:Str} (hk:C3 ob k=some (.box [.p (.v (.int .i64 e)),.p (.v (.bool o))])) (hs:t.length≤1099511627776) :
  AL.Met Tryz.prog 203 [.one (.ref k 0),.one (.p (.v (.string ⟨t.toArray⟩)))] gf ob [] (fun rs ob'=>rs=[.one (.p (.v (.bool (!o))))]∧ob'=(k,.box [.p (.v (.int .i64 e)),.p (.v (.bool (!ended t)))])::ob):=by
 refine AL.Met.intro Tryz.func203 (by decide) Z Z Z ?_
 refine k2 ?_
 refine A4 (A3 (A6 Z Z) Z (A7 ?_))
 refine k1 (k2 ?_)
 refine A4 (A3 (A5 Z Z) Z (A3 (B9 Z) Z (A3 (A8 Z) Z (A3 (A9 Z hk Z) Z (A3 (I7 Z) Z (A3 (A6 Z Z) Z (A7 ?_)))))))
 refine k1 (k2 ?_)
 refine A4 (A3 (A5 Z Z) Z (A3 (A5 Z Z) Z (C9 (A36 t hs) Z Z Z ?_)));rintro _ rfl;refine A3 (I7 Z) Z (A3 (B9 Z) Z (A3 (A8 Z) Z (E7 (B2 TySz.out Z hk Z Z Z Z) (A7 ?_))))
 refine k1 (k2 ?_)
 refine A4 (A3 (A5 Z Z) Z (A3 (A6 Z Z) Z (A7 ?_)))
 refine k1 (k10 ?_)
 exact K8 (Y6 rfl rfl) (by repeat (first | exact D5 | refine D4 rfl ?_ | refine F4 _ ?_)) (fun _ _ h=>h) ⟨rfl,rfl⟩
theorem I62 (a b:List Str) (i:Nat) (ha:i < a.length) (hb:i < b.length):(a.drop i=b.drop i)↔(a[i]=b[i]∧a.drop (i+1)=b.drop (i+1)):=by
 rw [K11 ha,K11 hb,List.cons.injEq]
theorem J31 (a b:List Str):FnOk Tryz.prog 124 [d6 a,d6 b] (fun rs=>rs=[O9 (decide (a=b))]):=by
 refine FnOk.intro Tryz.func124 (by decide) Z Z Z Z ?_
 refine G01 (t:=0) rfl (.pure _ _ _ _) fun hal=>?_
 refine k2 ?_
 refine A4 (A3 (A6 Z Z) Z (A7 ?_))
 refine k1 (k2 (k2 ?_))
 refine A4 (A3 (A5 Z Z) Z (A3 (E3 Z (.pure _ _ _ _)) Z (A3 (A5 Z Z) Z (A3 (E3 Z (.pure _ _ _ _)) Z (A3 (K2 Z Z) Z (A7 ?_))))))
 refine k1 ?_
 refine B6 rfl (fun ht=>?_) (fun ht=>?_)
 ·have h:=A0 ht
  refine k2 ?_
  refine A4 (A3 (A6 Z Z) Z (A7 ?_))
  refine k1 (k10 (k11 ?_))
  exact B7 (H6 rfl rfl rfl) (by rw [decide_eq_false (fun hh=>h (by rw [hh]))])
 have h:=A1 ht
 have hl:a.length=b.length:=by omega
 refine k5 (k1 (k2 (k2 ?_)))
 refine A4 (A3 (A5 Z Z) Z (A3 (E3 Z (.pure _ _ _ _)) Z (A3 (A5 Z Z) Z (A7 ?_))))
 refine k1 (k3 ?_)
 refine E2 (X:=Nat) (fun i=>([(0,C7 Str 1 K6 a),(1,C7 Str 1 K6 b),(12,C0 a.length),(13,C0 i)],[])) (fun i=>i≤a.length∧decide (a=b)=decide (a.drop i=b.drop i)) (fun i=>a.length - i) 0 ⟨Nat.zero_le _,rfl⟩ (J70 ⟨le1 rfl,le1 rfl,le1 rfl,le1 rfl,trivial⟩ trivial) ?_
 rintro i ⟨hi,hp⟩
 dsimp only at hi hp ⊢
 refine k2 ?_
 refine A4 (A3 (F0 Z Z) Z (A7 ?_))
 refine k1 (k2 ?_)
 refine B6 rfl (fun ht=>?_) (fun ht=>?_)
 ·have hlt:i < a.length:=by have:=A0 ht;omega
  have hv:a[i]?=some a[i]:=by simp [hlt]
  have hv2:b[i]?=some (b[i]'(by omega)):=by simp
  rw [decide_eq_decide.2 (I62 a b i hlt (by omega))] at hp
  refine k5 (k1 (k2 (k3 (k2 ?_))))
  refine A4 (A3 (A5 Z Z) Z (A3 (A6 Z Z) Z (A7 ?_)))
  refine k1 (k2 ?_)
  refine E1 (by kernel_rfl) (by kernel_rfl) (B0 (A5 Z Z) Z Z (B0 (A5 Z Z) Z Z (B0 (B4 Z (.pure _ _ _ _) Z (by omega) hv) Z Z (B0 (C8 Z Z) Z Z (B0 (A5 Z Z) Z Z (B0 (A5 Z Z) Z Z (B0 (B4 Z (.pure _ _ _ _) Z (by omega) hv2) Z Z (B0 (C8 Z Z) Z Z (B0 (C58 Z Z) Z Z (L4 ?_))))))))))
  refine k1 ?_
  refine B6 rfl (fun ht=>?_) (fun ht=>?_)
  ·have h2:a[i]≠b[i]'(by omega):=A0 ht
   refine k2 ?_
   refine A4 (A3 (A6 Z Z) Z (A7 ?_))
   refine k1 (k10 (k12 (k11 (k11 (k12 (k11 ?_))))))
   exact B7 (H6 rfl rfl rfl) (by rw [hp,decide_eq_false (fun hh=>h2 hh.1)])
  ·have h2:a[i]=b[i]'(by omega):=Decidable.not_not.1 (A1 ht)
   refine k5 (k4 (k1 ?_))
   refine A4 (A3 (C6 Z Z (by omega)) Z (A3 (A5 Z Z) Z (A7 ?_)))
   refine k1 ?_
   exact ⟨i+1,⟨hlt,by rw [hp];exact decide_eq_decide.2 ⟨fun hh=>hh.2,fun hh=>⟨h2,hh⟩⟩⟩,by omega,J70 ⟨le1 rfl,le1 rfl,le1 rfl,le1 rfl,trivial⟩ trivial⟩
 ·have hi':i=a.length:=by have:=A1 ht;omega
  subst hi'
  refine k6 (k2 ?_)
  refine A4 (A3 (A6 Z Z) Z (A7 ?_))
  refine k1 (k10 ?_)
  refine B7 (H6 Z Z Z) ?_
  rw [hp,K15 (Nat.le_refl _),K15 (by omega)];rfl
theorem H65 (h:PatchHunk) (x:List Str) (ho:0≤h.Old):(if (if decide (h.Old≤(x.length:Int))=true then decide (((C4 h.Lines 43).length:Int)≤(x.length:Int) - h.Old) else false)=true then decide (sub x h.Old (h.Old+((C4 h.Lines 43).length:Int))=C4 h.Lines 43) else false)=A47 h x:=by
 have hn:0≤M2 h:=by unfold M2;omega
 unfold A47
 by_cases c:(x.length:Int) < h.Old+M2 h
 ·rw [if_pos c]
  unfold M2 at c
  simp only [L8]
  exact decide_eq_false (fun hh=>by omega)
 ·rw [if_neg c]
  unfold M2 at c
  simp only [L8]
  have e:sub x h.Old (h.Old+((C4 h.Lines 43).length:Int))=(x.drop h.Old.toNat).take (C4 h.Lines 43).length:=by
   unfold sub;congr 1;omega
  rw [e]
  exact decide_eq_decide.2 ⟨fun hh=>hh.2,fun hh=>⟨by omega,hh⟩⟩
theorem I63 (h:PatchHunk) (x:List Str) (hl:h.Lines.length≤268435456) (ho:0≤h.Old∧h.Old≤4096) (hx:x.length≤1073741824):FnOk Tryz.prog 67 [d6 x,G5 h.Old,d6 (C4 h.Lines 43)] (fun rs=>rs=[O9 (A47 h x)]):=by
 have hnl:=N9 h.Lines 43
 refine FnOk.intro Tryz.func67 (by decide) Z Z Z Z ?_
 refine k2 ?_
 refine A4 (A3 (A6 Z Z) Z (A7 ?_))
 refine k1 (k2 ?_)
 refine A4 (A3 (A5 Z Z) Z (A3 (A5 Z Z) Z (A3 (E3 Z (.pure _ _ _ _)) Z (A3 (A57 Z Z) Z (A3 (A5 Z Z) Z (B1 Z Z Z Z (fun hg=>by rw [hg];exact A5 Z Z) ?_))))));refine B1 Z Z Z Z (fun hg=>by rw [hg];exact E3 Z (.pure _ _ _ _)) ?_;refine B1 Z Z Z Z (fun hg=>by rw [hg];exact A5 Z Z) ?_;refine B1 Z Z Z Z (fun hg=>by rw [hg];exact E3 Z (.pure _ _ _ _)) ?_;refine B1 Z Z Z Z (fun hg=>by rw [hg];exact A5 Z Z) ?_;refine B1 Z Z Z Z (fun hg=>by have hq:=hg;(try simp at hq);rw [hg];exact N5 Z Z (by omega)) ?_;refine B1 Z Z Z Z (fun hg=>by rw [hg];exact A57 Z Z) ?_;refine A3 (B5 Z (fun h=>by first | rfl | (rw [h];rfl)) (fun h=>by first | rfl | (rw [h];rfl))) Z ?_;refine A3 (A5 Z Z) Z (B1 Z Z Z Z (fun hg=>by rw [hg];exact A5 Z Z) ?_);refine B1 Z Z Z Z (fun hg=>by rw [hg];exact A5 Z Z) ?_;refine B1 Z Z Z Z (fun hg=>by rw [hg];exact A5 Z Z) ?_;refine B1 Z Z Z Z (fun hg=>by rw [hg];exact A5 Z Z) ?_;refine B1 Z Z Z Z (fun hg=>by rw [hg];exact E3 Z (.pure _ _ _ _)) ?_;refine B1 Z Z Z Z (fun hg=>by have hq:=hg;(try simp at hq);rw [hg];exact C6 Z Z (by omega)) ?_;refine B1 Z Z Z Z (fun hg=>by have hq:=hg;(try simp at hq);rw [hg];exact O8 Z (.pure _ _ _ _) Z Z (by omega) (by omega) (by omega)) ?_;refine B1 Z Z Z Z (fun hg=>by rw [hg];exact A5 Z Z) ?_;refine B1 Z Z Z Z (fun hg=>by have hq:=hg;(try simp at hq);rw [hg];exact I0 (J31 (sub x h.Old (h.Old+((C4 h.Lines 43).length:Int))) (C4 h.Lines 43)) Z Z) ?_;refine A3 (B5 Z (fun h=>by first | rfl | (rw [h];rfl)) (fun h=>by first | rfl | (rw [h];rfl))) Z ?_;refine A3 (A6 Z Z) Z (A7 ?_)
 refine k1 (k10 ?_)
 exact B7 (H6 rfl rfl rfl) (by rw [H65 h x ho.1])
theorem I64 (h:PatchHunk) (hl:h.Lines.length≤268435456):FnOk Tryz.prog 66 [pPhunk h] (fun rs=>rs=[d6 (C4 h.Lines 43),d6 (C4 h.Lines 45)]):=by
 refine FnOk.intro Tryz.func66 (by decide) Z Z Z Z ?_
 refine k2 ?_
 refine A4 (C5 (Q1 1 Z Z Z) Z (C5 (A02 2 _ K6 Z) Z (C5 (A02 3 _ K6 Z) Z (A7 ?_))))
 refine k1 (k2 (k2 ?_))
 refine A4 (A3 (A8 Z) Z (A3 (A9 Z Z Z) Z (A3 (E3 Z (.pure _ _ _ _)) Z (A3 (A5 Z Z) Z (A7 ?_)))))
 refine k1 (k3 ?_)
 refine E2 (X:=Nat) (fun i=>([(2,.s (.one (.buf 2 Str 1 K6 (C4 (h.Lines.take i) 43)))),(3,.s (.one (.buf 3 Str 1 K6 (C4 (h.Lines.take i) 45)))),(7,C7 PatchLine 2 plineC h.Lines),(8,C0 h.Lines.length),(9,C0 i)],[(2,.spare (C4 (h.Lines.take i) 43).length 1 9),(3,.spare (C4 (h.Lines.take i) 45).length 1 9)])) (fun i=>i≤h.Lines.length) (fun i=>h.Lines.length - i) 0 (Nat.zero_le _) (J70 ⟨le1 rfl,le1 rfl,le1 rfl,le1 rfl,le1 rfl,trivial⟩ ⟨rfl,rfl,trivial⟩) ?_
 intro i hi
 dsimp only at hi ⊢
 have h1:=N9 (h.Lines.take i) 43
 have h2:=N9 (h.Lines.take i) 45
 rw [K22] at h1 h2
 refine k2 ?_
 refine A4 (A3 (F0 Z Z) Z (A7 ?_))
 refine k1 (k2 ?_)
 refine B6 rfl (fun ht=>?_) (fun ht=>?_)
 ·have hlt:i < h.Lines.length:=by have:=A0 ht;omega
  have hv:h.Lines[i]?=some h.Lines[i]:=by simp [hlt]
  have s1:=A05 h.Lines 43 i hlt
  have s2:=A05 h.Lines 45 i hlt
  obtain ⟨x,hx⟩:∃x,x=h.Lines[i]:=⟨_,rfl⟩
  rw [←hx] at hv s1 s2
  refine k5 (k1 (k2 (k3 (k2 ?_))))
  refine A4 (A3 (B4 Z (.pure _ _ _ _) Z (by omega) hv) Z (A3 (D6 Z Z) Z (C5 (E8 5 Z) Z (E7 (B2 TySz.out Z Z Z Z Z Z) (A7 ?_)))))
  refine L1 ?_
  refine A77 [(2,.s (.one (.buf 2 Str 1 K6 (C4 (h.Lines.take (i+1)) 43)))),(3,.s (.one (.buf 3 Str 1 K6 (C4 (h.Lines.take i) 45)))),(5,.s (.one (.ref 5 0))),(7,C7 PatchLine 2 plineC h.Lines),(8,C0 h.Lines.length),(9,C0 i)] [(2,.spare (C4 (h.Lines.take (i+1)) 43).length 1 9),(3,.spare (C4 (h.Lines.take i) 45).length 1 9),(5,.box [.p (.v (.int .u8 x.Kind.toNat)),.p (.v (.string ⟨x.Text.toArray⟩))])] ?_ ?_
  ·refine k2 ?_
   refine A4 (A3 (A8 Z) Z (A3 (A9 Z Z Z) Z (A3 (K2 Z Z) Z (A7 ?_))))
   refine k1 ?_
   refine B6 rfl (fun ht=>?_) (fun ht=>?_)
   ·rw [kn43] at ht
    have h3:x.Kind≠43:=A0 ht
    rw [if_pos h3] at s1
    skip
    refine A4 (A3 (A5 Z Z) Z (A3 (A8 Z) Z (A3 (A9 Z Z Z) Z (A3 (E6 (c:=K6) (ys:=[x.Text]) (F3 Z Z Z Z I6) Z Z Z) Z (C5 (I9 Z Z Z (.pure _ _ _ _) (by (simp only [K07,K10];omega)) Z) Z (A3 (A6 Z Z) Z (A7 ?_)))))))
    refine k1 ?_
    rw [s1]
    exact J70 ⟨le1 rfl,le1 rfl,le1 rfl,le1 rfl,le1 rfl,le1 rfl,trivial⟩ ⟨rfl,rfl,rfl,trivial⟩
   ·rw [kn43] at ht
    have h3:¬x.Kind≠43:=A1 ht
    rw [if_neg h3] at s1
    refine k5 (k1 ?_)
    rw [s1]
    exact J70 ⟨le1 rfl,le1 rfl,le1 rfl,le1 rfl,le1 rfl,le1 rfl,trivial⟩ ⟨rfl,rfl,rfl,trivial⟩
  ·refine k2 ?_
   refine A4 (A3 (A8 Z) Z (A3 (A9 Z Z Z) Z (A3 (K2 Z Z) Z (A7 ?_))))
   refine k1 ?_
   refine B6 rfl (fun ht=>?_) (fun ht=>?_)
   ·rw [kn45] at ht
    have h3:x.Kind≠45:=A0 ht
    rw [if_pos h3] at s2
    skip
    refine A4 (A3 (A5 Z Z) Z (A3 (A8 Z) Z (A3 (A9 Z Z Z) Z (A3 (E6 (c:=K6) (ys:=[x.Text]) (F3 Z Z Z Z I6) Z Z Z) Z (C5 (I9 Z Z Z (.pure _ _ _ _) (by (simp only [K07,K10];omega)) Z) Z (A3 (A6 Z Z) Z (A7 ?_)))))))
    refine k4 (k1 ?_)
    refine A4 (A3 (C6 Z Z (by omega)) Z (A3 (A5 Z Z) Z (A7 ?_)))
    refine k1 ?_
    refine ⟨i+1,by omega,by omega,?_⟩
    rw [s2]
    exact J70 ⟨le1 rfl,le1 rfl,le1 rfl,le1 rfl,le1 rfl,trivial⟩ ⟨rfl,rfl,trivial⟩
   ·rw [kn45] at ht
    have h3:¬x.Kind≠45:=A1 ht
    rw [if_neg h3] at s2
    refine k5 (k4 (k1 ?_))
    refine A4 (A3 (C6 Z Z (by omega)) Z (A3 (A5 Z Z) Z (A7 ?_)))
    refine k1 ?_
    refine ⟨i+1,by omega,by omega,?_⟩
    rw [s2]
    exact J70 ⟨le1 rfl,le1 rfl,le1 rfl,le1 rfl,le1 rfl,trivial⟩ ⟨rfl,rfl,trivial⟩
 ·have hi':i=h.Lines.length:=by have:=A1 ht;omega
  subst hi'
  rw [K28]
  refine k6 (k2 ?_)
  refine A4 (A3 (A5 Z Z) Z (A3 (A5 Z Z) Z (A3 (A6 Z Z) Z (A3 (A6 Z Z) Z (A7 ?_)))))
  refine k1 (k10 ?_)
  exact B7 (p9 rfl rfl rfl rfl rfl) rfl
end Go.Proofs.YtbiadkkamhpdnaaGreatDoor
