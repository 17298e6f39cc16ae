/- Walks of the program's functions. -/
import Derived.Test.YtbiadkkamhpdnaaGreatDoorFa
import Derived.Test.YtbiadkkamhpdnaaGreatDoorFs
import Derived.Lib.AppendIntMem
set_option linter.unusedSimpArgs false
namespace Go.Proofs.YtbiadkkamhpdnaaGreatDoor
open Go Go.AL
set_option maxRecDepth 100000
theorem H52 (c:UInt8):FnOk Tryz.prog 197 [pByte c] (fun rs=>rs=[N0 (C31 c)]):=by
 refine FnOk.intro Tryz.func197 (by decide) Z Z Z Z ?_
 refine k2 ?_
 refine A4 (A3 (A6 Z Z) Z (A7 ?_))
 refine k1 (k2 ?_)
 refine A4 (A3 (A5 Z Z) Z (A3 (A60 Z Z) Z (A3 (A5 Z Z) Z (B0 Z Z Z Z (fun hg=>by rw [hg];exact A5 Z Z) ?_))));refine B0 Z Z Z Z (fun hg=>by rw [hg];exact B28 Z Z) ?_;refine A3 (B5 Z (fun h=>by first | rfl | (rw [h];rfl)) (fun h=>by first | rfl | (rw [h];rfl))) Z ?_;refine A3 (A5 Z Z) Z (B0 Z Z Z Z (fun hg=>by rw [hg];exact A5 Z Z) ?_);refine B0 Z Z Z Z (fun hg=>by rw [hg];exact R4 Z Z) ?_;refine A3 (B5 Z (fun h=>by first | rfl | (rw [h];rfl)) (fun h=>by first | rfl | (rw [h];rfl))) Z ?_;refine A3 (A5 Z Z) Z (B0 Z Z Z Z (fun hg=>by rw [hg];exact A5 Z Z) ?_);refine B0 Z Z Z Z (fun hg=>by rw [hg];exact R4 Z Z) ?_;refine A3 (B5 Z (fun h=>by first | rfl | (rw [h];rfl)) (fun h=>by first | rfl | (rw [h];rfl))) Z ?_;refine A3 (A6 Z Z) Z (A7 ?_)
 refine k1 (k10 ?_)
 refine C0 (I2 Z Z Z) ?_
 simp only [Q4]
 congr 4
 unfold C31
 congr 1
 simp;omega
end Go.Proofs.YtbiadkkamhpdnaaGreatDoor
namespace Go.Proofs.YtbiadkkamhpdnaaGreatDoor
open Go Go.AL Go.RowKit
set_option maxRecDepth 100000
theorem u8dig (q:Nat) (h:q < 8):IntKind.u8.wrap (48+(q:Int))=((UInt8.ofNat (48+q)).toNat:Int):=by
 rw [IntWalk.u8_in _ (by omega)]
 have:(UInt8.ofNat (48+q)).toNat=48+q:=by rw [UInt8.toNat_ofNat'];omega
 rw [this];simp
theorem H13 (x:Nat) (h:x < 256):IntKind.u8.wrap ((BitVec.ofInt IntKind.u8.bits (x:Int) &&& BitVec.ofInt IntKind.u8.bits 7).toNat:Int)=((x % 8:Nat):Int):=by
 have h1:(BitVec.ofInt IntKind.u8.bits (x:Int) &&& BitVec.ofInt IntKind.u8.bits 7).toNat=x % 8:=by
  rw [BitVec.toNat_and,BitVec.toNat_ofInt,BitVec.toNat_ofInt]
  have e1:((x:Int) % ((2 ^ IntKind.u8.bits:Nat):Int)).toNat=x:=by
   rw [show ((2 ^ IntKind.u8.bits:Nat):Int)=256 by rfl];omega
  have e2:((7:Int) % ((2 ^ IntKind.u8.bits:Nat):Int)).toNat=2 ^ 3 - 1:=by rfl
  rw [e1,e2,Nat.and_two_pow_sub_one_eq_mod]
 rw [h1,IntWalk.u8_in _ (by omega)]
theorem shr_u8 (x:Nat) (c:Nat) (h:c≤8):(x:Int).fdiv (2 ^ min (Int.toNat (c:Int)) IntKind.u8.bits)=((x / 2 ^ c:Nat):Int):=by
 rw [shr_eq _ _ IntKind.u8.bits ⟨by omega,by show (c:Int)≤8;omega⟩]
 simp
theorem G44 (c:UInt8):FnOk Tryz.prog 198 [pByte c] (fun rs=>rs=[N6 (w7 c)]):=by
 have hc:=c.toNat_lt
 refine FnOk.intro Tryz.func198 (by decide) Z Z Z Z ?_
 refine k2 ?_
 refine A4 (A3 (A6 Z Z) Z (A7 ?_))
 refine k1 (k2 (k3 (k2 ?_)))
 refine A4 (A3 (A5 Z Z) Z (A3 (O2 Z Z) Z (A3 (A5 Z Z) Z (B0 Z Z Z Z (fun hg=>by rw [hg];exact A5 Z Z) ?_))));refine B0 Z Z Z Z (fun hg=>by rw [hg];exact O2 Z Z) ?_;refine A3 (B5 Z (fun h=>by first | rfl | (rw [h];rfl)) (fun h=>by first | rfl | (rw [h];rfl))) Z ?_;refine A3 (A6 Z Z) Z (A7 ?_)
 refine k1 ?_
 refine B3 rfl (fun ht=>?_) (fun ht=>?_)
 ·have h:=A0 (or_pick.symm.trans ht)
  refine k2 ?_
  refine A4 (A3 (A5 Z Z) Z (A3 (B29 Z (by omega)) Z (A3 (J3 Z Z (by simp)) Z (A3 (A6 Z Z) Z (A7 ?_)))))
  refine k1 (k10 (k12 (k11 ?_)))
  exact C0 (I2 rfl rfl rfl) (by rw [w7,if_pos (by omega)];rfl)
 ·have h:=A1 (or_pick.symm.trans ht)
  refine k2 ?_
  refine A4 (A3 (A5 Z Z) Z (A3 (O2 Z Z) Z (A3 (A6 Z Z) Z (A7 ?_))))
  refine k1 ?_
  refine B3 rfl (fun ht=>?_) (fun ht=>?_)
  ·have h1:=A0 ht
   refine k2 ?_
   refine A4 (A3 (A6 Z Z) Z (A7 ?_))
   refine k1 (k10 (k12 (k11 ?_)))
   exact C0 (I2 rfl rfl rfl) (by rw [w7,if_neg (by omega),if_pos (by omega)])
  ·have h1:=A1 ht
   refine k2 ?_
   refine A4 (A3 (A5 Z Z) Z (A3 (O2 Z Z) Z (A3 (A6 Z Z) Z (A7 ?_))))
   refine k1 ?_
   refine B3 rfl (fun ht=>?_) (fun ht=>?_)
   ·have h2:=A0 ht
    refine k2 ?_
    refine A4 (A3 (A6 Z Z) Z (A7 ?_))
    refine k1 (k10 (k12 (k11 ?_)))
    exact C0 (I2 rfl rfl rfl) (by rw [w7,if_neg (by omega),if_neg (by omega),if_pos (by omega)])
   ·have h2:=A1 ht
    refine k2 ?_
    refine A4 (A3 (A5 Z Z) Z (A3 (F1 Z Z) Z (A3 (A5 Z Z) Z (B0 Z Z Z Z (fun hg=>by rw [hg];exact A5 Z Z) ?_))));refine B0 Z Z Z Z (fun hg=>by rw [hg];exact R1 Z Z) ?_;refine A3 (B5 Z (fun h=>by first | rfl | (rw [h];rfl)) (fun h=>by first | rfl | (rw [h];rfl))) Z ?_;refine A3 (A6 Z Z) Z (A7 ?_)
    refine k1 ?_
    refine B3 rfl (fun ht=>?_) (fun ht=>?_)
    ·have h3:=A0 (or_pick.symm.trans ht)
     refine k2 ?_
     have f6:(c.toNat:Int).fdiv (2 ^ min (Int.toNat 6) IntKind.u8.bits)=((c.toNat / 64:Nat):Int):=shr_u8 c.toNat 6 (by omega)
     have f3:(c.toNat:Int).fdiv (2 ^ min (Int.toNat 3) IntKind.u8.bits)=((c.toNat / 8:Nat):Int):=shr_u8 c.toNat 3 (by omega)
     have e1:=u8dig (c.toNat / 64) (by omega)
     have e2:=u8dig (c.toNat / 8 % 8) (by omega)
     have e3:=u8dig (c.toNat % 8) (by omega)
     have hol:=C64 c
     refine A4 (A3 (A5 Z Z) Z (A3 (B27 Z Z (by omega)) Z (A3 (B66 Z Z) Z (A3 (A5 Z Z) Z (A3 (B27 Z Z (by omega)) Z (A3 (n4 Z Z Z (fun _=>rfl)) Z (A3 (B66 Z Z) Z (A3 (A5 Z Z) Z (A3 (n4 Z Z Z (fun _=>rfl)) Z (A3 (B66 Z Z) Z ?_))))))))));rw [f6,f3,H13 (c.toNat / 8) (by omega),H13 c.toNat (by omega),e1,e2,e3];refine A3 (E1 (c:=u8C) (ys:=[UInt8.ofNat (48+c.toNat / 64),UInt8.ofNat (48+c.toNat / 8 % 8),UInt8.ofNat (48+c.toNat % 8)]) (E6 Z Z Z Z (E6 Z Z Z Z (E6 Z Z Z Z I0))) Z Z Z) Z (A3 (t8 TyStr.out Z (.pure _ _ _ _)) Z (A3 (J3 Z Z (by simp)) Z (A3 (A6 Z Z) Z (A7 ?_))))
     refine k1 (k10 (k12 (k11 ?_)))
     exact C0 (I2 rfl rfl rfl) (by rw [w7,if_neg (by omega),if_neg (by omega),if_neg (by omega),if_pos (by omega),hol];rfl)
    ·have h3:=A1 (or_pick.symm.trans ht)
     refine k5 (k2 ?_)
     refine A4 (A3 (A5 Z Z) Z (A3 (B29 Z (by omega)) Z (A3 (A6 Z Z) Z (A7 ?_))))
     refine k1 (k10 ?_)
     exact C0 (I2 rfl rfl rfl) (by rw [w7,if_neg (by omega),if_neg (by omega),if_neg (by omega),if_neg (by omega)])
theorem itoa_ok (n:Int) (h:0≤n∧n≤2147483647):FnOk Tryz.prog 205 [J0 n] (fun rs=>rs=[N6 (Lib.itoa n)]) :=
 I75 (xs:=[.int .i64 n]) (r:=.string ⟨(Lib.itoa n).toArray⟩) ⟨_,rfl,rfl,rfl⟩ rfl fun w hw =>
  (Tryz.strconv_Itoa n (by omega) (by omega) w (hw.pow10 rfl)).mono fun e w' ⟨he,k,os,hw'⟩=>⟨he,by subst hw';exact Lib.below_grow _ _ (Nat.le_refl _) _ _⟩
theorem d7 (n:Int):FnOk Tryz.prog 148 [J0 n] (fun rs=>rs=[N6 (V8 n)]):=by
 refine FnOk.intro Tryz.func148 (by decide) Z Z Z Z ?_
 refine k2 ?_
 refine A4 (A3 (A6 Z Z) Z (A7 ?_))
 refine k1 (k2 (k2 ?_))
 refine A4 (A3 (A5 Z Z) Z (A3 (F1 Z Z) Z (A3 (A5 Z Z) Z (B0 Z Z Z Z (fun hg=>by rw [hg];exact A5 Z Z) ?_))));refine B0 Z Z Z Z (fun hg=>by rw [hg];exact R1 Z Z) ?_;refine A3 (B5 Z (fun h=>by first | rfl | (rw [h];rfl)) (fun h=>by first | rfl | (rw [h];rfl))) Z ?_;refine A7 ?_
 refine k1 ?_
 refine B3 rfl (fun ht=>?_) (fun ht=>?_)
 ·have h:=A0 (or_pick.symm.trans ht)
  refine k2 ?_
  refine A4 (A3 (A6 Z Z) Z (A7 ?_))
  refine k1 (k10 (k11 ?_))
  exact C0 (I2 rfl rfl rfl) (by rw [V8,if_pos (by omega)])
 ·have h:=A1 (or_pick.symm.trans ht)
  refine k5 (k1 (k2 ?_))
  refine A4 (A3 (A5 Z Z) Z (C8 (itoa_ok n (by omega)) Z Z Z ?_));rintro _ rfl;refine A3 (A6 Z Z) Z (A7 ?_)
  refine k1 (k10 ?_)
  exact C0 (I2 rfl rfl rfl) (by rw [V8,if_neg (by omega)])
theorem E49 (a n:Int) (ha:-4611686018427387904≤a∧a≤4611686018427387904) (hn:-4611686018427387904≤n∧n≤4611686018427387904):FnOk Tryz.prog 151 [J0 a,J0 n] (fun rs=>rs=[N6 (Q6 a n)]):=by
 refine FnOk.intro Tryz.func151 (by decide) Z Z Z Z ?_
 refine k2 ?_
 refine A4 (A3 (A6 Z Z) Z (A7 ?_))
 refine k1 (k2 (k2 ?_))
 refine A4 (A3 (A5 Z Z) Z (A3 (F1 Z Z) Z (A3 (A5 Z Z) Z (B0 Z Z Z Z (fun hg=>by rw [hg];exact A5 Z Z) ?_))));refine B0 Z Z Z Z (fun hg=>by rw [hg];exact F1 Z Z) ?_;refine A3 (B5 Z (fun h=>by first | rfl | (rw [h];rfl)) (fun h=>by first | rfl | (rw [h];rfl))) Z ?_;refine A3 (A5 Z Z) Z (B0 Z Z Z Z (fun hg=>by rw [hg];exact A5 Z Z) ?_);refine B0 Z Z Z Z (fun hg=>by rw [hg];exact R1 Z Z) ?_;refine A3 (B5 Z (fun h=>by first | rfl | (rw [h];rfl)) (fun h=>by first | rfl | (rw [h];rfl))) Z ?_;refine A3 (A5 Z Z) Z (B0 Z Z Z Z (fun hg=>by rw [hg];exact A5 Z Z) ?_);refine B0 Z Z Z Z (fun hg=>by rw [hg];exact A5 Z Z) ?_;refine B0 Z Z Z Z (fun hg=>by rw [hg];exact Y1 Z Z (by (first | omega | (simp at hq;omega)))) ?_;refine B0 Z Z Z Z (fun hg=>by rw [hg];exact R1 Z Z) ?_;refine A3 (B5 Z (fun h=>by first | rfl | (rw [h];rfl)) (fun h=>by first | rfl | (rw [h];rfl))) Z ?_;refine A7 ?_
 refine k1 ?_
 have l1:=i6 a
 have l2:=i6 (a+1)
 have l3:=i6 n
 refine B3 rfl (fun ht=>?_) (fun ht=>?_)
 ·have h:=A0 ((by simp only [or_pick] at ht;exact ht):decide _=true)
  refine k2 ?_
  refine A4 (A3 (A6 Z Z) Z (A7 ?_))
  refine k1 (k10 (k11 ?_))
  exact C0 (I2 rfl rfl rfl) (by rw [Q6,if_pos (by omega)])
 ·have h:=A1 ((by simp only [or_pick] at ht;exact ht):decide _=false)
  refine k5 (k1 (k2 (k2 ?_)))
  refine A4 (A3 (A5 Z Z) Z (A7 ?_))
  refine k1 (k3 (k2 ?_))
  refine A4 (A3 (O2 Z Z) Z (A3 (A6 Z Z) Z (A7 ?_)))
  refine k1 ?_
  refine B3 rfl (fun ht=>?_) (fun ht=>?_)
  ·have h0:=A0 ht
   refine k2 ?_
   refine A4 (A3 (A5 Z Z) Z (C8 (d7 a) Z Z Z ?_));rintro _ rfl;refine A3 (J3 Z Z (by simp;omega)) Z (A3 (A6 Z Z) Z (A7 ?_))
   refine k1 (k10 (k12 (k11 ?_)))
   exact C0 (I2 rfl rfl rfl) (by rw [Q6,if_neg (by omega),if_pos h0])
  ·have h0:=A1 ht
   refine k2 ?_
   refine A4 (A3 (O2 Z Z) Z (A3 (A6 Z Z) Z (A7 ?_)))
   refine k1 ?_
   refine B3 rfl (fun ht=>?_) (fun ht=>?_)
   ·have h1:=A0 ht
    refine k2 ?_
    refine A4 (A3 (A5 Z Z) Z (A3 (C2 Z Z (by omega)) Z (C8 (d7 (a+1)) Z Z Z ?_)));rintro _ rfl;refine A3 (A6 Z Z) Z (A7 ?_)
    refine k1 (k10 (k12 (k11 ?_)))
    exact C0 (I2 rfl rfl rfl) (by rw [Q6,if_neg (by omega),if_neg h0,if_pos h1])
   ·have h1:=A1 ht
    refine k5 (k2 ?_)
    refine A4 (A3 (A5 Z Z) Z (A3 (C2 Z Z (by omega)) Z (C8 (d7 (a+1)) Z Z Z ?_)));rintro _ rfl;refine A3 (J3 Z Z (by simp;omega)) Z (A3 (A5 Z Z) Z (C8 (d7 n) Z Z Z ?_));rintro _ rfl;refine A3 (J3 Z Z (by simp;omega)) Z (A3 (A6 Z Z) Z (A7 ?_))
    refine k1 (k10 ?_)
    exact C0 (I2 rfl rfl rfl) (by rw [Q6,if_neg (by omega),if_neg h0,if_neg h1])
theorem A04 (B b:Nat) (l:List UInt8) (w:World) (h:Lib.IsBuilder 124 5 B b (Lib.byteCells l) w) (hBw:B≤w.heap.size) :
  Calls Tryz.prog 89 #[.pointer (some ⟨b,0,none⟩)] w fun e w'=>e=.returned (.string ⟨l.toArray⟩)∧Below B w w':=Tryz.Builder_String_any B b l w h hBw
theorem E50 (s:Str) (hs:s.length≤16777216):FnOk Tryz.prog 134 [N6 s] (fun rs=>rs=[N6 (Q5 s)]):=by
 refine FnOk.intro Tryz.func134 (by decide) Z Z Z Z ?_
 refine k2 ?_
 refine A4 (A3 (A6 Z Z) Z (A7 ?_))
 refine k1 (k2 ?_)
 refine A4 (A3 (A5 Z Z) Z (A3 (E89 Z Z) Z (A3 (A6 Z Z) Z (A7 ?_))))
 refine k1 (k2 (k2 ?_))
 refine A4 (A3 (A5 Z Z) Z (A3 (J4 Z) Z (A3 (A5 Z Z) Z (A7 ?_))))
 refine k1 (k3 ?_)
 refine E2 (X:=Nat) (fun i=>([(0,U4 s),(3,H5 (.bool (plains s i))),(10,B8 s.length),(11,B8 i)],[])) (fun i=>i≤s.length) (fun i=>s.length - i) 0 (Nat.zero_le _) ?_ ?_
 ·rw [F95]
  exact I62 ⟨le1 rfl,le1 rfl,le1 rfl,le1 rfl,trivial⟩ trivial
 intro i hi
 dsimp only at hi ⊢
 refine k2 ?_
 refine A4 (A3 (F1 Z Z) Z (A7 ?_))
 refine k1 (k2 ?_)
 refine B3 rfl (fun ht=>?_) (fun ht=>?_)
 ·have hlt:i < s.length:=by have:=A0 ht;omega
  have hv:s[i]?=some s[i]:=by simp [hlt]
  obtain ⟨c,hc⟩:∃c,c=s[i]:=⟨_,rfl⟩
  have h2:=F96 s i hlt
  rw [←hc] at hv h2
  refine k5 (k1 (k2 (k3 (k2 ?_))))
  refine A4 (A3 (A5 Z Z) Z (A3 (A6 Z Z) Z (A7 ?_)))
  refine k1 ?_
  refine A4 (A3 (A5 Z Z) Z (A3 (A5 Z Z) Z (B0 Z Z Z Z (fun hg=>by rw [hg];exact A5 Z Z) ?_)));refine B0 Z Z Z Z (fun hg=>by rw [hg];exact A5 Z Z) ?_;refine B0 Z Z Z Z (fun hg=>by have hq:=hg;(try simp at hq);rw [hg];exact T6 Z Z (by omega) hv) ?_;refine B0 Z Z Z Z (fun hg=>by have hq:=hg;(try simp at hq);rw [hg];exact Q1 (H52 c) Z Z) ?_;refine A3 (B5 Z (fun h=>by first | rfl | (rw [h];rfl)) (fun h=>by first | rfl | (rw [h];rfl))) Z ?_;refine A3 (A6 Z Z) Z (A7 ?_)
  refine k4 (k1 ?_)
  refine A4 (A3 (C2 Z Z (by omega)) Z (A3 (A5 Z Z) Z (A7 ?_)))
  refine k1 ?_
  refine ⟨i+1,hlt,by omega,?_⟩
  rw [show (if plains s i=true then C31 c else false)=plains s (i+1) from by rw [h2];cases plains s i<;>rfl]
  exact I62 ⟨le1 rfl,le1 rfl,le1 rfl,le1 rfl,trivial⟩ trivial
 have hi':i=s.length:=by have:=A1 ht;omega
 subst hi'
 refine k6 (k2 (k2 ?_))
 refine A4 (A3 (A5 Z Z) Z (A7 ?_))
 refine k1 ?_
 refine B3 rfl (fun ht=>?_) (fun ht=>?_)
 ·have h:plains s s.length=true:=ht
  refine k2 ?_
  refine A4 (A3 (A5 Z Z) Z (A3 (A6 Z Z) Z (A7 ?_)))
  refine k1 (k10 (k11 ?_))
  exact C0 (I2 rfl rfl rfl) (by rw [D57,if_pos h])
 have h:plains s s.length=false:=ht
 have hq:Q5 s=(34::escs s s.length)++[34]:=by rw [D57,h];rfl
 refine k5 (k1 (k2 ?_))
 refine A4 (C4 (D10 700 Z) Z (A7 ?_))
 refine k1 (k2 ?_)
 refine H4 (I74 701 UInt8 1 u8C 5 (kb:=700) (o:=1) Z Z Z) ?_
 refine A4 (x7 (B37 (xs:=[]) (c:=34) ⟨⟨_,.inl rfl,rfl⟩,rfl⟩ (by simp)) Z Z Z ?_);rintro _ _ ⟨rfl,rfl⟩;refine A7 ?_
 refine k1 (k2 (k2 ?_))
 refine A4 (A3 (A5 Z Z) Z (A3 (J4 Z) Z (A3 (A5 Z Z) Z (A7 ?_))))
 refine k1 (k3 ?_)
 refine E2 (X:=Nat) (fun i=>([(0,U4 s),(5,.s (.one (.ref 700 0))),(26,B8 s.length),(27,B8 i)],[(700,.tbx 124 [.ref 700 0,.buf 701 UInt8 1 u8C (34::escs s i)]),(701,.spare (34::escs s i).length 1 5)])) (fun i=>i≤s.length) (fun i=>s.length - i) 0 (Nat.zero_le _) (I62 ⟨le1 rfl,le1 rfl,le1 rfl,le1 rfl,trivial⟩ ⟨rfl,rfl,trivial⟩) ?_
 intro i hi
 dsimp only at hi ⊢
 have hel:=I34 s i hi
 refine k2 ?_
 refine A4 (A3 (F1 Z Z) Z (A7 ?_))
 refine k1 (k2 ?_)
 refine B3 rfl (fun ht=>?_) (fun ht=>?_)
 ·have hlt:i < s.length:=by have:=A0 ht;omega
  have hv:s[i]?=some s[i]:=by simp [hlt]
  obtain ⟨c,hc⟩:∃c,c=s[i]:=⟨_,rfl⟩
  have h1:=H81 s i hlt
  have h2:=E58 c
  rw [←hc] at hv h1
  refine k5 (k1 (k2 (k3 (k2 ?_))))
  refine A4 (A3 (A5 Z Z) Z (A3 (A6 Z Z) Z (A7 ?_)))
  refine k1 ?_
  refine A4 (A3 (A5 Z Z) Z (A3 (A5 Z Z) Z (A3 (T6 Z Z (by omega) hv) Z (C8 (G44 c) Z Z Z ?_))));rintro _ rfl;refine x7 (N4 (xs:=34::escs s i) (s:=w7 c) ⟨⟨_,.inr rfl,rfl⟩,rfl⟩ (by simp only [I95];omega)) Z Z Z ?_;rintro _ _ ⟨rfl,rfl⟩;refine A7 ?_
  refine k4 (k1 ?_)
  refine A4 (A3 (C2 Z Z (by omega)) Z (A3 (A5 Z Z) Z (A7 ?_)))
  refine k1 ?_
  refine ⟨i+1,hlt,by omega,?_⟩
  rw [h1]
  exact I62 ⟨le1 rfl,le1 rfl,le1 rfl,le1 rfl,trivial⟩ ⟨rfl,rfl,trivial⟩
 have hi':i=s.length:=by have:=A1 ht;omega
 subst hi'
 refine k6 (k2 ?_)
 refine A4 (x7 (B37 (xs:=34::escs s s.length) (c:=34) ⟨⟨_,.inr rfl,rfl⟩,rfl⟩ (by simp only [I95];omega)) Z Z Z ?_);rintro _ _ ⟨rfl,rfl⟩;refine A7 ?_
 refine k1 (k2 ?_)
 refine A4 (C20 (k:=700) (k':=701) ⟨_,rfl,rfl,rfl⟩ A04 Z Z Z Z Z (.inr Z) Z (A3 (A6 Z Z) Z (A7 ?_)))
 refine k1 (k10 ?_)
 exact C0 (I2 rfl rfl rfl) (by rw [hq])
theorem E51 (s:Str) (c:UInt8):FnOk Tryz.prog 216 [N6 s,N6 [c]] (fun rs=>rs=[J0 (s.count c)]) :=
 I67 (xs:=[.string ⟨s.toArray⟩,.string ⟨#[c]⟩]) ⟨_,rfl,rfl,rfl⟩ rfl fun w=>by simpa [Lib.countByte] using Tryz.strings_Count_one ⟨s.toArray⟩ c w
theorem H53 (s:Str) (c:UInt8):FnOk Tryz.prog 246 [N6 s,N6 [c]] (fun rs=>rs=[J0 (Lib.indexByte s c)]) :=
 I67 (xs:=[.string ⟨s.toArray⟩,.string ⟨#[c]⟩]) ⟨_,rfl,rfl,rfl⟩ rfl fun w=>by simpa using Tryz.strings_Index_one ⟨s.toArray⟩ c w
theorem F69 (s:Str) (hs:s.length≤536870912):FnOk Tryz.prog 217 [N6 s,N6 [10],J0 1,J0 (-1)] (fun rs=>rs=[A64 (O0 s)]):=by
 have hP:=U8 s []
 have hc:s.count 10≤s.length:=List.count_le_length
 have h10:([10]:Str).length=1:=rfl
 obtain ⟨P,hPe⟩:∃P,P=O0 s:=⟨_,rfl⟩
 have hPl:P.length=s.count 10+1:=by rw [hPe];exact hP
 refine FnOk.intro Tryz.func217 (by decide) Z Z Z Z ?_
 refine k2 ?_
 refine A4 (A3 (A6 Z Z) Z (A7 ?_))
 refine k1 (k2 (k2 ?_))
 refine A4 (A3 (A5 Z Z) Z (A3 (O2 Z Z) Z (A7 ?_)))
 refine k1 ?_
 refine B3 rfl (fun ht=>?_) (fun ht=>?_)
 ·exact absurd (A0 ht) (by omega)
 refine k5 (k1 (k2 (k2 ?_)))
 refine A4 (A3 (A5 Z Z) Z (A3 (E88 Z Z) Z (A7 ?_)))
 refine k1 ?_
 refine B3 rfl (fun ht=>?_) (fun ht=>?_)
 ·exact absurd (A0 ht) (by simp)
 refine k5 (k1 (k2 (k2 ?_)))
 refine A4 (A3 (A5 Z Z) Z (A3 (F1 Z Z) Z (A7 ?_)))
 refine k1 ?_
 refine B3 rfl (fun ht=>?_) (fun ht=>?_)
 rotate_left
 ·exact absurd (A1 ht) (by omega)
 skip
 refine A4 (A3 (A5 Z Z) Z (A3 (A5 Z Z) Z (C8 (E51 s 10) Z Z Z ?_)));rintro _ rfl;refine A3 (C2 Z Z (by omega)) Z (A3 (A6 Z Z) Z (A7 ?_))
 refine k1 (k2 ?_)
 refine A4 (A3 (A5 Z Z) Z (A3 (A5 Z Z) Z (A3 (J4 Z) Z (A3 (C2 Z Z (by omega)) Z (A3 (n_min Z Z) Z (A3 (A6 Z Z) Z (A7 ?_)))))))
 refine k1 (k2 ?_)
 rw [show (if (s.length:Int)+1 < (s.count 10:Int)+1 then (s.length:Int)+1 else (s.count 10:Int)+1)=(P.length:Int) from by split<;>omega]
 refine A4 (A3 (A5 Z Z) Z (C4 (r8 9 Str P3 [] Z Z (by omega) (by omega) (fun _=>by first | exact ⟨⟨rfl,rfl⟩,trivial⟩ | exact ⟨P0 _ _ _,trivial⟩) (by first | rfl | (simp [H1,H8,Ob.free,SV.free,S1.free,TC.free]<;>rfl))) Z ?_));refine A3 (A6 Z Z) Z (A7 ?_)
 refine k1 (k2 ?_)
 refine A4 (A3 (A5 Z Z) Z (A3 (Y1 Z Z (by omega)) Z (A3 (A6 Z Z) Z (A7 ?_))))
 refine k1 (k2 ?_)
 refine A4 (A3 (A6 Z Z) Z (A7 ?_))
 refine k1 (k2 (k3 ?_))
 refine E2 (X:=Nat × Str) (fun x=>([(0,U4 x.2),(1,U4 [10]),(2,B8 1),(3,B8 ((P.length:Int) - 1)),(9,.s (.one (.mut 9))),(10,B8 x.1)],[(9,.arr Str 1 P3 (P.take x.1++List.replicate (P.length - x.1) []))])) (fun x=>x.1+1≤P.length∧P.drop x.1=O0 x.2∧x.2.length≤s.length) (fun x=>P.length - x.1) (0,s) ⟨by dsimp only;omega,hPe,Nat.le_refl _⟩ (I62 ⟨le1 rfl,le1 rfl,le1 rfl,le1 rfl,le1 rfl,le1 rfl,trivial⟩ ⟨rfl,trivial⟩) ?_
 rintro ⟨i,r⟩ ⟨hi,hp,hr⟩
 dsimp only at hi hp hr ⊢
 refine k2 (k2 ?_)
 refine A4 (A3 (A5 Z Z) Z (A3 (A5 Z Z) Z (A3 (F1 Z Z) Z (A7 ?_))))
 refine k1 ?_
 refine B3 rfl (fun ht=>?_) (fun ht=>?_)
 ·have hlt:i+1 < P.length:=by have:=A0 ht;omega
  have hin:(10:UInt8)∈r:=by
   have h1:=U8 r []
   have h2:(P.drop i).length=r.count 10+1:=by rw [hp];exact h1
   rw [J15] at h2
   exact List.count_pos_iff.1 (by omega)
  rcases n8 10 r with ⟨h1,_⟩ | ⟨a,b,h1,h2,h3⟩
  ·exact absurd hin h1
  obtain ⟨h4,h5⟩:=G70 hp h1 h2
  have hl:r.length=a.length+1+b.length:=by rw [h1];simp;omega
  refine k5 (k1 (k3 (k2 ?_)))
  refine A4 (A3 (A5 Z Z) Z (A3 (A5 Z Z) Z (C8 (H53 r 10) Z Z Z ?_)));rintro _ rfl;refine A3 (A6 Z Z) Z (A7 ?_)
  refine k1 (k2 (k2 ?_))
  refine A4 (A3 (A5 Z Z) Z (A3 (F1 Z Z) Z (A7 ?_)))
  refine k1 ?_
  rw [h3]
  refine B3 rfl (fun ht=>?_) (fun ht=>?_)
  ·exact absurd (A0 ht) (by omega)
  refine k5 (k1 (k2 ?_))
  refine A4 (A3 (A5 Z Z) Z (A3 (A5 Z Z) Z (A3 (A5 Z Z) Z (A3 (A5 Z Z) Z (A3 (A5 Z Z) Z (A3 (C2 Z Z (by omega)) Z (A3 (E93 Z Z (by omega) (by omega)) Z (A3 (G1 Z Z Z (by omega) (by (simp;omega))) Z (F6 (I6 TySz.out Z Z (by simp;omega) Z Z) (A7 ?_))))))))))
  refine k1 (k2 ?_)
  refine A4 (A3 (A5 Z Z) Z (A3 (A5 Z Z) Z (A3 (A5 Z Z) Z (A3 (J4 Z) Z (A3 (C2 Z Z (by omega)) Z (A3 (n_sub_l Z Z (by omega) (by omega)) Z (A3 (A6 Z Z) Z (A7 ?_))))))))
  refine k1 ?_
  refine A4 (A3 (A5 Z Z) Z (A3 (C2 Z Z (by omega)) Z (A3 (A6 Z Z) Z (A7 ?_))))
  refine k4 (k1 ?_)
  have e1:r.take (((a.length:Int)+1).toNat)=a++[10]:=by rw [h1,show ((a.length:Int)+1).toNat=a.length+1 by omega,show a++10::b=(a++[10])++b by simp,List.take_left' (by simp)]
  have e2:r.drop (((a.length:Int)+(([10]:Str).length:Int)).toNat)=b:=by rw [h1,h10,show ((a.length:Int)+((1:Nat):Int)).toNat=a.length+1 by omega,show a++10::b=(a++[10])++b by simp,List.drop_left' (by simp)]
  refine ⟨(i+1,b),⟨by dsimp only;omega,h5,by dsimp only;omega⟩,by dsimp only;omega,?_⟩
  rw [e1,e2]
  dsimp only
  rw [←E59 P [] _ i h4]
  exact I62 ⟨le1 rfl,le1 rfl,le1 rfl,le1 rfl,le1 rfl,le1 rfl,trivial⟩ ⟨rfl,trivial⟩
 ·have hge:i+1=P.length:=by have:=A1 ht;omega
  have h1:=U8 r []
  have h2:(P.drop i).length=r.count 10+1:=by rw [hp];exact h1
  rw [J15] at h2
  have h3:(10:UInt8)∉r:=List.count_eq_zero.1 (by omega)
  have h4:P[i]?=some r:=by rw [←List.head?_drop,hp];unfold O0;rw [E26 _ _ h3];rfl
  refine k6 (k2 ?_)
  refine A4 (A3 (A5 Z Z) Z (A3 (A5 Z Z) Z (A3 (A5 Z Z) Z (A3 (G1 Z Z Z (by omega) (by (simp;omega))) Z (F6 (I6 TySz.out Z Z (by simp;omega) Z Z) (A7 ?_))))))
  refine k1 (k2 ?_)
  have e:(P.take i++List.replicate (P.length - i) ([]:Str)).set (i:Int).toNat r=P:=by rw [I99,E59 P [] r i h4,hge];simp
  rw [e]
  refine H4 (Sees.freeze (k:=9) Z) ?_
  refine A4 (A3 (A5 Z Z) Z (A3 (A5 Z Z) Z (A3 (C2 Z Z (by omega)) Z (A3 (E31 Z (.pure _ _ _ _) Z (by omega) (by omega)) Z (A3 (A6 Z Z) Z (A7 ?_))))))
  refine k1 (k10 ?_)
  exact C0 (I2 rfl rfl rfl) (by rw [show ((i:Int)+1).toNat=P.length by omega,J21,hPe])
theorem E15 (s:Str) (hs:s.length≤536870912):FnOk Tryz.prog 174 [N6 s,N6 [10]] (fun rs=>rs=[A64 (O0 s)]):=by
 refine FnOk.intro Tryz.func174 (by decide) Z Z Z Z ?_
 refine k2 ?_
 refine A4 (A3 (A6 Z Z) Z (A7 ?_))
 refine k1 (k2 ?_)
 refine A4 (A3 (A5 Z Z) Z (A3 (A5 Z Z) Z (A3 (A5 Z Z) Z (A3 (J4 Z) Z (C8 (F69 s hs) Z Z Z ?_)))));rintro _ rfl;refine A3 (A6 Z Z) Z (A7 ?_)
 refine k1 (k10 ?_)
 exact C0 (I2 rfl rfl rfl) rfl
theorem H54 (s:Str) (hs:s.length≤536870912):FnOk Tryz.prog 173 [N6 s] (fun rs=>rs=[J0 (y3 s)]):=by
 have hl:=E27 s
 have hc:s.count 10≤s.length:=List.count_le_length
 refine FnOk.intro Tryz.func173 (by decide) Z Z Z Z ?_
 refine k2 ?_
 refine A4 (A3 (A6 Z Z) Z (A7 ?_))
 refine k1 (k2 ?_)
 refine A4 (A3 (A5 Z Z) Z (C8 (E51 s 10) Z Z Z ?_));rintro _ rfl;refine A3 (A6 Z Z) Z (A7 ?_)
 refine K8 ?_
 refine A66 [(0,U4 s),(3,B8 (B7 s).length)] [] ?_ ?_
 ·refine k2 ?_
  refine A4 (A3 (A5 Z Z) Z (A3 (E89 Z Z) Z (A3 (A5 Z Z) Z (B0 Z Z Z Z (fun hg=>by rw [hg];exact A5 Z Z) ?_))));refine B0 Z Z Z Z (fun hg=>by have hq:=hg;(try simp at hq);rw [hg];exact Q1 (B11 s (by omega)) Z Z) ?_;refine B0 Z Z Z Z (fun hg=>by rw [hg];exact L6 Z) ?_;refine A3 (B5 Z (fun h=>by first | rfl | (rw [h];rfl)) (fun h=>by first | rfl | (rw [h];rfl))) Z ?_;refine A7 ?_
  refine k1 ?_
  refine B3 rfl (fun ht=>?_) (fun ht=>?_)
  ·have h:s≠[]∧ended s=false:=by
    by_cases h1:s=[]
    ·simp [h1] at ht
    ·refine ⟨h1,?_⟩;simpa [h1] using ht
   rw [if_pos h] at hl
   skip
   refine A4 (A3 (A5 Z Z) Z (A3 (C2 Z Z (by omega)) Z (A3 (A6 Z Z) Z (A7 ?_))))
   refine k1 ?_
   rw [hl,Int.natCast_add]
   exact I62 ⟨le1 rfl,le1 rfl,trivial⟩ trivial
  ·have h:¬(s≠[]∧ended s=false):=by
    rintro ⟨h1,h2⟩
    simp [h1,h2] at ht
   rw [if_neg h] at hl
   refine k5 (k1 ?_)
   rw [hl]
   exact I62 ⟨le1 rfl,le1 rfl,trivial⟩ trivial
 ·refine k2 (k2 ?_)
  refine A4 (A3 (A5 Z Z) Z (A3 (J4 Z) Z (A3 (R1 Z Z) Z (A3 (A5 Z Z) Z (B0 Z Z Z Z (fun hg=>by rw [hg];exact A5 Z Z) ?_)))));refine B0 Z Z Z Z (fun hg=>by rw [hg];exact R1 Z Z) ?_;refine A3 (B5 Z (fun h=>by first | rfl | (rw [h];rfl)) (fun h=>by first | rfl | (rw [h];rfl))) Z ?_;refine A7 ?_
  refine k1 ?_
  refine B3 rfl (fun ht=>?_) (fun ht=>?_)
  ·have h:=A0 (or_pick.symm.trans ht)
   refine k2 ?_
   refine A4 (A3 (A6 Z Z) Z (A7 ?_))
   refine k1 (k10 (k11 ?_))
   exact C0 (I2 rfl rfl rfl) (by rw [y3,if_pos (by omega)])
  ·have h:=A1 (or_pick.symm.trans ht)
   refine k5 (k1 (k2 ?_))
   refine A4 (A3 (A6 Z Z) Z (A7 ?_))
   refine k1 (k10 ?_)
   exact C0 (I2 rfl rfl rfl) (by rw [y3,if_neg (by omega)])
theorem H55 (s:Str) (hs:s.length≤536870912):FnOk Tryz.prog 107 [N6 s] (fun rs=>rs=[A64 (B14 s).1,J0 (B14 s).2]):=by
 have hp:B7 s=if (O0 s).getLastD []=[] then (O0 s).dropLast else O0 s:=F97 s []
 have hc:(O0 s).length=s.count 10+1:=U8 s []
 have hcl:s.count 10≤s.length:=List.count_le_length
 refine FnOk.intro Tryz.func107 (by decide) Z Z Z Z ?_
 refine k2 ?_
 refine A4 (A3 (A6 Z Z) Z (A3 (A6 Z Z) Z (A7 ?_)))
 refine k1 (k2 (k2 ?_))
 refine A4 (A3 (A5 Z Z) Z (C8 (H54 s hs) Z Z Z ?_));rintro _ rfl;refine A3 (A6 Z Z) Z (A7 ?_)
 refine k1 (k2 ?_)
 refine A4 (A3 (A5 Z Z) Z (A3 (R4 Z Z) Z (A7 ?_)))
 refine k1 ?_
 refine B3 rfl (fun ht=>?_) (fun ht=>?_)
 ·have h:y3 s≠0:=by simpa using ht
  have h1:s.length > 1048576∨(B7 s).length > 4096:=by
   by_cases h1:s.length > 1048576∨(B7 s).length > 4096
   ·exact h1
   ·exact absurd (by rw [y3,if_neg h1]) h
  refine k2 ?_
  refine A4 (A3 (A5 Z Z) Z (A3 (S2 _ 1 P3) Z (A3 (A6 Z Z) Z (A7 ?_))))
  refine k1 (k10 (k11 ?_))
  exact C0 (B21 rfl rfl rfl rfl rfl) (by rw [B14,if_pos h1,y3,if_pos h1])
 ·have h:y3 s=0:=by simpa using ht
  have h1:¬(s.length > 1048576∨(B7 s).length > 4096):=fun h1=>by rw [y3,if_pos h1] at h;omega
  have hv:(O0 s)[(O0 s).length - 1]?=some ((O0 s).getLastD []):=by
   rw [←List.getLast?_eq_getElem?,List.getLast?_eq_some_getLast (fun e=>by rw [e] at hc;simp at hc)]
   rw [List.getLastD_eq_getLast?,List.getLast?_eq_some_getLast (fun e=>by rw [e] at hc;simp at hc)];rfl
  have hi:(((O0 s).length:Int) - 1).toNat=(O0 s).length - 1:=by omega
  refine k5 (k1 (k2 ?_))
  refine A4 (A3 (A5 Z Z) Z (C8 (E15 s hs) Z Z Z ?_));rintro _ rfl;refine A3 (A6 Z Z) Z (A7 ?_)
  refine K8 ?_
  refine A66 [(5,C7 Str 1 P3 (B7 s))] [] ?_ ?_
  ·refine k2 ?_
   refine A4 (A3 (A5 Z Z) Z (A3 (A5 Z Z) Z (A3 (E3 Z (.pure _ _ _ _)) Z (A3 (Y1 Z Z (by omega)) Z (A3 (B4 Z (.pure _ _ _ _) Z (by omega) (by rw [hi];exact hv)) Z ?_)))));refine A3 (C5 Z Z) Z (A3 (E88 Z Z) Z (A7 ?_))
   refine k1 ?_
   refine B3 rfl (fun ht=>?_) (fun ht=>?_)
   ·have h2:=A0 ht
    skip
    refine A4 (A3 (A5 Z Z) Z (A3 (A5 Z Z) Z (A3 (E3 Z (.pure _ _ _ _)) Z (A3 (Y1 Z Z (by omega)) Z (A3 (E31 Z (.pure _ _ _ _) Z (by omega) (by omega)) Z (A3 (A6 Z Z) Z (A7 ?_)))))))
    refine k1 ?_
    rw [hp,if_pos h2,List.dropLast_eq_take,←hi]
    exact I62 ⟨le1 rfl,trivial⟩ trivial
   ·have h2:=A1 ht
    refine k5 (k1 ?_)
    rw [hp,if_neg h2]
    exact I62 ⟨le1 rfl,trivial⟩ trivial
  ·refine k2 ?_
   refine A4 (A3 (A5 Z Z) Z (A3 (A6 Z Z) Z (A3 (A6 Z Z) Z (A7 ?_))))
   refine k1 (k10 ?_)
   exact C0 (B21 rfl rfl rfl rfl rfl) (by rw [B14,if_neg h1])
end Go.Proofs.YtbiadkkamhpdnaaGreatDoor
namespace Go.Proofs.YtbiadkkamhpdnaaGreatDoor
open Go Go.AL
set_option maxRecDepth 100000
theorem C97 (a b:UInt8):decide ((a.toNat:Int)≠(b.toNat:Int))=decide (a≠b):=by
 by_cases h:a=b
 ·subst h;simp
 ·have:(a.toNat:Int)≠(b.toNat:Int):=fun e=>h (UInt8.toNat_inj.1 (by omega))
  rw [decide_eq_true this,decide_eq_true h]
theorem kn32 (c:UInt8):decide ((c.toNat:Int)≠32)=decide (c≠32):=C97 c 32
theorem kn45 (c:UInt8):decide ((c.toNat:Int)≠45)=decide (c≠45):=C97 c 45
theorem kn43 (c:UInt8):decide ((c.toNat:Int)≠43)=decide (c≠43):=C97 c 43
end Go.Proofs.YtbiadkkamhpdnaaGreatDoor
namespace Go.Proofs.YtbiadkkamhpdnaaGreatDoor
open Go Go.AL
set_option maxRecDepth 100000
set_option maxHeartbeats 1000000
end Go.Proofs.YtbiadkkamhpdnaaGreatDoor
namespace Go.Proofs.YtbiadkkamhpdnaaGreatDoor
open Go Go.AL
set_option maxRecDepth 100000
end Go.Proofs.YtbiadkkamhpdnaaGreatDoor
namespace Go.Proofs.YtbiadkkamhpdnaaGreatDoor
open Go Go.AL
set_option maxRecDepth 100000
end Go.Proofs.YtbiadkkamhpdnaaGreatDoor
