/- Walks of the program's functions. -/
import Derived.Test.YtbiadkkamhpdnaaGreatDoorFd
import Derived.Test.YtbiadkkamhpdnaaGreatDoorAn
import Derived.Test.YtbiadkkamhpdnaaGreatDoorFb
import Derived.Test.YtbiadkkamhpdnaaGreatDoorFs
import Derived.Test.YtbiadkkamhpdnaaGreatDoorFc
set_option linter.unusedSimpArgs false
namespace Go.Proofs.YtbiadkkamhpdnaaGreatDoor
open Go Go.AL
set_option maxRecDepth 100000
abbrev Z8 (s:Str) (i:Nat):Ob:=.box [.p (.v (.string ⟨s.toArray⟩)),.p (.v (.int .i64 (i:Int)))]
abbrev t8 (x:Int):S1:=.one (.p (.v (.int .u8 x)))
abbrev tBo (b:Bool):S1:=.one (.p (.v (.bool b)))
def H06 (c:UInt8):Prop:=48≤c.toNat∧c.toNat≤55
def C00 (s:Str) (i:Nat):Nat→Nat
 | 0=>0
 | q+1=>8*C00 s i q+((s.getD (i+q) 0).toNat - 48)
def O6 (s:Str) (i q:Nat):Prop:=i+q < s.length∧H06 (s.getD (i+q) 0)
instance (s:Str) (i q:Nat):Decidable (O6 s i q):=by unfold O6 H06;exact inferInstance
def F28 (s:Str) (i:Nat):Option UInt8:=if (O6 s i 0∧O6 s i 1∧O6 s i 2)∧C00 s i 3 < 256 then some (UInt8.ofNat (C00 s i 3)) else none
theorem D30 {s:Str} {i q:Nat} (hq:q < 3) (h:¬O6 s i q):F28 s i=none:=by
 unfold F28
 rw [if_neg]
 rintro ⟨⟨h0,h1,h2⟩,_⟩
 rcases (show q=0∨q=1∨q=2 by omega) with rfl | rfl | rfl<;>exact h ‹_›
theorem I66 {s:Str} {i:Nat}:∀q,q≤3→(∀p,p < q→O6 s i p)→C00 s i q≤8 ^ q - 1
 | 0,_,_=>by simp [C00]
 | q+1,hq,h=>by
  have ih:=I66 q (by omega) (fun p hp=>h p (by omega))
  have h1:=(h q (by omega)).2
  unfold H06 at h1
  simp only [C00]
  rcases (show q=0∨q=1∨q=2 by omega) with rfl | rfl | rfl<;>omega
theorem J80 {s:Str} {i:Nat} (h:∀p,p < 3→O6 s i p):F28 s i=if C00 s i 3 < 256 then some (UInt8.ofNat (C00 s i 3)) else none:=by
 unfold F28
 by_cases hv:C00 s i 3 < 256
 ·rw [if_pos ⟨⟨h 0 (by omega),h 1 (by omega),h 2 (by omega)⟩,hv⟩,if_pos hv]
 ·rw [if_neg (fun hh=>hv hh.2),if_neg hv]
theorem H07 {k0:Nat} {x:Ob} {ob:Obs} (h:C4 ob k0=some x):∀k o,C4 ((k0,x)::ob) k=some o→C4 ob k=some o:=by
 intro k o hk
 by_cases he:k0=k
 ·subst he;rw [C8] at hk;cases hk;exact h
 ·rw [B6 he] at hk;exact hk
theorem E46 {k0:Nat} {x y:Ob} {ob:Obs}:∀k o,C4 ((k0,x)::ob) k=some o→C4 ((k0,x)::(k0,y)::ob) k=some o:=by
 intro k o hk
 by_cases he:k0=k
 ·subst he;rw [C8] at hk ⊢;exact hk
 ·rw [B6 he] at hk ⊢;rw [B6 he];exact hk
theorem J06 {gf:Fr} {ob:Obs} (s:Str) (i:Nat) (hi:i≤s.length) (hs:s.length≤1073741824) (h5:C4 ob 705=some (Z8 s i)) :
  AL.Met Tryz.prog 283 [.one (.ref 705 0)] gf ob []
   (fun rs ob'=>∃(x:Int) (b:Bool) (j:Nat),rs=[t8 x,tBo b]∧ob'=(705,Z8 s j)::ob∧j≤s.length∧match F28 s i with
    | some c=>b=true∧x=c.toNat∧j=i+3
    | none=>b=false):=by
 refine AL.Met.introH Tryz.func283 (by decide) rfl rfl rfl (fun hH=>?_)
 refine k2 ?_
 refine A4 (A3 (A6 Z Z) Z (A3 (A6 Z Z) Z (A7 ?_)))
 refine k1 (k2 ?_)
 refine A4 (A3 (A6 Z Z) Z (A7 ?_))
 refine k1 (k2 (k2 ?_))
 refine A4 (A3 (A5 Z Z) Z (A7 ?_))
 refine k1 (k3 ?_)
 refine E4 (X:=Nat) (fun q=>([(0,.s (.one (.ref 705 0))),(4,C2 (C00 s i q:Int)),(5,C2 q)]++gf,(705,Z8 s (i+q))::ob)) (fun q=>q≤3∧∀p,p < q→O6 s i p) (fun q=>3 - q) 0 ⟨by omega,by omega⟩ ?_ ?_
 ·exact K20 ⟨le1 rfl,le1 rfl,le1 rfl,trivial⟩ hH (by repeat (first | exact C5 | refine tail_cons rfl ?_)) (H07 h5)
 rintro q ⟨hq,hok⟩
 dsimp only at hq hok ⊢
 have hle:=I66 q hq hok
 have hlen:q=0∨i+q≤s.length:=by
  rcases Nat.eq_zero_or_pos q with h | h
  ·exact .inl h
  ·have:=(hok (q - 1) (by omega)).1;exact .inr (by omega)
 have hiq:i+q≤s.length:=by rcases hlen with rfl | h<;>omega
 have h8:C00 s i q≤512:=by rcases (show q=0∨q=1∨q=2∨q=3 by omega) with rfl | rfl | rfl | rfl<;>omega
 refine k2 ?_
 refine A4 (A3 (E5 Z Z) Z (A7 ?_))
 refine k1 (k2 ?_)
 refine B4 rfl (fun ht=>?_) (fun ht=>?_)
 ·have hlt:q < 3:=by have:=A0 ht;omega
  refine k5 (k1 (k2 (k3 (k2 (k2 ?_)))))
  refine D7 (by kernel_rfl) (by kernel_rfl) (B1 (A5 Z Z) Z Z (B1 (B2 Z) Z Z (B1 (A8 Z) Z Z (B1 (A9 Z Z Z) Z Z (B1 (A5 Z Z) Z Z (B1 (B2 Z) Z Z (B1 (A8 Z) Z Z (B1 (A9 Z Z Z) Z Z (B1 (E3 Z) Z Z (B1 (s8 Z Z) Z Z (B1 (A5 Z Z) Z Z (E7 Z Z (fun hg=>by rw [hg];exact A5 Z Z) Z Z ?_))))))))))));refine E7 Z Z (fun hg=>by rw [hg];exact B2 Z) Z Z ?_;refine E7 Z Z (fun hg=>by rw [hg];exact A8 Z) Z Z ?_;refine E7 Z Z (fun hg=>by rw [hg];exact A9 Z Z Z) Z Z ?_;refine E7 Z Z (fun hg=>by rw [hg];exact A5 Z Z) Z Z ?_;refine E7 Z Z (fun hg=>by rw [hg];exact B2 Z) Z Z ?_;refine E7 Z Z (fun hg=>by rw [hg];exact A8 Z) Z Z ?_;refine E7 Z Z (fun hg=>by rw [hg];exact A9 Z Z Z) Z Z ?_;refine E7 Z Z (fun hg=>by have hq:=hg;(try simp at hq);rw [hg];exact L3 Z Z (by omega) (gD (by omega))) Z Z ?_;refine E7 Z Z (fun hg=>by rw [hg];exact E5 Z Z) Z Z ?_;refine B1 (B5 Z (fun h=>by first | rfl | (rw [h];rfl)) (fun h=>by first | rfl | (rw [h];rfl))) Z Z ?_;refine B1 (A5 Z Z) Z Z (E7 Z Z (fun hg=>by rw [hg];exact A5 Z Z) Z Z ?_);refine E7 Z Z (fun hg=>by rw [hg];exact B2 Z) Z Z ?_;refine E7 Z Z (fun hg=>by rw [hg];exact A8 Z) Z Z ?_;refine E7 Z Z (fun hg=>by rw [hg];exact A9 Z Z Z) Z Z ?_;refine E7 Z Z (fun hg=>by rw [hg];exact A5 Z Z) Z Z ?_;refine E7 Z Z (fun hg=>by rw [hg];exact B2 Z) Z Z ?_;refine E7 Z Z (fun hg=>by rw [hg];exact A8 Z) Z Z ?_;refine E7 Z Z (fun hg=>by rw [hg];exact A9 Z Z Z) Z Z ?_;refine E7 Z Z (fun hg=>by have hq:=hg;(try simp at hq);rw [hg];exact L3 Z Z (by omega) (gD (by omega))) Z Z ?_;refine E7 Z Z (fun hg=>by rw [hg];exact Q1 Z Z) Z Z ?_;refine B1 (B5 Z (fun h=>by first | rfl | (rw [h];rfl)) (fun h=>by first | rfl | (rw [h];rfl))) Z Z ?_;refine M2 ?_
  refine k1 ?_
  simp only [or_pick,K62]
  have hsnd:decide ((((s.length:Int)≤((i+q:Nat):Int))∨((s.getD (i+q) 0).toNat:Int) < 48)∨(55:Int) < ((s.getD (i+q) 0).toNat:Int))=decide (¬O6 s i q):=by
   congr 1
   unfold O6 H06
   apply propext;constructor
   ·intro h1 h2;omega
   ·intro h1
    by_cases h3:i+q < s.length
    ·by_cases h4:48≤(s.getD (i+q) 0).toNat
     ·by_cases h5:(s.getD (i+q) 0).toNat≤55
      ·exact absurd ⟨h3,h4,h5⟩ h1
      ·exact .inr (by omega)
     ·exact .inl (.inr (by omega))
    ·exact .inl (.inl (by omega))
  rw [hsnd]
  refine B4 rfl (fun ht=>?_) (fun ht=>?_)
  ·have hbad:¬O6 s i q:=A0 ht
   refine k2 ?_
   refine A4 (A3 (A6 Z Z) Z (A3 (A6 Z Z) Z (A7 ?_)))
   refine k1 (k10 (k11 (k12 (k11 (k11 (k12 (k11 ?_)))))))
   refine H3 (A67 rfl rfl rfl) (by repeat (first | exact C5 | refine tail_cons rfl ?_ | refine D5 _ ?_)) (fun _ _ h=>h) ⟨0,false,i+q,rfl,rfl,hiq,?_⟩
   rw [D30 hlt hbad]
  ·have hgood:O6 s i q:=Decidable.not_not.1 (A1 ht)
   obtain ⟨g1,g2,g3⟩:=hgood
   have hgood:O6 s i q:=⟨g1,g2,g3⟩
   have hsub:=H05 (s.getD (i+q) 0).toNat g2 (by omega)
   refine k5 (k1 (k2 ?_))
   have hv:s[i+q]?=some (s.getD (i+q) 0):=gD g1
   refine D7 (by kernel_rfl) (by kernel_rfl) (B1 (A5 Z Z) Z Z (B1 (B28 Z Z (by omega)) Z Z (B1 (A5 Z Z) Z Z (B1 (B2 Z) Z Z (B1 (A8 Z) Z Z (B1 (A9 Z Z Z) Z Z (B1 (A5 Z Z) Z Z (B1 (B2 Z) Z Z (B1 (A8 Z) Z Z (B1 (A9 Z Z Z) Z Z (B1 (L3 Z Z (by omega) hv) Z Z (B1 (G12 Z Z) Z Z (B1 (R9 Z) Z Z (B1 (C6 Z Z (by (rw [hsub];omega))) Z Z ?_))))))))))))));refine B1 (A6 Z Z) Z Z (M2 ?_)
   rw [hsub]
   refine k1 ?_
   refine A4 (A3 (A5 Z Z) Z (A3 (B2 Z) Z (A3 (A8 Z) Z (A3 (A9 Z Z Z) Z (A3 (C6 Z Z (by omega)) Z (A3 (B2 Z) Z (A3 (A8 Z) Z (E1 (B7 TySz.out Z Z Z Z Z Z) (A7 ?_)))))))))
   refine k4 (k1 ?_)
   refine A4 (A3 (C6 Z Z (by omega)) Z (A3 (A5 Z Z) Z (A7 ?_)))
   refine k1 ?_
   refine ⟨q+1,⟨by omega,fun p hp=>?_⟩,by omega,?_⟩
   ·by_cases hpq:p=q
    ·rw [hpq];exact hgood
    ·exact hok p (by omega)
   rw [show ((C00 s i (q+1):Nat):Int)=8*((C00 s i q:Nat):Int)+(((s.getD (i+q) 0).toNat - 48:Nat):Int) by simp only [C00];omega,show Z8 s (i+(q+1))=.box [.p (.v (.string ⟨s.toArray⟩)),.p (.v (.int .i64 (((i+q:Nat):Int)+1)))] by unfold Z8;congr 6]
   exact K20 ⟨le1 rfl,le1 rfl,le1 rfl,trivial⟩ hH (by repeat (first | exact C5 | refine tail_cons rfl ?_)) E46
 ·have hq3:q=3:=by have:=A1 ht;omega
  subst hq3
  refine k6 (k2 ?_)
  refine A4 (A3 (A5 Z Z) Z (A3 (R9 Z) Z (A3 (A5 Z Z) Z (A3 (E5 Z Z) Z (A3 (A6 Z Z) Z (A3 (A6 Z Z) Z (A7 ?_)))))))
  refine k1 (k10 ?_)
  refine H3 (A67 rfl rfl rfl) (by repeat (first | exact C5 | refine tail_cons rfl ?_ | refine D5 _ ?_)) (fun _ _ h=>h) ⟨_,_,i+3,rfl,rfl,hiq,?_⟩
  rw [J80 hok]
  by_cases hv:C00 s i 3 < 256
  ·rw [if_pos hv]
   refine ⟨decide_eq_true (by omega),?_,rfl⟩
   rw [UInt8.toNat_ofNat']
   have:∀n:Fin 256,IntKind.u8.wrap ((n.1:Nat):Int)=((n.1 % 2 ^ 8:Nat):Int):=by decide
   exact this ⟨_,hv⟩
  ·rw [if_neg hv]
   exact decide_eq_false (by omega)
def G38 (s:Str) (i:Nat):Option (UInt8 × Nat):=if i < s.length then
  (if (s.getD i 0).toNat=34∨(s.getD i 0).toNat=92 then some (s.getD i 0,i+1) else if (s.getD i 0).toNat=110 then some (10,i+1) else if (s.getD i 0).toNat=116 then some (9,i+1) else (F28 s i).map fun x=>(x,i+3))
 else none
theorem E03 (s:Str) (i:Nat):G38 s i=(B24 (s.drop i)).map fun p=>(p.1,i+p.2):=by
 unfold G38
 by_cases hi:i < s.length
 ·rw [if_pos hi]
  have h0:(s.drop i)[0]?=some (s.getD i 0):=by rw [K83];exact gD hi
  have hg:∀q,(s.drop i)[q]?=s[i+q]?:=fun q=>K83
  obtain ⟨d,r,hdr⟩:∃d r,s.drop i=d::r:=by
   cases h:s.drop i with
   | nil=>rw [h] at h0;cases h0
   | cons d r=>exact ⟨d,r,rfl⟩
  rw [hdr] at h0 hg ⊢
  have hd:s.getD i 0=d:=by simpa using h0.symm
  rw [hd]
  simp only [B24]
  by_cases c1:d.toNat=34∨d.toNat=92
  ·rw [if_pos c1,if_pos c1];rfl
  ·rw [if_neg c1,if_neg c1]
   by_cases c2:d.toNat=110
   ·rw [if_pos c2,if_pos c2];rfl
   ·rw [if_neg c2,if_neg c2]
    by_cases c3:d.toNat=116
    ·rw [if_pos c3,if_pos c3];rfl
    ·rw [if_neg c3,if_neg c3]
     cases r with
     | nil =>
      have:¬O6 s i 1:=fun h=>by have:=h.1;have h2:=hg 1;rw [K57 this] at h2;simp at h2
      rw [D30 (q:=1) (by omega) this];rfl
     | cons e r2 =>
      cases r2 with
      | nil =>
       have:¬O6 s i 2:=fun h=>by have:=h.1;have h2:=hg 2;rw [K57 this] at h2;simp at h2
       rw [D30 (q:=2) (by omega) this];rfl
      | cons f r3 =>
       have h1:=hg 1
       have h2:=hg 2
       simp only [List.getElem?_cons_succ,List.getElem?_cons_zero] at h1 h2
       have l1:=(List.getElem?_eq_some_iff.1 h1.symm).1
       have l2:=(List.getElem?_eq_some_iff.1 h2.symm).1
       have e1:s.getD (i+1) 0=e:=by have:=gD l1;rw [←h1] at this;exact (Option.some.inj this).symm
       have e2:s.getD (i+2) 0=f:=by have:=gD l2;rw [←h2] at this;exact (Option.some.inj this).symm
       have hV:F28 s i=octV d e f:=by
        unfold F28 octV O6 H06
        simp only [C00,Nat.add_zero,hd,e1,e2]
        by_cases hc:(((((d.toNat < 48∨55 < d.toNat)∨e.toNat < 48)∨55 < e.toNat)∨f.toNat < 48)∨55 < f.toNat)∨256≤64*(d.toNat - 48)+8*(e.toNat - 48)+(f.toNat - 48)
        ·rw [if_pos hc,if_neg (by omega)]
        ·rw [if_neg hc,if_pos (by omega)]
         congr 2;omega
       rw [hV]
       show (octV d e f).map _=((octV d e f).map _).map _
       rw [Option.map_map];rfl
 ·rw [if_neg hi,K66 (by omega)];rfl
theorem escI_le {s:Str} {i j:Nat} {x:UInt8} (h:G38 s i=some (x,j)):i < j∧j≤s.length:=by
 rw [E03] at h
 cases he:B24 (s.drop i) with
 | none=>rw [he] at h;cases h
 | some p =>
  obtain ⟨y,k⟩:=p
  rw [he] at h
  simp at h
  have:=F91 he
  rw [K65] at this
  omega
theorem E47 {gf:Fr} {ob:Obs} (s:Str) (i:Nat) (hi:i≤s.length) (hs:s.length≤1073741824) (h5:C4 ob 705=some (Z8 s i)) :
  AL.Met Tryz.prog 276 [.one (.ref 705 0)] gf ob []
   (fun rs ob'=>∃(x:Int) (b:Bool) (j:Nat),rs=[t8 x,tBo b]∧ob'=(705,Z8 s j)::ob∧j≤s.length∧match G38 s i with
    | some (c,j')=>b=true∧x=c.toNat∧j=j'
    | none=>b=false):=by
 refine AL.Met.introH Tryz.func276 (by decide) rfl rfl rfl (fun hH=>?_)
 refine E6 (fr':=[(0,.s (.one (.ref 705 0)))]++gf) (ob':=(705,Z8 s i)::ob) (K20 ⟨le1 rfl,trivial⟩ hH (by repeat (first | exact C5 | refine tail_cons rfl ?_)) (H07 h5)) ?_
 refine k2 ?_
 refine A4 (A3 (A6 Z Z) Z (A3 (A6 Z Z) Z (A7 ?_)))
 refine k1 (k2 (k2 ?_))
 refine D7 (by kernel_rfl) (by kernel_rfl) (B1 (A5 Z Z) Z Z (B1 (B2 Z) Z Z (B1 (A8 Z) Z Z (B1 (A9 Z Z Z) Z Z (B1 (A5 Z Z) Z Z (B1 (B2 Z) Z Z (B1 (A8 Z) Z Z (B1 (A9 Z Z Z) Z Z (B1 (E3 Z) Z Z (B1 (s8 Z Z) Z Z (M2 ?_)))))))))))
 refine k1 ?_
 refine B4 rfl (fun ht=>?_) (fun ht=>?_)
 ·have h1:¬i < s.length:=by have:=A0 ht;omega
  refine k2 ?_
  refine A4 (A3 (A6 Z Z) Z (A3 (A6 Z Z) Z (A7 ?_)))
  refine k1 (k10 (k11 ?_))
  refine H3 (A67 rfl rfl rfl) (by repeat (first | exact C5 | refine tail_cons rfl ?_ | refine D5 _ ?_)) (fun _ _ h=>h) ⟨0,false,i,rfl,rfl,hi,?_⟩
  unfold G38;rw [if_neg h1]
 have hlt:i < s.length:=by have:=A1 ht;omega
 obtain ⟨c,hc⟩:∃c,c=s.getD i 0:=⟨_,rfl⟩
 have hv:s[i]?=some c:=by rw [hc];exact gD hlt
 have hE:G38 s i=(if c.toNat=34∨c.toNat=92 then some (c,i+1) else if c.toNat=110 then some (10,i+1) else if c.toNat=116 then some (9,i+1) else (F28 s i).map fun x=>(x,i+3)):=by unfold G38;rw [if_pos hlt,←hc]
 refine k5 (k1 (k2 (k2 ?_)))
 refine D7 (by kernel_rfl) (by kernel_rfl) (B1 (A5 Z Z) Z Z (B1 (B2 Z) Z Z (B1 (A8 Z) Z Z (B1 (A9 Z Z Z) Z Z (B1 (A5 Z Z) Z Z (B1 (B2 Z) Z Z (B1 (A8 Z) Z Z (B1 (A9 Z Z Z) Z Z (B1 (L3 Z Z (by omega) hv) Z Z (B1 (A6 Z Z) Z Z (M2 ?_)))))))))))
 refine k1 (k2 ?_)
 refine A4 (A3 (A5 Z Z) Z (A7 ?_))
 refine J9 ?_
 refine I54 ?_
 refine u7 ([(0,.s (.one (.ref 705 0))),(4,.s (t8 c.toNat)),(24,.s (t8 c.toNat)),(25,I8 (.bool (decide (c.toNat=34∨c.toNat=92))))]++gf) ((705,Z8 s i)::ob) ?_ ?_
 ·refine k2 ?_
  refine A4 (A3 (J3 Z Z) Z (A3 (A6 Z Z) Z (A7 ?_)))
  refine k1 ?_
  refine B4 rfl (fun ht=>?_) (fun ht=>?_)
  ·have h1:(c.toNat:Int)=34:=A0 ht
   refine k5 (k1 ?_)
   exact K20 ⟨le1 rfl,le1 rfl,le1 rfl,⟨_,rfl,.eq (by congr 4;apply propext;constructor<;>intro _<;>omega)⟩,trivial⟩ hH (by repeat (first | exact C5 | refine tail_cons rfl ?_)) (fun _ _ h=>h)
  ·have h1:¬(c.toNat:Int)=34:=A1 ht
   skip
   refine A4 (A3 (J3 Z Z) Z (A3 (A6 Z Z) Z (A7 ?_)))
   refine k1 ?_
   exact K20 ⟨le1 rfl,le1 rfl,le1 rfl,⟨_,rfl,.eq (by congr 4;apply propext;constructor<;>intro _<;>omega)⟩,trivial⟩ hH (by repeat (first | exact C5 | refine tail_cons rfl ?_)) (fun _ _ h=>h)
 skip
 refine B4 rfl (fun ht=>?_) (fun ht=>?_)
 ·have h1:=A0 ht
  rw [if_pos h1] at hE
  refine k2 ?_
  refine A4 (A3 (A5 Z Z) Z (A3 (B2 Z) Z (A3 (A8 Z) Z (A3 (A9 Z Z Z) Z (A3 (C6 Z Z (by omega)) Z (A3 (B2 Z) Z (A3 (A8 Z) Z (E1 (B7 TySz.out Z Z Z Z Z Z) (A7 ?_)))))))))
  refine k1 (k2 ?_)
  refine A4 (A3 (A5 Z Z) Z (A3 (A6 Z Z) Z (A3 (A6 Z Z) Z (A7 ?_))))
  refine k1 (k10 (k12 (k11 ?_)))
  refine H3 (A67 rfl rfl rfl) (by repeat (first | exact C5 | refine tail_cons rfl ?_ | refine D5 _ ?_)) E46 ⟨c.toNat,true,i+1,rfl,rfl,hlt,?_⟩
  rw [hE];exact ⟨rfl,rfl,rfl⟩
 have h1:=A1 ht
 rw [if_neg h1] at hE
 refine k2 ?_
 refine A4 (A3 (J3 Z Z) Z (A3 (A6 Z Z) Z (A7 ?_)))
 refine k1 ?_
 refine B4 rfl (fun ht=>?_) (fun ht=>?_)
 ·have h2:(c.toNat:Int)=110:=A0 ht
  rw [if_pos (by omega)] at hE
  refine k2 ?_
  refine A4 (A3 (A5 Z Z) Z (A3 (B2 Z) Z (A3 (A8 Z) Z (A3 (A9 Z Z Z) Z (A3 (C6 Z Z (by omega)) Z (A3 (B2 Z) Z (A3 (A8 Z) Z (E1 (B7 TySz.out Z Z Z Z Z Z) (A7 ?_)))))))))
  refine k1 (k2 ?_)
  refine A4 (A3 (A6 Z Z) Z (A3 (A6 Z Z) Z (A7 ?_)))
  refine k1 (k10 (k12 (k11 ?_)))
  refine H3 (A67 rfl rfl rfl) (by repeat (first | exact C5 | refine tail_cons rfl ?_ | refine D5 _ ?_)) E46 ⟨10,true,i+1,rfl,rfl,hlt,?_⟩
  rw [hE];exact ⟨rfl,rfl,rfl⟩
 have h2:¬(c.toNat:Int)=110:=A1 ht
 rw [if_neg (by omega)] at hE
 refine k2 ?_
 refine A4 (A3 (J3 Z Z) Z (A3 (A6 Z Z) Z (A7 ?_)))
 refine k1 ?_
 refine B4 rfl (fun ht=>?_) (fun ht=>?_)
 ·have h3:(c.toNat:Int)=116:=A0 ht
  rw [if_pos (by omega)] at hE
  refine k2 ?_
  refine A4 (A3 (A5 Z Z) Z (A3 (B2 Z) Z (A3 (A8 Z) Z (A3 (A9 Z Z Z) Z (A3 (C6 Z Z (by omega)) Z (A3 (B2 Z) Z (A3 (A8 Z) Z (E1 (B7 TySz.out Z Z Z Z Z Z) (A7 ?_)))))))))
  refine k1 (k2 ?_)
  refine A4 (A3 (A6 Z Z) Z (A3 (A6 Z Z) Z (A7 ?_)))
  refine k1 (k10 (k12 (k11 ?_)))
  refine H3 (A67 rfl rfl rfl) (by repeat (first | exact C5 | refine tail_cons rfl ?_ | refine D5 _ ?_)) E46 ⟨9,true,i+1,rfl,rfl,hlt,?_⟩
  rw [hE];exact ⟨rfl,rfl,rfl⟩
 have h3:¬(c.toNat:Int)=116:=A1 ht
 rw [if_neg (by omega)] at hE
 refine k5 (k2 ?_)
 refine A4 (A3 (A5 Z Z) Z (U3 (J06 s i hi hs Z) Z Z Z ?_));rintro _ _ ⟨x,b,j,rfl,rfl,hj,ho⟩;refine A3 (B3 Z Z) Z (A3 (B3 Z Z) Z (A3 (A6 Z Z) Z (A3 (A6 Z Z) Z (A7 ?_))))
 refine k1 (k10 ?_)
 refine H3 (A67 rfl rfl rfl) (by repeat (first | exact C5 | refine tail_cons rfl ?_ | refine D5 _ ?_)) E46 ⟨x,b,j,rfl,rfl,hj,?_⟩
 rw [hE]
 cases hoc:F28 s i with
 | none=>rw [hoc] at ho;exact ho
 | some y=>rw [hoc] at ho;exact ho
def goOn (s acc:Str):Option (UInt8 × Nat)→Option (Str × Nat)
 | none=>none
 | some (x,j)=>L7 s j (acc++[x])
theorem B48 {s:Str} {i:Nat} {acc:Str} (h:i < s.length):L7 s i acc=if (s.getD i 0).toNat=34 then some (acc,i+1) else if (s.getD i 0).toNat=92 then goOn s acc (G38 s (i+1)) else L7 s (i+1) (acc++[s.getD i 0]):=by
 have hg:s[i]=s.getD i 0:=by have:=gD h;rw [K57 h] at this;exact Option.some.inj this
 rw [L7,dif_pos h,hg,E03]
 by_cases c1:(s.getD i 0).toNat=34
 ·rw [if_pos c1,if_pos c1]
 ·rw [if_neg c1,if_neg c1]
  by_cases c2:(s.getD i 0).toNat=92
  ·rw [if_pos c2,if_pos c2]
   split
   ·rename_i he;rw [he];rfl
   ·rename_i x k he;rw [he];rfl
  ·rw [if_neg c2,if_neg c2]
theorem A30 {s:Str} {i:Nat} {acc:Str} (h:s.length≤i):L7 s i acc=none:=by rw [L7,dif_neg (by omega)]
theorem E48 {gf:Fr} (s:Str) (i:Nat) (hi:i≤s.length) (hs:s.length≤1073741824) :
  AL.Met Tryz.prog 266 [.one (.ref 705 0)] gf [(705,Z8 s i)] [706]
   (fun rs ob'=>∃(w:Str) (b:Bool) (j:Nat),rs=[.one (.p (.v (.string ⟨w.toArray⟩))),tBo b]∧ob'=[(705,Z8 s j)]∧j≤s.length∧match L7 s i [] with
    | some (w',j')=>b=true∧w=w'∧j=j'
    | none=>b=false):=by
 refine AL.Met.introH Tryz.func266 (by decide) rfl rfl rfl (fun hH=>?_)
 refine k2 ?_
 refine A4 (A3 (A6 Z Z) Z (A3 (A6 Z Z) Z (A7 ?_)))
 refine k1 (k2 ?_)
 refine A4 (C7 (J69 706 _ u8C Z Z) Z (A7 ?_))
 refine k1 (k2 (k3 ?_))
 refine E4 (X:=Nat × Str) (fun z=>([(0,.s (.one (.ref 705 0))),(4,.s (.one (.mut 706)))]++Fr.forget 706 gf,[(706,.grow 5 UInt8 1 u8C z.2),(705,Z8 s z.1)])) (fun z=>z.1≤s.length∧z.2.length≤z.1∧L7 s z.1 z.2=L7 s i []) (fun z=>s.length - z.1) (i,[]) ⟨hi,Nat.zero_le _,rfl⟩ ?_ ?_
 ·exact K20 ⟨le1 rfl,le1 rfl,trivial⟩ (U8 hH) (by repeat (first | exact C5 | refine tail_cons rfl ?_ | refine n4 _ ?_ | refine D5 _ ?_)) (ObIn.spec (ob':=[(706,_),(705,_)]) ⟨rfl,rfl,trivial⟩)
 rintro ⟨p,acc⟩ ⟨hp,hal,hgo⟩
 dsimp only at hp hal hgo ⊢
 refine k2 (k2 ?_)
 refine D7 (by kernel_rfl) (by kernel_rfl) (B1 (A5 Z Z) Z Z (B1 (B2 Z) Z Z (B1 (A8 Z) Z Z (B1 (A9 Z Z Z) Z Z (B1 (A5 Z Z) Z Z (B1 (B2 Z) Z Z (B1 (A8 Z) Z Z (B1 (A9 Z Z Z) Z Z (B1 (E3 Z) Z Z (B1 (E5 Z Z) Z Z (M2 ?_)))))))))))
 refine k1 ?_
 refine B4 rfl (fun ht=>?_) (fun ht=>?_)
 ·have hlt:p < s.length:=by have:=A0 ht;omega
  obtain ⟨c,hc⟩:∃c,c=s.getD p 0:=⟨_,rfl⟩
  have hv:s[p]?=some c:=by rw [hc];exact gD hlt
  rw [B48 hlt,←hc] at hgo
  refine k5 (k1 (k3 (k2 ?_)))
  refine D7 (by kernel_rfl) (by kernel_rfl) (B1 (A5 Z Z) Z Z (B1 (B2 Z) Z Z (B1 (A8 Z) Z Z (B1 (A9 Z Z Z) Z Z (B1 (A5 Z Z) Z Z (B1 (B2 Z) Z Z (B1 (A8 Z) Z Z (B1 (A9 Z Z Z) Z Z (B1 (L3 Z Z (by omega) hv) Z Z (B1 (A6 Z Z) Z Z (M2 ?_)))))))))))
  refine k1 (k2 ?_)
  refine A4 (A3 (A5 Z Z) Z (A3 (B2 Z) Z (A3 (A8 Z) Z (A3 (A9 Z Z Z) Z (A3 (C6 Z Z (by omega)) Z (A3 (B2 Z) Z (A3 (A8 Z) Z (E1 (B7 TySz.out Z Z Z Z Z Z) (A7 ?_)))))))))
  refine k1 (k2 (k2 ?_))
  refine A4 (A3 (A5 Z Z) Z (A3 (J3 Z Z) Z (A7 ?_)))
  refine k1 ?_
  refine B4 rfl (fun ht=>?_) (fun ht=>?_)
  ·have h1:(c.toNat:Int)=34:=A0 ht
   rw [if_pos (by omega)] at hgo
   refine k2 ?_
   refine E6 (K41 (t:=4) Z Z Z) ?_
   refine A4 (A3 (A5 Z Z) Z (A3 (m3 TyStr.out Z (.buf _ _ _ _ _)) Z (A3 (A6 Z Z) Z (A3 (A6 Z Z) Z (A7 ?_)))))
   refine k1 (k10 (k11 (k12 (k11 (k12 (k11 ?_))))))
   refine H3 (A67 rfl rfl rfl) (by repeat (first | exact C5 | refine tail_cons rfl ?_ | refine D5 _ ?_)) (ObIn.spec (ob':=[(705,Z8 s (p+1))]) ⟨rfl,trivial⟩) ⟨acc,true,p+1,rfl,rfl,hlt,?_⟩
   rw [←hgo];exact ⟨rfl,rfl,rfl⟩
  have h1:¬(c.toNat:Int)=34:=A1 ht
  rw [if_neg (by omega)] at hgo
  obtain ⟨nx,hnx⟩:∃nx:Option (UInt8 × Nat),nx=if c.toNat=92 then G38 s (p+1) else some (c,p+1):=⟨_,rfl⟩
  have hgo2:goOn s acc nx=L7 s i []:=by
   rw [←hgo,hnx]
   by_cases h2:c.toNat=92
   ·rw [if_pos h2,if_pos h2]
   ·rw [if_neg h2,if_neg h2];rfl
  have hnb:∀x j,nx=some (x,j)→p < j∧j≤s.length:=by
   intro x j hj
   rw [hnx] at hj
   by_cases h2:c.toNat=92
   ·rw [if_pos h2] at hj;have:=escI_le hj;omega
   ·rw [if_neg h2] at hj;cases hj;omega
  cases hq:nx with
  | none =>
   refine k5 (k1 (k2 (k2 ?_)))
   refine A4 (A3 (A5 Z Z) Z (A3 (J3 Z Z) Z (A7 ?_)))
   refine k1 ?_
   rw [hq] at hgo2
   have h2:c.toNat=92:=by
    by_cases h2:c.toNat=92
    ·exact h2
    ·rw [if_neg h2,hq] at hnx;cases hnx
   rw [if_pos h2,hq] at hnx
   refine B4 rfl (fun ht=>?_) (fun ht=>?_)
   rotate_left
   ·exact absurd (show (c.toNat:Int)=92 by omega) (A1 ht)
   refine k2 ?_
   refine A4 (A3 (A6 Z Z) Z (A7 ?_))
   refine k1 (k2 ?_)
   refine A4 (A3 (A5 Z Z) Z (U3 (E47 s (p+1) hlt hs Z) Z Z Z ?_));rintro _ _ ⟨x,b,j,rfl,rfl,hj,ho⟩;refine A3 (A5 Z Z) Z (A3 (B3 Z Z) Z (A3 (B3 Z Z) Z (A3 (A6 Z Z) Z (A3 (A6 Z Z) Z (A7 ?_)))))
   rw [←hnx] at ho
   have ho:b=false:=ho
   subst ho
   refine k1 (k2 ?_)
   refine A4 (A3 (A5 Z Z) Z (A3 (F7 Z) Z (A7 ?_)))
   refine k1 ?_
   refine B4 rfl (fun ht=>?_) (fun ht=>?_)
   ·refine k2 ?_
    refine A4 (A3 (A6 Z Z) Z (A3 (A6 Z Z) Z (A7 ?_)))
    refine k1 (k10 (k11 (k12 (k11 (k12 (k11 ?_))))))
    refine H3 (A67 rfl rfl rfl) (by repeat (first | exact C5 | refine tail_cons rfl ?_ | refine D5 _ ?_)) (ObIn.spec (ob':=[(705,Z8 s j)]) ⟨rfl,trivial⟩) ⟨[],false,j,rfl,rfl,hj,?_⟩
    rw [←hgo2];exact (rfl:false=false)
   ·cases ht
  | some q =>
   obtain ⟨y,j⟩:=q
   obtain ⟨hj1,hj2⟩:=hnb y j hq
   rw [hq] at hgo2
   refine H80 ?_
   refine J9 ?_
   refine u7 ([(0,.s (.one (.ref 705 0))),(4,.s (.one (.mut 706))),(5,.s (t8 y.toNat))]++Fr.forget 706 gf) [(706,.grow 5 UInt8 1 u8C acc),(705,Z8 s j)] ?_ ?_
   ·refine k2 ?_
    refine A4 (A3 (A5 Z Z) Z (A3 (J3 Z Z) Z (A7 ?_)))
    refine k1 ?_
    refine B4 rfl (fun ht=>?_) (fun ht=>?_)
    ·have h2:c.toNat=92:=by have:(c.toNat:Int)=92:=A0 ht;omega
     rw [if_pos h2,hq] at hnx
     refine k2 ?_
     refine A4 (A3 (A6 Z Z) Z (A7 ?_))
     refine k1 (k2 ?_)
     refine A4 (A3 (A5 Z Z) Z (U3 (E47 s (p+1) hlt hs Z) Z Z Z ?_));rintro _ _ ⟨x,b,j',rfl,rfl,hj,ho⟩;refine A3 (A5 Z Z) Z (A3 (B3 Z Z) Z (A3 (B3 Z Z) Z (A3 (A6 Z Z) Z (A3 (A6 Z Z) Z (A7 ?_)))))
     rw [←hnx] at ho
     obtain ⟨rfl,rfl,rfl⟩:=ho
     refine k1 (k2 ?_)
     refine A4 (A3 (A5 Z Z) Z (A3 (F7 Z) Z (A7 ?_)))
     refine k1 ?_
     refine B4 rfl (fun ht=>?_) (fun ht=>?_)
     ·cases ht
     refine k5 (k1 ?_)
     exact K20 ⟨le1 rfl,le1 rfl,le1 rfl,trivial⟩ (U8 hH) (by repeat (first | exact C5 | refine tail_cons rfl ?_)) (ObIn.spec (ob':=[(706,_),(705,_)]) ⟨rfl,rfl,trivial⟩)
    ·have h2:¬c.toNat=92:=by have:¬(c.toNat:Int)=92:=A1 ht;omega
     rw [if_neg h2,hq] at hnx
     obtain ⟨rfl,rfl⟩:y=c∧j=p+1:=by simpa using hnx
     refine k5 (k1 ?_)
     exact K20 ⟨le1 rfl,le1 rfl,le1 rfl,trivial⟩ (U8 hH) (by repeat (first | exact C5 | refine tail_cons rfl ?_)) (ObIn.spec (ob':=[(706,_),(705,_)]) ⟨rfl,rfl,trivial⟩)
   skip
   refine A4 (A3 (A5 Z Z) Z (A3 (A5 Z Z) Z (A3 (E2 (c:=u8C) (ys:=[y]) (E9 Z Z Z Z I4) Z Z Z) Z (C7 (A85 Z Z Z (.pure _ _ _ _) (by (simp;omega)) Z) Z (A3 (A6 Z Z) Z (A7 ?_))))))
   refine k4 (k1 ?_)
   refine ⟨(j,acc++[y]),⟨hj2,by simp;omega,hgo2⟩,by dsimp only;omega,?_⟩
   exact K20 ⟨le1 rfl,le1 rfl,trivial⟩ (U8 hH) (by repeat (first | exact C5 | refine tail_cons rfl ?_ | refine n4 _ ?_)) (ObIn.spec (ob':=[(706,_),(705,_)]) ⟨rfl,rfl,trivial⟩)
 ·have hend:s.length≤p:=by have:=A1 ht;omega
  rw [A30 hend] at hgo
  refine k6 (k2 ?_)
  refine A4 (A3 (A6 Z Z) Z (A3 (A6 Z Z) Z (A7 ?_)))
  refine k1 (k10 ?_)
  refine H3 (A67 rfl rfl rfl) (by repeat (first | exact C5 | refine tail_cons rfl ?_ | refine D5 _ ?_)) (ObIn.spec (ob':=[(705,Z8 s p)]) ⟨rfl,trivial⟩) ⟨[],false,p,rfl,rfl,hp,?_⟩
  rw [←hgo]
theorem J07 {s:Str} {i k:Nat} (h:i+k < s.length):(s.drop i).getD k 0=s.getD (i+k) 0:=by
 have h1:=gD (s:=s.drop i) (i:=k) (by rw [K65];omega)
 rw [K83,gD h] at h1
 exact (Option.some.inj h1).symm
theorem D64 (s:Str) (i:Nat) (n:Nat):∀(k:Nat) (acc:Str),s.length - (i+k)≤n→L7 (s.drop i) k acc=(L7 s (i+k) acc).map fun p=>(p.1,p.2 - i):=by
 induction n with
 | zero =>
  intro k acc h
  rw [A30 (by rw [K65];omega),A30 (by omega)];rfl
 | succ n ih =>
  intro k acc h
  by_cases hlt:i+k < s.length
  ·rw [B48 (by rw [K65];omega),B48 hlt,J07 hlt]
   by_cases c1:(s.getD (i+k) 0).toNat=34
   ·rw [if_pos c1,if_pos c1];simp;omega
   ·rw [if_neg c1,if_neg c1]
    by_cases c2:(s.getD (i+k) 0).toNat=92
    ·rw [if_pos c2,if_pos c2,E03,E03,List.drop_drop,show i+(k+1)=i+k+1 by omega]
     cases he:B24 (s.drop (i+k+1)) with
     | none=>rfl
     | some q =>
      obtain ⟨x,e⟩:=q
      simp only [Option.map_some]
      show L7 (s.drop i) (k+1+e) (acc++[x])=Option.map _ (L7 s (i+k+1+e) (acc++[x]))
      rw [ih (k+1+e) _ (by omega),show i+(k+1+e)=i+k+1+e by omega]
    ·rw [if_neg c2,if_neg c2,ih (k+1) _ (by omega),show i+(k+1)=i+k+1 by omega]
  ·rw [A30 (by rw [K65];omega),A30 (by omega)];rfl
theorem head_drop {s:Str} {i:Nat}:(s.drop i).head?=some 34↔(i < s.length∧(s.getD i 0).toNat=34):=by
 rw [List.head?_drop]
 by_cases h:i < s.length
 ·rw [gD h,Option.some.injEq,←UInt8.toNat_inj]
  have:(34:UInt8).toNat=34:=rfl
  constructor
  ·intro h1;exact ⟨h,by omega⟩
  ·intro h1;omega
 ·rw [K79 (by omega)]
  constructor
  ·intro h1;cases h1
  ·intro h1;exact absurd h1.1 h
theorem C85 {p:UInt8→Bool} (s:Str) (i:Nat):((s.drop i).takeWhile p).length≤s.length - i:=by
 have:=(List.takeWhile_sublist p (l:=s.drop i)).length_le
 rw [K65] at this;exact this
theorem A31 {p:UInt8→Bool}:∀(s:Str),s.take (s.takeWhile p).length=s.takeWhile p
 | []=>rfl
 | c::r=>by
  by_cases hc:p c=true
  ·rw [List.takeWhile_cons,if_pos hc,K58,List.take_succ_cons,A31 r]
  ·rw [List.takeWhile_cons,if_neg hc];rfl
theorem I04 {s:Str} {i j:Nat} {w:Str} (h:L7 s i []=some (w,j)):i < j∧j≤s.length∧w.length+i≤j:=by
 have:=I30 (s:=s) (s.length - i) (Nat.le_refl _) h
 simpa using this
set_option maxHeartbeats 1000000
theorem J81 {gf:Fr} (s:Str) (i:Nat) (hi:i≤s.length) (hs:s.length≤16777216) :
  AL.Met Tryz.prog 256 [.one (.ref 705 0)] gf [(705,Z8 s i)] [706]
   (fun rs ob'=>∃(w:Str) (b:Bool) (j:Nat),rs=[.one (.p (.v (.string ⟨w.toArray⟩))),tBo b]∧ob'=[(705,Z8 s j)]∧j≤s.length∧match Y7 (s.drop i) with
    | some (w',k)=>b=true∧w=w'∧j=i+k
    | none=>b=false):=by
 have hcase:(i < s.length∧(s.getD i 0).toNat=34∧L7 s (i+1) []=none) ∨
   ∃w j,((i < s.length∧(s.getD i 0).toNat=34∧L7 s (i+1) []=some (w,j))∨(¬(i < s.length∧(s.getD i 0).toNat=34)∧w=(s.drop i).takeWhile R8∧j=i+w.length)) ∧
    i≤j∧j≤s.length∧w.length≤s.length∧Y7 (s.drop i)=if I9 w=(s.drop i).take (j - i) then some (w,j - i) else none:=by
  by_cases hq:i < s.length∧(s.getD i 0).toNat=34
  ·cases hg:L7 s (i+1) [] with
   | none=>exact .inl ⟨hq.1,hq.2,rfl⟩
   | some p =>
    obtain ⟨w,j⟩:=p
    have h1:=I04 hg
    refine .inr ⟨w,j,.inl ⟨hq.1,hq.2,rfl⟩,by omega,by omega,by omega,?_⟩
    unfold Y7
    rw [if_pos (head_drop.2 hq),D64 s i s.length 1 [] (by omega),hg]
    rfl
  ·have hl:=C85 (p:=R8) s i
   refine .inr ⟨(s.drop i).takeWhile R8,_,.inr ⟨hq,rfl,rfl⟩,by omega,by omega,by omega,?_⟩
   unfold Y7
   rw [if_neg (fun h=>hq (head_drop.1 h)),show i+((s.drop i).takeWhile R8).length - i=((s.drop i).takeWhile R8).length by omega,A31]
   by_cases hn:(s.drop i).takeWhile R8=[]
   ·rw [if_pos hn,hn];rfl
   ·rw [if_neg hn]
    have:I9 ((s.drop i).takeWhile R8)=(s.drop i).takeWhile R8:=by unfold I9;rw [if_pos ⟨hn,List.all_takeWhile⟩]
    rw [this,if_pos rfl]
 have htest:decide ((i:Int) < (s.length:Int)∧((s.getD i 0).toNat:Int)=34)=decide (i < s.length∧(s.getD i 0).toNat=34):=by congr 1;apply propext;constructor<;>intro h<;>omega
 refine AL.Met.introH Tryz.func256 (by decide) rfl rfl rfl (fun hH=>?_)
 refine k2 ?_
 refine A4 (A3 (A6 Z Z) Z (A3 (A6 Z Z) Z (A7 ?_)))
 refine k1 (k2 ?_)
 refine A4 (A3 (A5 Z Z) Z (A3 (B2 Z) Z (A3 (A8 Z) Z (A3 (A9 Z Z Z) Z (A3 (A6 Z Z) Z (A7 ?_))))))
 refine k1 (k2 ?_)
 refine A4 (A3 (A6 Z Z) Z (A7 ?_))
 rcases hcase with ⟨hlt,h34,hg⟩ | ⟨w,j,hwj,hij,hjl,hwl,hW⟩
 ·refine k1 (k2 (k2 ?_))
  refine A4 (A3 (A5 Z Z) Z (A3 (A5 Z Z) Z (A3 (B2 Z) Z (A3 (A8 Z) Z (A3 (A9 Z Z Z) Z (A3 (E3 Z) Z (A3 (E5 Z Z) Z (A3 (A5 Z Z) Z (B0 Z Z Z Z (fun hg=>by rw [hg];exact A5 Z Z) ?_)))))))));refine B0 Z Z Z Z (fun hg=>by rw [hg];exact B2 Z) ?_;refine B0 Z Z Z Z (fun hg=>by rw [hg];exact A8 Z) ?_;refine B0 Z Z Z Z (fun hg=>by rw [hg];exact A9 Z Z Z) ?_;refine B0 Z Z Z Z (fun hg=>by rw [hg];exact A5 Z Z) ?_;refine B0 Z Z Z Z (fun hg=>by have hq:=hg;(try simp at hq);rw [hg];exact L3 Z Z (by omega) (gD (by omega))) ?_;refine B0 Z Z Z Z (fun hg=>by rw [hg];exact J3 Z Z) ?_;refine A3 (B5 Z (fun h=>by first | rfl | (rw [h];rfl)) (fun h=>by first | rfl | (rw [h];rfl))) Z ?_;refine A7 ?_
  simp only [K1,K62]
  rw [htest]
  refine k1 ?_
  refine B4 rfl (fun ht=>?_) (fun ht=>?_)
  rotate_left
  ·exact absurd ⟨hlt,h34⟩ (A1 ht)
  refine k2 ?_
  refine A4 (A3 (A5 Z Z) Z (A3 (B2 Z) Z (A3 (A8 Z) Z (A3 (A9 Z Z Z) Z (A3 (C6 Z Z (by omega)) Z (A3 (B2 Z) Z (A3 (A8 Z) Z (E1 (B7 TySz.out Z Z Z Z Z Z) (A7 ?_)))))))))
  refine k1 (k2 ?_)
  refine E6 (fr':=[(0,.s (.one (.ref 705 0))),(4,C2 i)]++gf) (ob':=[(705,Z8 s (i+1))]) (K20 ⟨le1 rfl,le1 rfl,trivial⟩ hH (by repeat (first | exact C5 | refine tail_cons rfl ?_)) (ObIn.spec (ob':=[(705,_)]) ⟨rfl,trivial⟩)) ?_
  refine A4 (A3 (A6 Z Z) Z (A7 ?_))
  refine k1 (k2 ?_)
  refine A4 (A3 (A5 Z Z) Z (U3 (E48 s (i+1) hlt (by omega)) Z Z Z ?_));rintro _ _ ⟨w,b,j,rfl,rfl,hj,ho⟩;refine A3 (A5 Z Z) Z (A3 (B3 Z Z) Z (A3 (B3 Z Z) Z (A3 (A6 Z Z) Z (A3 (A6 Z Z) Z (A7 ?_)))))
  rw [hg] at ho
  have ho:b=false:=ho
  subst ho
  refine k1 (k2 ?_)
  refine A4 (A3 (A5 Z Z) Z (A3 (F7 Z) Z (A7 ?_)))
  refine k1 ?_
  refine B4 rfl (fun ht=>?_) (fun ht=>?_)
  ·refine k2 ?_
   refine A4 (A3 (A6 Z Z) Z (A3 (A6 Z Z) Z (A7 ?_)))
   refine k1 (k10 (k11 ?_))
   refine H3 (A67 rfl rfl rfl) (by repeat (first | exact C5 | refine tail_cons rfl ?_ | refine D5 _ ?_)) (fun _ _ h=>h) ⟨[],false,j,rfl,rfl,hj,?_⟩
   have:Y7 (s.drop i)=none:=by
    unfold Y7
    rw [if_pos (head_drop.2 ⟨hlt,h34⟩),D64 s i s.length 1 [] (by omega),hg];rfl
   rw [this]
  ·cases ht
 ·refine J9 ?_
  refine u7 ([(0,.s (.one (.ref 705 0))),(4,C2 i),(5,J0 w)]++Fr.forget 706 gf) [(705,Z8 s j)] ?_ ?_
  ·refine k2 ?_
   refine A4 (A3 (A5 Z Z) Z (A3 (A5 Z Z) Z (A3 (B2 Z) Z (A3 (A8 Z) Z (A3 (A9 Z Z Z) Z (A3 (E3 Z) Z (A3 (E5 Z Z) Z (A3 (A5 Z Z) Z (B0 Z Z Z Z (fun hg=>by rw [hg];exact A5 Z Z) ?_)))))))));refine B0 Z Z Z Z (fun hg=>by rw [hg];exact B2 Z) ?_;refine B0 Z Z Z Z (fun hg=>by rw [hg];exact A8 Z) ?_;refine B0 Z Z Z Z (fun hg=>by rw [hg];exact A9 Z Z Z) ?_;refine B0 Z Z Z Z (fun hg=>by rw [hg];exact A5 Z Z) ?_;refine B0 Z Z Z Z (fun hg=>by have hq:=hg;(try simp at hq);rw [hg];exact L3 Z Z (by omega) (gD (by omega))) ?_;refine B0 Z Z Z Z (fun hg=>by rw [hg];exact J3 Z Z) ?_;refine A3 (B5 Z (fun h=>by first | rfl | (rw [h];rfl)) (fun h=>by first | rfl | (rw [h];rfl))) Z ?_;refine A7 ?_
   simp only [K1,K62]
   rw [htest]
   refine k1 ?_
   refine B4 rfl (fun ht=>?_) (fun ht=>?_)
   ·have hq:=A0 ht
    rcases hwj with ⟨_,_,hg⟩ | ⟨hn,_⟩
    ·refine k2 ?_
     refine A4 (A3 (A5 Z Z) Z (A3 (B2 Z) Z (A3 (A8 Z) Z (A3 (A9 Z Z Z) Z (A3 (C6 Z Z (by omega)) Z (A3 (B2 Z) Z (A3 (A8 Z) Z (E1 (B7 TySz.out Z Z Z Z Z Z) (A7 ?_)))))))))
     refine k1 (k2 ?_)
     refine E6 (fr':=[(0,.s (.one (.ref 705 0))),(4,C2 i)]++gf) (ob':=[(705,Z8 s (i+1))]) (K20 ⟨le1 rfl,le1 rfl,trivial⟩ hH (by repeat (first | exact C5 | refine tail_cons rfl ?_)) (ObIn.spec (ob':=[(705,_)]) ⟨rfl,trivial⟩)) ?_
     refine A4 (A3 (A6 Z Z) Z (A7 ?_))
     refine k1 (k2 ?_)
     refine A4 (A3 (A5 Z Z) Z (U3 (E48 s (i+1) hq.1 (by omega)) Z Z Z ?_));rintro _ _ ⟨w',b,j',rfl,rfl,hj,ho⟩;refine A3 (A5 Z Z) Z (A3 (B3 Z Z) Z (A3 (B3 Z Z) Z (A3 (A6 Z Z) Z (A3 (A6 Z Z) Z (A7 ?_)))))
     rw [hg] at ho
     obtain ⟨rfl,rfl,rfl⟩:=ho
     refine k1 (k2 ?_)
     refine A4 (A3 (A5 Z Z) Z (A3 (F7 Z) Z (A7 ?_)))
     refine k1 ?_
     refine B4 rfl (fun ht=>?_) (fun ht=>?_)
     ·cases ht
     refine k5 (k1 ?_)
     exact K20 ⟨le1 rfl,le1 rfl,le1 rfl,trivial⟩ (U8 hH) (by repeat (first | exact C5 | refine tail_cons rfl ?_ | refine n4 _ ?_ | refine D5 _ ?_)) (ObIn.spec (ob':=[(705,_)]) ⟨rfl,trivial⟩)
    ·exact absurd hq hn
   ·have hq:=A1 ht
    rcases hwj with ⟨h1,h2,_⟩ | ⟨_,hw,hj⟩
    ·exact absurd ⟨h1,h2⟩ hq
    have hl:=C85 (p:=R8) s i
    rw [←hw] at hl
    refine k2 (k3 ?_)
    refine E4 (X:=Nat) (fun k=>([(0,.s (.one (.ref 705 0))),(4,C2 i)]++gf,[(705,Z8 s (i+k))])) (fun k=>k≤w.length) (fun k=>w.length - k) 0 (Nat.zero_le _) ?_ ?_
    ·exact K20 ⟨le1 rfl,le1 rfl,trivial⟩ hH (by repeat (first | exact C5 | refine tail_cons rfl ?_)) (ObIn.spec (ob':=[(705,_)]) ⟨rfl,trivial⟩)
    intro k hk
    dsimp only at hk ⊢
    have hrun:=A92 (p:=R8) (s.drop i) k (by rw [←hw];exact hk)
    rw [←hw,K83] at hrun
    obtain ⟨c,hc⟩:∃c,c=s.getD (i+k) 0:=⟨_,rfl⟩
    have hv:i+k < s.length→s[i+k]?=some c:=fun h=>by rw [hc];exact gD h
    have hrun2:(if decide (((i+k:Nat):Int) < (s.length:Int))=true then R8 c else false)=decide (k < w.length):=by
     rw [←hrun]
     by_cases hlt:i+k < s.length
     ·rw [hv hlt,if_pos (decide_eq_true (by omega))]
     ·rw [K79 (by omega),if_neg (by simp;omega)]
    refine k2 (k2 ?_)
    refine D7 (by kernel_rfl) (by kernel_rfl) (B1 (A5 Z Z) Z Z (B1 (B2 Z) Z Z (B1 (A8 Z) Z Z (B1 (A9 Z Z Z) Z Z (B1 (A5 Z Z) Z Z (B1 (B2 Z) Z Z (B1 (A8 Z) Z Z (B1 (A9 Z Z Z) Z Z (B1 (E3 Z) Z Z (B1 (E5 Z Z) Z Z (B1 (A5 Z Z) Z Z (E7 Z Z (fun hg=>by rw [hg];exact A5 Z Z) Z Z ?_))))))))))));refine E7 Z Z (fun hg=>by rw [hg];exact B2 Z) Z Z ?_;refine E7 Z Z (fun hg=>by rw [hg];exact A8 Z) Z Z ?_;refine E7 Z Z (fun hg=>by rw [hg];exact A9 Z Z Z) Z Z ?_;refine E7 Z Z (fun hg=>by rw [hg];exact A5 Z Z) Z Z ?_;refine E7 Z Z (fun hg=>by rw [hg];exact B2 Z) Z Z ?_;refine E7 Z Z (fun hg=>by rw [hg];exact A8 Z) Z Z ?_;refine E7 Z Z (fun hg=>by rw [hg];exact A9 Z Z Z) Z Z ?_;refine E7 Z Z (fun hg=>by have hq:=hg;(try simp at hq);rw [hg];exact L3 Z Z (by omega) (hv (by omega))) Z Z ?_;refine E7 Z Z (fun hg=>by have hq:=hg;(try simp at hq);rw [hg];exact O0 (F61 c) Z Z) Z Z ?_;refine B1 (B5 Z (fun h=>by first | rfl | (rw [h];rfl)) (fun h=>by first | rfl | (rw [h];rfl))) Z Z ?_;refine M2 ?_
    rw [hrun2]
    refine k1 ?_
    refine B4 rfl (fun ht=>?_) (fun ht=>?_)
    ·have hlt:=A0 ht
     refine k5 (k1 (k3 ?_))
     refine A4 (A3 (A5 Z Z) Z (A3 (B2 Z) Z (A3 (A8 Z) Z (A3 (A9 Z Z Z) Z (A3 (C6 Z Z (by omega)) Z (A3 (B2 Z) Z (A3 (A8 Z) Z (E1 (B7 TySz.out Z Z Z Z Z Z) (A7 ?_)))))))))
     refine k4 (k1 ?_)
     exact ⟨k+1,hlt,by omega,K20 ⟨le1 rfl,le1 rfl,trivial⟩ hH (by repeat (first | exact C5 | refine tail_cons rfl ?_)) (ObIn.spec (ob':=[(705,_)]) ⟨rfl,trivial⟩)⟩
    ·have hk2:k=w.length:=by have:=A1 ht;omega
     subst hk2
     refine k6 (k7 (k7 (k8 Z (k1 ?_))))
     refine D7 (by kernel_rfl) (by kernel_rfl) (B1 (A5 Z Z) Z Z (B1 (B2 Z) Z Z (B1 (A8 Z) Z Z (B1 (A9 Z Z Z) Z Z (B1 (A5 Z Z) Z Z (B1 (A5 Z Z) Z Z (B1 (B2 Z) Z Z (B1 (A8 Z) Z Z (B1 (A9 Z Z Z) Z Z (B1 (C61 Z Z Z (by omega) (by omega) (by omega)) Z Z (B1 (A6 Z Z) Z Z (M2 ?_))))))))))))
     have hww:(s.drop i).take (i+w.length - i)=w:=by rw [Nat.add_sub_cancel_left,hw];exact A31 _
     rw [K62,K62,hww]
     refine k1 ?_
     refine Sees.trans (Sees.forget 706) ?_
     subst hj
     exact K20 ⟨le1 rfl,le1 rfl,le1 rfl,trivial⟩ (U8 hH) (by repeat (first | exact C5 | refine tail_cons rfl ?_ | refine n4 _ ?_ | refine D5 _ ?_)) (ObIn.spec (ob':=[(705,_)]) ⟨rfl,trivial⟩)
  ·refine k2 ?_
   refine D7 (by kernel_rfl) (by kernel_rfl) (B1 (A5 Z Z) Z Z (B1 (A5 Z Z) Z Z (B1 (O0 (D25 w (by omega)) Z Z) Z Z (B1 (A5 Z Z) Z Z (B1 (B2 Z) Z Z (B1 (A8 Z) Z Z (B1 (A9 Z Z Z) Z Z (B1 (A5 Z Z) Z Z (B1 (A5 Z Z) Z Z (B1 (B2 Z) Z Z (B1 (A8 Z) Z Z (B1 (A9 Z Z Z) Z Z (B1 (C61 Z Z Z (by omega) (by omega) (by omega)) Z Z (B1 (T9 Z Z) Z Z (B1 (A6 Z Z) Z Z (B1 (A6 Z Z) Z Z (M2 ?_)))))))))))))))))
   rw [K62,K62]
   refine k1 (k10 ?_)
   refine H3 (A67 rfl rfl rfl) (by repeat (first | exact C5 | refine tail_cons rfl ?_ | refine D5 _ ?_)) (fun _ _ h=>h) ⟨w,_,j,rfl,rfl,hjl,?_⟩
   rw [hW]
   by_cases hqw:I9 w=(s.drop i).take (j - i)
   ·rw [if_pos hqw];exact ⟨decide_eq_true hqw,rfl,by omega⟩
   ·rw [if_neg hqw];exact decide_eq_false hqw
def D65 (s:Str) (i:Nat):List PV:=match Y7 (s.drop i) with
 | none=>[G7 [],F0 0,E8 false]
 | some (w,k)=>[G7 w,F0 ((i+k:Nat):Int),E8 true]
theorem D66 (s:Str) (i:Nat) (hi:i≤s.length) (hs:s.length≤16777216):FnOk Tryz.prog 222 [G7 s,F0 i] (fun rs=>rs=D65 s i):=by
 refine FnOk.intro Tryz.func222 (by decide) Z Z Z Z ?_
 refine k2 ?_
 refine A4 (A3 (A6 Z Z) Z (A3 (A6 Z Z) Z (A3 (A6 Z Z) Z (A7 ?_))))
 refine k1 (k2 (k2 ?_))
 refine A4 (A3 (A5 Z Z) Z (A3 (E5 Z Z) Z (A3 (A5 Z Z) Z (B0 Z Z Z Z (fun hg=>by rw [hg];exact A5 Z Z) ?_))));refine B0 Z Z Z Z (fun hg=>by rw [hg];exact A5 Z Z) ?_;refine B0 Z Z Z Z (fun hg=>by rw [hg];exact E3 Z) ?_;refine B0 Z Z Z Z (fun hg=>by rw [hg];exact Q1 Z Z) ?_;refine A3 (B5 Z (fun h=>by first | rfl | (rw [h];rfl)) (fun h=>by first | rfl | (rw [h];rfl))) Z ?_;refine A7 ?_
 refine k1 ?_
 refine B4 rfl (fun ht=>?_) (fun ht=>?_)
 ·exfalso;revert ht;simp only [or_pick];simp;omega
 refine k5 (k1 (k2 ?_))
 refine A4 (A3 (A5 Z Z) Z (A3 (A5 Z Z) Z (A3 (F3 Z) Z (C7 (T7 705 Z Z Z) Z (A3 (A6 Z Z) Z (A7 ?_))))))
 refine k1 (k2 ?_)
 refine A4 (A3 (A5 Z Z) Z (U3 (J81 s i hi hs) Z Z Z ?_));rintro _ _ ⟨w,b,j,rfl,rfl,hj,ho⟩;refine A3 (A5 Z Z) Z (A3 (B3 Z Z) Z (A3 (B3 Z Z) Z (A3 (A6 Z Z) Z (A3 (A6 Z Z) Z (A7 ?_)))))
 refine k1 (k2 (k2 ?_))
 refine A4 (A3 (A5 Z Z) Z (A3 (F7 Z) Z (A7 ?_)))
 refine k1 ?_
 cases hw:Y7 (s.drop i) with
 | none =>
  rw [hw] at ho
  have ho:b=false:=ho
  subst ho
  refine B4 rfl (fun ht=>?_) (fun ht=>?_)
  ·refine k2 ?_
   refine A4 (A3 (A6 Z Z) Z (A3 (A6 Z Z) Z (A3 (A6 Z Z) Z (A7 ?_))))
   refine k1 (k10 (k11 ?_))
   exact B8 (rs:=[G7 [],F0 0,E8 false]) (ret3 rfl rfl rfl rfl rfl rfl rfl) (by unfold D65;rw [hw])
  ·cases ht
 | some q =>
  obtain ⟨w',k⟩:=q
  rw [hw] at ho
  obtain ⟨rfl,rfl,rfl⟩:=ho
  refine B4 rfl (fun ht=>?_) (fun ht=>?_)
  ·cases ht
  refine k5 (k1 (k2 ?_))
  refine D7 (by kernel_rfl) (by kernel_rfl) (B1 (A5 Z Z) Z Z (B1 (A5 Z Z) Z Z (B1 (B2 Z) Z Z (B1 (A8 Z) Z Z (B1 (A9 Z Z Z) Z Z (B1 (A6 Z Z) Z Z (B1 (A6 Z Z) Z Z (B1 (A6 Z Z) Z Z (M2 ?_)))))))))
  refine k1 (k10 ?_)
  exact B8 (rs:=[G7 w,F0 ((i+k:Nat):Int),E8 true]) (ret3 rfl rfl rfl rfl rfl rfl rfl) (by unfold D65;rw [hw])
theorem I05 {s:Str} {i:Nat} (h:Y7 (s.drop i)=none):D65 s i=[G7 [],F0 0,E8 false]:=by unfold D65;rw [h]
theorem I06 {s:Str} {i k:Nat} {w:Str} (h:Y7 (s.drop i)=some (w,k)):D65 s i=[G7 w,F0 ((i+k:Nat):Int),E8 true]:=by unfold D65;rw [h]
set_option maxHeartbeats 1000000
def Y2 (r:Str):List Str:=(C1 (r++[10])).map List.dropLast
theorem J82 {a b:Str} (h:(10:UInt8)∉a):Y2 (a++10::b)=a::Y2 b:=by
 unfold Y2 C1
 rw [K68,K82,B11 _ _ _ h];simp
theorem J08 {r:Str} (h:(10:UInt8)∉r):Y2 r=[r]:=by
 unfold Y2 C1
 rw [B11 _ _ _ h];simp [F8]
theorem C41 (r:Str):(Y2 r).length=r.count 10+1:=by
 unfold Y2
 rw [K84,C22,L08,D46];simp
theorem J09 {P:List Str} {i:Nat} {r a b:Str} (h:P.drop i=Y2 r) (hr:r=a++10::b) (ha:(10:UInt8)∉a):P[i]?=some a∧P.drop (i+1)=Y2 b:=by
 have e:Y2 r=a::Y2 b:=by rw [hr,J82 ha]
 rw [e] at h
 refine ⟨by rw [←List.head?_drop,h];rfl,?_⟩
 rw [←List.tail_drop,h];rfl
theorem D67 {s:Str} (h:s≠[]):x3 s=if ended s=true then some (Y2 s.dropLast) else none:=by
 unfold x3
 rw [if_neg h]
 by_cases he:ended s=true
 ·rw [if_pos he,if_pos he]
  obtain ⟨a,rfl⟩:=ended_iff.1 he
  rw [List.dropLast_concat];rfl
 ·rw [if_neg he,if_neg he]
theorem G39 (s:Str) (hs:s.length≤536870912):FnOk Tryz.prog 217 [G7 s,G7 [10],F0 0,F0 (-1)] (fun rs=>rs=[Z6 (Y2 s)]):=by
 have hP:=C41 s
 have hc:s.count 10≤s.length:=List.count_le_length
 have h10:([10]:Str).length=1:=rfl
 obtain ⟨P,hPe⟩:∃P,P=Y2 s:=⟨_,rfl⟩
 have hPl:P.length=s.count 10+1:=by rw [hPe];exact hP
 refine FnOk.intro Tryz.func217 (by decide) Z Z Z Z ?_
 refine k2 ?_
 refine A4 (A3 (A6 Z Z) Z (A7 ?_))
 refine k1 (k2 (k2 ?_))
 refine A4 (A3 (A5 Z Z) Z (A3 (J3 Z Z) Z (A7 ?_)))
 refine k1 ?_
 refine B4 rfl (fun ht=>?_) (fun ht=>?_)
 ·exact absurd (A0 ht) (by omega)
 refine k5 (k1 (k2 (k2 ?_)))
 refine A4 (A3 (A5 Z Z) Z (A3 (T9 Z Z) Z (A7 ?_)))
 refine k1 ?_
 refine B4 rfl (fun ht=>?_) (fun ht=>?_)
 ·exact absurd (A0 ht) (by simp)
 refine k5 (k1 (k2 (k2 ?_)))
 refine A4 (A3 (A5 Z Z) Z (A3 (E5 Z Z) Z (A7 ?_)))
 refine k1 ?_
 refine B4 rfl (fun ht=>?_) (fun ht=>?_)
 rotate_left
 ·exact absurd (A1 ht) (by omega)
 skip
 refine A4 (A3 (A5 Z Z) Z (A3 (A5 Z Z) Z (B9 (B84 s 10) Z Z Z ?_)));rintro _ rfl;refine A3 (C6 Z Z (by omega)) Z (A3 (A6 Z Z) Z (A7 ?_))
 refine k1 (k2 ?_)
 refine A4 (A3 (A5 Z Z) Z (A3 (A5 Z Z) Z (A3 (E3 Z) Z (A3 (C6 Z Z (by omega)) Z (A3 (G82 Z Z) Z (A3 (A6 Z Z) Z (A7 ?_)))))))
 refine k1 (k2 ?_)
 rw [show (if (s.length:Int)+1 < (s.count 10:Int)+1 then (s.length:Int)+1 else (s.count 10:Int)+1)=(P.length:Int) from by split<;>omega]
 refine A4 (A3 (A5 Z Z) Z (C7 (x6 9 Str L0 [] Z Z (by omega) (by omega) (fun _=>by first | exact ⟨⟨rfl,rfl⟩,trivial⟩ | exact ⟨P1 _ _ _,trivial⟩) (by first | rfl | (simp [G3,I1,Ob.free,SV.free,S1.free,TC.free]<;>rfl))) Z ?_));refine A3 (A6 Z Z) Z (A7 ?_)
 refine k1 (k2 ?_)
 refine A4 (A3 (A5 Z Z) Z (A3 (S6 Z Z (by omega)) Z (A3 (A6 Z Z) Z (A7 ?_))))
 refine k1 (k2 ?_)
 refine A4 (A3 (A6 Z Z) Z (A7 ?_))
 refine k1 (k2 (k3 ?_))
 refine E4 (X:=Nat × Str) (fun x=>([(0,J0 x.2),(1,J0 [10]),(2,C2 0),(3,C2 ((P.length:Int) - 1)),(9,.s (.one (.mut 9))),(10,C2 x.1)],[(9,.arr Str 1 L0 (P.take x.1++List.replicate (P.length - x.1) []))])) (fun x=>x.1+1≤P.length∧P.drop x.1=Y2 x.2∧x.2.length≤s.length) (fun x=>P.length - x.1) (0,s) ⟨by dsimp only;omega,hPe,Nat.le_refl _⟩ (K19 ⟨le1 rfl,le1 rfl,le1 rfl,le1 rfl,le1 rfl,le1 rfl,trivial⟩ ⟨rfl,trivial⟩) ?_
 rintro ⟨i,r⟩ ⟨hi,hp,hr⟩
 dsimp only at hi hp hr ⊢
 refine k2 (k2 ?_)
 refine A4 (A3 (A5 Z Z) Z (A3 (A5 Z Z) Z (A3 (E5 Z Z) Z (A7 ?_))))
 refine k1 ?_
 refine B4 rfl (fun ht=>?_) (fun ht=>?_)
 ·have hlt:i+1 < P.length:=by have:=A0 ht;omega
  have hin:(10:UInt8)∈r:=by
   have h1:=C41 r
   have h2:(P.drop i).length=r.count 10+1:=by rw [hp];exact h1
   rw [K65] at h2
   exact List.count_pos_iff.1 (by omega)
  rcases S4 10 r with ⟨h1,_⟩ | ⟨a,b,h1,h2,h3⟩
  ·exact absurd hin h1
  obtain ⟨h4,h5⟩:=J09 hp h1 h2
  have hl:r.length=a.length+1+b.length:=by rw [h1];simp;omega
  refine k5 (k1 (k3 (k2 ?_)))
  refine A4 (A3 (A5 Z Z) Z (A3 (A5 Z Z) Z (B9 (D26 r 10) Z Z Z ?_)));rintro _ rfl;refine A3 (A6 Z Z) Z (A7 ?_)
  refine k1 (k2 (k2 ?_))
  refine A4 (A3 (A5 Z Z) Z (A3 (E5 Z Z) Z (A7 ?_)))
  refine k1 ?_
  rw [h3]
  refine B4 rfl (fun ht=>?_) (fun ht=>?_)
  ·exact absurd (A0 ht) (by omega)
  refine k5 (k1 (k2 ?_))
  refine A4 (A3 (A5 Z Z) Z (A3 (A5 Z Z) Z (A3 (A5 Z Z) Z (A3 (A5 Z Z) Z (A3 (A5 Z Z) Z (A3 (C6 Z Z (by omega)) Z (A3 (A79 Z Z (by omega) (by omega)) Z (A3 (F9 Z Z Z (by omega) (by (simp;omega))) Z (E1 (I0 TySz.out Z Z (by simp;omega) Z Z) (A7 ?_))))))))))
  refine k1 (k2 ?_)
  refine A4 (A3 (A5 Z Z) Z (A3 (A5 Z Z) Z (A3 (A5 Z Z) Z (A3 (E3 Z) Z (A3 (C6 Z Z (by omega)) Z (A3 (A80 Z Z (by omega) (by omega)) Z (A3 (A6 Z Z) Z (A7 ?_))))))))
  refine k1 ?_
  refine A4 (A3 (A5 Z Z) Z (A3 (C6 Z Z (by omega)) Z (A3 (A6 Z Z) Z (A7 ?_))))
  refine k4 (k1 ?_)
  have e1:r.take (((a.length:Int)+0).toNat)=a:=by rw [h1,show ((a.length:Int)+0).toNat=a.length by omega,List.take_left]
  have e2:r.drop (((a.length:Int)+(([10]:Str).length:Int)).toNat)=b:=by rw [h1,h10,show ((a.length:Int)+((1:Nat):Int)).toNat=a.length+1 by omega,show a++10::b=(a++[10])++b by simp,List.drop_left' (by simp)]
  refine ⟨(i+1,b),⟨by dsimp only;omega,h5,by dsimp only;omega⟩,by dsimp only;omega,?_⟩
  rw [e1,e2]
  dsimp only
  rw [←A22 P [] _ i h4]
  exact K19 ⟨le1 rfl,le1 rfl,le1 rfl,le1 rfl,le1 rfl,le1 rfl,trivial⟩ ⟨rfl,trivial⟩
 ·have hge:i+1=P.length:=by have:=A1 ht;omega
  have h1:=C41 r
  have h2:(P.drop i).length=r.count 10+1:=by rw [hp];exact h1
  rw [K65] at h2
  have h3:(10:UInt8)∉r:=List.count_eq_zero.1 (by omega)
  have h4:P[i]?=some r:=by rw [←List.head?_drop,hp,J08 h3];rfl
  refine k6 (k2 ?_)
  refine A4 (A3 (A5 Z Z) Z (A3 (A5 Z Z) Z (A3 (A5 Z Z) Z (A3 (F9 Z Z Z (by omega) (by (simp;omega))) Z (E1 (I0 TySz.out Z Z (by simp;omega) Z Z) (A7 ?_))))))
  refine k1 (k2 ?_)
  have e:(P.take i++List.replicate (P.length - i) ([]:Str)).set (i:Int).toNat r=P:=by rw [K62,A22 P [] r i h4,hge];simp
  rw [e]
  refine E6 (Sees.freeze (k:=9) Z) ?_
  refine A4 (A3 (A5 Z Z) Z (A3 (A5 Z Z) Z (A3 (C6 Z Z (by omega)) Z (A3 (B74 Z (.pure _ _ _ _) Z (by omega) (by omega)) Z (A3 (A6 Z Z) Z (A7 ?_))))))
  refine k1 (k10 ?_)
  exact B8 (J6 rfl rfl rfl) (by rw [show ((i:Int)+1).toNat=P.length by omega,K87,hPe])
theorem J83 (s:Str) (hs:s.length≤536870912):FnOk Tryz.prog 179 [G7 s,G7 [10]] (fun rs=>rs=[Z6 (Y2 s)]):=by
 refine FnOk.intro Tryz.func179 (by decide) Z Z Z Z ?_
 refine k2 ?_
 refine A4 (A3 (A6 Z Z) Z (A7 ?_))
 refine k1 (k2 ?_)
 refine A4 (A3 (A5 Z Z) Z (A3 (A5 Z Z) Z (B9 (G39 s hs) Z Z Z ?_)));rintro _ rfl;refine A3 (A6 Z Z) Z (A7 ?_)
 refine k1 (k10 ?_)
 exact B8 (J6 rfl rfl rfl) rfl
theorem C16 (s p:Str):FnOk Tryz.prog 245 [G7 s,G7 p] (fun rs=>rs=[E8 (decide (s.take p.length=p))]):=by
 refine FnOk.intro Tryz.func245 (by decide) Z Z Z Z ?_
 refine k2 ?_
 refine A4 (A3 (A6 Z Z) Z (A7 ?_))
 refine k1 (k2 ?_)
 refine A4 (A3 (A5 Z Z) Z (A3 (E3 Z) Z (A3 (A5 Z Z) Z (A3 (E3 Z) Z (A3 (s8 Z Z) Z (A3 (A5 Z Z) Z (B0 Z Z Z Z (fun hg=>by rw [hg];exact A5 Z Z) ?_)))))));refine B0 Z Z Z Z (fun hg=>by rw [hg];exact A5 Z Z) ?_;refine B0 Z Z Z Z (fun hg=>by rw [hg];exact E3 Z) ?_;refine B0 Z Z Z Z (fun hg=>by have hq:=hg;(try simp at hq);rw [hg];exact A79 Z Z (by omega) (by omega)) ?_;refine B0 Z Z Z Z (fun hg=>by rw [hg];exact A5 Z Z) ?_;refine B0 Z Z Z Z (fun hg=>by rw [hg];exact T9 Z Z) ?_;refine A3 (B5 Z (fun h=>by first | rfl | (rw [h];rfl)) (fun h=>by first | rfl | (rw [h];rfl))) Z ?_;refine A3 (A6 Z Z) Z (A7 ?_)
 simp only [K1,K62]
 refine k1 (k10 ?_)
 refine B8 (J6 Z Z Z) ?_
 congr 4
 congr 1
 apply propext;constructor
 ·intro h;exact h.2
 ·intro h
  refine ⟨?_,h⟩
  have:=congrArg List.length h
  rw [K70] at this;omega
theorem A14 (s p:Str):FnOk Tryz.prog 207 [G7 s,G7 p] (fun rs=>rs=[E8 (decide (s.take p.length=p))]):=by
 refine FnOk.intro Tryz.func207 (by decide) Z Z Z Z ?_
 refine k2 ?_
 refine A4 (A3 (A6 Z Z) Z (A7 ?_))
 refine k1 (k2 ?_)
 refine A4 (A3 (A5 Z Z) Z (A3 (A5 Z Z) Z (B9 (C16 s p) Z Z Z ?_)));rintro _ rfl;refine A3 (A6 Z Z) Z (A7 ?_)
 refine k1 (k10 ?_)
 exact B8 (J6 rfl rfl rfl) rfl
def F29 (s p:Str):List PV:=if s.take p.length=p then [G7 (s.drop p.length),E8 true] else [G7 s,E8 false]
theorem F30 (s p:Str):FnOk Tryz.prog 255 [G7 s,G7 p] (fun rs=>rs=F29 s p):=by
 refine FnOk.intro Tryz.func255 (by decide) Z Z Z Z ?_
 refine k2 ?_
 refine A4 (A3 (A6 Z Z) Z (A3 (A6 Z Z) Z (A7 ?_)))
 refine k1 (k2 (k2 ?_))
 refine A4 (A3 (A5 Z Z) Z (A3 (A5 Z Z) Z (B9 (C16 s p) Z Z Z ?_)));rintro _ rfl;refine A3 (F7 Z) Z (A7 ?_)
 refine k1 ?_
 refine B4 rfl (fun ht=>?_) (fun ht=>?_)
 ·have h:¬s.take p.length=p:=by intro h;rw [decide_eq_true h] at ht;cases ht
  refine k2 ?_
  refine A4 (A3 (A5 Z Z) Z (A3 (A6 Z Z) Z (A3 (A6 Z Z) Z (A7 ?_))))
  refine k1 (k10 (k11 ?_))
  exact B8 (rs:=[G7 s,E8 false]) (Z3 rfl rfl rfl rfl rfl) (by unfold F29;rw [if_neg h])
 ·have h:s.take p.length=p:=by
   by_cases h:s.take p.length=p
   ·exact h
   ·rw [decide_eq_false h] at ht;cases ht
  have hl:p.length≤s.length:=by
   have:=congrArg List.length h
   rw [K70] at this;omega
  refine k5 (k1 (k2 ?_))
  refine A4 (A3 (A5 Z Z) Z (A3 (A5 Z Z) Z (A3 (E3 Z) Z (A3 (A80 Z Z (by omega) (by omega)) Z (A3 (A6 Z Z) Z (A3 (A6 Z Z) Z (A7 ?_)))))))
  refine k1 (k10 ?_)
  exact B8 (rs:=[G7 (s.drop p.length),E8 true]) (Z3 rfl rfl rfl rfl rfl) (by unfold F29;rw [if_pos h])
theorem n9 (s p:Str):FnOk Tryz.prog 221 [G7 s,G7 p] (fun rs=>rs=F29 s p):=by
 have hc:=F30 s p
 unfold F29 at hc ⊢
 by_cases h:s.take p.length=p
 ·rw [if_pos h] at hc ⊢
  refine FnOk.intro Tryz.func221 (by decide) Z Z Z Z ?_
  refine k2 ?_
  refine A4 (A3 (A6 Z Z) Z (A3 (A6 Z Z) Z (A7 ?_)))
  refine k1 (k2 ?_)
  refine A4 (A3 (A5 Z Z) Z (A3 (A5 Z Z) Z (B9 (hc) Z Z Z ?_)));rintro _ rfl;refine A3 (B3 Z Z) Z (A3 (B3 Z Z) Z (A3 (A6 Z Z) Z (A3 (A6 Z Z) Z (A7 ?_))))
  refine k1 (k10 ?_)
  exact B8 (Z3 rfl rfl rfl rfl rfl) rfl
 ·rw [if_neg h] at hc ⊢
  refine FnOk.intro Tryz.func221 (by decide) Z Z Z Z ?_
  refine k2 ?_
  refine A4 (A3 (A6 Z Z) Z (A3 (A6 Z Z) Z (A7 ?_)))
  refine k1 (k2 ?_)
  refine A4 (A3 (A5 Z Z) Z (A3 (A5 Z Z) Z (B9 (hc) Z Z Z ?_)));rintro _ rfl;refine A3 (B3 Z Z) Z (A3 (B3 Z Z) Z (A3 (A6 Z Z) Z (A3 (A6 Z Z) Z (A7 ?_))))
  refine k1 (k10 ?_)
  exact B8 (Z3 rfl rfl rfl rfl rfl) rfl
theorem I07 (s:Str):ended s=decide (1≤s.length∧s.drop (s.length - 1)=[10]):=by
 by_cases h:ended s=true
 ·rw [h]
  obtain ⟨a,rfl⟩:=ended_iff.1 h
  symm;apply decide_eq_true;simp
 ·have h2:ended s=false:=by simpa using h
  rw [h2];symm;apply decide_eq_false
  rintro ⟨h3,h4⟩
  refine h (ended_iff.2 ⟨s.take (s.length - 1),?_⟩)
  rw [←h4,K95]
theorem F31 (s:Str) (hs:s.length≤1073741824):FnOk Tryz.prog 241 [G7 s,G7 [10]] (fun rs=>rs=[E8 (ended s)]):=by
 have h10:([10]:Str).length=1:=rfl
 refine FnOk.intro Tryz.func241 (by decide) Z Z Z Z ?_
 refine k2 ?_
 refine A4 (A3 (A6 Z Z) Z (A7 ?_))
 refine k1 (k2 ?_)
 refine A4 (A3 (A5 Z Z) Z (A3 (E3 Z) Z (A3 (A5 Z Z) Z (A3 (E3 Z) Z (A3 (s8 Z Z) Z (A3 (A5 Z Z) Z (B0 Z Z Z Z (fun hg=>by rw [hg];exact A5 Z Z) ?_)))))));refine B0 Z Z Z Z (fun hg=>by rw [hg];exact A5 Z Z) ?_;refine B0 Z Z Z Z (fun hg=>by rw [hg];exact E3 Z) ?_;refine B0 Z Z Z Z (fun hg=>by rw [hg];exact A5 Z Z) ?_;refine B0 Z Z Z Z (fun hg=>by rw [hg];exact E3 Z) ?_;refine B0 Z Z Z Z (fun hg=>by have hq:=hg;(try simp at hq);rw [hg];exact S6 Z Z (by omega)) ?_;refine B0 Z Z Z Z (fun hg=>by have hq:=hg;(try simp at hq);rw [hg];exact A80 Z Z (by omega) (by omega)) ?_;refine B0 Z Z Z Z (fun hg=>by rw [hg];exact A5 Z Z) ?_;refine B0 Z Z Z Z (fun hg=>by rw [hg];exact T9 Z Z) ?_;refine A3 (B5 Z (fun h=>by first | rfl | (rw [h];rfl)) (fun h=>by first | rfl | (rw [h];rfl))) Z ?_;refine A3 (A6 Z Z) Z (A7 ?_)
 simp only [K1]
 refine k1 (k10 ?_)
 refine B8 (J6 Z Z Z) ?_
 rw [I07,h10]
 congr 4
 congr 1
 rw [show ((s.length:Int) - ((1:Nat):Int)).toNat=s.length - 1 by omega]
 apply propext;constructor
 ·intro h;exact ⟨by omega,h.2⟩
 ·intro h;exact ⟨by omega,h.2⟩
def F68 (s:Str):List PV:=if ended s=true then [G7 s.dropLast,E8 true] else [G7 s,E8 false]
theorem F32 (s:Str) (hs:s.length≤1073741824):FnOk Tryz.prog 220 [G7 s,G7 [10]] (fun rs=>rs=F68 s):=by
 have h10:([10]:Str).length=1:=rfl
 refine FnOk.intro Tryz.func220 (by decide) Z Z Z Z ?_
 refine k2 ?_
 refine A4 (A3 (A6 Z Z) Z (A3 (A6 Z Z) Z (A7 ?_)))
 refine k1 (k2 (k2 ?_))
 refine A4 (A3 (A5 Z Z) Z (A3 (A5 Z Z) Z (B9 (F31 s hs) Z Z Z ?_)));rintro _ rfl;refine A3 (F7 Z) Z (A7 ?_)
 refine k1 ?_
 refine B4 rfl (fun ht=>?_) (fun ht=>?_)
 ·have h:ended s=false:=by cases h:ended s<;>rw [h] at ht<;>simp at ht ⊢
  refine k2 ?_
  refine A4 (A3 (A5 Z Z) Z (A3 (A6 Z Z) Z (A3 (A6 Z Z) Z (A7 ?_))))
  refine k1 (k10 (k11 ?_))
  exact B8 (rs:=[G7 s,E8 false]) (Z3 rfl rfl rfl rfl rfl) (by unfold F68;rw [h];rfl)
 ·have h:ended s=true:=by cases h:ended s<;>rw [h] at ht<;>simp at ht ⊢
  have hl:1≤s.length:=by obtain ⟨a,rfl⟩:=ended_iff.1 h;simp
  refine k5 (k1 (k2 ?_))
  refine A4 (A3 (A5 Z Z) Z (A3 (A5 Z Z) Z (A3 (E3 Z) Z (A3 (A5 Z Z) Z (A3 (E3 Z) Z (A3 (S6 Z Z (by omega)) Z (A3 (A79 Z Z (by omega) (by omega)) Z (A3 (A6 Z Z) Z (A3 (A6 Z Z) Z (A7 ?_))))))))))
  refine k1 (k10 ?_)
  refine B8 (rs:=[G7 s.dropLast,E8 true]) (Z3 rfl rfl (by rw [h10,show ((s.length:Int) - ((1:Nat):Int)).toNat=s.length - 1 by omega,←List.dropLast_eq_take];rfl) rfl rfl) (by unfold F68;rw [if_pos h])
theorem G40 (s:Str) (hs:s.length≤1073741824):FnOk Tryz.prog 178 [G7 s,G7 [10]] (fun rs=>rs=F68 s):=by
 have hc:=F32 s hs
 unfold F68 at hc ⊢
 by_cases h:ended s=true
 ·rw [if_pos h] at hc ⊢
  refine FnOk.intro Tryz.func178 (by decide) Z Z Z Z ?_
  refine k2 ?_
  refine A4 (A3 (A6 Z Z) Z (A3 (A6 Z Z) Z (A7 ?_)))
  refine k1 (k2 ?_)
  refine A4 (A3 (A5 Z Z) Z (A3 (A5 Z Z) Z (B9 (hc) Z Z Z ?_)));rintro _ rfl;refine A3 (B3 Z Z) Z (A3 (B3 Z Z) Z (A3 (A6 Z Z) Z (A3 (A6 Z Z) Z (A7 ?_))))
  refine k1 (k10 ?_)
  exact B8 (Z3 rfl rfl rfl rfl rfl) rfl
 ·rw [if_neg h] at hc ⊢
  refine FnOk.intro Tryz.func178 (by decide) Z Z Z Z ?_
  refine k2 ?_
  refine A4 (A3 (A6 Z Z) Z (A3 (A6 Z Z) Z (A7 ?_)))
  refine k1 (k2 ?_)
  refine A4 (A3 (A5 Z Z) Z (A3 (A5 Z Z) Z (B9 (hc) Z Z Z ?_)));rintro _ rfl;refine A3 (B3 Z Z) Z (A3 (B3 Z Z) Z (A3 (A6 Z Z) Z (A3 (A6 Z Z) Z (A7 ?_))))
  refine k1 (k10 ?_)
  exact B8 (Z3 rfl rfl rfl rfl rfl) rfl
def D31 (s:Str):List PV:=match x3 s with
 | none=>[Z6 [],E8 false]
 | some l=>[Z6 l,E8 true]
theorem I08 (s:Str) (hs:s.length≤536870912):FnOk Tryz.prog 117 [G7 s] (fun rs=>rs=D31 s):=by
 refine FnOk.intro Tryz.func117 (by decide) Z Z Z Z ?_
 refine k2 ?_
 refine A4 (A3 (A6 Z Z) Z (A3 (A6 Z Z) Z (A7 ?_)))
 refine k1 (k2 (k2 ?_))
 refine A4 (A3 (A5 Z Z) Z (A3 (T9 Z Z) Z (A7 ?_)))
 refine k1 ?_
 refine B4 rfl (fun ht=>?_) (fun ht=>?_)
 ·have h:s=[]:=A0 ht
  refine k2 ?_
  refine A4 (A3 (V3 _ 1 L0) Z (A3 (A6 Z Z) Z (A7 ?_)))
  refine k1 (k10 (k11 ?_))
  exact B8 (rs:=[Z6 [],E8 true]) (Z3 rfl rfl rfl rfl rfl) (by unfold D31 x3;rw [if_pos h])
 have h:s≠[]:=A1 ht
 have hc:=G40 s (by omega)
 unfold F68 at hc
 by_cases he:ended s=true
 ·rw [if_pos he] at hc
  have hl:s.dropLast.length≤s.length:=by rw [List.length_dropLast];omega
  refine k5 (k1 (k2 ?_))
  refine A4 (A3 (A5 Z Z) Z (B9 (hc) Z Z Z ?_));rintro _ rfl;refine A3 (A5 Z Z) Z (A3 (B3 Z Z) Z (A3 (B3 Z Z) Z (A3 (A6 Z Z) Z (A3 (A6 Z Z) Z (A7 ?_)))))
  refine k1 (k2 (k2 ?_))
  refine A4 (A3 (A5 Z Z) Z (A3 (F7 Z) Z (A7 ?_)))
  refine k1 ?_
  refine B4 rfl (fun ht=>?_) (fun ht=>?_)
  ·cases ht
  refine k5 (k1 (k2 ?_))
  refine A4 (A3 (A5 Z Z) Z (B9 (J83 s.dropLast (by omega)) Z Z Z ?_));rintro _ rfl;refine A3 (A6 Z Z) Z (A3 (A6 Z Z) Z (A7 ?_))
  refine k1 (k10 ?_)
  exact B8 (rs:=[Z6 (Y2 s.dropLast),E8 true]) (Z3 rfl rfl rfl rfl rfl) (by unfold D31;rw [D67 h,if_pos he])
 ·rw [if_neg he] at hc
  refine k5 (k1 (k2 ?_))
  refine A4 (A3 (A5 Z Z) Z (B9 (hc) Z Z Z ?_));rintro _ rfl;refine A3 (A5 Z Z) Z (A3 (B3 Z Z) Z (A3 (B3 Z Z) Z (A3 (A6 Z Z) Z (A3 (A6 Z Z) Z (A7 ?_)))))
  refine k1 (k2 (k2 ?_))
  refine A4 (A3 (A5 Z Z) Z (A3 (F7 Z) Z (A7 ?_)))
  refine k1 ?_
  refine B4 rfl (fun ht=>?_) (fun ht=>?_)
  ·refine k2 ?_
   refine A4 (A3 (V3 _ 1 L0) Z (A3 (A6 Z Z) Z (A7 ?_)))
   refine k1 (k10 (k11 ?_))
   exact B8 (rs:=[Z6 [],E8 false]) (Z3 rfl rfl rfl rfl rfl) (by unfold D31;rw [D67 h,if_neg he])
  ·cases ht
end Go.Proofs.YtbiadkkamhpdnaaGreatDoor
namespace Go.Proofs.YtbiadkkamhpdnaaGreatDoor
open Go Go.AL
set_option maxRecDepth 100000
end Go.Proofs.YtbiadkkamhpdnaaGreatDoor
namespace Go.Proofs.YtbiadkkamhpdnaaGreatDoor
open Go Go.AL
set_option maxRecDepth 100000
end Go.Proofs.YtbiadkkamhpdnaaGreatDoor
namespace Go.Proofs.YtbiadkkamhpdnaaGreatDoor
open Go Go.AL
set_option maxRecDepth 100000
set_option maxHeartbeats 1000000
set_option maxHeartbeats 1000000
end Go.Proofs.YtbiadkkamhpdnaaGreatDoor
namespace Go.Proofs.YtbiadkkamhpdnaaGreatDoor
open Go Go.AL
set_option maxRecDepth 100000
theorem E49 {α:Type} {l:List α} {x:α} (h:l.getLast?=some x):l=l.dropLast++[x]:=by
 obtain ⟨ys,hy⟩:=List.getLast?_eq_some_iff.1 h
 rw [hy,List.dropLast_concat]
section
variable {P:Program} {nt:Nat} {fr:Fr} {o n:Str} {hs:List PatchHunk}
end
set_option maxHeartbeats 2000000
theorem J10 {s:Str} {l:List Str} (h:x3 s=some l):(l.map fun t=>t.length+65).sum≤66*s.length∧∀t∈l,t.length≤s.length:=by
 unfold x3 at h
 split at h
 ·cases h;simp
 ·split at h
  ·have h:(C1 s).map List.dropLast=l:=Option.some.inj h
   obtain ⟨f1,f2⟩:=C45 s
   have hl:=Y3 s
   have hsum:∀L:List Str,((L.map List.dropLast).map fun t=>t.length+65).sum≤L.flatten.length+65*L.length:=by
    intro L
    induction L with
    | nil=>simp
    | cons x r ih =>
     simp only [K63,K85,K72,K56,K58,List.length_dropLast] at ih ⊢
     omega
   have hs:=hsum (C1 s)
   rw [h] at hs
   have hs2:(l.map fun (t:Str)=>t.length+65).sum≤(C1 s).flatten.length+65*(C1 s).length:=hs
   refine ⟨by omega,fun t ht=>?_⟩
   rw [←h] at ht
   obtain ⟨x,hx,rfl⟩:=List.mem_map.1 ht
   have:=(List.sublist_flatten_of_mem hx).length_le
   rw [List.length_dropLast];omega
  ·cases h
end Go.Proofs.YtbiadkkamhpdnaaGreatDoor
