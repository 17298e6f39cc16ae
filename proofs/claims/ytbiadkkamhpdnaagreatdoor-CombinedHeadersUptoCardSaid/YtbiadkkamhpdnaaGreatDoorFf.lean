/- Walks of the program's functions. -/
import Derived.Test.YtbiadkkamhpdnaaGreatDoorFe
import Derived.Test.YtbiadkkamhpdnaaGreatDoorFs
import Derived.Test.YtbiadkkamhpdnaaGreatDoorFa
import Derived.Test.YtbiadkkamhpdnaaGreatDoorFb
import Derived.Test.YtbiadkkamhpdnaaGreatDoorFd
import Derived.Test.YtbiadkkamhpdnaaGreatDoorFc
set_option linter.unusedSimpArgs false
namespace Go.Proofs.YtbiadkkamhpdnaaGreatDoor
open Go Go.AL
set_option maxRecDepth 100000
theorem C57 (c:UInt8):∀n:Nat,Lib.repeatL [c] n=List.replicate n c
 | 0=>rfl
 | n+1=>by rw [Lib.repeatL,C57 c n];rfl
theorem H65 (c:UInt8) (n:Nat) (hn:n≤1048576):FnOk Tryz.prog 150 [N6 [c],J0 n] (fun rs=>rs=[N6 (List.replicate n c)]) :=
 I75 (xs:=[.string ⟨#[c]⟩,.int .i64 n]) (r:=.string ⟨(List.replicate n c).toArray⟩) ⟨_,rfl,rfl,rfl⟩ rfl fun w _=>by
  have:=Tryz.strings_Repeat ⟨#[c]⟩ n w (by omega) (by show 1*n≤_;omega)
  have e:Lib.repeatL (⟨#[c]⟩:ByteArray).data.toList n=List.replicate n c:=C57 c n
  rw [e] at this
  exact this
abbrev cBox (c:Comb):Ob:=.box (V0 c).s1.cells
theorem A80 (rows:List Row) (n:Nat) (hn:n≤32) (hr:J6 rows) (hl:rows.length≤268435456) :
  AL.Met Tryz.prog 149 [(pRows rows).s1,(J0 n).s1] [] [] [] (fun rs ob'=>rs=[.one (.mut 720)]∧ob'=[(720,.arr Int 1 G5 (E8 rows n))]):=by
 have e0:((n:Int)+1).toNat=n+1:=by omega
 refine AL.Met.intro Tryz.func149 (by decide) Z Z Z ?_
 refine k2 ?_
 refine A4 (A3 (A6 Z Z) Z (A7 ?_))
 refine k1 (k2 ?_)
 refine A4 (A3 (A5 Z Z) Z (A3 (C2 Z Z (by omega)) Z (C4 (r8 720 Int G5 0 Z Z (by omega) (by omega) (fun _=>by first | exact ⟨⟨rfl,rfl⟩,trivial⟩ | exact ⟨P0 _ _ _,trivial⟩) (by first | rfl | (simp [H1,H8,Ob.free,SV.free,S1.free,TC.free]<;>rfl))) Z ?_)));refine A3 (A6 Z Z) Z (A7 ?_)
 rw [e0,←G85 rows n]
 refine k1 (k2 (k2 ?_))
 refine A4 (A3 (A5 Z Z) Z (A3 (E3 Z (.pure _ _ _ _)) Z (A3 (A5 Z Z) Z (A7 ?_))))
 refine k1 (k3 ?_)
 refine E2 (X:=Nat) (fun i=>([(1,B8 n),(5,.s (.one (.mut 720))),(12,C7 Row 3 rowC rows),(13,B8 rows.length),(14,B8 i)],[(720,.arr Int 1 G5 (c8 rows n i 0))])) (fun i=>i≤rows.length) (fun i=>rows.length - i) 0 (Nat.zero_le _) (I62 ⟨le1 rfl,le1 rfl,le1 rfl,le1 rfl,le1 rfl,trivial⟩ ⟨rfl,trivial⟩) ?_
 intro i hi
 dsimp only at hi ⊢
 refine k2 ?_
 refine A4 (A3 (F1 Z Z) Z (A7 ?_))
 refine k1 (k2 ?_)
 refine B3 rfl (fun ht=>?_) (fun ht=>?_)
 ·have hlt:i < rows.length:=by have:=A0 ht;omega
  have hv:rows[i]?=some rows[i]:=by simp [hlt]
  have hrow:=hr _ (J06 hlt)
  have hstep:=fun p=>G86 rows n i p hlt
  obtain ⟨r,hrr⟩:∃r,r=rows[i]:=⟨_,rfl⟩
  rw [←hrr] at hv hrow hstep
  have hcl:=fun k=>D78 (rows.take i) n k
  have htl:(rows.take i).length=i:=by rw [J12];omega
  rw [htl] at hcl
  refine k5 (k1 (k2 (k3 (k2 ?_))))
  refine A4 (A3 (B4 Z (.pure _ _ _ _) Z (by omega) hv) Z (A3 (F0 Z Z) Z (C4 (G6 7 Z) Z (F6 (B6 TySz.out Z Z Z Z Z Z) (A7 ?_)))))
  refine k1 (k2 (k2 ?_))
  refine A4 (A3 (A5 Z Z) Z (A3 (A5 Z Z) Z (A7 ?_)))
  refine k1 (k3 ?_)
  refine E2 (X:=Nat) (fun p=>([(1,B8 n),(5,.s (.one (.mut 720))),(7,.s (.one (.ref 7 0))),(12,C7 Row 3 rowC rows),(13,B8 rows.length),(14,B8 i),(18,B8 n),(19,B8 p)],[(7,.box (pRow r).s1.cells),(720,.arr Int 1 G5 (c8 rows n i p))])) (fun p=>p≤n) (fun p=>n - p) 0 (Nat.zero_le _) (I62 ⟨le1 rfl,le1 rfl,le1 rfl,le1 rfl,le1 rfl,le1 rfl,le1 rfl,le1 rfl,trivial⟩ ⟨rfl,rfl,trivial⟩) ?_
  intro p hp
  dsimp only at hp ⊢
  have hlen:=H91 rows n i p
  have hget:=H92 rows n i p (by omega)
  have hcp:=hcl p
  refine k2 ?_
  refine A4 (A3 (F1 Z Z) Z (A7 ?_))
  refine k1 (k2 ?_)
  refine B3 rfl (fun ht=>?_) (fun ht=>?_)
  ·have hlt2:p < n:=by have:=A0 ht;omega
   have hst:=hstep p (by omega)
   rw [show p5 n p=(p:Int) by unfold p5;rw [if_neg (by omega)]] at hst
   refine k5 (k1 (k2 (k3 (k2 ?_))))
   refine A4 (A3 (A5 Z Z) Z (A3 (A6 Z Z) Z (A7 ?_)))
   refine k1 (k2 ?_)
   refine A4 (A3 (C9 Z Z Z) Z (A3 (A5 Z Z) Z (C8 (F68 r p hrow) Z Z Z ?_)));rintro _ rfl;refine A7 ?_
   refine k1 ?_
   refine B3 rfl (fun ht=>?_) (fun ht=>?_)
   ·rw [if_pos ht] at hst
    skip
    refine A4 (A3 (A5 Z Z) Z (A3 (A5 Z Z) Z (A3 (G1 Z Z Z (by omega) (by (rw [hlen];omega))) Z ?_)));refine A3 (R9 Z Z hget Z) Z (A3 (C2 Z Z (by omega)) Z (A3 (G1 Z Z Z (by omega) (by (rw [hlen];omega))) Z ?_));refine F6 (I6 TySz.out Z Z (by (rw [hlen];omega)) Z Z) ?_;refine A7 ?_
    refine k4 (k1 ?_)
    refine A4 (A3 (C2 Z Z (by omega)) Z (A3 (A5 Z Z) Z (A7 ?_)))
    refine k1 ?_
    refine ⟨p+1,by omega,by omega,?_⟩
    rw [hst]
    exact I62 ⟨le1 rfl,le1 rfl,le1 rfl,le1 rfl,le1 rfl,le1 rfl,le1 rfl,le1 rfl,trivial⟩ ⟨rfl,rfl,trivial⟩
   ·rw [if_neg (by rw [ht];decide)] at hst
    refine k5 (k4 (k1 ?_))
    refine A4 (A3 (C2 Z Z (by omega)) Z (A3 (A5 Z Z) Z (A7 ?_)))
    refine k1 ?_
    refine ⟨p+1,by omega,by omega,?_⟩
    rw [hst]
    exact I62 ⟨le1 rfl,le1 rfl,le1 rfl,le1 rfl,le1 rfl,le1 rfl,le1 rfl,le1 rfl,trivial⟩ ⟨rfl,rfl,trivial⟩
  ·have hpn:p=n:=by have:=A1 ht;omega
   subst hpn
   have hst:=hstep p (by omega)
   have hvis:X9 r (p5 p p)=!r.Lost:=by unfold p5 X9;rw [if_pos rfl,if_pos rfl]
   rw [hvis,G87] at hst
   refine k6 (k2 ?_)
   refine A4 (A3 (A8 Z) Z (A3 (A9 Z Z Z) Z (A3 (L6 Z) Z (A7 ?_))))
   refine k1 ?_
   refine B3 rfl (fun ht=>?_) (fun ht=>?_)
   ·rw [if_pos ht] at hst
    skip
    refine A4 (A3 (A5 Z Z) Z (A3 (A5 Z Z) Z (A3 (G1 Z Z Z (by omega) (by (rw [hlen];omega))) Z ?_)));refine A3 (R9 Z Z hget Z) Z (A3 (C2 Z Z (by omega)) Z (A3 (G1 Z Z Z (by omega) (by (rw [hlen];omega))) Z ?_));refine F6 (I6 TySz.out Z Z (by (rw [hlen];omega)) Z Z) ?_;refine A7 ?_
    refine k4 (k1 ?_)
    refine A4 (A3 (C2 Z Z (by omega)) Z (A3 (A5 Z Z) Z (A7 ?_)))
    refine k1 ?_
    refine ⟨i+1,by omega,by omega,?_⟩
    rw [hst]
    exact I62 ⟨le1 rfl,le1 rfl,le1 rfl,le1 rfl,le1 rfl,trivial⟩ ⟨rfl,trivial⟩
   ·rw [if_neg (by rw [ht];decide)] at hst
    refine k5 (k4 (k1 ?_))
    refine A4 (A3 (C2 Z Z (by omega)) Z (A3 (A5 Z Z) Z (A7 ?_)))
    refine k1 ?_
    refine ⟨i+1,by omega,by omega,?_⟩
    rw [hst]
    exact I62 ⟨le1 rfl,le1 rfl,le1 rfl,le1 rfl,le1 rfl,trivial⟩ ⟨rfl,trivial⟩
 ·have hil:i=rows.length:=by have:=A1 ht;omega
  subst hil
  rw [G88]
  refine k6 (k2 ?_)
  refine A4 (A3 (A5 Z Z) Z (A3 (A6 Z Z) Z (A7 ?_)))
  refine k1 (k10 ?_)
  exact V4 (A49 rfl rfl) (by repeat (first | exact E4 | refine E5 rfl ?_ | refine K3 _ ?_)) (ObIn.spec (ob':=[(720,_)]) ⟨rfl,trivial⟩) ⟨rfl,rfl⟩
theorem G54 (c:Comb) (hn:1≤c.Parents∧c.Parents≤32) (hr:∀h∈c.Hunks,J6 h.Rows) (hz:szC c.Hunks≤268435456):FnOk Tryz.prog 92 [V0 c] (fun rs=>rs=[N0 (a7 c.Parents.toNat c.Hunks)]):=by
 obtain ⟨n,hN⟩:∃n,n=c.Parents.toNat:=⟨_,rfl⟩
 rw [←hN]
 have hzl:=C05 c.Hunks
 refine FnOk.intro Tryz.func92 (by decide) Z Z Z Z ?_
 refine k2 ?_
 refine A4 (C4 (S9 1 Z Z Z) Z (A3 (A6 Z Z) Z (A7 ?_)))
 refine k1 (k2 (k2 ?_))
 refine A4 (A3 (A8 Z) Z (A3 (A9 Z Z Z) Z (A3 (E3 Z (.pure _ _ _ _)) Z (A3 (A5 Z Z) Z (A7 ?_)))))
 refine k1 (k3 ?_)
 refine E2 (X:=Nat) (fun k=>([(1,.s (.one (.ref 1 0))),(8,C7 CHunk 2 O1 c.Hunks),(9,B8 c.Hunks.length),(10,B8 k)],[(1,cBox c)])) (fun k=>k≤c.Hunks.length∧a7 n c.Hunks=a7 n (c.Hunks.drop k)) (fun k=>c.Hunks.length - k) 0 ⟨Nat.zero_le _,rfl⟩ (I62 ⟨le1 rfl,le1 rfl,le1 rfl,le1 rfl,trivial⟩ ⟨rfl,trivial⟩) ?_
 rintro k ⟨hk,hp⟩
 dsimp only at hk hp ⊢
 refine k2 ?_
 refine A4 (A3 (F1 Z Z) Z (A7 ?_))
 refine k1 (k2 ?_)
 refine B3 rfl (fun ht=>?_) (fun ht=>?_)
 ·have hlt:k < c.Hunks.length:=by have:=A0 ht;omega
  have hv:c.Hunks[k]?=some c.Hunks[k]:=by simp [hlt]
  have hrw:=hr _ (J06 hlt)
  have hzm:=D01 (J06 hlt)
  rw [J00 hlt] at hp
  obtain ⟨h,hx⟩:∃x,x=c.Hunks[k]:=⟨_,rfl⟩
  rw [←hx] at hv hrw hp hzm
  have hz1:=i8 h.Rows
  unfold C88 at hzm
  have hp:a7 n c.Hunks=(N2 h.Rows n&&a7 n (c.Hunks.drop (k+1))):=hp
  refine k5 (k1 (k2 (k3 (k2 ?_))))
  refine A4 (A3 (B4 Z (.pure _ _ _ _) Z (by omega) hv) Z (A3 (F0 Z Z) Z (C4 (G6 4 Z) Z (F6 (B6 TySz.out Z Z Z Z Z Z) (A7 ?_)))))
  refine k1 (k2 ?_)
  refine A4 (A3 (A8 Z) Z (A3 (A9 Z Z Z) Z (A3 (E3 Z (.pure _ _ _ _)) Z (A3 (A5 Z Z) Z (A7 ?_)))))
  refine k1 (k3 ?_)
  refine E2 (X:=Nat) (fun j=>([(1,.s (.one (.ref 1 0))),(8,C7 CHunk 2 O1 c.Hunks),(9,B8 c.Hunks.length),(10,B8 k),(15,C7 Row 3 rowC h.Rows),(16,B8 h.Rows.length),(17,B8 j)],[(1,cBox c)])) (fun j=>j≤h.Rows.length∧N2 h.Rows n=N2 (h.Rows.drop j) n) (fun j=>h.Rows.length - j) 0 ⟨Nat.zero_le _,rfl⟩ (I62 ⟨le1 rfl,le1 rfl,le1 rfl,le1 rfl,le1 rfl,le1 rfl,le1 rfl,trivial⟩ ⟨rfl,trivial⟩) ?_
  rintro j ⟨hj,hq⟩
  dsimp only at hj hq ⊢
  refine k2 ?_
  refine A4 (A3 (F1 Z Z) Z (A7 ?_))
  refine k1 (k2 ?_)
  refine B3 rfl (fun ht=>?_) (fun ht=>?_)
  ·have hlt2:j < h.Rows.length:=by have:=A0 ht;omega
   have hv2:h.Rows[j]?=some h.Rows[j]:=by simp [hlt2]
   have hm:=hrw _ (J06 hlt2)
   rw [J00 hlt2,B89] at hq
   obtain ⟨r,hy⟩:∃x,x=h.Rows[j]:=⟨_,rfl⟩
   rw [←hy] at hv2 hm hq
   have hw:=D31 r c.Parents hn hm
   rw [←hN] at hw
   refine k5 (k1 (k2 (k3 (k2 ?_))))
   refine A4 (A3 (B4 Z (.pure _ _ _ _) Z (by omega) hv2) Z (A3 (F0 Z Z) Z (C4 (G6 6 Z) Z (F6 (B6 TySz.out Z Z Z Z Z Z) (A7 ?_)))))
   refine k1 (k2 ?_)
   refine A4 (A3 (C9 Z Z Z) Z (A3 (A8 Z) Z (A3 (A9 Z Z Z) Z (C8 (hw) Z Z Z ?_))));rintro _ rfl;refine A3 (L6 Z) Z (A7 ?_)
   refine k1 ?_
   refine B3 rfl (fun ht=>?_) (fun ht=>?_)
   ·have h2:R0 n r=false:=by simpa using ht
    rw [h2,Bool.false_and] at hq
    rw [hq,Bool.false_and] at hp
    refine k2 ?_
    refine A4 (A3 (A6 Z Z) Z (A7 ?_))
    refine k1 (k10 (k12 (k11 (k11 (k12 (k12 (k11 (k11 (k12 (k11 ?_))))))))))
    exact C0 (I2 rfl rfl rfl) (by rw [hp])
   ·have h2:R0 n r=true:=by simpa using ht
    rw [h2,Bool.true_and] at hq
    refine k5 (k4 (k1 ?_))
    refine A4 (A3 (C2 Z Z (by omega)) Z (A3 (A5 Z Z) Z (A7 ?_)))
    refine k1 ?_
    exact ⟨j+1,⟨by omega,hq⟩,by omega,I62 ⟨le1 rfl,le1 rfl,le1 rfl,le1 rfl,le1 rfl,le1 rfl,le1 rfl,trivial⟩ ⟨rfl,trivial⟩⟩
  ·have hjl:j=h.Rows.length:=by have:=A1 ht;omega
   rw [hjl,J04 (Nat.le_refl _)] at hq
   have hq:N2 h.Rows n=true:=hq
   rw [hq,Bool.true_and] at hp
   refine k6 (k7 (k7 (k8 Z (k4 (k1 ?_)))))
   refine A4 (A3 (C2 Z Z (by omega)) Z (A3 (A5 Z Z) Z (A7 ?_)))
   refine k1 ?_
   exact ⟨k+1,⟨by omega,hp⟩,by omega,I62 ⟨le1 rfl,le1 rfl,le1 rfl,le1 rfl,trivial⟩ ⟨rfl,trivial⟩⟩
 ·have hkl:k=c.Hunks.length:=by have:=A1 ht;omega
  rw [hkl,J04 (Nat.le_refl _)] at hp
  refine k6 (k2 ?_)
  refine A4 (A3 (A6 Z Z) Z (A7 ?_))
  refine k1 (k10 ?_)
  exact C0 (I2 rfl rfl rfl) (by rw [hp];rfl)
theorem F78 (h:CHunk) (n:Nat) (ends:List Int) (hn:n≤32) (hr:J6 h.Rows) (hl:h.Rows.length≤268435456) (he:ends.length=n+1) (he0:∀e∈ends,0≤e) :
  FnOk Tryz.prog 156 [F32 h,J0 n,P2 ends] (fun rs=>rs=if V2 n ends h=true then [P2 (R7 n h),N0 true] else [P2 [],N0 false]):=by
 have hnot:∀{Q:Prop},(V2 n ends h=true→False)→(if V2 n ends h=true then [P2 (R7 n h),N0 true] else [P2 [],N0 false])=[P2 [],N0 false]:=fun hq=>if_neg hq
 have hF:=C77 n ends h
 refine FnOk.intro Tryz.func156 (by decide) Z Z Z Z ?_
 refine k2 ?_
 refine A4 (C4 (S9 3 Z Z Z) Z (A3 (A6 Z Z) Z (A3 (A6 Z Z) Z (A7 ?_))))
 refine k1 (k2 (k2 ?_))
 refine A4 (A3 (A8 Z) Z (A3 (A9 Z Z Z) Z (A3 (E3 Z (.pure _ _ _ _)) Z (A3 (A5 Z Z) Z (A3 (C2 Z Z (by omega)) Z (A3 (R4 Z Z) Z (A3 (A5 Z Z) Z (B0 Z Z Z Z (fun hg=>by rw [hg];exact A8 Z) ?_))))))));refine B0 Z Z Z Z (fun hg=>by rw [hg];exact A9 Z Z Z) ?_;refine B0 Z Z Z Z (fun hg=>by rw [hg];exact E3 Z (.pure _ _ _ _)) ?_;refine B0 Z Z Z Z (fun hg=>by rw [hg];exact O2 Z Z) ?_;refine A3 (B5 Z (fun h=>by first | rfl | (rw [h];rfl)) (fun h=>by first | rfl | (rw [h];rfl))) Z ?_;refine A7 ?_
 refine k1 ?_
 refine B3 rfl (fun ht=>?_) (fun ht=>?_)
 ·have h1:=A0 (or_pick.symm.trans ht)
  refine k2 ?_
  refine A4 (A3 (S2 _ 1 G5) Z (A3 (A6 Z Z) Z (A7 ?_)))
  refine k1 (k10 (k11 ?_))
  refine C0 (rs:=[P2 [],N0 false]) (B21 Z Z Z Z Z) ?_
  rw [if_neg]
  intro hq
  have h2:=(hF.1 hq).1
  rcases h1 with h1 | h1
  ·omega
  ·exact h2.2 (List.length_eq_zero_iff.1 (by omega))
 ·have h1:=A1 (or_pick.symm.trans ht)
  simp only [not_or,Decidable.not_not] at h1
  have hal:h.At.length=n+1:=by omega
  have hne:h.Rows≠[]:=fun e=>h1.2 (by rw [e];rfl)
  refine M2 [(1,B8 n),(2,C7 Int 1 G5 ends),(3,.s (.one (.ref 3 0)))] [(3,.box (F32 h).s1.cells)] (I62 ⟨le1 rfl,le1 rfl,le1 rfl,trivial⟩ ⟨rfl,trivial⟩) ?_
  refine k5 (k1 (k2 ?_))
  refine A4 (A3 (A8 Z) Z (A3 (A9 Z Z Z) Z (A3 (A5 Z Z) Z (l_new (A80 h.Rows n hn hr hl) Z Z Z Z ?_))));rintro _ _ ⟨rfl,rfl⟩;refine ⟨rfl,?_⟩;refine A3 (A6 Z Z) Z (A7 ?_)
  refine k1 (k2 (k2 ?_))
  refine A4 (A3 (A8 Z) Z (A3 (A9 Z Z Z) Z (A3 (E3 Z (.pure _ _ _ _)) Z (A3 (A5 Z Z) Z (A7 ?_)))))
  refine k1 (k3 ?_)
  refine E2 (X:=Nat) (fun k=>([(2,C7 Int 1 G5 ends),(8,.s (.one (.mut 720))),(28,C7 Int 1 G5 h.At),(29,B8 h.At.length),(30,B8 k)],[(720,.arr Int 1 G5 (p6 n h k))])) (fun k=>k≤h.At.length∧∀j,j < k→ends.getD j 0≤h.At.getD j 0∧h.At.getD j 0≤4096) (fun k=>h.At.length - k) 0 ⟨Nat.zero_le _,fun j hj=>by omega⟩ (by rw [G12];exact I62 ⟨le1 rfl,le1 rfl,le1 rfl,le1 rfl,le1 rfl,trivial⟩ ⟨rfl,trivial⟩) ?_
  rintro k ⟨hk,hp⟩
  dsimp only at hk hp ⊢
  have hlen:=G90 n h k
  refine k2 ?_
  refine A4 (A3 (F1 Z Z) Z (A7 ?_))
  refine k1 (k2 ?_)
  refine B3 rfl (fun ht=>?_) (fun ht=>?_)
  ·have hlt:k < h.At.length:=by have:=A0 ht;omega
   have hv:=getI hlt
   have hve:=getI (l:=ends) (i:=k) (by omega)
   have hget:=G91 n h k (by omega)
   have hset:=G92 n h k
   have hek:0≤ends.getD k 0:=he0 _ (J10 hve)
   have hcl:=D78 h.Rows n k
   obtain ⟨a,ha⟩:∃a,a=h.At.getD k 0:=⟨_,rfl⟩
   obtain ⟨e,hee⟩:∃e,e=ends.getD k 0:=⟨_,rfl⟩
   obtain ⟨q,hqq⟩:∃q,q=L1 h.Rows n k:=⟨_,rfl⟩
   rw [←ha] at hv hset
   rw [←hee] at hve hek
   rw [←hqq] at hget hset hcl
   refine k5 (k1 (k2 (k3 (k2 ?_))))
   refine A4 (A3 (A5 Z Z) Z (A3 (B4 Z (.pure _ _ _ _) Z (by omega) hv) Z (A3 (C5 Z Z) Z (A3 (A6 Z Z) Z (A3 (A6 Z Z) Z (A7 ?_))))))
   refine k1 (k2 (k2 ?_))
   refine A4 (A3 (A5 Z Z) Z (A3 (A5 Z Z) Z (A3 (A5 Z Z) Z (A3 (B4 Z (.pure _ _ _ _) Z (by omega) hve) Z (A3 (C5 Z Z) Z (A3 (F1 Z Z) Z (A3 (A5 Z Z) Z (B0 Z Z Z Z (fun hg=>by rw [hg];exact A5 Z Z) ?_))))))));refine B0 Z Z Z Z (fun hg=>by rw [hg];exact R1 Z Z) ?_;refine A3 (B5 Z (fun h=>by first | rfl | (rw [h];rfl)) (fun h=>by first | rfl | (rw [h];rfl))) Z ?_;refine A7 ?_
   refine k1 ?_
   refine B3 rfl (fun ht=>?_) (fun ht=>?_)
   ·have h2:=A0 (or_pick.symm.trans ht)
    refine k2 ?_
    refine A4 (A3 (S2 _ 1 G5) Z (A3 (A6 Z Z) Z (A7 ?_)))
    refine k1 (k10 (k11 (k12 (k11 (k11 (k12 (k11 ?_)))))))
    refine C0 (rs:=[P2 [],N0 false]) (B21 Z Z Z Z Z) ?_
    rw [if_neg]
    intro hq
    have h3:=(hF.1 hq).2 k (by omega)
    rw [←ha,←hee] at h3
    omega
   ·have h2:=A1 (or_pick.symm.trans ht)
    have h3:e≤a∧a≤4096:=by omega
    refine k5 (k1 ?_)
    refine A4 (A3 (A5 Z Z) Z (A3 (A5 Z Z) Z (A3 (G1 Z Z Z (by omega) (by (rw [hlen];omega))) Z ?_)));refine A3 (R9 Z Z hget Z) Z (A3 (A5 Z Z) Z (A3 (C2 Z Z (by omega)) Z (A3 (G1 Z Z Z (by omega) (by (rw [hlen];omega))) Z ?_)));refine F6 (I6 TySz.out Z Z (by (rw [hlen];omega)) Z Z) ?_;refine A7 ?_
    refine k4 (k1 ?_)
    refine A4 (A3 (C2 Z Z (by omega)) Z (A3 (A5 Z Z) Z (A7 ?_)))
    refine k1 ?_
    refine ⟨k+1,⟨by omega,fun j hj=>?_⟩,by omega,?_⟩
    ·by_cases e1:j=k
     ·subst e1;rw [←ha,←hee];exact h3
     ·exact hp j (by omega)
    ·rw [←hset]
     exact I62 ⟨le1 rfl,le1 rfl,le1 rfl,le1 rfl,le1 rfl,trivial⟩ ⟨rfl,trivial⟩
  ·have hkl:k=n+1:=by have:=A1 ht;omega
   subst hkl
   rw [G13]
   have hq:V2 n ends h=true:=hF.2 ⟨⟨hal,hne⟩,hp⟩
   refine H4 (Sees.freeze (k:=720) Z) ?_
   refine k6 (k2 ?_)
   refine A4 (A3 (A5 Z Z) Z (A3 (A6 Z Z) Z (A3 (A6 Z Z) Z (A7 ?_))))
   refine k1 (k10 ?_)
   exact C0 (rs:=[P2 (R7 n h),N0 true]) (B21 rfl rfl rfl rfl rfl) (by rw [if_pos hq])
theorem smax_ok (l:List Int) (hl:0 < l.length):FnOk Tryz.prog 112 [P2 l] (fun rs=>∃m,rs=[J0 m]∧∀b,m≤b↔∀e∈l,e≤b):=by
 refine FnOk.intro Tryz.func112 (by decide) Z Z Z Z ?_
 refine H04 (t:=0) rfl (.pure _ _ _ _) fun hb=>?_
 refine k2 ?_
 refine A4 (A3 (A6 Z Z) Z (A7 ?_))
 refine k1 (k2 (k2 ?_))
 refine A4 (A3 (A5 Z Z) Z (A3 (E3 Z (.pure _ _ _ _)) Z (A3 (F1 Z Z) Z (A7 ?_))))
 refine k1 ?_
 refine B3 rfl (fun ht=>?_) (fun ht=>?_)
 ·exact absurd (A0 ht) (by omega)
 refine k5 (k1 (k2 ?_))
 refine A4 (A3 (A5 Z Z) Z (A3 (B4 Z (.pure _ _ _ _) Z (by omega) (getI (l:=l) (i:=0) hl)) Z (A3 (C5 Z Z) Z (A3 (A6 Z Z) Z (A7 ?_)))))
 refine k1 (k2 (k2 ?_))
 refine A4 (A3 (A6 Z Z) Z (A7 ?_))
 refine k1 (k3 ?_)
 refine E2 (X:=Nat × Int) (fun x=>([(0,C7 Int 1 G5 l),(3,B8 x.2),(4,B8 x.1)],[])) (fun x=>(1≤x.1∧x.1≤l.length)∧∀b,x.2≤b↔∀e∈l.take x.1,e≤b) (fun x=>l.length - x.1) (1,l.getD 0 0) ⟨⟨Nat.le_refl _,hl⟩,?_⟩ (I62 ⟨le1 rfl,le1 rfl,le1 rfl,trivial⟩ trivial) ?_
 ·intro b
  have:l.take 1=[l.getD 0 0]:=by
   cases l with
   | nil=>cases hl
   | cons x r=>rfl
  dsimp only
  rw [this];simp
 rintro ⟨k,m⟩ ⟨⟨hk1,hk⟩,hp⟩
 dsimp only at hk1 hk hp ⊢
 refine k2 (k2 ?_)
 refine A4 (A3 (A5 Z Z) Z (A3 (A5 Z Z) Z (A3 (E3 Z (.pure _ _ _ _)) Z (A3 (F1 Z Z) Z (A7 ?_)))))
 refine k1 ?_
 refine B3 rfl (fun ht=>?_) (fun ht=>?_)
 ·have hlt:k < l.length:=by have:=A0 ht;omega
  have hv:=getI hlt
  refine k5 (k1 (k2 (k3 ?_)))
  refine A4 (A3 (A5 Z Z) Z (A3 (A5 Z Z) Z (A3 (A5 Z Z) Z (A3 (B4 Z (.pure _ _ _ _) Z (by omega) hv) Z (A3 (C5 Z Z) Z (A3 (n_max Z Z) Z (A3 (A6 Z Z) Z (A7 ?_))))))))
  refine k4 (k1 ?_)
  refine A4 (A3 (A5 Z Z) Z (A3 (C2 Z Z (by omega)) Z (A3 (A6 Z Z) Z (A7 ?_))))
  refine k1 ?_
  refine ⟨(k+1,if m < l.getD k 0 then l.getD k 0 else m),⟨⟨by dsimp only;omega,by dsimp only;omega⟩,?_⟩,by dsimp only;omega,I62 ⟨le1 rfl,le1 rfl,le1 rfl,trivial⟩ trivial⟩
  intro b
  dsimp only
  have e:l.take (k+1)=l.take k++[l.getD k 0]:=by
   rw [J02 hlt,I98,I94 hlt];rfl
  have h1:=hp b
  rw [e]
  constructor
  ·intro h x hx
   rcases List.mem_append.1 hx with hx | hx
   ·exact h1.1 (by omega) x hx
   ·simp only [J20,J18,or_false] at hx
    rw [hx];omega
  ·intro h
   have h2:=h1.2 (fun x hx=>h x (List.mem_append.2 (.inl hx)))
   have h3:=h (l.getD k 0) (List.mem_append.2 (.inr (by simp)))
   omega
 ·have hkl:k=l.length:=by have:=A1 ht;omega
  subst hkl
  rw [J21] at hp
  refine k6 (k2 ?_)
  refine A4 (A3 (A5 Z Z) Z (A3 (A6 Z Z) Z (A7 ?_)))
  refine k1 (k10 ?_)
  exact C0 (I2 rfl rfl rfl) ⟨m,rfl,hp⟩
theorem I22 (c:Comb) (hn:1≤c.Parents∧c.Parents≤32) (hr:∀h∈c.Hunks,J6 h.Rows) (hz:szC c.Hunks≤268435456) :
  FnOk Tryz.prog 93 [V0 c] (fun rs=>rs=[N0 (b9 c.Parents.toNat (List.replicate (c.Parents.toNat+1) 0) false 0 c.Hunks)]):=by
 obtain ⟨n,hN⟩:∃n,n=c.Parents.toNat:=⟨_,rfl⟩
 have hNc:c.Parents=(n:Int):=by omega
 rw [←hN]
 have e0:(c.Parents+1).toNat=n+1:=by omega
 have hzl:=C05 c.Hunks
 obtain ⟨W,hW⟩:∃W,W=b9 n (List.replicate (n+1) 0) false 0 c.Hunks:=⟨_,rfl⟩
 rw [←hW]
 refine FnOk.intro Tryz.func93 (by decide) Z Z Z Z ?_
 refine k2 ?_
 refine A4 (C4 (S9 1 Z Z Z) Z (A3 (A6 Z Z) Z (A7 ?_)))
 refine k1 (k2 ?_)
 refine A4 (C4 (G6 3 Z) Z (A7 ?_))
 refine k1 (k2 ?_)
 refine A4 (A3 (A8 Z) Z (A3 (A9 Z Z Z) Z (A3 (C2 Z Z (by omega)) Z (C4 (r8 720 Int G5 0 Z Z (by omega) (by omega) (fun _=>by first | exact ⟨⟨rfl,rfl⟩,trivial⟩ | exact ⟨P0 _ _ _,trivial⟩) (by first | rfl | (simp [H1,H8,Ob.free,SV.free,S1.free,TC.free]<;>rfl))) Z ?_))));refine A3 (A6 Z Z) Z (A7 ?_)
 rw [e0]
 refine k1 (k2 (k2 ?_))
 refine H4 (Sees.freeze (k:=720) Z) ?_
 refine A4 (A3 (A8 Z) Z (A3 (A9 Z Z Z) Z (A3 (E3 Z (.pure _ _ _ _)) Z (A3 (A5 Z Z) Z (A7 ?_)))))
 refine k1 (k3 ?_)
 refine E2 (X:=Nat × List Int × Bool × Int) (fun x=>([(1,.s (.one (.ref 1 0))),(3,.s (.one (.ref 3 0))),(4,C7 Int 1 G5 x.2.1),(15,C7 CHunk 2 O1 c.Hunks),(16,B8 c.Hunks.length),(17,B8 x.1)],[(1,cBox c),(3,.box [.p (.v (.bool x.2.2.1)),.p (.v (.int .u32 x.2.2.2))])])) (fun x=>x.1≤c.Hunks.length∧x.2.1.length=n+1∧(∀e∈x.2.1,0≤e)∧W=b9 n x.2.1 x.2.2.1 x.2.2.2 (c.Hunks.drop x.1)) (fun x=>c.Hunks.length - x.1) (0,List.replicate (n+1) 0,false,0) ⟨Nat.zero_le _,by simp,fun e he=>by have:=(List.mem_replicate.1 he).2;omega,hW⟩ (I62 ⟨le1 rfl,le1 rfl,le1 rfl,le1 rfl,le1 rfl,le1 rfl,trivial⟩ ⟨rfl,rfl,trivial⟩) ?_
 rintro ⟨k,ends,res,par⟩ ⟨hk,hel,he0,hp⟩
 dsimp only at hk hel he0 hp ⊢
 refine k2 ?_
 refine A4 (A3 (F1 Z Z) Z (A7 ?_))
 refine k1 (k2 ?_)
 refine B3 rfl (fun ht=>?_) (fun ht=>?_)
 ·have hlt:k < c.Hunks.length:=by have:=A0 ht;omega
  have hv:c.Hunks[k]?=some c.Hunks[k]:=by simp [hlt]
  have hmem:=J06 hlt
  have hrw:=hr _ hmem
  have hzm:=D01 hmem
  rw [J00 hlt,b9] at hp
  obtain ⟨h,hx⟩:∃x,x=c.Hunks[k]:=⟨_,rfl⟩
  rw [←hx] at hv hrw hzm hp
  have hz1:=i8 h.Rows
  have hz2:=B60 h.Rows
  unfold C88 at hzm
  have hf:=F78 h n ends (by omega) hrw (by omega) hel he0
  rw [←hNc] at hf
  refine k5 (k1 (k2 (k3 (k2 ?_))))
  refine A4 (A3 (B4 Z (.pure _ _ _ _) Z (by omega) hv) Z (A3 (F0 Z Z) Z (C4 (G6 6 Z) Z (F6 (B6 TySz.out Z Z Z Z Z Z) (A7 ?_)))))
  refine k1 (k2 ?_)
  refine A4 (A3 (A6 Z Z) Z (A7 ?_))
  refine k1 (k2 (k2 ?_))
  cases hfb:V2 n ends h with
  | false =>
   rw [hfb,if_neg (by decide)] at hf
   rw [hfb,Bool.false_and] at hp
   refine A4 (A3 (C9 Z Z Z) Z (A3 (A8 Z) Z (A3 (A9 Z Z Z) Z (A3 (A5 Z Z) Z (C8 (hf) Z Z Z ?_)))));rintro _ rfl;refine A3 (A5 Z Z) Z (A3 (D6 Z Z) Z (A3 (D6 Z Z) Z (A3 (A6 Z Z) Z (A3 (A6 Z Z) Z (A7 ?_)))))
   refine k1 (k2 ?_)
   refine A4 (A3 (A5 Z Z) Z (A3 (L6 Z) Z (A7 ?_)))
   refine k1 ?_
   refine B3 rfl (fun ht=>?_) (fun ht=>?_)
   ·refine k2 ?_
    refine A4 (A3 (A6 Z Z) Z (A7 ?_))
    refine k1 (k10 (k11 (k12 (k11 (k11 (k12 (k11 ?_)))))))
    exact C0 (I2 rfl rfl rfl) (by rw [hp])
   ·cases ht
  | true =>
   rw [hfb,if_pos rfl] at hf
   rw [hfb,Bool.true_and] at hp
   have hpos:∀e∈R7 n h,0≤e:=by
    intro e hm
    obtain ⟨j,hj,rfl⟩:=List.mem_map.1 hm
    have hj:=List.mem_range.1 hj
    have h1:=((C77 n ends h).1 hfb).2 j hj
    have h2:=he0 _ (J10 (getI (l:=ends) (i:=j) (by omega)))
    have h3:=D78 h.Rows n j
    omega
   refine A4 (A3 (C9 Z Z Z) Z (A3 (A8 Z) Z (A3 (A9 Z Z Z) Z (A3 (A5 Z Z) Z (C8 (hf) Z Z Z ?_)))));rintro _ rfl;refine A3 (A5 Z Z) Z (A3 (D6 Z Z) Z (A3 (D6 Z Z) Z (A3 (A6 Z Z) Z (A3 (A6 Z Z) Z (A7 ?_)))))
   refine k1 (k2 ?_)
   refine A4 (A3 (A5 Z Z) Z (A3 (L6 Z) Z (A7 ?_)))
   refine k1 ?_
   refine B3 rfl (fun ht=>?_) (fun ht=>?_)
   ·cases ht
   refine k5 (k1 (k2 ?_))
   refine A4 (A3 (A8 Z) Z (A3 (A9 Z Z Z) Z (A3 (E3 Z (.pure _ _ _ _)) Z (A3 (A5 Z Z) Z (A7 ?_)))))
   refine k1 (k3 ?_)
   refine E2 (X:=Nat × Bool × Int) (fun x=>([(1,.s (.one (.ref 1 0))),(3,.s (.one (.ref 3 0))),(4,C7 Int 1 G5 (R7 n h)),(15,C7 CHunk 2 O1 c.Hunks),(16,B8 c.Hunks.length),(17,B8 k),(32,C7 Row 3 rowC h.Rows),(33,B8 h.Rows.length),(34,B8 x.1)],[(1,cBox c),(3,.box [.p (.v (.bool x.2.1)),.p (.v (.int .u32 x.2.2))])])) (fun x=>x.1≤h.Rows.length∧N9 res par h.Rows=N9 x.2.1 x.2.2 (h.Rows.drop x.1)∧a8 res h.Rows=a8 x.2.1 (h.Rows.drop x.1)∧b8 par h.Rows=b8 x.2.2 (h.Rows.drop x.1)) (fun x=>h.Rows.length - x.1) (0,res,par) ⟨Nat.zero_le _,rfl,rfl,rfl⟩ (I62 ⟨le1 rfl,le1 rfl,le1 rfl,le1 rfl,le1 rfl,le1 rfl,le1 rfl,le1 rfl,le1 rfl,trivial⟩ ⟨rfl,rfl,trivial⟩) ?_
   rintro ⟨j,res',par'⟩ ⟨hj,q1,q2,q3⟩
   dsimp only at hj q1 q2 q3 ⊢
   refine k2 ?_
   refine A4 (A3 (F1 Z Z) Z (A7 ?_))
   refine k1 (k2 ?_)
   refine B3 rfl (fun ht=>?_) (fun ht=>?_)
   ·have hlt2:j < h.Rows.length:=by have:=A0 ht;omega
    have hv2:h.Rows[j]?=some h.Rows[j]:=by simp [hlt2]
    have htl:=F87 h.Rows _ (J06 hlt2)
    rw [J00 hlt2] at q1 q2 q3
    rw [N9] at q1
    obtain ⟨r,hy⟩:∃x,x=h.Rows[j]:=⟨_,rfl⟩
    rw [←hy] at hv2 htl q1 q2 q3
    refine k5 (k1 (k2 (k3 (k2 ?_))))
    refine A4 (A3 (B4 Z (.pure _ _ _ _) Z (by omega) hv2) Z (A3 (F0 Z Z) Z (C4 (G6 9 Z) Z (F6 (B6 TySz.out Z Z Z Z Z Z) (A7 ?_)))))
    refine k1 (k2 ?_)
    by_cases hs:H9 r.Text=true
    ·refine A4 (A3 (C9 Z Z Z) Z (C8 (A27 r (by omega)) Z Z Z ?_));rintro _ rfl;refine A3 (L6 Z) Z (A3 (A5 Z Z) Z (M9 Z Z Z (by rw [hs];rfl) ?_));refine A3 (C9 Z Z Z) Z (M9 Z Z Z (by rw [hs];rfl) ?_);refine F52 (H11 r res' par' (by omega)) Z Z Z Z Z Z ?_;rintro _ _ ⟨rfl,rfl⟩;refine B0 Z Z Z Z (fun hg=>by rw [hg];exact L6 Z) ?_;refine A3 (B5 Z (fun h=>by first | rfl | (rw [h];rfl)) (fun h=>by first | rfl | (rw [h];rfl))) Z ?_;refine A7 ?_
     refine k1 ?_
     refine B3 rfl (fun ht=>?_) (fun ht=>?_)
     ·have h2:B39 res' par' r=false:=by rw [hs] at ht;simpa using ht
      rw [hs,h2,Bool.true_and,Bool.false_and] at q1
      rw [q1,Bool.false_and] at hp
      refine k2 ?_
      refine A4 (A3 (A6 Z Z) Z (A7 ?_))
      refine k1 (k10 (k12 (k11 (k11 (k12 (k12 (k11 (k11 (k12 (k11 ?_))))))))))
      exact C0 (I2 rfl rfl rfl) (by rw [hp])
     ·have h2:B39 res' par' r=true:=by rw [hs] at ht;simpa using ht
      rw [hs,h2,Bool.true_and,Bool.true_and] at q1
      refine k5 (k4 (k1 ?_))
      refine A4 (A3 (C2 Z Z (by omega)) Z (A3 (A5 Z Z) Z (A7 ?_)))
      refine k1 ?_
      exact ⟨(j+1,_,_),⟨by dsimp only;omega,q1,q2,q3⟩,by dsimp only;omega,I62 ⟨le1 rfl,le1 rfl,le1 rfl,le1 rfl,le1 rfl,le1 rfl,le1 rfl,le1 rfl,le1 rfl,trivial⟩ ⟨rfl,rfl,trivial⟩⟩
    ·have hs':H9 r.Text=false:=by simpa using hs
     refine A4 (A3 (C9 Z Z Z) Z (C8 (A27 r (by omega)) Z Z Z ?_));rintro _ rfl;refine A3 (L6 Z) Z (A3 (A5 Z Z) Z (B0 Z Z Z Z (fun hg=>by rw [hg];exact C9 Z Z Z) ?_));refine I9 Z Z Z (by rw [hs'];decide) Z ?_;refine I9 Z Z Z (by rw [hs'];decide) Z ?_;refine A3 (B5 (q:=true) Z (fun h=>rfl) (fun h=>by rw [hs'] at h;cases h)) Z ?_;refine A7 ?_
     rw [hs',Bool.false_and,Bool.false_and] at q1
     rw [q1,Bool.false_and] at hp
     refine k1 ?_
     refine B3 rfl (fun ht=>?_) (fun ht=>?_)
     ·refine k2 ?_
      refine A4 (A3 (A6 Z Z) Z (A7 ?_))
      refine k1 (k10 (k12 (k11 (k11 (k12 (k12 (k11 (k11 (k12 (k11 ?_))))))))))
      exact C0 (I2 rfl rfl rfl) (by rw [hp])
     ·rw [hs'] at ht;cases ht
   ·have hjl:j=h.Rows.length:=by have:=A1 ht;omega
    rw [hjl,J04 (Nat.le_refl _)] at q1 q2 q3
    have q1:N9 res par h.Rows=true:=q1
    have q2:a8 res h.Rows=res':=q2
    have q3:b8 par h.Rows=par':=q3
    rw [q1,q2,q3,Bool.true_and] at hp
    refine k6 (k7 (k7 (k8 Z (k4 (k1 ?_)))))
    refine A4 (A3 (C2 Z Z (by omega)) Z (A3 (A5 Z Z) Z (A7 ?_)))
    refine k1 ?_
    exact ⟨(k+1,_,_,_),⟨by dsimp only;omega,B59 n h,hpos,hp⟩,by dsimp only;omega,I62 ⟨le1 rfl,le1 rfl,le1 rfl,le1 rfl,le1 rfl,le1 rfl,trivial⟩ ⟨rfl,rfl,trivial⟩⟩
 ·have hkl:k=c.Hunks.length:=by have:=A1 ht;omega
  rw [hkl,J04 (Nat.le_refl _)] at hp
  have hp:W=decide (∀e∈ends,e≤4096):=hp
  refine k6 (k2 ?_)
  refine A4 (A3 (A5 Z Z) Z (C8 (smax_ok ends (by omega)) Z Z Z ?_));rintro _ ⟨m,rfl,hm⟩;refine A3 (B28 Z Z) Z (A3 (A6 Z Z) Z (A7 ?_))
  refine k1 (k10 ?_)
  exact C0 (I2 rfl rfl rfl) (by rw [hp];simp only [hm 4096])
theorem B12 (s:Str):FnOk Tryz.prog 91 [N6 s] (fun rs=>rs=[N0 (O8 s)]):=by
 refine FnOk.intro Tryz.func91 (by decide) Z Z Z Z ?_
 refine k2 ?_
 refine A4 (A3 (A6 Z Z) Z (A7 ?_))
 refine k1 (k2 ?_)
 refine A4 (A3 (A5 Z Z) Z (A3 (J4 Z) Z (A3 (A60 Z Z) Z (A3 (A5 Z Z) Z (B0 Z Z Z Z (fun hg=>by rw [hg];exact A5 Z Z) ?_)))));refine B0 Z Z Z Z (fun hg=>by rw [hg];exact J4 Z) ?_;refine B0 Z Z Z Z (fun hg=>by rw [hg];exact B28 Z Z) ?_;refine A3 (B5 Z (fun h=>by first | rfl | (rw [h];rfl)) (fun h=>by first | rfl | (rw [h];rfl))) Z ?_;refine A3 (A6 Z Z) Z (A7 ?_)
 refine k1 (k10 ?_)
 refine C0 (I2 Z Z Z) ?_
 rw [Q4]
 unfold O8
 congr 4
 apply decide_eq_decide.2
 omega
theorem E54 (c:Comb) (hp:c.Path.length≤16777216):FnOk Tryz.prog 86 [V0 c] (fun rs=>rs=[N6 (A45 c)]):=by
 have hq:=D84 c.Path
 have hf:=H34 c.Parents
 refine FnOk.intro Tryz.func86 (by decide) Z Z Z Z ?_
 refine k2 ?_
 refine A4 (C4 (S9 1 Z Z Z) Z (A3 (A6 Z Z) Z (A7 ?_)))
 refine k1 (k2 ?_)
 refine A4 (A3 (A6 Z Z) Z (A7 ?_))
 refine k1 (k2 (k2 ?_))
 refine A4 (A3 (A8 Z) Z (A3 (A9 Z Z Z) Z (A7 ?_)))
 refine k1 ?_
 refine B3 rfl (fun ht=>?_) (fun ht=>?_)
 ·have hd:c.Dense=true:=ht
  skip
  refine A4 (A3 (A6 Z Z) Z (A7 ?_))
  refine k1 (k2 ?_)
  refine F8 (by kernel_rfl) (by kernel_rfl) (B2 (A5 Z Z) Z Z (B2 (J3 Z Z (by (simp only [I93,I95,I97];omega))) Z Z (B2 (J3 Z Z (by (simp only [I93,I95,I97];omega))) Z Z (B2 (A8 Z) Z Z (B2 (A9 Z Z Z) Z Z (B2 (Q1 (E50 c.Path (by omega)) Z Z) Z Z (B2 (J3 Z Z (by (simp only [I93,I95,I97];omega))) Z Z (B2 (J3 Z Z (by (simp only [I93,I95,I97];omega))) Z Z (B2 (A8 Z) Z Z (B2 (A9 Z Z Z) Z Z (B2 (Q1 (d7 c.Parents) Z Z) Z Z (B2 (J3 Z Z (by (simp only [I93,I95,I97];omega))) Z Z (B2 (J3 Z Z (by (simp only [I93,I95,I97];omega))) Z Z (B2 (A6 Z Z) Z Z (V7 ?_)))))))))))))))
  refine k1 (k10 ?_)
  exact C0 (I2 rfl rfl rfl) (by unfold A45 A96;rw [if_pos hd];simp [ccS,parS])
 ·have hd:c.Dense=false:=ht
  refine k5 (k1 (k2 ?_))
  refine F8 (by kernel_rfl) (by kernel_rfl) (B2 (A5 Z Z) Z Z (B2 (J3 Z Z (by (simp only [I93,I95,I97];omega))) Z Z (B2 (J3 Z Z (by (simp only [I93,I95,I97];omega))) Z Z (B2 (A8 Z) Z Z (B2 (A9 Z Z Z) Z Z (B2 (Q1 (E50 c.Path (by omega)) Z Z) Z Z (B2 (J3 Z Z (by (simp only [I93,I95,I97];omega))) Z Z (B2 (J3 Z Z (by (simp only [I93,I95,I97];omega))) Z Z (B2 (A8 Z) Z Z (B2 (A9 Z Z Z) Z Z (B2 (Q1 (d7 c.Parents) Z Z) Z Z (B2 (J3 Z Z (by (simp only [I93,I95,I97];omega))) Z Z (B2 (J3 Z Z (by (simp only [I93,I95,I97];omega))) Z Z (B2 (A6 Z Z) Z Z (V7 ?_)))))))))))))))
  refine k1 (k10 ?_)
  exact C0 (I2 rfl rfl rfl) (by unfold A45 A96;rw [hd,if_neg (by decide)];simp [combS,parS])
theorem D37 (h:CHunk) (n:Nat) (hn:n≤32) (hr:J6 h.Rows) (hl:h.Rows.length≤268435456) (ha:h.At.length=n+1) (hb:∀a∈h.At,-4611686018427387904≤a∧a≤4611686018427387904) :
  FnOk Tryz.prog 87 [F32 h,J0 n] (fun rs=>rs=[N6 (Y4 n h++[10])]):=by
 have hrep:FnOk Tryz.prog 150 [N6 [64],J0 ((n:Int)+1)] (fun rs=>rs=[N6 (atS (n+1))]):=by
  have:=H65 64 (n+1) (by omega)
  rwa [show ((n+1:Nat):Int)=(n:Int)+1 by omega] at this
 obtain ⟨A,hA⟩:∃A,A=atS (n+1):=⟨_,rfl⟩
 have hAl:A.length=n+1:=by rw [hA,F34]
 have hend:Y4 n h++[10]=A++V1 n h n++([32,43]++Q6 (h.At.getD n 0) (L1 h.Rows n n)++[32]++A++[10]):=by
  unfold Y4
  rw [A97,hA]
  unfold C74 sgnB
  rw [if_pos rfl];simp
 rw [hend]
 rw [←hA] at hrep
 have hsl:=fun k=>A44 n h k
 have hcnt:=fun k=>D78 h.Rows n k
 have hgA:∀k,k < n+1→h.At[k]?=some (h.At.getD k 0):=fun k hk=>getI (by omega)
 have hgC:∀k,k < n+1→(E8 h.Rows n)[k]?=some (L1 h.Rows n k):=fun k hk=>G89 h.Rows n k hk
 have hrA:∀k,k < n+1 → -4611686018427387904≤h.At.getD k 0∧h.At.getD k 0≤4611686018427387904:=fun k hk=>hb _ (J10 (hgA k hk))
 refine FnOk.intro Tryz.func87 (by decide) Z Z Z Z ?_
 refine k2 ?_
 refine A4 (C4 (S9 2 Z Z Z) Z (A3 (A6 Z Z) Z (A7 ?_)))
 refine k1 (k2 ?_)
 refine A4 (A3 (A8 Z) Z (A3 (A9 Z Z Z) Z (A3 (A5 Z Z) Z (l_new (A80 h.Rows n hn hr hl) Z Z Z Z ?_))));rintro _ _ ⟨rfl,rfl⟩;refine ⟨rfl,?_⟩;refine A3 (A6 Z Z) Z (A7 ?_)
 refine k1 (k2 ?_)
 refine H4 (Sees.freeze (k:=720) Z) ?_
 refine A4 (A3 (A5 Z Z) Z (A3 (C2 Z Z (by omega)) Z (C8 (hrep) Z Z Z ?_)));rintro _ rfl;refine A3 (A6 Z Z) Z (A7 ?_)
 refine k1 (k2 ?_)
 refine A4 (C4 (D10 700 Z) Z (A7 ?_))
 refine k1 (k2 ?_)
 refine H4 (I74 701 UInt8 1 u8C 5 (kb:=700) (o:=1) Z Z Z) ?_
 refine A4 (A3 (A5 Z Z) Z (x7 (N4 (xs:=[]) (s:=A) ⟨⟨_,.inl rfl,rfl⟩,rfl⟩ (by simp only [I97];omega)) Z Z Z ?_));rintro _ _ ⟨rfl,rfl⟩;refine A7 ?_
 refine k1 (k2 (k2 ?_))
 refine A4 (A3 (A5 Z Z) Z (A3 (A5 Z Z) Z (A7 ?_)))
 refine k1 (k3 ?_)
 refine E2 (X:=Nat) (fun p=>([(1,B8 n),(2,.s (.one (.ref 2 0))),(5,C7 Int 1 G5 (E8 h.Rows n)),(6,U4 A),(7,.s (.one (.ref 700 0))),(18,B8 n),(19,B8 p)],[(2,.box (F32 h).s1.cells),(700,.tbx 124 [.ref 700 0,.buf 701 UInt8 1 u8C (A++V1 n h p)]),(701,.spare (A++V1 n h p).length 1 5)])) (fun p=>p≤n) (fun p=>n - p) 0 (Nat.zero_le _) ?_ ?_
 ·rw [show V1 n h 0=[] from rfl,J17]
  exact I62 ⟨le1 rfl,le1 rfl,le1 rfl,le1 rfl,le1 rfl,le1 rfl,le1 rfl,trivial⟩ ⟨rfl,rfl,rfl,trivial⟩
 intro p hp
 dsimp only at hp ⊢
 have hsp:=hsl p
 have hsucc:=A97 n h p
 refine k2 ?_
 refine A4 (A3 (F1 Z Z) Z (A7 ?_))
 refine k1 (k2 ?_)
 refine B3 rfl (fun ht=>?_) (fun ht=>?_)
 ·have hlt:p < n:=by have:=A0 ht;omega
  have hga:=hgA p (by omega)
  have hgc:=hgC p (by omega)
  have hra:=hrA p (by omega)
  have hcp:=hcnt p
  have hsw:C74 n h p=[32,45]++Q6 (h.At.getD p 0) (L1 h.Rows n p):=by
   unfold C74 sgnB;rw [if_neg (by omega)]
  have hrl:=A89 (h.At.getD p 0) (L1 h.Rows n p)
  rw [hsw] at hsucc
  obtain ⟨a,haa⟩:∃a,a=h.At.getD p 0:=⟨_,rfl⟩
  obtain ⟨q,hqq⟩:∃q,q=L1 h.Rows n p:=⟨_,rfl⟩
  rw [←haa] at hga hra hrl hsucc
  rw [←hqq] at hgc hcp hrl hsucc
  have hlb:(A++V1 n h p).length≤1000:=by rw [I93];omega
  obtain ⟨B,hB⟩:∃B,B=A++V1 n h p:=⟨_,rfl⟩
  rw [←hB] at hlb ⊢
  refine k5 (k1 (k2 (k3 (k2 ?_))))
  refine A4 (A3 (A5 Z Z) Z (A3 (A6 Z Z) Z (A7 ?_)))
  refine k1 ?_
  refine B30 11 (by kernel_rfl) (by kernel_rfl) Z (B2 (A8 Z) Z Z (B2 (A9 Z Z Z) Z Z (B2 (A5 Z Z) Z Z (B2 (B4 Z (.pure _ _ _ _) Z (by omega) hga) Z Z (B2 (C5 Z Z) Z Z (B2 (A5 Z Z) Z Z (B2 (A5 Z Z) Z Z (B2 (B4 Z (.pure _ _ _ _) Z (by omega) hgc) Z Z (B2 (C5 Z Z) Z Z (B2 (Q1 (E49 a q hra (by omega)) Z Z) Z Z (B2 (J3 Z Z (by (simp only [I93,I95,I97];omega))) Z Z (V7 (F58 (N4 (xs:=B) (s:=[32,45]++Q6 a q) ⟨⟨_,.inr rfl,rfl⟩,rfl⟩ (by simp only [I93,I95,I97];omega)) Z Z Z ?_)))))))))))));rintro _ _ ⟨rfl,rfl⟩;refine ⟨_,rfl,?_⟩;refine V7 ?_
  refine k4 (k1 ?_)
  refine A4 (A3 (C2 Z Z (by omega)) Z (A3 (A5 Z Z) Z (A7 ?_)))
  refine k1 ?_
  refine ⟨p+1,by omega,by omega,?_⟩
  have hs2:A++V1 n h (p+1)=B++([32,45]++Q6 a q):=by rw [hsucc,hB,J07]
  rw [hs2]
  exact I62 ⟨le1 rfl,le1 rfl,le1 rfl,le1 rfl,le1 rfl,le1 rfl,le1 rfl,trivial⟩ ⟨rfl,rfl,rfl,trivial⟩
 ·have hpn:p=n:=by have:=A1 ht;omega
  subst hpn
  have hga:=hgA p (by omega)
  have hgc:=hgC p (by omega)
  have hra:=hrA p (by omega)
  have hcp:=hcnt p
  have hrl:=A89 (h.At.getD p 0) (L1 h.Rows p p)
  obtain ⟨a,haa⟩:∃a,a=h.At.getD p 0:=⟨_,rfl⟩
  obtain ⟨q,hqq⟩:∃q,q=L1 h.Rows p p:=⟨_,rfl⟩
  rw [←haa] at hga hra hrl ⊢
  rw [←hqq] at hgc hcp hrl ⊢
  have hlb:(A++V1 p h p).length≤1000:=by rw [I93];omega
  obtain ⟨B,hB⟩:∃B,B=A++V1 p h p:=⟨_,rfl⟩
  rw [←hB] at hlb ⊢
  refine k6 (k2 ?_)
  refine B30 15 (by kernel_rfl) (by kernel_rfl) Z (B2 (A8 Z) Z Z (B2 (A9 Z Z Z) Z Z (B2 (A5 Z Z) Z Z (B2 (B4 Z (.pure _ _ _ _) Z (by omega) hga) Z Z (B2 (C5 Z Z) Z Z (B2 (A5 Z Z) Z Z (B2 (A5 Z Z) Z Z (B2 (B4 Z (.pure _ _ _ _) Z (by omega) hgc) Z Z (B2 (C5 Z Z) Z Z (B2 (Q1 (E49 a q hra (by omega)) Z Z) Z Z (B2 (J3 Z Z (by (simp only [I93,I95,I97];omega))) Z Z (B2 (J3 Z Z (by (simp only [I93,I95,I97];omega))) Z Z (B2 (A5 Z Z) Z Z (B2 (J3 Z Z (by (simp only [I93,I95,I97];omega))) Z Z (B2 (J3 Z Z (by (simp only [I93,I95,I97];omega))) Z Z (V7 (F58 (N4 (xs:=B) (s:=[32,43]++Q6 a q++[32]++A++[10]) ⟨⟨_,.inr rfl,rfl⟩,rfl⟩ (by simp only [I93,I95,I97];omega)) Z Z Z ?_)))))))))))))))));rintro _ _ ⟨rfl,rfl⟩;refine ⟨_,rfl,?_⟩;refine V7 ?_
  refine k1 (k2 ?_)
  refine A4 (C20 (k:=700) (k':=701) ⟨_,rfl,rfl,rfl⟩ A04 Z Z Z Z Z (.inr Z) Z (A3 (A6 Z Z) Z (A7 ?_)))
  refine k1 (k10 ?_)
  exact C0 (I2 rfl rfl rfl) rfl
def B84 (r:Row):UInt8:=if r.Lost then 45 else 43
theorem crow_ok (r:Row) (n:Nat) (hn:n≤32) (hm:0≤r.Marks∧r.Marks < 4294967296) (hx:r.Text.length≤268435456) :
  FnOk Tryz.prog 88 [pRow r,J0 n] (fun rs=>rs=[N6 (q9 n r).flatten]):=by
 rw [D86]
 refine FnOk.intro Tryz.func88 (by decide) Z Z Z Z ?_
 refine k2 ?_
 refine A4 (C4 (S9 2 Z Z Z) Z (A3 (A6 Z Z) Z (A7 ?_)))
 refine k1 (k2 ?_)
 refine A4 (A3 (A6 Z Z) Z (A7 ?_))
 refine K8 ?_
 refine A66 [(1,B8 n),(2,.s (.one (.ref 2 0))),(5,H5 (.int .u8 (B84 r).toNat))] [(2,.box (pRow r).s1.cells)] ?_ ?_
 ·refine k2 ?_
  refine A4 (A3 (A8 Z) Z (A3 (A9 Z Z Z) Z (A7 ?_)))
  refine k1 ?_
  refine B3 rfl (fun ht=>?_) (fun ht=>?_)
  ·have h:r.Lost=true:=ht
   skip
   refine A4 (A3 (A6 Z Z) Z (A7 ?_))
   refine k1 ?_
   rw [show B84 r=45 by unfold B84;rw [h];rfl]
   exact I62 ⟨le1 rfl,le1 rfl,le1 rfl,trivial⟩ ⟨rfl,trivial⟩
  ·have h:r.Lost=false:=ht
   refine k5 (k1 ?_)
   rw [show B84 r=43 by unfold B84;rw [h];rfl]
   exact I62 ⟨le1 rfl,le1 rfl,le1 rfl,trivial⟩ ⟨rfl,trivial⟩
 refine k2 ?_
 refine A4 (A3 (A5 Z Z) Z (A3 (A8 Z) Z (A3 (A9 Z Z Z) Z (A3 (J4 Z) Z (A3 (C2 Z Z (by omega)) Z (A3 (C2 Z Z (by omega)) Z (C4 (H50 730 UInt8 u8C Z Z (by omega) (by omega) (by first | rfl | (simp [H1,H8,Ob.free,SV.free,S1.free,TC.free]<;>rfl))) Z ?_)))))));refine A3 (A6 Z Z) Z (A7 ?_)
 refine k1 (k2 (k2 ?_))
 refine A4 (A3 (A5 Z Z) Z (A3 (A5 Z Z) Z (A7 ?_)))
 refine k1 (k3 ?_)
 refine E2 (X:=Nat) (fun p=>([(1,B8 n),(2,.s (.one (.ref 2 0))),(5,H5 (.int .u8 (B84 r).toNat)),(6,.s (.one (.buf 730 UInt8 1 u8C (P5 p r)))),(17,B8 n),(18,B8 p)],[(2,.box (pRow r).s1.cells),(730,.spare (P5 p r).length 1 5)])) (fun p=>p≤n) (fun p=>n - p) 0 (Nat.zero_le _) (I62 ⟨le1 rfl,le1 rfl,le1 rfl,le1 rfl,le1 rfl,le1 rfl,trivial⟩ ⟨rfl,rfl,trivial⟩) ?_
 intro p hp
 dsimp only at hp ⊢
 have hml:=B20 p r
 have hsucc:=G18 p r
 refine k2 ?_
 refine A4 (A3 (F1 Z Z) Z (A7 ?_))
 refine k1 (k2 ?_)
 refine B3 rfl (fun ht=>?_) (fun ht=>?_)
 ·have hlt:p < n:=by have:=A0 ht;omega
  refine k5 (k1 (k2 (k3 (k2 ?_))))
  refine A4 (A3 (A5 Z Z) Z (A3 (A6 Z Z) Z (A7 ?_)))
  refine k1 (k2 ?_)
  refine A4 (A3 (A8 Z) Z (A3 (A9 Z Z Z) Z (A3 (A5 Z Z) Z (A3 (B27 Z Z (by omega)) Z (A3 (n4 Z Z Z (fun _=>rfl)) Z (A3 (O2 Z Z) Z (A7 ?_)))))))
  refine k1 ?_
  have h3:0≤r.Marks / 2 ^ p:=Int.ediv_nonneg hm.1 (Int.pow_nonneg (by decide))
  have h4:r.Marks / 2 ^ p≤r.Marks:=Int.ediv_le_self _ hm.1
  have e32:r.Marks.fdiv (2 ^ (min (p:Int).toNat IntKind.u32.bits))=r.Marks / 2 ^ p:=H21 r.Marks p (by omega)
  have e1:=F88 (r.Marks / 2 ^ p) (by omega)
  refine B3 rfl (fun ht=>?_) (fun ht=>?_)
  ·rw [e32,e1] at ht
   have hb:T3 r.Marks p=true:=by unfold T3;simpa using ht
   have hmk:A16 r p=B84 r:=by unfold A16 B84;rw [hb,if_neg (by decide)]
   rw [hmk] at hsucc
   skip
   refine A4 (A3 (A5 Z Z) Z (A3 (A5 Z Z) Z (A3 (E1 (c:=u8C) (ys:=[B84 r]) (E6 Z Z Z Z I0) Z Z Z) Z (C4 (J8 Z Z Z (.pure _ _ _ _) (by (simp only [I95,I97];omega)) Z) Z (A3 (A6 Z Z) Z (A7 ?_))))))
   refine k4 (k1 ?_)
   refine A4 (A3 (C2 Z Z (by omega)) Z (A3 (A5 Z Z) Z (A7 ?_)))
   refine k1 ?_
   refine ⟨p+1,by omega,by omega,?_⟩
   rw [hsucc]
   exact I62 ⟨le1 rfl,le1 rfl,le1 rfl,le1 rfl,le1 rfl,le1 rfl,trivial⟩ ⟨rfl,rfl,trivial⟩
  ·rw [e32,e1] at ht
   have hb:T3 r.Marks p=false:=by unfold T3;simpa using ht
   have hmk:A16 r p=32:=by unfold A16;rw [if_pos hb]
   rw [hmk] at hsucc
   skip
   refine A4 (A3 (A5 Z Z) Z (A3 (E1 (c:=u8C) (ys:=[32]) (E6 Z Z Z Z I0) Z Z Z) Z (C4 (J8 Z Z Z (.pure _ _ _ _) (by (simp only [I95,I97];omega)) Z) Z (A3 (A6 Z Z) Z (A7 ?_)))))
   refine k4 (k1 ?_)
   refine A4 (A3 (C2 Z Z (by omega)) Z (A3 (A5 Z Z) Z (A7 ?_)))
   refine k1 ?_
   refine ⟨p+1,by omega,by omega,?_⟩
   rw [hsucc]
   exact I62 ⟨le1 rfl,le1 rfl,le1 rfl,le1 rfl,le1 rfl,le1 rfl,trivial⟩ ⟨rfl,rfl,trivial⟩
 ·have hpn:p=n:=by have:=A1 ht;omega
  subst hpn
  refine k6 (k2 ?_)
  refine A4 (A3 (A5 Z Z) Z (A3 (A8 Z) Z (A3 (A9 Z Z Z) Z (C4 (B43 TyStr.out Z Z Z (by omega) Z) Z (A3 (A6 Z Z) Z (A7 ?_))))))
  refine k1 (k2 (k2 ?_))
  refine A4 (A3 (A8 Z) Z (A3 (A9 Z Z Z) Z (C8 (B11 r.Text (by omega)) Z Z Z ?_)));rintro _ rfl;refine A3 (L6 Z) Z (A7 ?_)
  refine k1 ?_
  refine B3 rfl (fun ht=>?_) (fun ht=>?_)
  ·have h:ended r.Text=false:=by simpa using ht
   skip
   refine A4 (A3 (A5 Z Z) Z (C4 (B43 TyStr.out Z Z Z (by (simp only [I93,I95,I97];omega)) Z) Z (A3 (A6 Z Z) Z (A7 ?_))))
   refine k1 (k2 ?_)
   refine A4 (A3 (A5 Z Z) Z (A3 (t8 TyStr.out Z (.buf _ _ _ _ _)) Z (A3 (A6 Z Z) Z (A7 ?_))))
   refine k1 (k10 ?_)
   exact C0 (I2 rfl rfl rfl) (by rw [h,if_neg (by decide)];rfl)
  ·have h:ended r.Text=true:=by simpa using ht
   refine k5 (k1 (k2 ?_))
   refine A4 (A3 (A5 Z Z) Z (A3 (t8 TyStr.out Z (.buf _ _ _ _ _)) Z (A3 (A6 Z Z) Z (A7 ?_))))
   refine k1 (k10 ?_)
   exact C0 (I2 rfl rfl rfl) (by rw [if_pos h,J17])
structure CFit (c:Comb):Prop where
 par:0≤c.Parents∧c.Parents≤32
 path:c.Path.length≤4194304
 sz:szC c.Hunks≤268435456
 rows:∀h∈c.Hunks,J6 h.Rows
 ats:∀h∈c.Hunks,h.At.length=c.Parents.toNat+1∧∀a∈h.At,-4611686018427387904≤a∧a≤4611686018427387904
theorem I23 (c:Comb) (hc:CFit c):FnOk Tryz.prog 94 [V0 c] (fun rs=>rs=[J0 (V9 c).length]):=by
 obtain ⟨h1,h2,h3,h4,h5⟩:=hc
 have hzl:=C05 c.Hunks
 have hm29:markS.length=29:=rfl
 obtain ⟨n,hN⟩:∃n,n=c.Parents.toNat:=⟨_,rfl⟩
 have hNc:c.Parents=(n:Int):=by omega
 have hn:n≤32:=by omega
 have hct:=fun k=>H35 c (by omega) k
 have hcs:=fun k h=>G15 c k h
 rw [←hN] at h5 hcs
 refine FnOk.intro Tryz.func94 (by decide) Z Z Z Z ?_
 refine k2 ?_
 refine A4 (C4 (S9 1 Z Z Z) Z (A3 (A6 Z Z) Z (A7 ?_)))
 refine k1 (k2 ?_)
 refine A4 (A3 (C9 Z Z Z) Z (C8 (E54 c (by omega)) Z Z Z ?_));rintro _ rfl;refine A3 (J4 Z) Z (A3 (A6 Z Z) Z (A7 ?_))
 refine k1 (k2 (k2 ?_))
 refine A4 (A3 (A8 Z) Z (A3 (A9 Z Z Z) Z (A3 (E3 Z (.pure _ _ _ _)) Z (A3 (A5 Z Z) Z (A7 ?_)))))
 refine k1 (k3 ?_)
 refine E2 (X:=Nat) (fun k=>([(1,.s (.one (.ref 1 0))),(3,B8 (cTo c k).length),(12,C7 CHunk 2 O1 c.Hunks),(13,B8 c.Hunks.length),(14,B8 k)],[(1,cBox c)])) (fun k=>k≤c.Hunks.length) (fun k=>c.Hunks.length - k) 0 (Nat.zero_le _) (by rw [D82];exact I62 ⟨le1 rfl,le1 rfl,le1 rfl,le1 rfl,le1 rfl,trivial⟩ ⟨rfl,trivial⟩) ?_
 intro k hk
 dsimp only at hk ⊢
 have hck:=hct k
 refine k2 ?_
 refine A4 (A3 (F1 Z Z) Z (A7 ?_))
 refine k1 (k2 ?_)
 refine B3 rfl (fun ht=>?_) (fun ht=>?_)
 ·have hlt:k < c.Hunks.length:=by have:=A0 ht;omega
  have hv:c.Hunks[k]?=some c.Hunks[k]:=by simp [hlt]
  have hmem:=J06 hlt
  have hrw:=h4 _ hmem
  have hat:=h5 _ hmem
  have hzm:=D01 hmem
  have hsucc:=hcs k hlt
  obtain ⟨h,hx⟩:∃x,x=c.Hunks[k]:=⟨_,rfl⟩
  rw [←hx] at hv hrw hat hzm hsucc
  have hz1:=i8 h.Rows
  have hz2:=B60 h.Rows
  unfold C88 at hzm
  have hh:=D37 h n hn hrw (by omega) hat.1 hat.2
  rw [←hNc] at hh
  have hhl:=C41 hn h
  obtain ⟨base,hbase⟩:∃base,base=(cTo c k).length:=⟨_,rfl⟩
  have hcl:=congrArg List.length hsucc
  rw [I93,E69,I93,←hbase] at hcl
  rw [←hbase] at hck ⊢
  obtain ⟨hd,hhd⟩:∃hd,hd=Y4 n h++[10]:=⟨_,rfl⟩
  have hdl:hd.length≤926:=by rw [hhd,I93];simp only [I95,I97];omega
  rw [←hhd] at hh hcl
  refine k5 (k1 (k2 (k3 (k2 ?_))))
  refine A4 (A3 (B4 Z (.pure _ _ _ _) Z (by omega) hv) Z (A3 (F0 Z Z) Z (C4 (G6 5 Z) Z (F6 (B6 TySz.out Z Z Z Z Z Z) (A7 ?_)))))
  refine k1 (k2 ?_)
  refine A4 (A3 (A5 Z Z) Z (A3 (C9 Z Z Z) Z (A3 (A8 Z) Z (A3 (A9 Z Z Z) Z (C8 (hh) Z Z Z ?_)))));rintro _ rfl;refine A3 (J4 Z) Z (A3 (C2 Z Z (by omega)) Z (A3 (A6 Z Z) Z (A7 ?_)))
  refine k1 (k2 ?_)
  refine A4 (A3 (A8 Z) Z (A3 (A9 Z Z Z) Z (A3 (E3 Z (.pure _ _ _ _)) Z (A3 (A5 Z Z) Z (A7 ?_)))))
  refine k1 (k3 ?_)
  refine E2 (X:=Nat) (fun j=>([(1,.s (.one (.ref 1 0))),(3,B8 (base+hd.length+(rTo n h.Rows j).length:Nat)),(12,C7 CHunk 2 O1 c.Hunks),(13,B8 c.Hunks.length),(14,B8 k),(26,C7 Row 3 rowC h.Rows),(27,B8 h.Rows.length),(28,B8 j)],[(1,cBox c)])) (fun j=>j≤h.Rows.length) (fun j=>h.Rows.length - j) 0 (Nat.zero_le _) ?_ ?_
  ·have e:((base+hd.length+(rTo n h.Rows 0).length:Nat):Int)=(base:Int)+(hd.length:Int):=by rw [G16];simp
   rw [e]
   exact I62 ⟨le1 rfl,le1 rfl,le1 rfl,le1 rfl,le1 rfl,le1 rfl,le1 rfl,le1 rfl,trivial⟩ ⟨rfl,trivial⟩
  intro j hj
  dsimp only at hj ⊢
  have hrl:=H33 hn h.Rows j
  refine k2 ?_
  refine A4 (A3 (F1 Z Z) Z (A7 ?_))
  refine k1 (k2 ?_)
  refine B3 rfl (fun ht=>?_) (fun ht=>?_)
  ·have hlt2:j < h.Rows.length:=by have:=A0 ht;omega
   have hv2:h.Rows[j]?=some h.Rows[j]:=by simp [hlt2]
   have hrm:=E67 (J06 hlt2)
   have hsucc2:=G17 n h.Rows j hlt2
   obtain ⟨r,hy⟩:∃x,x=h.Rows[j]:=⟨_,rfl⟩
   rw [←hy] at hv2 hrm hsucc2
   have hrm:r.Text.length+96≤(h.Rows.map T5).sum:=hrm
   have hl2:=congrArg List.length hsucc2
   have hml:=B20 n r
   rw [I93,D86,I93,I93,hml] at hl2
   refine k5 (k1 (k2 (k3 (k2 ?_))))
   refine A4 (A3 (B4 Z (.pure _ _ _ _) Z (by omega) hv2) Z (A3 (F0 Z Z) Z (C4 (G6 7 Z) Z (F6 (B6 TySz.out Z Z Z Z Z Z) (A7 ?_)))))
   refine k1 (k2 ?_)
   refine A4 (A3 (A5 Z Z) Z (A3 (A8 Z) Z (A3 (A9 Z Z Z) Z (A3 (A8 Z) Z (A3 (A9 Z Z Z) Z (A3 (J4 Z) Z (A3 (C2 Z Z (by omega)) Z (A3 (C2 Z Z (by omega)) Z (A3 (A6 Z Z) Z (A7 ?_))))))))))
   refine k1 (k2 ?_)
   refine A4 (A3 (A8 Z) Z (A3 (A9 Z Z Z) Z (C8 (B11 r.Text (by omega)) Z Z Z ?_)));rintro _ rfl;refine A3 (L6 Z) Z (A7 ?_)
   refine k1 ?_
   refine B3 rfl (fun ht=>?_) (fun ht=>?_)
   ·have h2:ended r.Text=false:=by simpa using ht
    rw [h2,if_neg (by decide),hm29] at hl2
    have e:((base+hd.length+(rTo n h.Rows (j+1)).length:Nat):Int)=((base+hd.length+(rTo n h.Rows j).length:Nat):Int)+(c.Parents+(r.Text.length:Int))+29:=by omega
    skip
    refine A4 (A3 (A5 Z Z) Z (A3 (C2 Z Z (by omega)) Z (A3 (A6 Z Z) Z (A7 ?_))))
    refine k4 (k1 ?_)
    refine A4 (A3 (C2 Z Z (by omega)) Z (A3 (A5 Z Z) Z (A7 ?_)))
    refine k1 ?_
    refine ⟨j+1,by omega,by omega,?_⟩
    rw [e]
    exact I62 ⟨le1 rfl,le1 rfl,le1 rfl,le1 rfl,le1 rfl,le1 rfl,le1 rfl,le1 rfl,trivial⟩ ⟨rfl,trivial⟩
   ·have h2:ended r.Text=true:=by simpa using ht
    rw [if_pos h2,I97] at hl2
    have e:((base+hd.length+(rTo n h.Rows (j+1)).length:Nat):Int)=((base+hd.length+(rTo n h.Rows j).length:Nat):Int)+(c.Parents+(r.Text.length:Int)):=by omega
    refine k5 (k4 (k1 ?_))
    refine A4 (A3 (C2 Z Z (by omega)) Z (A3 (A5 Z Z) Z (A7 ?_)))
    refine k1 ?_
    refine ⟨j+1,by omega,by omega,?_⟩
    rw [e]
    exact I62 ⟨le1 rfl,le1 rfl,le1 rfl,le1 rfl,le1 rfl,le1 rfl,le1 rfl,le1 rfl,trivial⟩ ⟨rfl,trivial⟩
  ·have hjl:j=h.Rows.length:=by have:=A1 ht;omega
   subst hjl
   have e:base+hd.length+(rTo n h.Rows h.Rows.length).length=(cTo c (k+1)).length:=by omega
   rw [e]
   refine k6 (k7 (k7 (k8 Z (k4 (k1 ?_)))))
   refine A4 (A3 (C2 Z Z (by omega)) Z (A3 (A5 Z Z) Z (A7 ?_)))
   refine k1 ?_
   exact ⟨k+1,by omega,by omega,I62 ⟨le1 rfl,le1 rfl,le1 rfl,le1 rfl,le1 rfl,trivial⟩ ⟨rfl,trivial⟩⟩
 ·have hkl:k=c.Hunks.length:=by have:=A1 ht;omega
  subst hkl
  rw [D83]
  refine k6 (k2 ?_)
  refine A4 (A3 (A5 Z Z) Z (A3 (A6 Z Z) Z (A7 ?_)))
  refine k1 (k10 ?_)
  exact C0 (I2 rfl rfl rfl) rfl
theorem E55 {c:Comb} (hp:c.Path.length≤4194304) (hn:1≤c.Parents∧c.Parents≤32) (hz:szC c.Hunks≤268435456) (hr:∀h∈c.Hunks,J6 h.Rows) (hg:Q7 c.Parents.toNat c.Hunks=true):CFit c:=by
 refine ⟨by omega,hp,hz,hr,fun h hm=>?_⟩
 unfold Q7 at hg
 rw [I96] at hg
 obtain ⟨a1,a2,a3⟩:=C40 c.Hunks _ (fun k hk=>by rw [I98,List.getElem?_replicate_of_lt hk];exact Int.le_refl _) hg.1 h hm
 refine ⟨a1,fun a ha=>?_⟩
 obtain ⟨k,hk,rfl⟩:=List.getElem_of_mem ha
 have h1:=a3 k (by omega)
 have h2:=D78 h.Rows c.Parents.toNat k
 have e:h.At.getD k 0=h.At[k]:=by rw [I98,I94 hk];rfl
 rw [e] at h1
 omega
theorem C25 (c:Comb) (hz:szC c.Hunks≤268435456) (hr:∀h∈c.Hunks,J6 h.Rows):FnOk Tryz.prog 40 [V0 c] (fun rs=>rs=[J0 (I4 c)]):=by
 refine FnOk.intro Tryz.func40 (by decide) Z Z Z Z ?_
 refine k2 ?_
 refine A4 (C4 (S9 1 Z Z Z) Z (A3 (A6 Z Z) Z (A7 ?_)))
 refine k1 (k2 (k3 (k2 ?_)))
 refine A4 (A3 (A8 Z) Z (A3 (A9 Z Z Z) Z (C8 (B12 c.Path) Z Z Z ?_)));rintro _ rfl;refine A3 (L6 Z) Z (A3 (A6 Z Z) Z (A7 ?_))
 refine k1 ?_
 refine B3 rfl (fun ht=>?_) (fun ht=>?_)
 ·have h:O8 c.Path=false:=by simpa using ht
  refine k2 ?_
  refine A4 (A3 (A6 Z Z) Z (A7 ?_))
  refine k1 (k10 (k12 (k11 ?_)))
  exact C0 (I2 rfl rfl rfl) (by unfold I4;rw [if_pos h])
 have h:O8 c.Path=true:=by simpa using ht
 have hpl:=A0 h
 refine k2 ?_
 refine A4 (A3 (A8 Z) Z (A3 (A9 Z Z Z) Z (A3 (F1 Z Z) Z (A3 (A5 Z Z) Z (B0 Z Z Z Z (fun hg=>by rw [hg];exact A8 Z) ?_)))));refine B0 Z Z Z Z (fun hg=>by rw [hg];exact A9 Z Z Z) ?_;refine B0 Z Z Z Z (fun hg=>by rw [hg];exact R1 Z Z) ?_;refine A3 (B5 Z (fun h=>by first | rfl | (rw [h];rfl)) (fun h=>by first | rfl | (rw [h];rfl))) Z ?_;refine A3 (A6 Z Z) Z (A7 ?_)
 refine k1 ?_
 refine B3 rfl (fun ht=>?_) (fun ht=>?_)
 ·have h1:=A0 (or_pick.symm.trans ht)
  refine k2 ?_
  refine A4 (A3 (A6 Z Z) Z (A7 ?_))
  refine k1 (k10 (k12 (k11 ?_)))
  exact C0 (I2 rfl rfl rfl) (by unfold I4;rw [if_neg (by rw [h];decide),if_pos (by omega)])
 have h1:=A1 (or_pick.symm.trans ht)
 have hn:1≤c.Parents∧c.Parents≤32:=by omega
 refine k2 ?_
 refine A4 (A3 (C9 Z Z Z) Z (C8 (G54 c hn hr hz) Z Z Z ?_));rintro _ rfl;refine A3 (L6 Z) Z (A3 (A6 Z Z) Z (A7 ?_))
 refine k1 ?_
 refine B3 rfl (fun ht=>?_) (fun ht=>?_)
 ·have h2:a7 c.Parents.toNat c.Hunks=false:=by simpa using ht
  refine k2 ?_
  refine A4 (A3 (A6 Z Z) Z (A7 ?_))
  refine k1 (k10 (k12 (k11 ?_)))
  exact C0 (I2 rfl rfl rfl) (by unfold I4;rw [if_neg (by rw [h];decide),if_neg (by omega),if_pos h2])
 have h2:a7 c.Parents.toNat c.Hunks=true:=by simpa using ht
 have hw:=I22 c hn hr hz
 rw [G10 (by omega) h2] at hw
 refine k2 ?_
 refine A4 (A3 (C9 Z Z Z) Z (C8 (hw) Z Z Z ?_));rintro _ rfl;refine A3 (L6 Z) Z (A3 (A6 Z Z) Z (A7 ?_))
 refine k1 ?_
 refine B3 rfl (fun ht=>?_) (fun ht=>?_)
 ·have h3:Q7 c.Parents.toNat c.Hunks=false:=by simpa using ht
  refine k2 ?_
  refine A4 (A3 (A6 Z Z) Z (A7 ?_))
  refine k1 (k10 (k12 (k11 ?_)))
  exact C0 (I2 rfl rfl rfl) (by unfold I4;rw [if_neg (by rw [h];decide),if_neg (by omega),if_neg (by rw [h2];decide),if_pos h3])
 have h3:Q7 c.Parents.toNat c.Hunks=true:=by simpa using ht
 refine k2 ?_
 refine A4 (A3 (C9 Z Z Z) Z (C8 (I23 c (E55 (by omega) hn hz hr h3)) Z Z Z ?_));rintro _ rfl;refine A3 (R1 Z Z) Z (A3 (A6 Z Z) Z (A7 ?_))
 refine k1 ?_
 refine B3 rfl (fun ht=>?_) (fun ht=>?_)
 ·have h4:=A0 ht
  refine k2 ?_
  refine A4 (A3 (A6 Z Z) Z (A7 ?_))
  refine k1 (k10 (k12 (k11 ?_)))
  exact C0 (I2 rfl rfl rfl) (by unfold I4;rw [if_neg (by rw [h];decide),if_neg (by omega),if_neg (by rw [h2];decide),if_neg (by rw [h3];decide),if_pos (by omega)])
 have h4:=A1 ht
 refine k5 (k2 ?_)
 refine A4 (A3 (A6 Z Z) Z (A7 ?_))
 refine k1 (k10 ?_)
 exact C0 (I2 rfl rfl rfl) (by unfold I4;rw [if_neg (by rw [h];decide),if_neg (by omega),if_neg (by rw [h2];decide),if_neg (by rw [h3];decide),if_neg (by omega)])
theorem D38 {c:Comb} (h:I4 c=0) (hz:szC c.Hunks≤268435456) (hr:∀h∈c.Hunks,J6 h.Rows):CFit c:=by
 obtain ⟨h1,h2,h3,h4,h5⟩:=D77 h
 have hp:=A0 h5
 have hg:Q7 c.Parents.toNat c.Hunks=true:=by
  cases hb:Q7 c.Parents.toNat c.Hunks with
  | true=>rfl
  | false =>
   exfalso
   unfold I4 at h
   rw [hb] at h
   rw [if_neg (by rw [h5];decide),if_neg (by omega)] at h
   split at h
   ·cases h
   ·cases h
 exact E55 (by omega) (by omega) hz hr hg
theorem D39 (c:Comb) (hz:szC c.Hunks≤268435456) (hr:∀h∈c.Hunks,J6 h.Rows):FnOk Tryz.prog 38 [V0 c] (fun rs=>rs=if I4 c=0 then [N6 (V9 c),J0 0] else [N6 [],J0 (I4 c)]):=by
 by_cases hck:I4 c=0
 rotate_left
 ·rw [if_neg hck]
  refine FnOk.intro Tryz.func38 (by decide) Z Z Z Z ?_
  refine k2 ?_
  refine A4 (C4 (S9 1 Z Z Z) Z (A3 (A6 Z Z) Z (A3 (A6 Z Z) Z (A7 ?_))))
  refine k1 (k2 (k2 ?_))
  refine A4 (A3 (C9 Z Z Z) Z (C8 (C25 c hz hr) Z Z Z ?_));rintro _ rfl;refine A3 (A6 Z Z) Z (A7 ?_)
  refine k1 (k2 ?_)
  refine A4 (A3 (A5 Z Z) Z (A3 (R4 Z Z) Z (A7 ?_)))
  refine k1 ?_
  refine B3 rfl (fun ht=>?_) (fun ht=>?_)
  rotate_left
  ·exact absurd (Decidable.not_not.1 (A1 ht)) hck
  refine k2 ?_
  refine A4 (A3 (A5 Z Z) Z (A3 (A6 Z Z) Z (A3 (A6 Z Z) Z (A7 ?_))))
  refine k1 (k10 (k11 ?_))
  exact C0 (B21 rfl rfl rfl rfl rfl) rfl
 rw [if_pos hck]
 have hcc:=C25 c hz hr
 rw [hck] at hcc
 obtain ⟨h1,h2,_,h4,h5⟩:=D38 hck hz hr
 have hzl:=C05 c.Hunks
 obtain ⟨n,hN⟩:∃n,n=c.Parents.toNat:=⟨_,rfl⟩
 have hNc:c.Parents=(n:Int):=by omega
 have hn:n≤32:=by omega
 have hct:=fun k=>H35 c (by omega) k
 have hcs:=fun k h=>G15 c k h
 rw [←hN] at h5 hcs
 refine FnOk.intro Tryz.func38 (by decide) Z Z Z Z ?_
 refine k2 ?_
 refine A4 (C4 (S9 1 Z Z Z) Z (A3 (A6 Z Z) Z (A3 (A6 Z Z) Z (A7 ?_))))
 refine k1 (k2 (k2 ?_))
 refine A4 (A3 (C9 Z Z Z) Z (C8 (hcc) Z Z Z ?_));rintro _ rfl;refine A3 (A6 Z Z) Z (A7 ?_)
 refine k1 (k2 ?_)
 refine A4 (A3 (A5 Z Z) Z (A3 (R4 Z Z) Z (A7 ?_)))
 refine k1 ?_
 refine B3 rfl (fun ht=>?_) (fun ht=>?_)
 ·cases ht
 refine k5 (k1 (k2 ?_))
 refine A4 (C4 (D10 700 Z) Z (A7 ?_))
 refine k1 (k2 ?_)
 refine H4 (I74 701 UInt8 1 u8C 5 (kb:=700) (o:=1) Z Z Z) ?_
 have hct0:=hct 0
 rw [D82] at hct0
 refine A4 (A3 (C9 Z Z Z) Z (C8 (E54 c (by omega)) Z Z Z ?_));rintro _ rfl;refine x7 (N4 (xs:=[]) (s:=A45 c) ⟨⟨_,.inl rfl,rfl⟩,rfl⟩ (by simp only [I97];omega)) Z Z Z ?_;rintro _ _ ⟨rfl,rfl⟩;refine A7 ?_
 refine k1 (k2 (k2 ?_))
 refine A4 (A3 (A8 Z) Z (A3 (A9 Z Z Z) Z (A3 (E3 Z (.pure _ _ _ _)) Z (A3 (A5 Z Z) Z (A7 ?_)))))
 refine k1 (k3 ?_)
 refine E2 (X:=Nat) (fun k=>([(1,.s (.one (.ref 1 0))),(5,.s (.one (.ref 700 0))),(19,C7 CHunk 2 O1 c.Hunks),(20,B8 c.Hunks.length),(21,B8 k)],[(1,cBox c),(700,.tbx 124 [.ref 700 0,.buf 701 UInt8 1 u8C (cTo c k)]),(701,.spare (cTo c k).length 1 5)])) (fun k=>k≤c.Hunks.length) (fun k=>c.Hunks.length - k) 0 (Nat.zero_le _) (by rw [D82];exact I62 ⟨le1 rfl,le1 rfl,le1 rfl,le1 rfl,le1 rfl,trivial⟩ ⟨rfl,rfl,rfl,trivial⟩) ?_
 intro k hk
 dsimp only at hk ⊢
 have hck:=hct k
 refine k2 ?_
 refine A4 (A3 (F1 Z Z) Z (A7 ?_))
 refine k1 (k2 ?_)
 refine B3 rfl (fun ht=>?_) (fun ht=>?_)
 ·have hlt:k < c.Hunks.length:=by have:=A0 ht;omega
  have hv:c.Hunks[k]?=some c.Hunks[k]:=by simp [hlt]
  have hmem:=J06 hlt
  have hrw:=h4 _ hmem
  have hat:=h5 _ hmem
  have hzm:=D01 hmem
  have hsucc:=hcs k hlt
  obtain ⟨h,hx⟩:∃x,x=c.Hunks[k]:=⟨_,rfl⟩
  rw [←hx] at hv hrw hat hzm hsucc
  have hz1:=i8 h.Rows
  have hz2:=B60 h.Rows
  unfold C88 at hzm
  have hh:=D37 h n hn hrw (by omega) hat.1 hat.2
  rw [←hNc] at hh
  have hhl:=C41 hn h
  obtain ⟨base,hbase⟩:∃base,base=cTo c k:=⟨_,rfl⟩
  rw [E69,←hbase] at hsucc
  rw [←hbase] at hck ⊢
  obtain ⟨hd,hhd⟩:∃hd,hd=Y4 n h++[10]:=⟨_,rfl⟩
  have hdl:hd.length≤926:=by rw [hhd,I93];simp only [I95,I97];omega
  rw [←hhd] at hh hsucc
  refine k5 (k1 (k2 (k3 (k2 ?_))))
  refine A4 (A3 (B4 Z (.pure _ _ _ _) Z (by omega) hv) Z (A3 (F0 Z Z) Z (C4 (G6 7 Z) Z (F6 (B6 TySz.out Z Z Z Z Z Z) (A7 ?_)))))
  refine k1 (k2 ?_)
  refine A4 (A3 (C9 Z Z Z) Z (A3 (A8 Z) Z (A3 (A9 Z Z Z) Z (C8 (hh) Z Z Z ?_))));rintro _ rfl;refine x7 (N4 (xs:=base) (s:=hd) ⟨⟨_,.inr rfl,rfl⟩,rfl⟩ (by omega)) Z Z Z ?_;rintro _ _ ⟨rfl,rfl⟩;refine A7 ?_
  refine k1 (k2 ?_)
  refine A4 (A3 (A8 Z) Z (A3 (A9 Z Z Z) Z (A3 (E3 Z (.pure _ _ _ _)) Z (A3 (A5 Z Z) Z (A7 ?_)))))
  refine k1 (k3 ?_)
  refine E2 (X:=Nat) (fun j=>([(1,.s (.one (.ref 1 0))),(5,.s (.one (.ref 700 0))),(19,C7 CHunk 2 O1 c.Hunks),(20,B8 c.Hunks.length),(21,B8 k),(31,C7 Row 3 rowC h.Rows),(32,B8 h.Rows.length),(33,B8 j)],[(1,cBox c),(700,.tbx 124 [.ref 700 0,.buf 701 UInt8 1 u8C (base++hd++rTo n h.Rows j)]),(701,.spare (base++hd++rTo n h.Rows j).length 1 5)])) (fun j=>j≤h.Rows.length) (fun j=>h.Rows.length - j) 0 (Nat.zero_le _) ?_ ?_
  ·rw [G16,J17]
   exact I62 ⟨le1 rfl,le1 rfl,le1 rfl,le1 rfl,le1 rfl,le1 rfl,le1 rfl,le1 rfl,trivial⟩ ⟨rfl,rfl,rfl,trivial⟩
  intro j hj
  dsimp only at hj ⊢
  have hrl:=H33 hn h.Rows j
  refine k2 ?_
  refine A4 (A3 (F1 Z Z) Z (A7 ?_))
  refine k1 (k2 ?_)
  refine B3 rfl (fun ht=>?_) (fun ht=>?_)
  ·have hlt2:j < h.Rows.length:=by have:=A0 ht;omega
   have hv2:h.Rows[j]?=some h.Rows[j]:=by simp [hlt2]
   have hmem2:=J06 hlt2
   have hrm:=E67 hmem2
   have hmm:=hrw _ hmem2
   have hsucc2:=G17 n h.Rows j hlt2
   obtain ⟨r,hy⟩:∃x,x=h.Rows[j]:=⟨_,rfl⟩
   rw [←hy] at hv2 hrm hsucc2 hmm
   have hrp:=E68 hn r
   have hrk:=crow_ok r n hn hmm (by have hrm:r.Text.length+96≤(h.Rows.map T5).sum:=hrm;omega)
   rw [←hNc] at hrk
   obtain ⟨bs,hbs⟩:∃bs,bs=base++hd++rTo n h.Rows j:=⟨_,rfl⟩
   have hbl:bs.length≤16777216+48+268435456+926+268435456:=by rw [hbs,I93,I93];omega
   rw [←hbs]
   refine k5 (k1 (k2 (k3 (k2 ?_))))
   refine A4 (A3 (B4 Z (.pure _ _ _ _) Z (by omega) hv2) Z (A3 (F0 Z Z) Z (C4 (G6 9 Z) Z (F6 (B6 TySz.out Z Z Z Z Z Z) (A7 ?_)))))
   refine k1 ?_
   refine A4 (A3 (C9 Z Z Z) Z (A3 (A8 Z) Z (A3 (A9 Z Z Z) Z (C8 (hrk) Z Z Z ?_))));rintro _ rfl;refine x7 (N4 (xs:=bs) (s:=(q9 n r).flatten) ⟨⟨_,.inr rfl,rfl⟩,rfl⟩ (by omega)) Z Z Z ?_;rintro _ _ ⟨rfl,rfl⟩;refine A7 ?_
   refine k4 (k1 ?_)
   refine A4 (A3 (C2 Z Z (by omega)) Z (A3 (A5 Z Z) Z (A7 ?_)))
   refine k1 ?_
   refine ⟨j+1,by omega,by omega,?_⟩
   rw [hsucc2,←J07,←hbs]
   exact I62 ⟨le1 rfl,le1 rfl,le1 rfl,le1 rfl,le1 rfl,le1 rfl,le1 rfl,le1 rfl,trivial⟩ ⟨rfl,rfl,rfl,trivial⟩
  ·have hjl:j=h.Rows.length:=by have:=A1 ht;omega
   subst hjl
   have e:base++hd++rTo n h.Rows h.Rows.length=cTo c (k+1):=by rw [hsucc,J07]
   rw [e]
   refine k6 (k7 (k7 (k8 Z (k4 (k1 ?_)))))
   refine A4 (A3 (C2 Z Z (by omega)) Z (A3 (A5 Z Z) Z (A7 ?_)))
   refine k1 ?_
   exact ⟨k+1,by omega,by omega,I62 ⟨le1 rfl,le1 rfl,le1 rfl,le1 rfl,le1 rfl,trivial⟩ ⟨rfl,rfl,rfl,trivial⟩⟩
 ·have hkl:k=c.Hunks.length:=by have:=A1 ht;omega
  subst hkl
  rw [D83]
  refine k6 (k2 ?_)
  refine A4 (C20 (k:=700) (k':=701) ⟨_,rfl,rfl,rfl⟩ A04 Z Z Z Z Z (.inr Z) Z (A3 (A6 Z Z) Z (A3 (A6 Z Z) Z (A7 ?_))))
  refine k1 (k10 ?_)
  exact C0 (B21 rfl rfl rfl rfl rfl) rfl
theorem G55 (rows:List Row) (n:Nat) (hn:n≤32) (hr:J6 rows) (hl:rows.length≤268435456):FnOk Tryz.prog 149 [pRows rows,J0 n] (fun rs=>rs=[P2 (E8 rows n)]) :=
 I87 (k:=720) rfl (A80 rows n hn hr hl)
theorem G56 {gf:Fr} {ob:Obs} (l:List Int) (hl:0 < l.length∧l.length≤1073741824) (h:B9 ob 720=some (.arr Int 1 G5 l)) :
  AL.Met Tryz.prog 166 [.one (.mut 720)] gf ob [] (fun rs ob'=>rs=[.one (.p (.list Int 1 G5 l))]∧ob'=ob):=by
 refine AL.Met.intro Tryz.func166 (by decide) Z Z Z ?_
 refine k2 ?_
 refine A4 (A3 (A6 Z Z) Z (A7 ?_))
 refine k1 (k2 (k2 ?_))
 refine A4 (A3 (A5 Z Z) Z (A3 (E13 Z h) Z (A7 ?_)))
 refine k1 ?_
 refine B3 rfl (fun ht=>?_) (fun ht=>?_)
 ·cases ht
 refine k5 (k1 (k2 ?_))
 refine A4 (A3 (A76 (c:=G5) (ys:=[]) I0 Z Z Z) Z (A3 (A5 Z Z) Z (A3 (B81 Z Z h (by (simp;omega)) (hl.1)) Z (A3 (A6 Z Z) Z (A7 ?_)))))
 rw [J23]
 refine k1 (k10 ?_)
 exact V4 (A49 rfl rfl) (by repeat (first | exact E4 | refine E5 rfl ?_ | refine K3 _ ?_)) (fun _ _ h=>h) ⟨rfl,rfl⟩
theorem H66 (l:List Row) (hl:0 < l.length∧l.length≤1073741824):FnOk Tryz.prog 113 [pRows l] (fun rs=>rs=[pRows l]):=by
 refine FnOk.intro Tryz.func113 (by decide) Z Z Z Z ?_
 refine k2 ?_
 refine A4 (A3 (A6 Z Z) Z (A7 ?_))
 refine k1 (k2 (k2 ?_))
 refine A4 (A3 (A5 Z Z) Z ?_);(first | (refine E86 (E38 rfl (.pure _ _ _ _)) rfl ?_) | (refine E86 (E38 rfl (.buf _ _ _ _ _)) rfl ?_));rintro _ ⟨b1,rfl,hnil⟩;refine A7 ?_
 refine k1 ?_
 refine B3 rfl (fun ht=>?_) (fun ht=>?_)
 ·have:=hnil ht
  rw [this] at hl
  exact absurd hl.1 (by simp)
 refine k5 (k1 (k2 ?_))
 refine A4 (A3 (A76 (c:=rowC) (ys:=[]) I0 Z Z Z) Z (A3 (A5 Z Z) Z (A3 (B34 Z Z (.pure _ _ _ _) (by (simp;omega)) (hl.1)) Z (A3 (A6 Z Z) Z (A7 ?_)))))
 rw [J23]
 refine k1 (k10 ?_)
 exact C0 (I2 rfl rfl rfl) rfl
theorem G57 (rows:List Row) (n k:Nat) {e t:Nat} (h:e≤t):L1 (rows.take t) n k=L1 (rows.take e) n k+L1 ((rows.drop e).take (t - e)) n k:=by
 have h1:rows.take t=rows.take e++(rows.drop e).take (t - e):=by
  have:=List.take_add (l:=rows) (i:=e) (j:=t - e)
  rwa [show e+(t - e)=t by omega] at this
 unfold L1
 rw [h1]
 unfold K6
 rw [J40,J08,I93,Int.natCast_add]
def A51 (rows:List Row) (n e t i:Nat):List Int:=(List.range (n+1)).map fun k=>if k < i then L1 (rows.take t) n k else L1 (rows.take e) n k
theorem H67 (rows:List Row) (n e t i:Nat):(A51 rows n e t i).length=n+1:=by simp [A51]
theorem G58 (rows:List Row) (n e t:Nat):A51 rows n e t 0=E8 (rows.take e) n:=by
 unfold A51 E8
 exact List.map_congr_left fun k _=>if_neg (by omega)
theorem G59 (rows:List Row) (n e t:Nat):A51 rows n e t (n+1)=E8 (rows.take t) n:=by
 unfold A51 E8
 exact List.map_congr_left fun k hk=>if_pos (by simpa using hk)
theorem H68 (rows:List Row) (n e t i:Nat) (hi:i < n+1):(A51 rows n e t i)[i]?=some (L1 (rows.take e) n i):=by
 unfold A51
 rw [C28 (n+1) i _ hi,if_neg (by omega)]
theorem H69 (rows:List Row) (n e t i:Nat):(A51 rows n e t i).set i (L1 (rows.take t) n i)=A51 rows n e t (i+1):=by
 refine B13 (n+1) i _ _ _ (fun _=>if_pos (by omega)) (fun q _ hq=>?_)
 by_cases h:q < i
 ·rw [if_pos h,if_pos (by omega)]
 ·rw [if_neg h,if_neg (by omega)]
theorem H17 (rows:List Row) (n k:Nat):0≤L1 rows n k∧L1 rows n k≤rows.length:=by
 unfold L1
 have:=C29 rows (p5 n k)
 omega
set_option maxHeartbeats 1000000
theorem D40 {gf:Fr} {ob:Obs} (t:Table) (n e z:Nat) (hn:t.Parents=n) (hn2:n≤32) (hr:J6 t.Rows) (hl:t.Rows.length≤8388608) (h1:e≤z) (h2:z≤t.Rows.length)
  (h5:B9 ob 5=some (.box (pTable t).s1.cells)) (h13:B9 ob 13=some (Z5 e)) (h12:B9 ob 12=some (.box [.mut 720])) (h720:B9 ob 720=some (.arr Int 1 G5 (E8 (t.Rows.take e) n))) :
  AL.Met Tryz.prog 165 [iS z,.one (.ref 5 0),.one (.ref 13 0),.one (.ref 12 0)] gf ob []
   (fun rs ob'=>rs=[]∧ob'=(13,Z5 z)::(720,.arr Int 1 G5 (E8 (t.Rows.take z) n))::(5,.box (pTable t).s1.cells)::(12,.box [.mut 720])::ob):=by
 obtain ⟨tp,rows⟩:=t
 have hn:tp=(n:Int):=hn
 subst hn
 dsimp only at hr hl h2 h720 ⊢
 have hsl:((rows.drop e).take (z - e)).length=z - e:=by rw [J12,J15];omega
 have hC:=G55 ((rows.drop e).take (z - e)) n hn2 (fun r hm=>hr r (List.mem_of_mem_drop (List.mem_of_mem_take hm))) (by omega)
 obtain ⟨cs,hcs⟩:∃cs,cs=E8 ((rows.drop e).take (z - e)) n:=⟨_,rfl⟩
 have hcl:cs.length=n+1:=by rw [hcs];simp [E8]
 rw [←hcs] at hC
 refine AL.Met.introH Tryz.func165 (by decide) rfl rfl rfl (fun hH=>?_)
 refine k2 (k2 ?_)
 refine F8 (by kernel_rfl) (by kernel_rfl) (B2 (A8 Z) Z Z (B2 (A9 Z h5 Z) Z Z (B2 (A9 Z h13 Z) Z Z (B2 (A5 Z Z) Z Z (B2 (X5 Z (.pure _ _ _ _) Z Z (by (first | omega | (dsimp only;omega))) (by (first | omega | (dsimp only;omega))) (by (first | omega | (dsimp only;omega)))) Z Z (B2 (A8 Z) Z Z (B2 (A9 Z h5 Z) Z Z (B2 (Q1 (hC) Z Z) Z Z (B2 (E3 Z (.pure _ _ _ _)) Z Z (B2 (A5 Z Z) Z Z (V7 ?_)))))))))))
 refine k1 (k3 ?_)
 refine E2 (X:=Nat) (fun i=>([(0,B8 z),(1,.s (.one (.ref 5 0))),(2,.s (.one (.ref 13 0))),(3,.s (.one (.ref 12 0))),(14,C7 Int 1 G5 cs),(15,B8 cs.length),(16,B8 i)]++gf,(13,Z5 e)::(720,.arr Int 1 G5 (A51 rows n e z i))::(5,.box (pTable ⟨n,rows⟩).s1.cells)::(12,.box [.mut 720])::ob)) (fun i=>i≤n+1) (fun i=>n+1 - i) 0 (Nat.zero_le _) ?_ ?_
 ·dsimp only
  rw [G58]
  exact I63 ⟨le1 rfl,le1 rfl,le1 rfl,le1 rfl,le1 rfl,le1 rfl,le1 rfl,trivial⟩ hH (by repeat (first | exact E4 | refine E5 rfl ?_)) (B10 (L:=[(13,_),(720,_),(5,_),(12,_)]) ⟨h13,h720,h5,h12,trivial⟩ A73)
 intro i hi
 dsimp only at hi ⊢
 have hal:=H67 rows n e z i
 refine k2 ?_
 refine A4 (A3 (F1 Z Z) Z (A7 ?_))
 refine k1 (k2 ?_)
 refine B3 rfl (fun ht=>?_) (fun ht=>?_)
 ·have hlt:i < n+1:=by have:=A0 ht;omega
  have hv:cs[i]?=some (L1 ((rows.drop e).take (z - e)) n i):=by rw [hcs];unfold E8;exact C28 (n+1) i _ hlt
  have hg:=H68 rows n e z i hlt
  have hst:=H69 rows n e z i
  have hsp:=G57 rows n i h1
  have b1:=H17 (rows.take e) n i
  have b2:=H17 ((rows.drop e).take (z - e)) n i
  have hte:(rows.take e).length=e:=by rw [J12];omega
  have hv2:(A51 rows n e z i)[((i:Nat):Int).toNat]?=some (L1 (rows.take e) n i):=by rw [I99];exact hg
  refine k5 (k1 (k2 (k3 (k2 ?_))))
  refine A4 (A3 (A5 Z Z) Z (A3 (B4 Z (.pure _ _ _ _) Z (by omega) hv) Z (A3 (C5 Z Z) Z (A3 (A6 Z Z) Z (A3 (A6 Z Z) Z (A7 ?_))))))
  refine k1 ?_
  refine A4 (A3 (A9 Z Z Z) Z (A3 (A5 Z Z) Z (A3 (G1 Z Z Z (by omega) (by (rw [hal];omega))) Z ?_)));refine A3 (R9 Z Z hv2 Z) Z (A3 (A5 Z Z) Z (A3 (C2 Z Z (by omega)) Z (A3 (G1 Z Z Z (by omega) (by (rw [hal];omega))) Z ?_)));refine F6 (I6 TySz.out Z Z (by (rw [hal];omega)) Z Z) ?_;refine A7 ?_
  rw [I99,←hsp,hst]
  refine k4 (k1 ?_)
  refine A4 (A3 (C2 Z Z (by omega)) Z (A3 (A5 Z Z) Z (A7 ?_)))
  refine k1 ?_
  refine ⟨i+1,by omega,by omega,?_⟩
  exact I63 ⟨le1 rfl,le1 rfl,le1 rfl,le1 rfl,le1 rfl,le1 rfl,le1 rfl,trivial⟩ hH (by repeat (first | exact E4 | refine E5 rfl ?_)) (B10 (L:=[(13,_),(720,_),(5,_),(12,_)]) ⟨rfl,rfl,rfl,rfl,trivial⟩ (by repeat (first | exact A73 | refine A74 rfl ?_)))
 have hin:i=n+1:=by have:=A1 ht;omega
 rw [hin,G59]
 refine k6 (k7 (k7 (k8 Z (k1 ?_))))
 refine A4 (A3 (A5 Z Z) Z (F6 (B6 TySz.out Z Z Z Z Z Z) (A7 ?_)))
 skip
 exact D12 (rets0 rfl) (by repeat (first | exact E4 | refine E5 rfl ?_)) (B10 (L:=[(13,_),(720,_),(5,_),(12,_)]) ⟨rfl,rfl,rfl,rfl,trivial⟩ (by repeat (first | exact A73 | refine A74 rfl ?_))) ⟨rfl,rfl⟩
def D41 (n:Int):Int→List Span→Bool
 | _,[]=>true
 | e,s::r=>if s.From < e∨s.To≤s.From∨n < s.To then false else D41 n s.To r
theorem F79 (sp:List Span) (n:Int) (hl:sp.length≤536870912):FnOk Tryz.prog 164 [pSpans sp,J0 n] (fun rs=>rs=[N0 (D41 n 0 sp)]):=by
 obtain ⟨W,hW⟩:∃W,W=D41 n 0 sp:=⟨_,rfl⟩
 rw [←hW]
 refine FnOk.intro Tryz.func164 (by decide) Z Z Z Z ?_
 refine k2 ?_
 refine A4 (A3 (A6 Z Z) Z (A7 ?_))
 refine k1 (k2 ?_)
 refine A4 (A3 (A6 Z Z) Z (A7 ?_))
 refine k1 (k2 (k2 ?_))
 refine A4 (A3 (A5 Z Z) Z (A3 (E3 Z (.pure _ _ _ _)) Z (A3 (A5 Z Z) Z (A7 ?_))))
 refine k1 (k3 ?_)
 refine E2 (X:=Nat × Int) (fun x=>([(1,B8 n),(5,B8 x.2),(8,C7 Span 2 spanC sp),(9,B8 sp.length),(10,B8 x.1)],[])) (fun x=>x.1≤sp.length∧W=D41 n x.2 (sp.drop x.1)) (fun x=>sp.length - x.1) (0,0) ⟨Nat.zero_le _,hW⟩ (I62 ⟨le1 rfl,le1 rfl,le1 rfl,le1 rfl,le1 rfl,trivial⟩ trivial) ?_
 rintro ⟨k,e⟩ ⟨hk,hp⟩
 dsimp only at hk hp ⊢
 refine k2 ?_
 refine A4 (A3 (F1 Z Z) Z (A7 ?_))
 refine k1 (k2 ?_)
 refine B3 rfl (fun ht=>?_) (fun ht=>?_)
 rotate_left
 ·have hkl:k=sp.length:=by have:=A1 ht;omega
  rw [hkl,J04 (Nat.le_refl _)] at hp
  have hp:W=true:=hp
  refine k6 (k2 ?_)
  refine A4 (A3 (A6 Z Z) Z (A7 ?_))
  refine k1 (k10 ?_)
  exact C0 (I2 rfl rfl rfl) (by rw [hp])
 have hlt:k < sp.length:=by have:=A0 ht;omega
 have hv:sp[k]?=some sp[k]:=by simp [hlt]
 rw [J00 hlt,D41] at hp
 obtain ⟨s,hsd⟩:∃s,s=sp[k]:=⟨_,rfl⟩
 rw [←hsd] at hp hv
 refine k5 (k1 (k2 (k3 (k2 ?_))))
 refine A4 (A3 (B4 Z (.pure _ _ _ _) Z (by omega) hv) Z (A3 (F0 Z Z) Z (C4 (G6 757 Z) Z (F6 (B6 TySz.out Z Z Z Z Z Z) (A7 ?_)))))
 refine k1 (k2 (k2 ?_))
 refine A4 (A3 (A8 Z) Z (A3 (A9 Z Z Z) Z (A3 (A5 Z Z) Z (A3 (F1 Z Z) Z (A3 (A5 Z Z) Z (B0 Z Z Z Z (fun hg=>by rw [hg];exact A8 Z) ?_))))));refine B0 Z Z Z Z (fun hg=>by rw [hg];exact A9 Z Z Z) ?_;refine B0 Z Z Z Z (fun hg=>by rw [hg];exact A8 Z) ?_;refine B0 Z Z Z Z (fun hg=>by rw [hg];exact A9 Z Z Z) ?_;refine B0 Z Z Z Z (fun hg=>by rw [hg];exact B28 Z Z) ?_;refine A3 (B5 Z (fun h=>by first | rfl | (rw [h];rfl)) (fun h=>by first | rfl | (rw [h];rfl))) Z ?_;refine A3 (A5 Z Z) Z (B0 Z Z Z Z (fun hg=>by rw [hg];exact A8 Z) ?_);refine B0 Z Z Z Z (fun hg=>by rw [hg];exact A9 Z Z Z) ?_;refine B0 Z Z Z Z (fun hg=>by rw [hg];exact A5 Z Z) ?_;refine B0 Z Z Z Z (fun hg=>by rw [hg];exact R1 Z Z) ?_;refine A3 (B5 Z (fun h=>by first | rfl | (rw [h];rfl)) (fun h=>by first | rfl | (rw [h];rfl))) Z ?_;refine A7 ?_
 refine k1 ?_
 refine B3 rfl (fun ht=>?_) (fun ht=>?_)
 ·have hc:s.From < e∨s.To≤s.From∨n < s.To:=by
   by_cases q1:s.From < e
   ·exact .inl q1
   ·by_cases q2:s.To≤s.From
    ·exact .inr (.inl q2)
    ·simp [q1,q2] at ht
     exact .inr (.inr ht)
  rw [if_pos hc] at hp
  refine k2 ?_
  refine A4 (A3 (A6 Z Z) Z (A7 ?_))
  refine k1 (k10 (k11 (k12 (k11 (k11 (k12 (k11 ?_)))))))
  exact C0 (I2 rfl rfl rfl) (by rw [hp])
 have hc:¬(s.From < e∨s.To≤s.From∨n < s.To):=by
  rintro (q | q | q)
  ·simp [q] at ht
  ·simp [q] at ht
  ·simp [q] at ht
 rw [if_neg hc] at hp
 refine k5 (k1 ?_)
 refine A4 (A3 (A8 Z) Z (A3 (A9 Z Z Z) Z (A3 (A6 Z Z) Z (A7 ?_))))
 refine k4 (k1 ?_)
 refine A4 (A3 (C2 Z Z (by omega)) Z (A3 (A5 Z Z) Z (A7 ?_)))
 refine k1 ?_
 exact ⟨(k+1,s.To),⟨hlt,hp⟩,by dsimp only;omega,I62 ⟨le1 rfl,le1 rfl,le1 rfl,le1 rfl,le1 rfl,trivial⟩ trivial⟩
end Go.Proofs.YtbiadkkamhpdnaaGreatDoor
namespace Go.Proofs.YtbiadkkamhpdnaaGreatDoor
open Go Go.AL
set_option maxRecDepth 100000
set_option maxHeartbeats 1000000
end Go.Proofs.YtbiadkkamhpdnaaGreatDoor
namespace Go.Proofs.YtbiadkkamhpdnaaGreatDoor
open Go Go.AL
set_option maxRecDepth 100000
end Go.Proofs.YtbiadkkamhpdnaaGreatDoor
