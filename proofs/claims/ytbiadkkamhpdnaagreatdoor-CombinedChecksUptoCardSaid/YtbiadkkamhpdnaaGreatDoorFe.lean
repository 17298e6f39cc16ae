/- Walks of the program's functions. -/
import Derived.Test.YtbiadkkamhpdnaaGreatDoorFd
import Derived.Test.YtbiadkkamhpdnaaGreatDoorFc
import Derived.Test.YtbiadkkamhpdnaaGreatDoorFs
import Derived.Test.YtbiadkkamhpdnaaGreatDoorFa
import Derived.Test.YtbiadkkamhpdnaaGreatDoorFb
set_option linter.unusedSimpArgs false
namespace Go.Proofs.YtbiadkkamhpdnaaGreatDoor
open Go Go.AL
set_option maxRecDepth 100000
set_option maxHeartbeats 1000000
end Go.Proofs.YtbiadkkamhpdnaaGreatDoor
namespace Go.Proofs.YtbiadkkamhpdnaaGreatDoor
open Go Go.AL
set_option maxRecDepth 100000
section
variable {P:Program} {nt:Nat} {fr:Fr} {o n:Str} {hs:List PatchHunk}
end
set_option maxHeartbeats 2000000
end Go.Proofs.YtbiadkkamhpdnaaGreatDoor
namespace Go.Proofs.YtbiadkkamhpdnaaGreatDoor
open Go Go.AL
set_option maxRecDepth 100000
theorem D63 (c:UInt8):∀n:Nat,Lib.repeatL [c] n=List.replicate n c
 | 0=>rfl
 | n+1=>by rw [Lib.repeatL,D63 c n];rfl
theorem I81 (c:UInt8) (n:Nat) (hn:n≤1048576):FnOk Tryz.prog 150 [N2 [c],H3 n] (fun rs=>rs=[N2 (List.replicate n c)]) :=
 J86 (xs:=[.string ⟨#[c]⟩,.int .i64 n]) (r:=.string ⟨(List.replicate n c).toArray⟩) ⟨_,rfl,rfl,rfl⟩ rfl fun w _=>by
  have:=Tryz.strings_Repeat ⟨#[c]⟩ n w (by omega) (by show 1*n≤_;omega)
  have e:Lib.repeatL (⟨#[c]⟩:ByteArray).data.toList n=List.replicate n c:=D63 c n
  rw [e] at this
  exact this
abbrev B85 (c:Comb):Ob:=.box (O3 c).s1.cells
theorem B86 (rows:List Row) (n:Nat) (hn:n≤32) (hr:I8 rows) (hl:rows.length≤268435456) :
  AL.Met Tryz.prog 149 [(pRows rows).s1,(H3 n).s1] [] [] [] (fun rs ob'=>rs=[.one (.mut 720)]∧ob'=[(720,.arr Int 1 F7 (G9 rows n))]):=by
 have e0:((n:Int)+1).toNat=n+1:=by omega
 refine AL.Met.intro Tryz.func149 (by decide) Z Z Z ?_
 refine k2 (A3 (A7 Z Z (A5 ?_)));refine k1 (k2 (A3 (A4 Z Z (C6 Z Z Z (C1 (Y0 720 Int F7 0 Z Z (by omega) (by omega) (fun _=>by first | exact ⟨⟨rfl,rfl⟩,trivial⟩ | exact ⟨P6 _ _ _,trivial⟩) (by first | rfl | (simp [I1,I7,Ob.free,SV.free,S1.free,TC.free]<;>rfl))) Z ?_)))));refine A7 Z Z (A5 ?_)
 rw [e0,←I06 rows n]
 refine k1 (k2 (k2 (A3 (A4 Z Z (E7 Z Z (A4 Z Z (A5 ?_)))))));refine k1 (k3 (D6 (X:=Nat) (fun i=>([(1,B9 n),(5,.s (.one (.mut 720))),(12,C3 Row 3 rowC rows),(13,B9 rows.length),(14,B9 i)],[(720,.arr Int 1 F7 (x5 rows n i 0))])) (fun i=>i≤rows.length) (fun i=>rows.length - i) 0 (Nat.zero_le _) (J69 ⟨le1 rfl,le1 rfl,le1 rfl,le1 rfl,le1 rfl,trivial⟩ ⟨rfl,trivial⟩) ?_))
 intro i hi
 dsimp only at hi ⊢
 refine k2 (A3 (E4 Z Z Z (A5 ?_)));refine k1 (k2 ?_);refine B3 rfl (fun ht=>?_) (fun ht=>?_)
 ·have hlt:i < rows.length:=by have:=A0 ht;omega
  have hv:rows[i]?=some rows[i]:=by simp [hlt]
  have hrow:=hr _ (K17 hlt)
  have hstep:=fun p=>I07 rows n i p hlt
  obtain ⟨r,hrr⟩:∃r,r=rows[i]:=⟨_,rfl⟩
  rw [←hrr] at hv hrow hstep
  have hcl:=fun k=>C64 (rows.take i) n k
  have htl:(rows.take i).length=i:=by rw [K19];omega
  rw [htl] at hcl
  refine k5 (k1 (k2 (k3 (k2 (A3 (A6 (B0 Z (.pure _ _ _ _) Z (by omega) hv) Z (A6 (G3 Z Z) Z (C1 (I3 7 Z) Z (F8 (B8 TySz.out Z Z Z Z Z Z) (A5 ?_))))))))));refine k1 (k2 (k2 (A3 (A4 Z Z (A4 Z Z (A5 ?_))))));refine k1 (k3 (D6 (X:=Nat) (fun p=>([(1,B9 n),(5,.s (.one (.mut 720))),(7,.s (.one (.ref 7 0))),(12,C3 Row 3 rowC rows),(13,B9 rows.length),(14,B9 i),(18,B9 n),(19,B9 p)],[(7,.box (pRow r).s1.cells),(720,.arr Int 1 F7 (x5 rows n i p))])) (fun p=>p≤n) (fun p=>n - p) 0 (Nat.zero_le _) (J69 ⟨le1 rfl,le1 rfl,le1 rfl,le1 rfl,le1 rfl,le1 rfl,le1 rfl,le1 rfl,trivial⟩ ⟨rfl,rfl,trivial⟩) ?_))
  intro p hp
  dsimp only at hp ⊢
  have hlen:=J15 rows n i p
  have hget:=J16 rows n i p (by omega)
  have hcp:=hcl p
  refine k2 (A3 (E4 Z Z Z (A5 ?_)));refine k1 (k2 ?_);refine B3 rfl (fun ht=>?_) (fun ht=>?_)
  ·have hlt2:p < n:=by have:=A0 ht;omega
   have hst:=hstep p (by omega)
   rw [show T5 n p=(p:Int) by unfold T5;rw [if_neg (by omega)]] at hst
   refine k5 (k1 (k2 (k3 (k2 (A3 (A4 Z Z (A7 Z Z (A5 ?_))))))));refine k1 (k2 (A3 (A6 (C5 Z Z Z) Z (A4 Z Z (C4 (G90 r p hrow) Z Z Z ?_)))));rintro _ rfl;refine A5 ?_;refine k1 ?_;refine B3 rfl (fun ht=>?_) (fun ht=>?_)
   ·rw [if_pos ht] at hst
    skip
    refine A3 (A4 Z Z (A4 Z Z (A6 (E3 Z Z Z (by omega) (by (rw [hlen];omega))) Z ?_)));refine A6 (O1 Z Z hget Z) Z (C6 Z Z Z (A6 (E3 Z Z Z (by omega) (by (rw [hlen];omega))) Z ?_));refine F8 (I2 TySz.out Z Z (by (rw [hlen];omega)) Z Z) ?_;refine A5 ?_;refine k4 (k1 (A3 (C6 Z Z Z (A4 Z Z (A5 ?_)))));refine k1 ?_;refine ⟨p+1,by omega,by omega,?_⟩
    rw [hst]
    exact J69 ⟨le1 rfl,le1 rfl,le1 rfl,le1 rfl,le1 rfl,le1 rfl,le1 rfl,le1 rfl,trivial⟩ ⟨rfl,rfl,trivial⟩
   ·rw [if_neg (by rw [ht];decide)] at hst
    refine k5 (k4 (k1 (A3 (C6 Z Z Z (A4 Z Z (A5 ?_))))));refine k1 ?_;refine ⟨p+1,by omega,by omega,?_⟩
    rw [hst]
    exact J69 ⟨le1 rfl,le1 rfl,le1 rfl,le1 rfl,le1 rfl,le1 rfl,le1 rfl,le1 rfl,trivial⟩ ⟨rfl,rfl,trivial⟩
  ·have hpn:p=n:=by have:=A1 ht;omega
   subst hpn
   have hst:=hstep p (by omega)
   have hvis:Z8 r (T5 p p)=!r.Lost:=by unfold T5 Z8;rw [if_pos rfl,if_pos rfl]
   rw [hvis,I08] at hst
   refine k6 (k2 (A3 (A6 (A8 Z) Z (E1 Z Z Z Z (O6 Z Z (A5 ?_))))));refine k1 ?_;refine B3 rfl (fun ht=>?_) (fun ht=>?_)
   ·rw [if_pos ht] at hst
    skip
    refine A3 (A4 Z Z (A4 Z Z (A6 (E3 Z Z Z (by omega) (by (rw [hlen];omega))) Z ?_)));refine A6 (O1 Z Z hget Z) Z (C6 Z Z Z (A6 (E3 Z Z Z (by omega) (by (rw [hlen];omega))) Z ?_));refine F8 (I2 TySz.out Z Z (by (rw [hlen];omega)) Z Z) ?_;refine A5 ?_;refine k4 (k1 (A3 (C6 Z Z Z (A4 Z Z (A5 ?_)))));refine k1 ?_;refine ⟨i+1,by omega,by omega,?_⟩
    rw [hst]
    exact J69 ⟨le1 rfl,le1 rfl,le1 rfl,le1 rfl,le1 rfl,trivial⟩ ⟨rfl,trivial⟩
   ·rw [if_neg (by rw [ht];decide)] at hst
    refine k5 (k4 (k1 (A3 (C6 Z Z Z (A4 Z Z (A5 ?_))))));refine k1 ?_;refine ⟨i+1,by omega,by omega,?_⟩
    rw [hst]
    exact J69 ⟨le1 rfl,le1 rfl,le1 rfl,le1 rfl,le1 rfl,trivial⟩ ⟨rfl,trivial⟩
 ·have hil:i=rows.length:=by have:=A1 ht;omega
  subst hil
  rw [I09]
  refine k6 (k2 (A3 (A4 Z Z (A7 Z Z (A5 ?_)))));refine k1 (k10 ?_)
  exact l8 (C81 rfl rfl) (by repeat (first | exact I9 | refine J0 rfl ?_ | refine P2 _ ?_)) (ObIn.spec (ob':=[(720,_)]) ⟨rfl,trivial⟩) ⟨rfl,rfl⟩
theorem H72 (c:Comb) (hn:1≤c.Parents∧c.Parents≤32) (hr:∀h∈c.Hunks,I8 h.Rows) (hz:szC c.Hunks≤268435456):FnOk Tryz.prog 92 [O3 c] (fun rs=>rs=[M3 (X2 c.Parents.toNat c.Hunks)]):=by
 obtain ⟨n,hN⟩:∃n,n=c.Parents.toNat:=⟨_,rfl⟩
 rw [←hN]
 have hzl:=A75 c.Hunks
 refine FnOk.intro Tryz.func92 (by decide) Z Z Z Z ?_
 refine k2 (A3 (C1 (R4 1 Z Z Z) Z (A7 Z Z (A5 ?_))));refine k1 (k2 (k2 (A3 (A6 (A8 Z) Z (E1 Z Z Z Z (E7 Z Z (A4 Z Z (A5 ?_))))))));refine k1 (k3 (D6 (X:=Nat) (fun k=>([(1,.s (.one (.ref 1 0))),(8,C3 CHunk 2 H5 c.Hunks),(9,B9 c.Hunks.length),(10,B9 k)],[(1,B85 c)])) (fun k=>k≤c.Hunks.length∧X2 n c.Hunks=X2 n (c.Hunks.drop k)) (fun k=>c.Hunks.length - k) 0 ⟨Nat.zero_le _,rfl⟩ (J69 ⟨le1 rfl,le1 rfl,le1 rfl,le1 rfl,trivial⟩ ⟨rfl,trivial⟩) ?_))
 rintro k ⟨hk,hp⟩
 dsimp only at hk hp ⊢
 refine k2 (A3 (E4 Z Z Z (A5 ?_)));refine k1 (k2 ?_);refine B3 rfl (fun ht=>?_) (fun ht=>?_)
 ·have hlt:k < c.Hunks.length:=by have:=A0 ht;omega
  have hv:c.Hunks[k]?=some c.Hunks[k]:=by simp [hlt]
  have hrw:=hr _ (K17 hlt)
  have hzm:=B51 (K17 hlt)
  rw [K13 hlt] at hp
  obtain ⟨h,hx⟩:∃x,x=c.Hunks[k]:=⟨_,rfl⟩
  rw [←hx] at hv hrw hp hzm
  have hz1:=U2 h.Rows
  unfold g9 at hzm
  have hp:X2 n c.Hunks=(N8 h.Rows n&&X2 n (c.Hunks.drop (k+1))):=hp
  refine k5 (k1 (k2 (k3 (k2 (A3 (A6 (B0 Z (.pure _ _ _ _) Z (by omega) hv) Z (A6 (G3 Z Z) Z (C1 (I3 4 Z) Z (F8 (B8 TySz.out Z Z Z Z Z Z) (A5 ?_))))))))));refine k1 (k2 (A3 (A6 (A8 Z) Z (E1 Z Z Z Z (E7 Z Z (A4 Z Z (A5 ?_)))))));refine k1 (k3 (D6 (X:=Nat) (fun j=>([(1,.s (.one (.ref 1 0))),(8,C3 CHunk 2 H5 c.Hunks),(9,B9 c.Hunks.length),(10,B9 k),(15,C3 Row 3 rowC h.Rows),(16,B9 h.Rows.length),(17,B9 j)],[(1,B85 c)])) (fun j=>j≤h.Rows.length∧N8 h.Rows n=N8 (h.Rows.drop j) n) (fun j=>h.Rows.length - j) 0 ⟨Nat.zero_le _,rfl⟩ (J69 ⟨le1 rfl,le1 rfl,le1 rfl,le1 rfl,le1 rfl,le1 rfl,le1 rfl,trivial⟩ ⟨rfl,trivial⟩) ?_))
  rintro j ⟨hj,hq⟩
  dsimp only at hj hq ⊢
  refine k2 (A3 (E4 Z Z Z (A5 ?_)));refine k1 (k2 ?_);refine B3 rfl (fun ht=>?_) (fun ht=>?_)
  ·have hlt2:j < h.Rows.length:=by have:=A0 ht;omega
   have hv2:h.Rows[j]?=some h.Rows[j]:=by simp [hlt2]
   have hm:=hrw _ (K17 hlt2)
   rw [K13 hlt2,B31] at hq
   obtain ⟨r,hy⟩:∃x,x=h.Rows[j]:=⟨_,rfl⟩
   rw [←hy] at hv2 hm hq
   have hw:=E51 r c.Parents hn hm
   rw [←hN] at hw
   refine k5 (k1 (k2 (k3 (k2 (A3 (A6 (B0 Z (.pure _ _ _ _) Z (by omega) hv2) Z (A6 (G3 Z Z) Z (C1 (I3 6 Z) Z (F8 (B8 TySz.out Z Z Z Z Z Z) (A5 ?_))))))))));refine k1 (k2 (A3 (A6 (C5 Z Z Z) Z (A6 (A8 Z) Z (E1 Z Z Z Z (C4 (hw) Z Z Z ?_))))));rintro _ rfl;refine O6 Z Z (A5 ?_);refine k1 ?_;refine B3 rfl (fun ht=>?_) (fun ht=>?_)
   ·have h2:X1 n r=false:=by simpa using ht
    rw [h2,Bool.false_and] at hq
    rw [hq,Bool.false_and] at hp
    refine k2 (A3 (A7 Z Z (A5 ?_)));refine k1 (k10 (k12 (k11 (k11 (k12 (k12 (k11 (k11 (k12 (k11 ?_))))))))))
    exact B6 (G6 rfl rfl rfl) (by rw [hp])
   ·have h2:X1 n r=true:=by simpa using ht
    rw [h2,Bool.true_and] at hq
    refine k5 (k4 (k1 (A3 (C6 Z Z Z (A4 Z Z (A5 ?_))))));refine k1 ?_
    exact ⟨j+1,⟨by omega,hq⟩,by omega,J69 ⟨le1 rfl,le1 rfl,le1 rfl,le1 rfl,le1 rfl,le1 rfl,le1 rfl,trivial⟩ ⟨rfl,trivial⟩⟩
  ·have hjl:j=h.Rows.length:=by have:=A1 ht;omega
   rw [hjl,K15 (Nat.le_refl _)] at hq
   have hq:N8 h.Rows n=true:=hq
   rw [hq,Bool.true_and] at hp
   refine k6 (k7 (k7 (k8 Z (k4 (k1 (A3 (C6 Z Z Z (A4 Z Z (A5 ?_)))))))));refine k1 ?_
   exact ⟨k+1,⟨by omega,hp⟩,by omega,J69 ⟨le1 rfl,le1 rfl,le1 rfl,le1 rfl,trivial⟩ ⟨rfl,trivial⟩⟩
 ·have hkl:k=c.Hunks.length:=by have:=A1 ht;omega
  rw [hkl,K15 (Nat.le_refl _)] at hp
  refine k6 (k2 (A3 (A7 Z Z (A5 ?_))));refine k1 (k10 ?_)
  exact B6 (G6 rfl rfl rfl) (by rw [hp];rfl)
theorem G95 (h:CHunk) (n:Nat) (ends:List Int) (hn:n≤32) (hr:I8 h.Rows) (hl:h.Rows.length≤268435456) (he:ends.length=n+1) (he0:∀e∈ends,0≤e) :
  FnOk Tryz.prog 156 [B48 h,H3 n,P0 ends] (fun rs=>rs=if c5 n ends h=true then [P0 (U7 n h),M3 true] else [P0 [],M3 false]):=by
 have hnot:∀{Q:Prop},(c5 n ends h=true→False)→(if c5 n ends h=true then [P0 (U7 n h),M3 true] else [P0 [],M3 false])=[P0 [],M3 false]:=fun hq=>if_neg hq
 have hF:=D89 n ends h
 refine FnOk.intro Tryz.func156 (by decide) Z Z Z Z ?_
 refine k2 (A3 (C1 (R4 3 Z Z Z) Z (A7 Z Z (A7 Z Z (A5 ?_)))));refine k1 (k2 (k2 (A3 (A6 (A8 Z) Z (E1 Z Z Z Z (E7 Z Z (A4 Z Z (C6 Z Z Z (A6 (O9 Z Z) Z (A4 Z Z (B2 Z Z Z Z (fun hg=>by rw [hg];exact A8 Z) ?_)))))))))));refine B2 Z Z Z Z (fun hg=>by rw [hg];exact B5 Z Z Z) ?_;refine B2 Z Z Z Z (fun hg=>by rw [hg];exact V3 Z (.pure _ _ _ _)) ?_;refine B2 Z Z Z Z (fun hg=>by rw [hg];exact K0 Z Z) ?_;refine J4 Z Z ?_;refine A5 ?_;refine k1 ?_;refine B3 rfl (fun ht=>?_) (fun ht=>?_)
 ·have h1:=A0 (or_pick.symm.trans ht)
  refine k2 (A3 (A6 (M8 _ 1 F7) Z (A7 Z Z (A5 ?_))));refine k1 (k10 (k11 (B6 (rs:=[P0 [],M3 false]) (s6 Z Z Z Z Z) ?_)))
  rw [if_neg]
  intro hq
  have h2:=(hF.1 hq).1
  rcases h1 with h1 | h1
  ·omega
  ·exact h2.2 (List.length_eq_zero_iff.1 (by omega))
 ·have h1:=A1 (or_pick.symm.trans ht)
  simp only [not_or,Decidable.not_not] at h1
  have hal:h.At.length=n+1:=by omega
  have hne:h.Rows≠[]:=fun e=>h1.2 (by rw [e];rfl)
  refine M9 [(1,B9 n),(2,C3 Int 1 F7 ends),(3,.s (.one (.ref 3 0)))] [(3,.box (B48 h).s1.cells)] (J69 ⟨le1 rfl,le1 rfl,le1 rfl,trivial⟩ ⟨rfl,trivial⟩) ?_
  refine k5 (k1 (k2 (A3 (A6 (A8 Z) Z (E1 Z Z Z Z (A4 Z Z (I30 (B86 h.Rows n hn hr hl) Z Z Z Z ?_)))))));rintro _ _ ⟨rfl,rfl⟩;refine ⟨rfl,?_⟩;refine A7 Z Z (A5 ?_);refine k1 (k2 (k2 (A3 (A6 (A8 Z) Z (E1 Z Z Z Z (E7 Z Z (A4 Z Z (A5 ?_))))))));refine k1 (k3 (D6 (X:=Nat) (fun k=>([(2,C3 Int 1 F7 ends),(8,.s (.one (.mut 720))),(28,C3 Int 1 F7 h.At),(29,B9 h.At.length),(30,B9 k)],[(720,.arr Int 1 F7 (A27 n h k))])) (fun k=>k≤h.At.length∧∀j,j < k→ends.getD j 0≤h.At.getD j 0∧h.At.getD j 0≤4096) (fun k=>h.At.length - k) 0 ⟨Nat.zero_le _,fun j hj=>by omega⟩ (by rw [H30];exact J69 ⟨le1 rfl,le1 rfl,le1 rfl,le1 rfl,le1 rfl,trivial⟩ ⟨rfl,trivial⟩) ?_))
  rintro k ⟨hk,hp⟩
  dsimp only at hk hp ⊢
  have hlen:=I11 n h k
  refine k2 (A3 (E4 Z Z Z (A5 ?_)));refine k1 (k2 ?_);refine B3 rfl (fun ht=>?_) (fun ht=>?_)
  ·have hlt:k < h.At.length:=by have:=A0 ht;omega
   have hv:=F41 hlt
   have hve:=F41 (l:=ends) (i:=k) (by omega)
   have hget:=I12 n h k (by omega)
   have hset:=I13 n h k
   have hek:0≤ends.getD k 0:=he0 _ (K27 hve)
   have hcl:=C64 h.Rows n k
   obtain ⟨a,ha⟩:∃a,a=h.At.getD k 0:=⟨_,rfl⟩
   obtain ⟨e,hee⟩:∃e,e=ends.getD k 0:=⟨_,rfl⟩
   obtain ⟨q,hqq⟩:∃q,q=M2 h.Rows n k:=⟨_,rfl⟩
   rw [←ha] at hv hset
   rw [←hee] at hve hek
   rw [←hqq] at hget hset hcl
   refine k5 (k1 (k2 (k3 (k2 (A3 (A4 Z Z (A6 (B0 Z (.pure _ _ _ _) Z (by omega) hv) Z (A6 (B1 Z Z) Z (A7 Z Z (A7 Z Z (A5 ?_)))))))))));refine k1 (k2 (k2 (A3 (A4 Z Z (A4 Z Z (A4 Z Z (A6 (B0 Z (.pure _ _ _ _) Z (by omega) hve) Z (A6 (B1 Z Z) Z (E4 Z Z Z (A4 Z Z (B2 Z Z Z Z (fun hg=>by rw [hg];exact B7 Z Z) ?_)))))))))));refine B2 Z Z Z Z (fun hg=>by rw [hg];exact N5 Z Z) ?_;refine J4 Z Z ?_;refine A5 ?_;refine k1 ?_;refine B3 rfl (fun ht=>?_) (fun ht=>?_)
   ·have h2:=A0 (or_pick.symm.trans ht)
    refine k2 (A3 (A6 (M8 _ 1 F7) Z (A7 Z Z (A5 ?_))));refine k1 (k10 (k11 (k12 (k11 (k11 (k12 (k11 (B6 (rs:=[P0 [],M3 false]) (s6 Z Z Z Z Z) ?_))))))))
    rw [if_neg]
    intro hq
    have h3:=(hF.1 hq).2 k (by omega)
    rw [←ha,←hee] at h3
    omega
   ·have h2:=A1 (or_pick.symm.trans ht)
    have h3:e≤a∧a≤4096:=by omega
    refine k5 (k1 (A3 (A4 Z Z (A4 Z Z (A6 (E3 Z Z Z (by omega) (by (rw [hlen];omega))) Z ?_)))));refine A6 (O1 Z Z hget Z) Z (A4 Z Z (C6 Z Z Z (A6 (E3 Z Z Z (by omega) (by (rw [hlen];omega))) Z ?_)));refine F8 (I2 TySz.out Z Z (by (rw [hlen];omega)) Z Z) ?_;refine A5 ?_;refine k4 (k1 (A3 (C6 Z Z Z (A4 Z Z (A5 ?_)))));refine k1 ?_;refine ⟨k+1,⟨by omega,fun j hj=>?_⟩,by omega,?_⟩
    ·by_cases e1:j=k
     ·subst e1;rw [←ha,←hee];exact h3
     ·exact hp j (by omega)
    ·rw [←hset]
     exact J69 ⟨le1 rfl,le1 rfl,le1 rfl,le1 rfl,le1 rfl,trivial⟩ ⟨rfl,trivial⟩
  ·have hkl:k=n+1:=by have:=A1 ht;omega
   subst hkl
   rw [H31]
   have hq:c5 n ends h=true:=hF.2 ⟨⟨hal,hne⟩,hp⟩
   refine G5 (Sees.freeze (k:=720) Z) ?_
   refine k6 (k2 (A3 (A4 Z Z (A7 Z Z (A7 Z Z (A5 ?_))))));refine k1 (k10 ?_)
   exact B6 (rs:=[P0 (U7 n h),M3 true]) (s6 rfl rfl rfl rfl rfl) (by rw [if_pos hq])
theorem smax_ok (l:List Int) (hl:0 < l.length):FnOk Tryz.prog 112 [P0 l] (fun rs=>∃m,rs=[H3 m]∧∀b,m≤b↔∀e∈l,e≤b):=by
 refine FnOk.intro Tryz.func112 (by decide) Z Z Z Z ?_
 refine A60 (t:=0) rfl (.pure _ _ _ _) fun hb=>?_
 refine k2 (A3 (A7 Z Z (A5 ?_)));refine k1 (k2 (k2 (A3 (A4 Z Z (E7 Z Z (E4 Z Z Z (A5 ?_)))))));refine k1 ?_;refine B3 rfl (fun ht=>?_) (fun ht=>?_)
 ·exact absurd (A0 ht) (by omega)
 refine k5 (k1 (k2 (A3 (A4 Z Z (A6 (B0 Z (.pure _ _ _ _) Z (by omega) (F41 (l:=l) (i:=0) hl)) Z (A6 (B1 Z Z) Z (A7 Z Z (A5 ?_))))))));refine k1 (k2 (k2 (A3 (A7 Z Z (A5 ?_)))));refine k1 (k3 ?_);refine D6 (X:=Nat × Int) (fun x=>([(0,C3 Int 1 F7 l),(3,B9 x.2),(4,B9 x.1)],[])) (fun x=>(1≤x.1∧x.1≤l.length)∧∀b,x.2≤b↔∀e∈l.take x.1,e≤b) (fun x=>l.length - x.1) (1,l.getD 0 0) ⟨⟨Nat.le_refl _,hl⟩,?_⟩ (J69 ⟨le1 rfl,le1 rfl,le1 rfl,trivial⟩ trivial) ?_
 ·intro b
  have:l.take 1=[l.getD 0 0]:=by
   cases l with
   | nil=>cases hl
   | cons x r=>rfl
  dsimp only
  rw [this];simp
 rintro ⟨k,m⟩ ⟨⟨hk1,hk⟩,hp⟩
 dsimp only at hk1 hk hp ⊢
 refine k2 (k2 (A3 (A4 Z Z (A4 Z Z (E7 Z Z (E4 Z Z Z (A5 ?_)))))));refine k1 ?_;refine B3 rfl (fun ht=>?_) (fun ht=>?_)
 ·have hlt:k < l.length:=by have:=A0 ht;omega
  have hv:=F41 hlt
  refine k5 (k1 (k2 (k3 (A3 (A4 Z Z (A4 Z Z (A4 Z Z (A6 (B0 Z (.pure _ _ _ _) Z (by omega) hv) Z (A6 (B1 Z Z) Z (A6 (n_max Z Z) Z (A7 Z Z (A5 ?_))))))))))));refine k4 (k1 (A3 (A4 Z Z (C6 Z Z Z (A7 Z Z (A5 ?_))))));refine k1 ?_;refine ⟨(k+1,if m < l.getD k 0 then l.getD k 0 else m),⟨⟨by dsimp only;omega,by dsimp only;omega⟩,?_⟩,by dsimp only;omega,J69 ⟨le1 rfl,le1 rfl,le1 rfl,trivial⟩ trivial⟩
  intro b
  dsimp only
  have e:l.take (k+1)=l.take k++[l.getD k 0]:=by
   rw [K16 hlt,K09,K07 hlt];rfl
  have h1:=hp b
  rw [e]
  constructor
  ·intro h x hx
   rcases List.mem_append.1 hx with hx | hx
   ·exact h1.1 (by omega) x hx
   ·simp only [K54,K55,or_false] at hx
    rw [hx];omega
  ·intro h
   have h2:=h1.2 (fun x hx=>h x (List.mem_append.2 (.inl hx)))
   have h3:=h (l.getD k 0) (List.mem_append.2 (.inr (by simp)))
   omega
 ·have hkl:k=l.length:=by have:=A1 ht;omega
  subst hkl
  rw [K28] at hp
  refine k6 (k2 (A3 (A4 Z Z (A7 Z Z (A5 ?_)))));refine k1 (k10 ?_)
  exact B6 (G6 rfl rfl rfl) ⟨m,rfl,hp⟩
theorem J39 (c:Comb) (hn:1≤c.Parents∧c.Parents≤32) (hr:∀h∈c.Hunks,I8 h.Rows) (hz:szC c.Hunks≤268435456) :
  FnOk Tryz.prog 93 [O3 c] (fun rs=>rs=[M3 (w9 c.Parents.toNat (List.replicate (c.Parents.toNat+1) 0) false 0 c.Hunks)]):=by
 obtain ⟨n,hN⟩:∃n,n=c.Parents.toNat:=⟨_,rfl⟩
 have hNc:c.Parents=(n:Int):=by omega
 rw [←hN]
 have e0:(c.Parents+1).toNat=n+1:=by omega
 have hzl:=A75 c.Hunks
 obtain ⟨W,hW⟩:∃W,W=w9 n (List.replicate (n+1) 0) false 0 c.Hunks:=⟨_,rfl⟩
 rw [←hW]
 refine FnOk.intro Tryz.func93 (by decide) Z Z Z Z ?_
 refine k2 (A3 (C1 (R4 1 Z Z Z) Z (A7 Z Z (A5 ?_))));refine k1 (k2 (A3 (C1 (I3 3 Z) Z (A5 ?_))));refine k1 (k2 (A3 (A6 (A8 Z) Z (E1 Z Z Z Z (C6 Z Z Z (C1 (Y0 720 Int F7 0 Z Z (by omega) (by omega) (fun _=>by first | exact ⟨⟨rfl,rfl⟩,trivial⟩ | exact ⟨P6 _ _ _,trivial⟩) (by first | rfl | (simp [I1,I7,Ob.free,SV.free,S1.free,TC.free]<;>rfl))) Z ?_))))));refine A7 Z Z (A5 ?_)
 rw [e0]
 refine k1 (k2 (k2 (G5 (Sees.freeze (k:=720) Z) ?_)))
 refine A3 (A6 (A8 Z) Z (E1 Z Z Z Z (E7 Z Z (A4 Z Z (A5 ?_)))));refine k1 (k3 (D6 (X:=Nat × List Int × Bool × Int) (fun x=>([(1,.s (.one (.ref 1 0))),(3,.s (.one (.ref 3 0))),(4,C3 Int 1 F7 x.2.1),(15,C3 CHunk 2 H5 c.Hunks),(16,B9 c.Hunks.length),(17,B9 x.1)],[(1,B85 c),(3,.box [.p (.v (.bool x.2.2.1)),.p (.v (.int .u32 x.2.2.2))])])) (fun x=>x.1≤c.Hunks.length∧x.2.1.length=n+1∧(∀e∈x.2.1,0≤e)∧W=w9 n x.2.1 x.2.2.1 x.2.2.2 (c.Hunks.drop x.1)) (fun x=>c.Hunks.length - x.1) (0,List.replicate (n+1) 0,false,0) ⟨Nat.zero_le _,by simp,fun e he=>by have:=(List.mem_replicate.1 he).2;omega,hW⟩ (J69 ⟨le1 rfl,le1 rfl,le1 rfl,le1 rfl,le1 rfl,le1 rfl,trivial⟩ ⟨rfl,rfl,trivial⟩) ?_))
 rintro ⟨k,ends,res,par⟩ ⟨hk,hel,he0,hp⟩
 dsimp only at hk hel he0 hp ⊢
 refine k2 (A3 (E4 Z Z Z (A5 ?_)));refine k1 (k2 ?_);refine B3 rfl (fun ht=>?_) (fun ht=>?_)
 ·have hlt:k < c.Hunks.length:=by have:=A0 ht;omega
  have hv:c.Hunks[k]?=some c.Hunks[k]:=by simp [hlt]
  have hmem:=K17 hlt
  have hrw:=hr _ hmem
  have hzm:=B51 hmem
  rw [K13 hlt,w9] at hp
  obtain ⟨h,hx⟩:∃x,x=c.Hunks[k]:=⟨_,rfl⟩
  rw [←hx] at hv hrw hzm hp
  have hz1:=U2 h.Rows
  have hz2:=B50 h.Rows
  unfold g9 at hzm
  have hf:=G95 h n ends (by omega) hrw (by omega) hel he0
  rw [←hNc] at hf
  refine k5 (k1 (k2 (k3 (k2 (A3 (A6 (B0 Z (.pure _ _ _ _) Z (by omega) hv) Z (A6 (G3 Z Z) Z (C1 (I3 6 Z) Z (F8 (B8 TySz.out Z Z Z Z Z Z) (A5 ?_))))))))));refine k1 (k2 (A3 (A7 Z Z (A5 ?_))));refine k1 (k2 (k2 ?_))
  cases hfb:c5 n ends h with
  | false =>
   rw [hfb,if_neg (by decide)] at hf
   rw [hfb,Bool.false_and] at hp
   refine A3 (A6 (C5 Z Z Z) Z (A6 (A8 Z) Z (E1 Z Z Z Z (A4 Z Z (C4 (hf) Z Z Z ?_)))));rintro _ rfl;refine A4 Z Z (H9 Z Z Z (H9 Z Z Z (A7 Z Z (A7 Z Z (A5 ?_)))));refine k1 (k2 (A3 (A4 Z Z (O6 Z Z (A5 ?_)))));refine k1 ?_;refine B3 rfl (fun ht=>?_) (fun ht=>?_)
   ·refine k2 (A3 (A7 Z Z (A5 ?_)));refine k1 (k10 (k11 (k12 (k11 (k11 (k12 (k11 ?_)))))))
    exact B6 (G6 rfl rfl rfl) (by rw [hp])
   ·cases ht
  | true =>
   rw [hfb,if_pos rfl] at hf
   rw [hfb,Bool.true_and] at hp
   have hpos:∀e∈U7 n h,0≤e:=by
    intro e hm
    obtain ⟨j,hj,rfl⟩:=List.mem_map.1 hm
    have hj:=List.mem_range.1 hj
    have h1:=((D89 n ends h).1 hfb).2 j hj
    have h2:=he0 _ (K27 (F41 (l:=ends) (i:=j) (by omega)))
    have h3:=C64 h.Rows n j
    omega
   refine A3 (A6 (C5 Z Z Z) Z (A6 (A8 Z) Z (E1 Z Z Z Z (A4 Z Z (C4 (hf) Z Z Z ?_)))));rintro _ rfl;refine A4 Z Z (H9 Z Z Z (H9 Z Z Z (A7 Z Z (A7 Z Z (A5 ?_)))));refine k1 (k2 (A3 (A4 Z Z (O6 Z Z (A5 ?_)))));refine k1 ?_;refine B3 rfl (fun ht=>?_) (fun ht=>?_)
   ·cases ht
   refine k5 (k1 (k2 (A3 (A6 (A8 Z) Z (E1 Z Z Z Z (E7 Z Z (A4 Z Z (A5 ?_))))))));refine k1 (k3 (D6 (X:=Nat × Bool × Int) (fun x=>([(1,.s (.one (.ref 1 0))),(3,.s (.one (.ref 3 0))),(4,C3 Int 1 F7 (U7 n h)),(15,C3 CHunk 2 H5 c.Hunks),(16,B9 c.Hunks.length),(17,B9 k),(32,C3 Row 3 rowC h.Rows),(33,B9 h.Rows.length),(34,B9 x.1)],[(1,B85 c),(3,.box [.p (.v (.bool x.2.1)),.p (.v (.int .u32 x.2.2))])])) (fun x=>x.1≤h.Rows.length∧T8 res par h.Rows=T8 x.2.1 x.2.2 (h.Rows.drop x.1)∧v7 res h.Rows=v7 x.2.1 (h.Rows.drop x.1)∧v8 par h.Rows=v8 x.2.2 (h.Rows.drop x.1)) (fun x=>h.Rows.length - x.1) (0,res,par) ⟨Nat.zero_le _,rfl,rfl,rfl⟩ (J69 ⟨le1 rfl,le1 rfl,le1 rfl,le1 rfl,le1 rfl,le1 rfl,le1 rfl,le1 rfl,le1 rfl,trivial⟩ ⟨rfl,rfl,trivial⟩) ?_))
   rintro ⟨j,res',par'⟩ ⟨hj,q1,q2,q3⟩
   dsimp only at hj q1 q2 q3 ⊢
   refine k2 (A3 (E4 Z Z Z (A5 ?_)));refine k1 (k2 ?_);refine B3 rfl (fun ht=>?_) (fun ht=>?_)
   ·have hlt2:j < h.Rows.length:=by have:=A0 ht;omega
    have hv2:h.Rows[j]?=some h.Rows[j]:=by simp [hlt2]
    have htl:=D01 h.Rows _ (K17 hlt2)
    rw [K13 hlt2] at q1 q2 q3
    rw [T8] at q1
    obtain ⟨r,hy⟩:∃x,x=h.Rows[j]:=⟨_,rfl⟩
    rw [←hy] at hv2 htl q1 q2 q3
    refine k5 (k1 (k2 (k3 (k2 (A3 (A6 (B0 Z (.pure _ _ _ _) Z (by omega) hv2) Z (A6 (G3 Z Z) Z (C1 (I3 9 Z) Z (F8 (B8 TySz.out Z Z Z Z Z Z) (A5 ?_))))))))));refine k1 (k2 ?_)
    by_cases hs:J5 r.Text=true
    ·refine A3 (A6 (C5 Z Z Z) Z (C4 (B19 r (by omega)) Z Z Z ?_));rintro _ rfl;refine O6 Z Z (A4 Z Z (Q1 Z Z Z (by rw [hs];rfl) ?_));refine A6 (C5 Z Z Z) Z (Q1 Z Z Z (by rw [hs];rfl) ?_);refine G67 (I35 r res' par' (by omega)) Z Z Z Z Z Z ?_;rintro _ _ ⟨rfl,rfl⟩;refine B2 Z Z Z Z (fun hg=>by rw [hg];exact B56 Z) ?_;refine J4 Z Z ?_;refine A5 ?_;refine k1 ?_;refine B3 rfl (fun ht=>?_) (fun ht=>?_)
     ·have h2:C43 res' par' r=false:=by rw [hs] at ht;simpa using ht
      rw [hs,h2,Bool.true_and,Bool.false_and] at q1
      rw [q1,Bool.false_and] at hp
      refine k2 (A3 (A7 Z Z (A5 ?_)));refine k1 (k10 (k12 (k11 (k11 (k12 (k12 (k11 (k11 (k12 (k11 ?_))))))))))
      exact B6 (G6 rfl rfl rfl) (by rw [hp])
     ·have h2:C43 res' par' r=true:=by rw [hs] at ht;simpa using ht
      rw [hs,h2,Bool.true_and,Bool.true_and] at q1
      refine k5 (k4 (k1 (A3 (C6 Z Z Z (A4 Z Z (A5 ?_))))));refine k1 ?_
      exact ⟨(j+1,_,_),⟨by dsimp only;omega,q1,q2,q3⟩,by dsimp only;omega,J69 ⟨le1 rfl,le1 rfl,le1 rfl,le1 rfl,le1 rfl,le1 rfl,le1 rfl,le1 rfl,le1 rfl,trivial⟩ ⟨rfl,rfl,trivial⟩⟩
    ·have hs':J5 r.Text=false:=by simpa using hs
     refine A3 (A6 (C5 Z Z Z) Z (C4 (B19 r (by omega)) Z Z Z ?_));rintro _ rfl;refine O6 Z Z (A4 Z Z (B2 Z Z Z Z (fun hg=>by rw [hg];exact C5 Z Z Z) ?_));refine S6 Z Z Z (by rw [hs'];decide) Z ?_;refine S6 Z Z Z (by rw [hs'];decide) Z ?_;refine A6 (F6 (q:=true) Z (fun h=>rfl) (fun h=>by rw [hs'] at h;cases h)) Z ?_;refine A5 ?_
     rw [hs',Bool.false_and,Bool.false_and] at q1
     rw [q1,Bool.false_and] at hp
     refine k1 ?_;refine B3 rfl (fun ht=>?_) (fun ht=>?_)
     ·refine k2 (A3 (A7 Z Z (A5 ?_)));refine k1 (k10 (k12 (k11 (k11 (k12 (k12 (k11 (k11 (k12 (k11 ?_))))))))))
      exact B6 (G6 rfl rfl rfl) (by rw [hp])
     ·rw [hs'] at ht;cases ht
   ·have hjl:j=h.Rows.length:=by have:=A1 ht;omega
    rw [hjl,K15 (Nat.le_refl _)] at q1 q2 q3
    have q1:T8 res par h.Rows=true:=q1
    have q2:v7 res h.Rows=res':=q2
    have q3:v8 par h.Rows=par':=q3
    rw [q1,q2,q3,Bool.true_and] at hp
    refine k6 (k7 (k7 (k8 Z (k4 (k1 (A3 (C6 Z Z Z (A4 Z Z (A5 ?_)))))))));refine k1 ?_
    exact ⟨(k+1,_,_,_),⟨by dsimp only;omega,B49 n h,hpos,hp⟩,by dsimp only;omega,J69 ⟨le1 rfl,le1 rfl,le1 rfl,le1 rfl,le1 rfl,le1 rfl,trivial⟩ ⟨rfl,rfl,trivial⟩⟩
 ·have hkl:k=c.Hunks.length:=by have:=A1 ht;omega
  rw [hkl,K15 (Nat.le_refl _)] at hp
  have hp:W=decide (∀e∈ends,e≤4096):=hp
  refine k6 (k2 (A3 (A4 Z Z (C4 (smax_ok ends (by omega)) Z Z Z ?_))));rintro _ ⟨m,rfl,hm⟩;refine A6 (j6 Z Z) Z (A7 Z Z (A5 ?_));refine k1 (k10 ?_)
  exact B6 (G6 rfl rfl rfl) (by rw [hp];simp only [hm 4096])
theorem D35 (s:Str):FnOk Tryz.prog 91 [N2 s] (fun rs=>rs=[M3 (Q0 s)]):=by
 refine FnOk.intro Tryz.func91 (by decide) Z Z Z Z ?_
 refine k2 (A3 (A7 Z Z (A5 ?_)));refine k1 (k2 (A3 (A4 Z Z (A6 (N3 Z) Z (A6 (A58 Z Z) Z (A4 Z Z (B2 Z Z Z Z (fun hg=>by rw [hg];exact B7 Z Z) ?_)))))));refine B2 Z Z Z Z (fun hg=>by rw [hg];exact N3 Z) ?_;refine B2 Z Z Z Z (fun hg=>by rw [hg];exact j6 Z Z) ?_;refine J4 Z Z ?_;refine A7 Z Z (A5 ?_);refine k1 (k10 (B6 (G6 Z Z Z) ?_))
 rw [R7]
 unfold Q0
 congr 4
 apply decide_eq_decide.2
 omega
theorem F70 (c:Comb) (hp:c.Path.length≤16777216):FnOk Tryz.prog 86 [O3 c] (fun rs=>rs=[N2 (B52 c)]):=by
 have hq:=C66 c.Path
 have hf:=G58 c.Parents
 refine FnOk.intro Tryz.func86 (by decide) Z Z Z Z ?_
 refine k2 (A3 (C1 (R4 1 Z Z Z) Z (A7 Z Z (A5 ?_))));refine k1 (k2 (A3 (A7 Z Z (A5 ?_))));refine k1 (k2 (k2 (A3 (A6 (A8 Z) Z (E1 Z Z Z Z (A5 ?_))))));refine k1 ?_;refine B3 rfl (fun ht=>?_) (fun ht=>?_)
 ·have hd:c.Dense=true:=ht
  skip
  refine A3 (A7 Z Z (A5 ?_));refine k1 (k2 (C9 (by kernel_rfl) (by kernel_rfl) (C8 Z Z (A9 (G7 Z Z (by (simp only [K06,K08,K11];omega))) Z Z (A9 (G7 Z Z (by (simp only [K06,K08,K11];omega))) Z Z (A9 (A8 Z) Z Z (A9 (B5 Z Z Z) Z Z (A9 (H2 (F67 c.Path (by omega)) Z Z) Z Z (A9 (G7 Z Z (by (simp only [K06,K08,K11];omega))) Z Z (A9 (G7 Z Z (by (simp only [K06,K08,K11];omega))) Z Z (A9 (A8 Z) Z Z (A9 (B5 Z Z Z) Z Z (A9 (H2 (y5 c.Parents) Z Z) Z Z (A9 (G7 Z Z (by (simp only [K06,K08,K11];omega))) Z Z (A9 (G7 Z Z (by (simp only [K06,K08,K11];omega))) Z Z (A9 (J6 Z Z) Z Z (L6 ?_)))))))))))))))));refine k1 (k10 ?_)
  exact B6 (G6 rfl rfl rfl) (by unfold B52 B64;rw [if_pos hd];simp [ccS,parS])
 ·have hd:c.Dense=false:=ht
  refine k5 (k1 (k2 (C9 (by kernel_rfl) (by kernel_rfl) (C8 Z Z (A9 (G7 Z Z (by (simp only [K06,K08,K11];omega))) Z Z (A9 (G7 Z Z (by (simp only [K06,K08,K11];omega))) Z Z (A9 (A8 Z) Z Z (A9 (B5 Z Z Z) Z Z (A9 (H2 (F67 c.Path (by omega)) Z Z) Z Z (A9 (G7 Z Z (by (simp only [K06,K08,K11];omega))) Z Z (A9 (G7 Z Z (by (simp only [K06,K08,K11];omega))) Z Z (A9 (A8 Z) Z Z (A9 (B5 Z Z Z) Z Z (A9 (H2 (y5 c.Parents) Z Z) Z Z (A9 (G7 Z Z (by (simp only [K06,K08,K11];omega))) Z Z (A9 (G7 Z Z (by (simp only [K06,K08,K11];omega))) Z Z (A9 (J6 Z Z) Z Z (L6 ?_))))))))))))))))));refine k1 (k10 ?_)
  exact B6 (G6 rfl rfl rfl) (by unfold B52 B64;rw [hd,if_neg (by decide)];simp [combS,parS])
theorem E55 (h:CHunk) (n:Nat) (hn:n≤32) (hr:I8 h.Rows) (hl:h.Rows.length≤268435456) (ha:h.At.length=n+1) (hb:∀a∈h.At,-4611686018427387904≤a∧a≤4611686018427387904) :
  FnOk Tryz.prog 87 [B48 h,H3 n] (fun rs=>rs=[N2 (A74 n h++[10])]):=by
 have hrep:FnOk Tryz.prog 150 [N2 [64],H3 ((n:Int)+1)] (fun rs=>rs=[N2 (atS (n+1))]):=by
  have:=I81 64 (n+1) (by omega)
  rwa [show ((n+1:Nat):Int)=(n:Int)+1 by omega] at this
 obtain ⟨A,hA⟩:∃A,A=atS (n+1):=⟨_,rfl⟩
 have hAl:A.length=n+1:=by rw [hA,D14]
 have hend:A74 n h++[10]=A++X5 n h n++([32,43]++O5 (h.At.getD n 0) (M2 h.Rows n n)++[32]++A++[10]):=by
  unfold A74
  rw [A76,hA]
  unfold D87 G56
  rw [if_pos rfl];simp
 rw [hend]
 rw [←hA] at hrep
 have hsl:=fun k=>A53 n h k
 have hcnt:=fun k=>C64 h.Rows n k
 have hgA:∀k,k < n+1→h.At[k]?=some (h.At.getD k 0):=fun k hk=>F41 (by omega)
 have hgC:∀k,k < n+1→(G9 h.Rows n)[k]?=some (M2 h.Rows n k):=fun k hk=>I10 h.Rows n k hk
 have hrA:∀k,k < n+1 → -4611686018427387904≤h.At.getD k 0∧h.At.getD k 0≤4611686018427387904:=fun k hk=>hb _ (K27 (hgA k hk))
 refine FnOk.intro Tryz.func87 (by decide) Z Z Z Z ?_
 refine k2 (A3 (C1 (R4 2 Z Z Z) Z (A7 Z Z (A5 ?_))));refine k1 (k2 (A3 (A6 (A8 Z) Z (E1 Z Z Z Z (A4 Z Z (I30 (B86 h.Rows n hn hr hl) Z Z Z Z ?_))))));rintro _ _ ⟨rfl,rfl⟩;refine ⟨rfl,?_⟩;refine A7 Z Z (A5 ?_);refine k1 (k2 (G5 (Sees.freeze (k:=720) Z) ?_))
 refine A3 (A4 Z Z (C6 Z Z Z (C4 (hrep) Z Z Z ?_)));rintro _ rfl;refine A7 Z Z (A5 ?_);refine k1 (k2 (A3 (C1 (E25 700 Z) Z (A5 ?_))));refine k1 (k2 (G5 (J84 701 UInt8 1 u8C 5 (kb:=700) (o:=1) Z Z Z) ?_))
 refine A3 (A4 Z Z (B57 (T4 (xs:=[]) (s:=A) ⟨⟨_,.inl rfl,rfl⟩,rfl⟩ (by simp only [K11];omega)) Z Z Z ?_));rintro _ _ ⟨rfl,rfl⟩;refine A5 ?_;refine k1 (k2 (k2 (A3 (A4 Z Z (A4 Z Z (A5 ?_))))));refine k1 (k3 ?_);refine D6 (X:=Nat) (fun p=>([(1,B9 n),(2,.s (.one (.ref 2 0))),(5,C3 Int 1 F7 (G9 h.Rows n)),(6,X6 A),(7,.s (.one (.ref 700 0))),(18,B9 n),(19,B9 p)],[(2,.box (B48 h).s1.cells),(700,.tbx 124 [.ref 700 0,.buf 701 UInt8 1 u8C (A++X5 n h p)]),(701,.spare (A++X5 n h p).length 1 5)])) (fun p=>p≤n) (fun p=>n - p) 0 (Nat.zero_le _) ?_ ?_
 ·rw [show X5 n h 0=[] from rfl,K29]
  exact J69 ⟨le1 rfl,le1 rfl,le1 rfl,le1 rfl,le1 rfl,le1 rfl,le1 rfl,trivial⟩ ⟨rfl,rfl,rfl,trivial⟩
 intro p hp
 dsimp only at hp ⊢
 have hsp:=hsl p
 have hsucc:=A76 n h p
 refine k2 (A3 (E4 Z Z Z (A5 ?_)));refine k1 (k2 ?_);refine B3 rfl (fun ht=>?_) (fun ht=>?_)
 ·have hlt:p < n:=by have:=A0 ht;omega
  have hga:=hgA p (by omega)
  have hgc:=hgC p (by omega)
  have hra:=hrA p (by omega)
  have hcp:=hcnt p
  have hsw:D87 n h p=[32,45]++O5 (h.At.getD p 0) (M2 h.Rows n p):=by
   unfold D87 G56;rw [if_neg (by omega)]
  have hrl:=A70 (h.At.getD p 0) (M2 h.Rows n p)
  rw [hsw] at hsucc
  obtain ⟨a,haa⟩:∃a,a=h.At.getD p 0:=⟨_,rfl⟩
  obtain ⟨q,hqq⟩:∃q,q=M2 h.Rows n p:=⟨_,rfl⟩
  rw [←haa] at hga hra hrl hsucc
  rw [←hqq] at hgc hcp hrl hsucc
  have hlb:(A++X5 n h p).length≤1000:=by rw [K06];omega
  obtain ⟨B,hB⟩:∃B,B=A++X5 n h p:=⟨_,rfl⟩
  rw [←hB] at hlb ⊢
  refine k5 (k1 (k2 (k3 (k2 (A3 (A4 Z Z (A7 Z Z (A5 ?_))))))));refine k1 (A82 11 (by kernel_rfl) (by kernel_rfl) Z (A9 (A8 Z) Z Z (A9 (B5 Z Z Z) Z Z (C8 Z Z (A9 (B0 Z (.pure _ _ _ _) Z (by omega) hga) Z Z (A9 (B1 Z Z) Z Z (C8 Z Z (C8 Z Z (A9 (B0 Z (.pure _ _ _ _) Z (by omega) hgc) Z Z (A9 (B1 Z Z) Z Z (A9 (H2 (F66 a q hra (by omega)) Z Z) Z Z (A9 (G7 Z Z (by (simp only [K06,K08,K11];omega))) Z Z (L6 ?_)))))))))))));refine G73 (T4 (xs:=B) (s:=[32,45]++O5 a q) ⟨⟨_,.inr rfl,rfl⟩,rfl⟩ (by simp only [K06,K08,K11];omega)) Z Z Z ?_;rintro _ _ ⟨rfl,rfl⟩;refine ⟨_,rfl,?_⟩;refine L6 ?_;refine k4 (k1 (A3 (C6 Z Z Z (A4 Z Z (A5 ?_)))));refine k1 ?_;refine ⟨p+1,by omega,by omega,?_⟩
  have hs2:A++X5 n h (p+1)=B++([32,45]++O5 a q):=by rw [hsucc,hB,K18]
  rw [hs2]
  exact J69 ⟨le1 rfl,le1 rfl,le1 rfl,le1 rfl,le1 rfl,le1 rfl,le1 rfl,trivial⟩ ⟨rfl,rfl,rfl,trivial⟩
 ·have hpn:p=n:=by have:=A1 ht;omega
  subst hpn
  have hga:=hgA p (by omega)
  have hgc:=hgC p (by omega)
  have hra:=hrA p (by omega)
  have hcp:=hcnt p
  have hrl:=A70 (h.At.getD p 0) (M2 h.Rows p p)
  obtain ⟨a,haa⟩:∃a,a=h.At.getD p 0:=⟨_,rfl⟩
  obtain ⟨q,hqq⟩:∃q,q=M2 h.Rows p p:=⟨_,rfl⟩
  rw [←haa] at hga hra hrl ⊢
  rw [←hqq] at hgc hcp hrl ⊢
  have hlb:(A++X5 p h p).length≤1000:=by rw [K06];omega
  obtain ⟨B,hB⟩:∃B,B=A++X5 p h p:=⟨_,rfl⟩
  rw [←hB] at hlb ⊢
  refine k6 (k2 (A82 15 (by kernel_rfl) (by kernel_rfl) Z (A9 (A8 Z) Z Z (A9 (B5 Z Z Z) Z Z (C8 Z Z (A9 (B0 Z (.pure _ _ _ _) Z (by omega) hga) Z Z (A9 (B1 Z Z) Z Z (C8 Z Z (C8 Z Z (A9 (B0 Z (.pure _ _ _ _) Z (by omega) hgc) Z Z (A9 (B1 Z Z) Z Z (A9 (H2 (F66 a q hra (by omega)) Z Z) Z Z (A9 (G7 Z Z (by (simp only [K06,K08,K11];omega))) Z Z (A9 (G7 Z Z (by (simp only [K06,K08,K11];omega))) Z Z (C8 Z Z (A9 (G7 Z Z (by (simp only [K06,K08,K11];omega))) Z Z (A9 (G7 Z Z (by (simp only [K06,K08,K11];omega))) Z Z (L6 ?_))))))))))))))))));refine G73 (T4 (xs:=B) (s:=[32,43]++O5 a q++[32]++A++[10]) ⟨⟨_,.inr rfl,rfl⟩,rfl⟩ (by simp only [K06,K08,K11];omega)) Z Z Z ?_;rintro _ _ ⟨rfl,rfl⟩;refine ⟨_,rfl,?_⟩;refine L6 ?_;refine k1 (k2 (A3 (D31 (k:=700) (k':=701) ⟨_,rfl,rfl,rfl⟩ A85 Z Z Z Z Z (.inr Z) Z (A7 Z Z (A5 ?_)))));refine k1 (k10 ?_)
  exact B6 (G6 rfl rfl rfl) rfl
def C97 (r:Row):UInt8:=if r.Lost then 45 else 43
theorem crow_ok (r:Row) (n:Nat) (hn:n≤32) (hm:0≤r.Marks∧r.Marks < 4294967296) (hx:r.Text.length≤268435456) :
  FnOk Tryz.prog 88 [pRow r,H3 n] (fun rs=>rs=[N2 (W5 n r).flatten]):=by
 rw [E95]
 refine FnOk.intro Tryz.func88 (by decide) Z Z Z Z ?_
 refine k2 (A3 (C1 (R4 2 Z Z Z) Z (A7 Z Z (A5 ?_))));refine k1 (k2 (A3 (A7 Z Z (A5 ?_))));refine L0 ?_
 refine A21 [(1,B9 n),(2,.s (.one (.ref 2 0))),(5,K3 (.int .u8 (C97 r).toNat))] [(2,.box (pRow r).s1.cells)] ?_ ?_
 ·refine k2 (A3 (A6 (A8 Z) Z (E1 Z Z Z Z (A5 ?_))));refine k1 ?_;refine B3 rfl (fun ht=>?_) (fun ht=>?_)
  ·have h:r.Lost=true:=ht
   skip
   refine A3 (A7 Z Z (A5 ?_));refine k1 ?_
   rw [show C97 r=45 by unfold C97;rw [h];rfl]
   exact J69 ⟨le1 rfl,le1 rfl,le1 rfl,trivial⟩ ⟨rfl,trivial⟩
  ·have h:r.Lost=false:=ht
   refine k5 (k1 ?_)
   rw [show C97 r=43 by unfold C97;rw [h];rfl]
   exact J69 ⟨le1 rfl,le1 rfl,le1 rfl,trivial⟩ ⟨rfl,trivial⟩
 refine k2 (A3 (A4 Z Z (A6 (A8 Z) Z (E1 Z Z Z Z (A6 (N3 Z) Z (C6 Z Z Z (C6 Z Z Z (C1 (I69 730 UInt8 u8C Z Z (by omega) (by omega) (by first | rfl | (simp [I1,I7,Ob.free,SV.free,S1.free,TC.free]<;>rfl))) Z ?_))))))));refine A7 Z Z (A5 ?_);refine k1 (k2 (k2 (A3 (A4 Z Z (A4 Z Z (A5 ?_))))));refine k1 (k3 (D6 (X:=Nat) (fun p=>([(1,B9 n),(2,.s (.one (.ref 2 0))),(5,K3 (.int .u8 (C97 r).toNat)),(6,.s (.one (.buf 730 UInt8 1 u8C (n7 p r)))),(17,B9 n),(18,B9 p)],[(2,.box (pRow r).s1.cells),(730,.spare (n7 p r).length 1 5)])) (fun p=>p≤n) (fun p=>n - p) 0 (Nat.zero_le _) (J69 ⟨le1 rfl,le1 rfl,le1 rfl,le1 rfl,le1 rfl,le1 rfl,trivial⟩ ⟨rfl,rfl,trivial⟩) ?_))
 intro p hp
 dsimp only at hp ⊢
 have hml:=A40 p r
 have hsucc:=D90 p r
 refine k2 (A3 (E4 Z Z Z (A5 ?_)));refine k1 (k2 ?_);refine B3 rfl (fun ht=>?_) (fun ht=>?_)
 ·have hlt:p < n:=by have:=A0 ht;omega
  refine k5 (k1 (k2 (k3 (k2 (A3 (A4 Z Z (A7 Z Z (A5 ?_))))))));refine k1 (k2 (A3 (A6 (A8 Z) Z (E1 Z Z Z Z (A4 Z Z (A6 (A89 Z Z (by omega)) Z (A6 (X9 Z Z Z (fun _=>rfl)) Z (A6 (K0 Z Z) Z (A5 ?_)))))))));refine k1 ?_
  have h3:0≤r.Marks / 2 ^ p:=Int.ediv_nonneg hm.1 (Int.pow_nonneg (by decide))
  have h4:r.Marks / 2 ^ p≤r.Marks:=Int.ediv_le_self _ hm.1
  have e32:r.Marks.fdiv (2 ^ (min (p:Int).toNat IntKind.u32.bits))=r.Marks / 2 ^ p:=E71 r.Marks p (by omega)
  have e1:=B95 (r.Marks / 2 ^ p) (by omega)
  refine B3 rfl (fun ht=>?_) (fun ht=>?_)
  ·rw [e32,e1] at ht
   have hb:W4 r.Marks p=true:=by unfold W4;simpa using ht
   have hmk:B63 r p=C97 r:=by unfold B63 C97;rw [hb,if_neg (by decide)]
   rw [hmk] at hsucc
   skip
   refine A3 (A4 Z Z (A4 Z Z (A6 (D5 (c:=u8C) (ys:=[C97 r]) (E0 Z Z Z Z F3) Z Z Z) Z (C1 (G4 Z Z Z (.pure _ _ _ _) (by (simp only [K08,K11];omega)) Z) Z (A7 Z Z (A5 ?_))))));refine k4 (k1 (A3 (C6 Z Z Z (A4 Z Z (A5 ?_)))));refine k1 ?_;refine ⟨p+1,by omega,by omega,?_⟩
   rw [hsucc]
   exact J69 ⟨le1 rfl,le1 rfl,le1 rfl,le1 rfl,le1 rfl,le1 rfl,trivial⟩ ⟨rfl,rfl,trivial⟩
  ·rw [e32,e1] at ht
   have hb:W4 r.Marks p=false:=by unfold W4;simpa using ht
   have hmk:B63 r p=32:=by unfold B63;rw [if_pos hb]
   rw [hmk] at hsucc
   skip
   refine A3 (A4 Z Z (A6 (D5 (c:=u8C) (ys:=[32]) (E0 Z Z Z Z F3) Z Z Z) Z (C1 (G4 Z Z Z (.pure _ _ _ _) (by (simp only [K08,K11];omega)) Z) Z (A7 Z Z (A5 ?_)))));refine k4 (k1 (A3 (C6 Z Z Z (A4 Z Z (A5 ?_)))));refine k1 ?_;refine ⟨p+1,by omega,by omega,?_⟩
   rw [hsucc]
   exact J69 ⟨le1 rfl,le1 rfl,le1 rfl,le1 rfl,le1 rfl,le1 rfl,trivial⟩ ⟨rfl,rfl,trivial⟩
 ·have hpn:p=n:=by have:=A1 ht;omega
  subst hpn
  refine k6 (k2 (A3 (A4 Z Z (A6 (A8 Z) Z (E1 Z Z Z Z (C1 (B03 TyStr.out Z Z Z (by omega) Z) Z (A7 Z Z (A5 ?_))))))));refine k1 (k2 (k2 (A3 (A6 (A8 Z) Z (E1 Z Z Z Z (C4 (C20 r.Text (by omega)) Z Z Z ?_))))));rintro _ rfl;refine O6 Z Z (A5 ?_);refine k1 ?_;refine B3 rfl (fun ht=>?_) (fun ht=>?_)
  ·have h:ended r.Text=false:=by simpa using ht
   skip
   refine A3 (A4 Z Z (C1 (B03 TyStr.out Z Z Z (by (simp only [K06,K08,K11];omega)) Z) Z (A7 Z Z (A5 ?_))));refine k1 (k2 (A3 (A4 Z Z (A6 (a6 TyStr.out Z (.buf _ _ _ _ _)) Z (A7 Z Z (A5 ?_))))));refine k1 (k10 ?_)
   exact B6 (G6 rfl rfl rfl) (by rw [h,if_neg (by decide)];rfl)
  ·have h:ended r.Text=true:=by simpa using ht
   refine k5 (k1 (k2 (A3 (A4 Z Z (A6 (a6 TyStr.out Z (.buf _ _ _ _ _)) Z (A7 Z Z (A5 ?_)))))));refine k1 (k10 ?_)
   exact B6 (G6 rfl rfl rfl) (by rw [if_pos h,K29])
structure CFit (c:Comb):Prop where
 par:0≤c.Parents∧c.Parents≤32
 path:c.Path.length≤4194304
 sz:szC c.Hunks≤268435456
 rows:∀h∈c.Hunks,I8 h.Rows
 ats:∀h∈c.Hunks,h.At.length=c.Parents.toNat+1∧∀a∈h.At,-4611686018427387904≤a∧a≤4611686018427387904
theorem J40 (c:Comb) (hc:CFit c):FnOk Tryz.prog 94 [O3 c] (fun rs=>rs=[H3 (i8 c).length]):=by
 obtain ⟨h1,h2,h3,h4,h5⟩:=hc
 have hzl:=A75 c.Hunks
 have hm29:markS.length=29:=rfl
 obtain ⟨n,hN⟩:∃n,n=c.Parents.toNat:=⟨_,rfl⟩
 have hNc:c.Parents=(n:Int):=by omega
 have hn:n≤32:=by omega
 have hct:=fun k=>G59 c (by omega) k
 have hcs:=fun k h=>H33 c k h
 rw [←hN] at h5 hcs
 refine FnOk.intro Tryz.func94 (by decide) Z Z Z Z ?_
 refine k2 (A3 (C1 (R4 1 Z Z Z) Z (A7 Z Z (A5 ?_))));refine k1 (k2 (A3 (A6 (C5 Z Z Z) Z (C4 (F70 c (by omega)) Z Z Z ?_))));rintro _ rfl;refine A6 (N3 Z) Z (A7 Z Z (A5 ?_));refine k1 (k2 (k2 (A3 (A6 (A8 Z) Z (E1 Z Z Z Z (E7 Z Z (A4 Z Z (A5 ?_))))))));refine k1 (k3 (D6 (X:=Nat) (fun k=>([(1,.s (.one (.ref 1 0))),(3,B9 (cTo c k).length),(12,C3 CHunk 2 H5 c.Hunks),(13,B9 c.Hunks.length),(14,B9 k)],[(1,B85 c)])) (fun k=>k≤c.Hunks.length) (fun k=>c.Hunks.length - k) 0 (Nat.zero_le _) (by rw [E93];exact J69 ⟨le1 rfl,le1 rfl,le1 rfl,le1 rfl,le1 rfl,trivial⟩ ⟨rfl,trivial⟩) ?_))
 intro k hk
 dsimp only at hk ⊢
 have hck:=hct k
 refine k2 (A3 (E4 Z Z Z (A5 ?_)));refine k1 (k2 ?_);refine B3 rfl (fun ht=>?_) (fun ht=>?_)
 ·have hlt:k < c.Hunks.length:=by have:=A0 ht;omega
  have hv:c.Hunks[k]?=some c.Hunks[k]:=by simp [hlt]
  have hmem:=K17 hlt
  have hrw:=h4 _ hmem
  have hat:=h5 _ hmem
  have hzm:=B51 hmem
  have hsucc:=hcs k hlt
  obtain ⟨h,hx⟩:∃x,x=c.Hunks[k]:=⟨_,rfl⟩
  rw [←hx] at hv hrw hat hzm hsucc
  have hz1:=U2 h.Rows
  have hz2:=B50 h.Rows
  unfold g9 at hzm
  have hh:=E55 h n hn hrw (by omega) hat.1 hat.2
  rw [←hNc] at hh
  have hhl:=C27 hn h
  obtain ⟨base,hbase⟩:∃base,base=(cTo c k).length:=⟨_,rfl⟩
  have hcl:=congrArg List.length hsucc
  rw [K06,F88,K06,←hbase] at hcl
  rw [←hbase] at hck ⊢
  obtain ⟨hd,hhd⟩:∃hd,hd=A74 n h++[10]:=⟨_,rfl⟩
  have hdl:hd.length≤926:=by rw [hhd,K06];simp only [K08,K11];omega
  rw [←hhd] at hh hcl
  refine k5 (k1 (k2 (k3 (k2 (A3 (A6 (B0 Z (.pure _ _ _ _) Z (by omega) hv) Z (A6 (G3 Z Z) Z (C1 (I3 5 Z) Z (F8 (B8 TySz.out Z Z Z Z Z Z) (A5 ?_))))))))));refine k1 (k2 (A3 (A4 Z Z (A6 (C5 Z Z Z) Z (A6 (A8 Z) Z (E1 Z Z Z Z (C4 (hh) Z Z Z ?_)))))));rintro _ rfl;refine A6 (N3 Z) Z (C6 Z Z Z (A7 Z Z (A5 ?_)));refine k1 (k2 (A3 (A6 (A8 Z) Z (E1 Z Z Z Z (E7 Z Z (A4 Z Z (A5 ?_)))))));refine k1 (k3 ?_);refine D6 (X:=Nat) (fun j=>([(1,.s (.one (.ref 1 0))),(3,B9 (base+hd.length+(rTo n h.Rows j).length:Nat)),(12,C3 CHunk 2 H5 c.Hunks),(13,B9 c.Hunks.length),(14,B9 k),(26,C3 Row 3 rowC h.Rows),(27,B9 h.Rows.length),(28,B9 j)],[(1,B85 c)])) (fun j=>j≤h.Rows.length) (fun j=>h.Rows.length - j) 0 (Nat.zero_le _) ?_ ?_
  ·have e:((base+hd.length+(rTo n h.Rows 0).length:Nat):Int)=(base:Int)+(hd.length:Int):=by rw [H34];simp
   rw [e]
   exact J69 ⟨le1 rfl,le1 rfl,le1 rfl,le1 rfl,le1 rfl,le1 rfl,le1 rfl,le1 rfl,trivial⟩ ⟨rfl,trivial⟩
  intro j hj
  dsimp only at hj ⊢
  have hrl:=I53 hn h.Rows j
  refine k2 (A3 (E4 Z Z Z (A5 ?_)));refine k1 (k2 ?_);refine B3 rfl (fun ht=>?_) (fun ht=>?_)
  ·have hlt2:j < h.Rows.length:=by have:=A0 ht;omega
   have hv2:h.Rows[j]?=some h.Rows[j]:=by simp [hlt2]
   have hrm:=szRow_mem (K17 hlt2)
   have hsucc2:=H35 n h.Rows j hlt2
   obtain ⟨r,hy⟩:∃x,x=h.Rows[j]:=⟨_,rfl⟩
   rw [←hy] at hv2 hrm hsucc2
   have hrm:r.Text.length+96≤(h.Rows.map N1).sum:=hrm
   have hl2:=congrArg List.length hsucc2
   have hml:=A40 n r
   rw [K06,E95,K06,K06,hml] at hl2
   refine k5 (k1 (k2 (k3 (k2 (A3 (A6 (B0 Z (.pure _ _ _ _) Z (by omega) hv2) Z (A6 (G3 Z Z) Z (C1 (I3 7 Z) Z (F8 (B8 TySz.out Z Z Z Z Z Z) (A5 ?_))))))))));refine k1 (k2 (A3 (A4 Z Z (A6 (A8 Z) Z (E1 Z Z Z Z (A6 (A8 Z) Z (E1 Z Z Z Z (A6 (N3 Z) Z (C6 Z Z Z (C6 Z Z Z (A7 Z Z (A5 ?_))))))))))));refine k1 (k2 (A3 (A6 (A8 Z) Z (E1 Z Z Z Z (C4 (C20 r.Text (by omega)) Z Z Z ?_)))));rintro _ rfl;refine O6 Z Z (A5 ?_);refine k1 ?_;refine B3 rfl (fun ht=>?_) (fun ht=>?_)
   ·have h2:ended r.Text=false:=by simpa using ht
    rw [h2,if_neg (by decide),hm29] at hl2
    have e:((base+hd.length+(rTo n h.Rows (j+1)).length:Nat):Int)=((base+hd.length+(rTo n h.Rows j).length:Nat):Int)+(c.Parents+(r.Text.length:Int))+29:=by omega
    skip
    refine A3 (A4 Z Z (C6 Z Z Z (A7 Z Z (A5 ?_))));refine k4 (k1 (A3 (C6 Z Z Z (A4 Z Z (A5 ?_)))));refine k1 ?_;refine ⟨j+1,by omega,by omega,?_⟩
    rw [e]
    exact J69 ⟨le1 rfl,le1 rfl,le1 rfl,le1 rfl,le1 rfl,le1 rfl,le1 rfl,le1 rfl,trivial⟩ ⟨rfl,trivial⟩
   ·have h2:ended r.Text=true:=by simpa using ht
    rw [if_pos h2,K11] at hl2
    have e:((base+hd.length+(rTo n h.Rows (j+1)).length:Nat):Int)=((base+hd.length+(rTo n h.Rows j).length:Nat):Int)+(c.Parents+(r.Text.length:Int)):=by omega
    refine k5 (k4 (k1 (A3 (C6 Z Z Z (A4 Z Z (A5 ?_))))));refine k1 ?_;refine ⟨j+1,by omega,by omega,?_⟩
    rw [e]
    exact J69 ⟨le1 rfl,le1 rfl,le1 rfl,le1 rfl,le1 rfl,le1 rfl,le1 rfl,le1 rfl,trivial⟩ ⟨rfl,trivial⟩
  ·have hjl:j=h.Rows.length:=by have:=A1 ht;omega
   subst hjl
   have e:base+hd.length+(rTo n h.Rows h.Rows.length).length=(cTo c (k+1)).length:=by omega
   rw [e]
   refine k6 (k7 (k7 (k8 Z (k4 (k1 (A3 (C6 Z Z Z (A4 Z Z (A5 ?_)))))))));refine k1 ?_
   exact ⟨k+1,by omega,by omega,J69 ⟨le1 rfl,le1 rfl,le1 rfl,le1 rfl,le1 rfl,trivial⟩ ⟨rfl,trivial⟩⟩
 ·have hkl:k=c.Hunks.length:=by have:=A1 ht;omega
  subst hkl
  rw [D15]
  refine k6 (k2 (A3 (A4 Z Z (A7 Z Z (A5 ?_)))));refine k1 (k10 ?_)
  exact B6 (G6 rfl rfl rfl) rfl
theorem D36 {c:Comb} (hp:c.Path.length≤4194304) (hn:1≤c.Parents∧c.Parents≤32) (hz:szC c.Hunks≤268435456) (hr:∀h∈c.Hunks,I8 h.Rows) (hg:P5 c.Parents.toNat c.Hunks=true):CFit c:=by
 refine ⟨by omega,hp,hz,hr,fun h hm=>?_⟩
 unfold P5 at hg
 rw [K10] at hg
 obtain ⟨a1,a2,a3⟩:=B01 c.Hunks _ (fun k hk=>by rw [K09,List.getElem?_replicate_of_lt hk];exact Int.le_refl _) hg.1 h hm
 refine ⟨a1,fun a ha=>?_⟩
 obtain ⟨k,hk,rfl⟩:=List.getElem_of_mem ha
 have h1:=a3 k (by omega)
 have h2:=C64 h.Rows c.Parents.toNat k
 have e:h.At.getD k 0=h.At[k]:=by rw [K09,K07 hk];rfl
 rw [e] at h1
 omega
theorem A36 (c:Comb) (hz:szC c.Hunks≤268435456) (hr:∀h∈c.Hunks,I8 h.Rows):FnOk Tryz.prog 40 [O3 c] (fun rs=>rs=[H3 (G8 c)]):=by
 refine FnOk.intro Tryz.func40 (by decide) Z Z Z Z ?_
 refine k2 (A3 (C1 (R4 1 Z Z Z) Z (A7 Z Z (A5 ?_))));refine k1 (k2 (k3 (k2 (A3 (A6 (A8 Z) Z (E1 Z Z Z Z (C4 (D35 c.Path) Z Z Z ?_)))))));rintro _ rfl;refine O6 Z Z (A7 Z Z (A5 ?_));refine k1 ?_;refine B3 rfl (fun ht=>?_) (fun ht=>?_)
 ·have h:Q0 c.Path=false:=by simpa using ht
  refine k2 (A3 (A7 Z Z (A5 ?_)));refine k1 (k10 (k12 (k11 ?_)))
  exact B6 (G6 rfl rfl rfl) (by unfold G8;rw [if_pos h])
 have h:Q0 c.Path=true:=by simpa using ht
 have hpl:=A0 h
 refine k2 (A3 (A6 (A8 Z) Z (E1 Z Z Z Z (E4 Z Z Z (A4 Z Z (B2 Z Z Z Z (fun hg=>by rw [hg];exact A8 Z) ?_))))));refine B2 Z Z Z Z (fun hg=>by rw [hg];exact B5 Z Z Z) ?_;refine B2 Z Z Z Z (fun hg=>by rw [hg];exact N5 Z Z) ?_;refine J4 Z Z ?_;refine A7 Z Z (A5 ?_);refine k1 ?_;refine B3 rfl (fun ht=>?_) (fun ht=>?_)
 ·have h1:=A0 (or_pick.symm.trans ht)
  refine k2 (A3 (A7 Z Z (A5 ?_)));refine k1 (k10 (k12 (k11 ?_)))
  exact B6 (G6 rfl rfl rfl) (by unfold G8;rw [if_neg (by rw [h];decide),if_pos (by omega)])
 have h1:=A1 (or_pick.symm.trans ht)
 have hn:1≤c.Parents∧c.Parents≤32:=by omega
 refine k2 (A3 (A6 (C5 Z Z Z) Z (C4 (H72 c hn hr hz) Z Z Z ?_)));rintro _ rfl;refine O6 Z Z (A7 Z Z (A5 ?_));refine k1 ?_;refine B3 rfl (fun ht=>?_) (fun ht=>?_)
 ·have h2:X2 c.Parents.toNat c.Hunks=false:=by simpa using ht
  refine k2 (A3 (A7 Z Z (A5 ?_)));refine k1 (k10 (k12 (k11 ?_)))
  exact B6 (G6 rfl rfl rfl) (by unfold G8;rw [if_neg (by rw [h];decide),if_neg (by omega),if_pos h2])
 have h2:X2 c.Parents.toNat c.Hunks=true:=by simpa using ht
 have hw:=J39 c hn hr hz
 rw [H29 (by omega) h2] at hw
 refine k2 (A3 (A6 (C5 Z Z Z) Z (C4 (hw) Z Z Z ?_)));rintro _ rfl;refine O6 Z Z (A7 Z Z (A5 ?_));refine k1 ?_;refine B3 rfl (fun ht=>?_) (fun ht=>?_)
 ·have h3:P5 c.Parents.toNat c.Hunks=false:=by simpa using ht
  refine k2 (A3 (A7 Z Z (A5 ?_)));refine k1 (k10 (k12 (k11 ?_)))
  exact B6 (G6 rfl rfl rfl) (by unfold G8;rw [if_neg (by rw [h];decide),if_neg (by omega),if_neg (by rw [h2];decide),if_pos h3])
 have h3:P5 c.Parents.toNat c.Hunks=true:=by simpa using ht
 refine k2 (A3 (A6 (C5 Z Z Z) Z (C4 (J40 c (D36 (by omega) hn hz hr h3)) Z Z Z ?_)));rintro _ rfl;refine A6 (N5 Z Z) Z (A7 Z Z (A5 ?_));refine k1 ?_;refine B3 rfl (fun ht=>?_) (fun ht=>?_)
 ·have h4:=A0 ht
  refine k2 (A3 (A7 Z Z (A5 ?_)));refine k1 (k10 (k12 (k11 ?_)))
  exact B6 (G6 rfl rfl rfl) (by unfold G8;rw [if_neg (by rw [h];decide),if_neg (by omega),if_neg (by rw [h2];decide),if_neg (by rw [h3];decide),if_pos (by omega)])
 have h4:=A1 ht
 refine k5 (k2 (A3 (A7 Z Z (A5 ?_))));refine k1 (k10 ?_)
 exact B6 (G6 rfl rfl rfl) (by unfold G8;rw [if_neg (by rw [h];decide),if_neg (by omega),if_neg (by rw [h2];decide),if_neg (by rw [h3];decide),if_neg (by omega)])
theorem E56 {c:Comb} (h:G8 c=0) (hz:szC c.Hunks≤268435456) (hr:∀h∈c.Hunks,I8 h.Rows):CFit c:=by
 obtain ⟨h1,h2,h3,h4,h5⟩:=I05 h
 have hp:=A0 h5
 have hg:P5 c.Parents.toNat c.Hunks=true:=by
  cases hb:P5 c.Parents.toNat c.Hunks with
  | true=>rfl
  | false =>
   exfalso
   unfold G8 at h
   rw [hb] at h
   rw [if_neg (by rw [h5];decide),if_neg (by omega)] at h
   split at h
   ·cases h
   ·cases h
 exact D36 (by omega) (by omega) hz hr hg
theorem B21 (c:Comb) (hz:szC c.Hunks≤268435456) (hr:∀h∈c.Hunks,I8 h.Rows):FnOk Tryz.prog 38 [O3 c] (fun rs=>rs=if G8 c=0 then [N2 (i8 c),H3 0] else [N2 [],H3 (G8 c)]):=by
 by_cases hck:G8 c=0
 rotate_left
 ·rw [if_neg hck]
  refine FnOk.intro Tryz.func38 (by decide) Z Z Z Z ?_
  refine k2 (A3 (C1 (R4 1 Z Z Z) Z (A7 Z Z (A7 Z Z (A5 ?_)))));refine k1 (k2 (k2 (A3 (A6 (C5 Z Z Z) Z (C4 (A36 c hz hr) Z Z Z ?_)))));rintro _ rfl;refine A7 Z Z (A5 ?_);refine k1 (k2 (A3 (A4 Z Z (A6 (O9 Z Z) Z (A5 ?_)))));refine k1 ?_;refine B3 rfl (fun ht=>?_) (fun ht=>?_)
  rotate_left
  ·exact absurd (Decidable.not_not.1 (A1 ht)) hck
  refine k2 (A3 (A4 Z Z (A7 Z Z (A7 Z Z (A5 ?_)))));refine k1 (k10 (k11 ?_))
  exact B6 (s6 rfl rfl rfl rfl rfl) rfl
 rw [if_pos hck]
 have hcc:=A36 c hz hr
 rw [hck] at hcc
 obtain ⟨h1,h2,_,h4,h5⟩:=E56 hck hz hr
 have hzl:=A75 c.Hunks
 obtain ⟨n,hN⟩:∃n,n=c.Parents.toNat:=⟨_,rfl⟩
 have hNc:c.Parents=(n:Int):=by omega
 have hn:n≤32:=by omega
 have hct:=fun k=>G59 c (by omega) k
 have hcs:=fun k h=>H33 c k h
 rw [←hN] at h5 hcs
 refine FnOk.intro Tryz.func38 (by decide) Z Z Z Z ?_
 refine k2 (A3 (C1 (R4 1 Z Z Z) Z (A7 Z Z (A7 Z Z (A5 ?_)))));refine k1 (k2 (k2 (A3 (A6 (C5 Z Z Z) Z (C4 (hcc) Z Z Z ?_)))));rintro _ rfl;refine A7 Z Z (A5 ?_);refine k1 (k2 (A3 (A4 Z Z (A6 (O9 Z Z) Z (A5 ?_)))));refine k1 ?_;refine B3 rfl (fun ht=>?_) (fun ht=>?_)
 ·cases ht
 refine k5 (k1 (k2 (A3 (C1 (E25 700 Z) Z (A5 ?_)))));refine k1 (k2 (G5 (J84 701 UInt8 1 u8C 5 (kb:=700) (o:=1) Z Z Z) ?_))
 have hct0:=hct 0
 rw [E93] at hct0
 refine A3 (A6 (C5 Z Z Z) Z (C4 (F70 c (by omega)) Z Z Z ?_));rintro _ rfl;refine B57 (T4 (xs:=[]) (s:=B52 c) ⟨⟨_,.inl rfl,rfl⟩,rfl⟩ (by simp only [K11];omega)) Z Z Z ?_;rintro _ _ ⟨rfl,rfl⟩;refine A5 ?_;refine k1 (k2 (k2 (A3 (A6 (A8 Z) Z (E1 Z Z Z Z (E7 Z Z (A4 Z Z (A5 ?_))))))));refine k1 (k3 (D6 (X:=Nat) (fun k=>([(1,.s (.one (.ref 1 0))),(5,.s (.one (.ref 700 0))),(19,C3 CHunk 2 H5 c.Hunks),(20,B9 c.Hunks.length),(21,B9 k)],[(1,B85 c),(700,.tbx 124 [.ref 700 0,.buf 701 UInt8 1 u8C (cTo c k)]),(701,.spare (cTo c k).length 1 5)])) (fun k=>k≤c.Hunks.length) (fun k=>c.Hunks.length - k) 0 (Nat.zero_le _) (by rw [E93];exact J69 ⟨le1 rfl,le1 rfl,le1 rfl,le1 rfl,le1 rfl,trivial⟩ ⟨rfl,rfl,rfl,trivial⟩) ?_))
 intro k hk
 dsimp only at hk ⊢
 have hck:=hct k
 refine k2 (A3 (E4 Z Z Z (A5 ?_)));refine k1 (k2 ?_);refine B3 rfl (fun ht=>?_) (fun ht=>?_)
 ·have hlt:k < c.Hunks.length:=by have:=A0 ht;omega
  have hv:c.Hunks[k]?=some c.Hunks[k]:=by simp [hlt]
  have hmem:=K17 hlt
  have hrw:=h4 _ hmem
  have hat:=h5 _ hmem
  have hzm:=B51 hmem
  have hsucc:=hcs k hlt
  obtain ⟨h,hx⟩:∃x,x=c.Hunks[k]:=⟨_,rfl⟩
  rw [←hx] at hv hrw hat hzm hsucc
  have hz1:=U2 h.Rows
  have hz2:=B50 h.Rows
  unfold g9 at hzm
  have hh:=E55 h n hn hrw (by omega) hat.1 hat.2
  rw [←hNc] at hh
  have hhl:=C27 hn h
  obtain ⟨base,hbase⟩:∃base,base=cTo c k:=⟨_,rfl⟩
  rw [F88,←hbase] at hsucc
  rw [←hbase] at hck ⊢
  obtain ⟨hd,hhd⟩:∃hd,hd=A74 n h++[10]:=⟨_,rfl⟩
  have hdl:hd.length≤926:=by rw [hhd,K06];simp only [K08,K11];omega
  rw [←hhd] at hh hsucc
  refine k5 (k1 (k2 (k3 (k2 (A3 (A6 (B0 Z (.pure _ _ _ _) Z (by omega) hv) Z (A6 (G3 Z Z) Z (C1 (I3 7 Z) Z (F8 (B8 TySz.out Z Z Z Z Z Z) (A5 ?_))))))))));refine k1 (k2 (A3 (A6 (C5 Z Z Z) Z (A6 (A8 Z) Z (E1 Z Z Z Z (C4 (hh) Z Z Z ?_))))));rintro _ rfl;refine B57 (T4 (xs:=base) (s:=hd) ⟨⟨_,.inr rfl,rfl⟩,rfl⟩ (by omega)) Z Z Z ?_;rintro _ _ ⟨rfl,rfl⟩;refine A5 ?_;refine k1 (k2 (A3 (A6 (A8 Z) Z (E1 Z Z Z Z (E7 Z Z (A4 Z Z (A5 ?_)))))));refine k1 (k3 ?_);refine D6 (X:=Nat) (fun j=>([(1,.s (.one (.ref 1 0))),(5,.s (.one (.ref 700 0))),(19,C3 CHunk 2 H5 c.Hunks),(20,B9 c.Hunks.length),(21,B9 k),(31,C3 Row 3 rowC h.Rows),(32,B9 h.Rows.length),(33,B9 j)],[(1,B85 c),(700,.tbx 124 [.ref 700 0,.buf 701 UInt8 1 u8C (base++hd++rTo n h.Rows j)]),(701,.spare (base++hd++rTo n h.Rows j).length 1 5)])) (fun j=>j≤h.Rows.length) (fun j=>h.Rows.length - j) 0 (Nat.zero_le _) ?_ ?_
  ·rw [H34,K29]
   exact J69 ⟨le1 rfl,le1 rfl,le1 rfl,le1 rfl,le1 rfl,le1 rfl,le1 rfl,le1 rfl,trivial⟩ ⟨rfl,rfl,rfl,trivial⟩
  intro j hj
  dsimp only at hj ⊢
  have hrl:=I53 hn h.Rows j
  refine k2 (A3 (E4 Z Z Z (A5 ?_)));refine k1 (k2 ?_);refine B3 rfl (fun ht=>?_) (fun ht=>?_)
  ·have hlt2:j < h.Rows.length:=by have:=A0 ht;omega
   have hv2:h.Rows[j]?=some h.Rows[j]:=by simp [hlt2]
   have hmem2:=K17 hlt2
   have hrm:=szRow_mem hmem2
   have hmm:=hrw _ hmem2
   have hsucc2:=H35 n h.Rows j hlt2
   obtain ⟨r,hy⟩:∃x,x=h.Rows[j]:=⟨_,rfl⟩
   rw [←hy] at hv2 hrm hsucc2 hmm
   have hrp:=F87 hn r
   have hrk:=crow_ok r n hn hmm (by have hrm:r.Text.length+96≤(h.Rows.map N1).sum:=hrm;omega)
   rw [←hNc] at hrk
   obtain ⟨bs,hbs⟩:∃bs,bs=base++hd++rTo n h.Rows j:=⟨_,rfl⟩
   have hbl:bs.length≤16777216+48+268435456+926+268435456:=by rw [hbs,K06,K06];omega
   rw [←hbs]
   refine k5 (k1 (k2 (k3 (k2 (A3 (A6 (B0 Z (.pure _ _ _ _) Z (by omega) hv2) Z (A6 (G3 Z Z) Z (C1 (I3 9 Z) Z (F8 (B8 TySz.out Z Z Z Z Z Z) (A5 ?_))))))))));refine k1 (A3 (A6 (C5 Z Z Z) Z (A6 (A8 Z) Z (E1 Z Z Z Z (C4 (hrk) Z Z Z ?_)))));rintro _ rfl;refine B57 (T4 (xs:=bs) (s:=(W5 n r).flatten) ⟨⟨_,.inr rfl,rfl⟩,rfl⟩ (by omega)) Z Z Z ?_;rintro _ _ ⟨rfl,rfl⟩;refine A5 ?_;refine k4 (k1 (A3 (C6 Z Z Z (A4 Z Z (A5 ?_)))));refine k1 ?_;refine ⟨j+1,by omega,by omega,?_⟩
   rw [hsucc2,←K18,←hbs]
   exact J69 ⟨le1 rfl,le1 rfl,le1 rfl,le1 rfl,le1 rfl,le1 rfl,le1 rfl,le1 rfl,trivial⟩ ⟨rfl,rfl,rfl,trivial⟩
  ·have hjl:j=h.Rows.length:=by have:=A1 ht;omega
   subst hjl
   have e:base++hd++rTo n h.Rows h.Rows.length=cTo c (k+1):=by rw [hsucc,K18]
   rw [e]
   refine k6 (k7 (k7 (k8 Z (k4 (k1 (A3 (C6 Z Z Z (A4 Z Z (A5 ?_)))))))));refine k1 ?_
   exact ⟨k+1,by omega,by omega,J69 ⟨le1 rfl,le1 rfl,le1 rfl,le1 rfl,le1 rfl,trivial⟩ ⟨rfl,rfl,rfl,trivial⟩⟩
 ·have hkl:k=c.Hunks.length:=by have:=A1 ht;omega
  subst hkl
  rw [D15]
  refine k6 (k2 (A3 (D31 (k:=700) (k':=701) ⟨_,rfl,rfl,rfl⟩ A85 Z Z Z Z Z (.inr Z) Z (A7 Z Z (A7 Z Z (A5 ?_))))));refine k1 (k10 ?_)
  exact B6 (s6 rfl rfl rfl rfl rfl) rfl
end Go.Proofs.YtbiadkkamhpdnaaGreatDoor
namespace Go.Proofs.YtbiadkkamhpdnaaGreatDoor
open Go Go.AL
set_option maxRecDepth 100000
theorem B22 (k n:Nat):FnOk Tryz.prog 146 [H3 k,H3 n] (fun rs=>rs=[H3 (T5 n k)]):=by
 refine FnOk.intro Tryz.func146 (by decide) Z Z Z Z ?_
 refine k2 (A3 (A7 Z Z (A5 ?_)));refine k1 (k2 (k2 (A3 (A4 Z Z (A4 Z Z (A6 (K0 Z Z) Z (A5 ?_)))))));refine k1 ?_;refine B3 rfl (fun ht=>?_) (fun ht=>?_)
 ·have h:=A0 ht
  refine k2 (A3 (A7 Z Z (A5 ?_)));refine k1 (k10 (k11 ?_))
  exact B6 (rs:=[H3 (-1)]) (G6 rfl rfl rfl) (by unfold T5;rw [if_pos (by omega)])
 ·have h:=A1 ht
  refine k5 (k1 (k2 (A3 (A4 Z Z (A7 Z Z (A5 ?_))))));refine k1 (k10 ?_)
  exact B6 (G6 rfl rfl rfl) (by unfold T5;rw [if_neg (by omega)])
theorem G96 (c:Comb) (hn:0≤c.Parents∧c.Parents≤32) (hr:∀h∈c.Hunks,I8 h.Rows) (hz:szC c.Hunks≤268435456):FnOk Tryz.prog 95 [O3 c] (fun rs=>rs=[M3 (X2 c.Parents.toNat c.Hunks)]):=by
 obtain ⟨n,hN⟩:∃n,n=c.Parents.toNat:=⟨_,rfl⟩
 rw [←hN]
 have hzl:=A75 c.Hunks
 refine FnOk.intro Tryz.func95 (by decide) Z Z Z Z ?_
 refine k2 (A3 (C1 (R4 1 Z Z Z) Z (A7 Z Z (A5 ?_))));refine k1 (k2 (k2 (A3 (A7 Z Z (A5 ?_)))));refine k1 (k3 (D6 (X:=Nat) (fun k=>([(1,.s (.one (.ref 1 0))),(3,B9 k)],[(1,B85 c)])) (fun k=>k≤c.Hunks.length∧X2 n c.Hunks=X2 n (c.Hunks.drop k)) (fun k=>c.Hunks.length - k) 0 ⟨Nat.zero_le _,rfl⟩ (J69 ⟨le1 rfl,le1 rfl,trivial⟩ ⟨rfl,trivial⟩) ?_))
 rintro k ⟨hk,hp⟩
 dsimp only at hk hp ⊢
 refine k2 (k2 (A3 (A4 Z Z (A6 (A8 Z) Z (E1 Z Z Z Z (E7 Z Z (E4 Z Z Z (A5 ?_))))))));refine k1 ?_;refine B3 rfl (fun ht=>?_) (fun ht=>?_)
 ·have hlt:k < c.Hunks.length:=by have:=A0 ht;omega
  have hv:c.Hunks[k]?=some c.Hunks[k]:=by simp [hlt]
  have hrw:=hr _ (K17 hlt)
  rw [K13 hlt] at hp
  obtain ⟨h,hx⟩:∃x,x=c.Hunks[k]:=⟨_,rfl⟩
  rw [←hx] at hv hrw hp
  have hp:X2 n c.Hunks=(N8 h.Rows n&&X2 n (c.Hunks.drop (k+1))):=hp
  have hm:=E49 h.Rows c.Parents hn hrw
  rw [←hN] at hm
  refine k5 (k1 (k2 (k3 (k2 (C9 (by kernel_rfl) (by kernel_rfl) (A9 (A8 Z) Z Z (A9 (B5 Z Z Z) Z Z (C8 Z Z (A9 (B0 Z (.pure _ _ _ _) Z (by omega) hv) Z Z (A9 (D4 Z) Z Z (A9 (B1 Z Z) Z Z (A9 (A8 Z) Z Z (A9 (B5 Z Z Z) Z Z (A9 (H2 (hm) Z Z) Z Z (A9 (B56 Z) Z Z (L6 ?_))))))))))))))));refine k1 ?_;refine B3 rfl (fun ht=>?_) (fun ht=>?_)
  ·have h2:N8 h.Rows n=false:=by simpa using ht
   rw [h2,Bool.false_and] at hp
   refine k2 (A3 (A7 Z Z (A5 ?_)));refine k1 (k10 (k12 (k11 (k11 (k12 (k11 ?_))))))
   exact B6 (G6 rfl rfl rfl) (by rw [hp])
  ·have h2:N8 h.Rows n=true:=by simpa using ht
   rw [h2,Bool.true_and] at hp
   refine k5 (k4 (k1 (A3 (A4 Z Z (C6 Z Z Z (A7 Z Z (A5 ?_)))))));refine k1 ?_
   exact ⟨k+1,⟨by omega,hp⟩,by omega,J69 ⟨le1 rfl,le1 rfl,trivial⟩ ⟨rfl,trivial⟩⟩
 ·have hkl:k=c.Hunks.length:=by have:=A1 ht;omega
  rw [hkl,K15 (Nat.le_refl _)] at hp
  refine k6 (k2 (A3 (A7 Z Z (A5 ?_))));refine k1 (k10 ?_)
  exact B6 (G6 rfl rfl rfl) (by rw [hp];rfl)
def Y1 (n:Nat) (ends:List Int) (h:CHunk) (k:Nat):List Int:=(List.range (n+1)).map fun j=>if j < k then h.At.getD j 0+M2 h.Rows n j else ends.getD j 0
theorem D64 (n:Nat) (ends:List Int) (h:CHunk) (k:Nat):(Y1 n ends h k).length=n+1:=by unfold Y1;simp
theorem G24 {n:Nat} {ends:List Int} (h:CHunk) (hl:ends.length=n+1):Y1 n ends h 0=ends:=by
 unfold Y1
 refine List.ext_getElem (by simp [hl]) fun k h1 h2=>?_
 rw [List.getElem_map,List.getElem_range,if_neg (by omega),K09,K07 h2];rfl
theorem G97 (n:Nat) (ends:List Int) (h:CHunk) (k:Nat) (hk:k < n+1):(Y1 n ends h k)[k]?=some (ends.getD k 0):=by
 unfold Y1
 rw [K34,K41 hk];simp
theorem G25 (n:Nat) (ends:List Int) (h:CHunk) (k:Nat) (hk:k < n+1):(Y1 n ends h (k+1))[k]?=some (h.At.getD k 0+M2 h.Rows n k):=by
 unfold Y1
 rw [K34,K41 hk];simp
theorem G98 (n:Nat) (ends:List Int) (h:CHunk) (k:Nat):(Y1 n ends h k).set k (h.At.getD k 0+M2 h.Rows n k)=Y1 n ends h (k+1):=by
 unfold Y1
 rw [C65]
 refine List.map_congr_left fun j hj=>?_
 by_cases e:j=k
 ·subst e;rw [if_pos rfl,if_pos (by omega)]
 ·rw [if_neg e]
  by_cases h3:j < k
  ·rw [if_pos h3,if_pos (by omega)]
  ·rw [if_neg h3,if_neg (by omega)]
theorem G26 (n:Nat) (ends:List Int) (h:CHunk):Y1 n ends h (n+1)=U7 n h:=by
 unfold Y1 U7
 refine List.map_congr_left fun k hk=>?_
 rw [if_pos (List.mem_range.1 hk)]
theorem H73 (n:Nat) (ends:List Int) (h:CHunk):A26 n ends h=true↔(h.At.length=n+1∧h.Rows≠[])∧∀k,k < n+1→(ends.getD k 0≤h.At.getD k 0∧h.At.getD k 0≤4096)∧h.At.getD k 0+M2 h.Rows n k≤4096:=by
 unfold A26
 simp only [K10,decide_eq_true_eq,List.all_eq_true,List.mem_range]
theorem C58:∀(hs:List CHunk),((L5 hs).map N1).sum≤szC hs
 | []=>by simp [L5,szC]
 | h::r=>by
  have ih:=C58 r
  have e1:L5 (h::r)=h.Rows++L5 r:=by simp [L5]
  have e2:szC (h::r)=g9 h+szC r:=by simp [szC]
  have e3:(h.Rows.map N1).sum≤g9 h:=by unfold g9;exact Nat.le_add_left _ _
  rw [e1,e2,K20,K59]
  exact Nat.add_le_add e3 ih
theorem G27 (hs:List CHunk) (k:Nat) (h:k < hs.length):L5 (hs.take (k+1))=L5 (hs.take k)++hs[k].Rows:=by
 unfold L5
 rw [K16 h,K20,K36];simp
theorem G99 (c:Comb) (hn:1≤c.Parents∧c.Parents≤32) (hr:∀h∈c.Hunks,I8 h.Rows) (hz:szC c.Hunks≤268435456) :
  FnOk Tryz.prog 96 [O3 c] (fun rs=>rs=[M3 (P5 c.Parents.toNat c.Hunks)]):=by
 obtain ⟨n,hN⟩:∃n,n=c.Parents.toNat:=⟨_,rfl⟩
 have hNc:c.Parents=(n:Int):=by omega
 rw [←hN]
 have e0:(c.Parents+1).toNat=n+1:=by omega
 have hzl:=A75 c.Hunks
 have hsa:=C58 c.Hunks
 have hfalse:∀{A B:Bool} {Y:Prop},A=false→[M3 false]=[M3 (A&&B)]:=fun h=>by rw [h];rfl
 refine FnOk.intro Tryz.func96 (by decide) Z Z Z Z ?_
 refine k2 (A3 (C1 (R4 1 Z Z Z) Z (A7 Z Z (A5 ?_))));refine k1 (k2 (A3 (C1 (V1 721 _ rowC Z) Z (A5 ?_))));refine k1 (k2 (A3 (A6 (A8 Z) Z (E1 Z Z Z Z (C6 Z Z Z (C1 (Y0 720 Int F7 0 Z Z (by omega) (by omega) (fun _=>by first | exact ⟨⟨rfl,rfl⟩,trivial⟩ | exact ⟨P6 _ _ _,trivial⟩) (by first | rfl | (simp [I1,I7,Ob.free,SV.free,S1.free,TC.free]<;>rfl))) Z ?_))))));refine A7 Z Z (A5 ?_)
 rw [e0]
 refine k1 (k2 (k2 (A3 (A7 Z Z (A5 ?_)))));refine k1 (k3 (D6 (X:=Nat × List Int) (fun x=>([(1,.s (.one (.ref 1 0))),(3,.s (.one (.buf 721 Row 3 rowC (L5 (c.Hunks.take x.1))))),(4,.s (.one (.mut 720))),(5,B9 x.1)],[(1,B85 c),(720,.arr Int 1 F7 x.2),(721,.spare (L5 (c.Hunks.take x.1)).length 3 69)])) (fun x=>x.1≤c.Hunks.length∧x.2.length=n+1∧(∀e∈x.2,0≤e)∧R9 n (List.replicate (n+1) 0) c.Hunks=R9 n x.2 (c.Hunks.drop x.1)) (fun x=>c.Hunks.length - x.1) (0,List.replicate (n+1) 0) ⟨Nat.zero_le _,by simp,fun e he=>by have:=(List.mem_replicate.1 he).2;omega,rfl⟩ (J69 ⟨le1 rfl,le1 rfl,le1 rfl,le1 rfl,trivial⟩ ⟨rfl,rfl,rfl,trivial⟩) ?_))
 rintro ⟨k,ends⟩ ⟨hk,hel,he0,hp⟩
 dsimp only at hk hel he0 hp ⊢
 refine k2 (k2 (A3 (A4 Z Z (A6 (A8 Z) Z (E1 Z Z Z Z (E7 Z Z (E4 Z Z Z (A5 ?_))))))));refine k1 ?_;refine B3 rfl (fun ht=>?_) (fun ht=>?_)
 ·have hlt:k < c.Hunks.length:=by have:=A0 ht;omega
  have hv:c.Hunks[k]?=some c.Hunks[k]:=by simp [hlt]
  have hmem:=K17 hlt
  have hrw:=hr _ hmem
  have hzm:=B51 hmem
  have hat:=G27 c.Hunks k hlt
  have hst:=C58 (c.Hunks.take k)
  have hst2:=E90 c.Hunks k
  have hst3:=U2 (L5 (c.Hunks.take k))
  rw [K13 hlt,R9] at hp
  obtain ⟨h,hx⟩:∃x,x=c.Hunks[k]:=⟨_,rfl⟩
  rw [←hx] at hv hrw hzm hp hat
  have hz1:=U2 h.Rows
  unfold g9 at hzm
  have hno:A26 n ends h=false→[M3 false]=[M3 (P5 n c.Hunks)]:=fun e=>by
   unfold P5;rw [hp,e];rfl
  have hiff:=H73 n ends h
  refine k5 (k1 (k2 (k3 (k2 (A3 (A6 (A8 Z) Z (E1 Z Z Z Z (A4 Z Z (A6 (B0 Z (.pure _ _ _ _) Z (by omega) hv) Z (A6 (G3 Z Z) Z (C1 (I3 6 Z) Z (F8 (B8 TySz.out Z Z Z Z Z Z) (A5 ?_)))))))))))));refine k1 (k2 (k2 (A3 (A6 (A8 Z) Z (E1 Z Z Z Z (E7 Z Z (A6 (A8 Z) Z (E1 Z Z Z Z (C6 Z Z Z (A6 (O9 Z Z) Z (A4 Z Z (B2 Z Z Z Z (fun hg=>by rw [hg];exact A8 Z) ?_))))))))))));refine B2 Z Z Z Z (fun hg=>by rw [hg];exact B5 Z Z Z) ?_;refine B2 Z Z Z Z (fun hg=>by rw [hg];exact V3 Z (.pure _ _ _ _)) ?_;refine B2 Z Z Z Z (fun hg=>by rw [hg];exact K0 Z Z) ?_;refine J4 Z Z ?_;refine A5 ?_;refine k1 ?_;refine B3 rfl (fun ht=>?_) (fun ht=>?_)
  ·have h1:=A0 (or_pick.symm.trans ht)
   refine k2 (A3 (A7 Z Z (A5 ?_)));refine k1 (k10 (k11 (k12 (k11 (k11 (k12 (k11 ?_)))))));refine B6 (G6 rfl rfl rfl) (hno ?_)
   rw [Bool.eq_false_iff]
   intro hq
   have h2:=(hiff.1 hq).1
   rcases h1 with h1 | h1
   ·omega
   ·exact h2.2 (List.length_eq_zero_iff.1 (by omega))
  have h1:=A1 (or_pick.symm.trans ht)
  simp only [not_or,Decidable.not_not] at h1
  have hal:h.At.length=n+1:=by omega
  have hne:h.Rows≠[]:=fun e=>h1.2 (by rw [e];rfl)
  refine M9 [(1,.s (.one (.ref 1 0))),(3,.s (.one (.buf 721 Row 3 rowC (L5 (c.Hunks.take k))))),(4,.s (.one (.mut 720))),(5,B9 k),(6,.s (.one (.ref 6 0)))] [(1,B85 c),(720,.arr Int 1 F7 ends),(721,.spare (L5 (c.Hunks.take k)).length 3 69),(6,.box (B48 h).s1.cells)] (J69 ⟨le1 rfl,le1 rfl,le1 rfl,le1 rfl,le1 rfl,trivial⟩ ⟨rfl,rfl,rfl,rfl,trivial⟩) ?_
  refine k5 (k1 (k2 (k2 (A3 (A7 Z Z (A5 ?_))))));refine k1 (k3 (D6 (X:=Nat) (fun j=>([(1,.s (.one (.ref 1 0))),(3,.s (.one (.buf 721 Row 3 rowC (L5 (c.Hunks.take k))))),(4,.s (.one (.mut 720))),(5,B9 k),(6,.s (.one (.ref 6 0))),(7,B9 j)],[(1,B85 c),(720,.arr Int 1 F7 (Y1 n ends h j)),(721,.spare (L5 (c.Hunks.take k)).length 3 69),(6,.box (B48 h).s1.cells)])) (fun j=>j≤n+1∧∀i,i < j→(ends.getD i 0≤h.At.getD i 0∧h.At.getD i 0≤4096)∧h.At.getD i 0+M2 h.Rows n i≤4096) (fun j=>n+1 - j) 0 ⟨Nat.zero_le _,fun i hi=>by omega⟩ (by rw [G24 h hel];exact J69 ⟨le1 rfl,le1 rfl,le1 rfl,le1 rfl,le1 rfl,le1 rfl,trivial⟩ ⟨rfl,rfl,rfl,rfl,trivial⟩) ?_))
  rintro j ⟨hj,hq⟩
  dsimp only at hj hq ⊢
  have hml:=D64 n ends h j
  refine k2 (k2 (A3 (A4 Z Z (A6 (A8 Z) Z (E1 Z Z Z Z (A6 (j6 Z Z) Z (A5 ?_)))))));refine k1 ?_;refine B3 rfl (fun ht=>?_) (fun ht=>?_)
  ·have hlt2:j < n+1:=by have:=A0 ht;omega
   have hva:=F41 (l:=h.At) (i:=j) (by omega)
   have hge:=G97 n ends h j hlt2
   have hge1:=G25 n ends h j hlt2
   have hset:=G98 n ends h j
   have hml1:=D64 n ends h (j+1)
   have hej:0≤ends.getD j 0:=he0 _ (K27 (F41 (l:=ends) (i:=j) (by omega)))
   have hcl:=C64 h.Rows n j
   have hcol:=A13 h.Rows (T5 n j) hrw (by omega)
   have hcn:=B22 j n
   rw [←hNc] at hcn
   have hcc:((K7 h.Rows (T5 n j)).length:Int)=M2 h.Rows n j:=rfl
   obtain ⟨a,ha⟩:∃a,a=h.At.getD j 0:=⟨_,rfl⟩
   obtain ⟨e,hee⟩:∃e,e=ends.getD j 0:=⟨_,rfl⟩
   obtain ⟨q,hqq⟩:∃q,q=M2 h.Rows n j:=⟨_,rfl⟩
   have hno2:¬((e≤a∧a≤4096)∧a+q≤4096)→A26 n ends h=false:=fun hc=>by
    rw [Bool.eq_false_iff]
    intro hqq2
    have:=(hiff.1 hqq2).2 j hlt2
    rw [←ha,←hee,←hqq] at this
    exact hc this
   rw [←ha] at hva hge1 hset
   rw [←hee] at hge hej
   rw [←hqq] at hge1 hset hcl hcc
   refine k5 (k1 (k2 (k3 (k2 (k2 (C9 (by kernel_rfl) (by kernel_rfl) (A9 (A8 Z) Z Z (A9 (B5 Z Z Z) Z Z (C8 Z Z (A9 (B0 Z (.pure _ _ _ _) Z (by omega) hva) Z Z (A9 (B1 Z Z) Z Z (C8 Z Z (C8 Z Z (A9 (E3 Z Z Z (by omega) (by (rw [hml];omega))) Z Z ?_))))))))))))));refine A9 (O1 Z Z hge Z) Z Z (A9 (A05 Z Z) Z Z (C8 Z Z (C0 Z Z (fun hg=>by rw [hg];exact A8 Z) Z Z ?_)));refine C0 Z Z (fun hg=>by rw [hg];exact B5 Z Z Z) Z Z ?_;refine C0 Z Z (fun hg=>by rw [hg];exact B7 Z Z) Z Z ?_;refine C0 Z Z (fun hg=>by have hq:=hg;(try simp at hq);rw [hg];exact B0 Z (.pure _ _ _ _) Z (by omega) hva) Z Z ?_;refine C0 Z Z (fun hg=>by rw [hg];exact B1 Z Z) Z Z ?_;refine C0 Z Z (fun hg=>by rw [hg];exact N5 Z Z) Z Z ?_;refine A9 (F6 Z (fun h=>by first | rfl | (rw [h];rfl)) (fun h=>by first | rfl | (rw [h];rfl))) Z Z ?_;refine L6 ?_;refine k1 ?_;refine B3 rfl (fun ht=>?_) (fun ht=>?_)
   ·have h2:=A0 (or_pick.symm.trans ht)
    refine k2 (A3 (A7 Z Z (A5 ?_)));refine k1 (k10 (k11 (k12 (k11 (k11 (k12 (k11 (k12 (k11 (k11 (k12 (k11 ?_))))))))))))
    exact B6 (G6 rfl rfl rfl) (hno (hno2 (by omega)))
   have h2:=A1 (or_pick.symm.trans ht)
   refine M9 [(1,.s (.one (.ref 1 0))),(3,.s (.one (.buf 721 Row 3 rowC (L5 (c.Hunks.take k))))),(4,.s (.one (.mut 720))),(5,B9 k),(6,.s (.one (.ref 6 0))),(7,B9 j)] [(1,B85 c),(720,.arr Int 1 F7 (Y1 n ends h j)),(721,.spare (L5 (c.Hunks.take k)).length 3 69),(6,.box (B48 h).s1.cells)] (J69 ⟨le1 rfl,le1 rfl,le1 rfl,le1 rfl,le1 rfl,le1 rfl,trivial⟩ ⟨rfl,rfl,rfl,rfl,trivial⟩) ?_
   refine k5 (k1 (k2 (C9 (by kernel_rfl) (by kernel_rfl) (C8 Z Z (C8 Z Z (A9 (A8 Z) Z Z (A9 (B5 Z Z Z) Z Z (C8 Z Z (A9 (B0 Z (.pure _ _ _ _) Z (by omega) hva) Z Z (A9 (B1 Z Z) Z Z (A9 (A8 Z) Z Z (A9 (B5 Z Z Z) Z Z (C8 Z Z (A9 (A8 Z) Z Z (A9 (B5 Z Z Z) Z Z (A9 (H2 (hcn) Z Z) Z Z (A9 (H2 (hcol) Z Z) Z Z (A9 (V3 Z (.pure _ _ _ _)) Z Z (A9 (V2 Z Z (by omega)) Z Z (A9 (E3 Z Z Z (by omega) (by (rw [hml];omega))) Z Z ?_))))))))))))))))))));refine s7 (I2 TySz.out Z Z (by (rw [hml];omega)) Z Z) Z ?_;refine L6 ?_
   rw [hcc,K12,hset]
   refine k1 (k2 (A3 (A4 Z Z (A4 Z Z (A6 (E3 Z Z Z (by omega) (by (rw [hml1];omega))) Z ?_)))));refine A6 (O1 Z Z hge1 Z) Z (A6 (N5 Z Z) Z (A5 ?_));refine k1 ?_;refine B3 rfl (fun ht=>?_) (fun ht=>?_)
   ·have h3:=A0 ht
    refine k2 (A3 (A7 Z Z (A5 ?_)));refine k1 (k10 (k12 (k11 (k11 (k12 (k11 (k12 (k11 (k11 (k12 (k11 ?_)))))))))))
    exact B6 (G6 rfl rfl rfl) (hno (hno2 (by omega)))
   have h3:=A1 ht
   refine k5 (k4 (k1 (A3 (A4 Z Z (C6 Z Z Z (A7 Z Z (A5 ?_)))))));refine k1 ?_;refine ⟨j+1,⟨by omega,fun i hi=>?_⟩,by omega,J69 ⟨le1 rfl,le1 rfl,le1 rfl,le1 rfl,le1 rfl,le1 rfl,trivial⟩ ⟨rfl,rfl,rfl,rfl,trivial⟩⟩
   by_cases e1:i=j
   ·subst e1;rw [←ha,←hee,←hqq];omega
   ·exact hq i (by omega)
  ·have hjn:j=n+1:=by have:=A1 ht;omega
   subst hjn
   rw [G26]
   have hok:A26 n ends h=true:=hiff.2 ⟨⟨hal,hne⟩,hq⟩
   rw [hok,Bool.true_and] at hp
   refine k6 (k7 (k7 (k8 Z (k1 (A3 (A4 Z Z (A6 (A8 Z) Z (E1 Z Z Z Z (C1 (G4 Z Z Z (.pure _ _ _ _) (by omega) Z) Z (A7 Z Z (A5 ?_)))))))))));refine k4 (k1 (A3 (A4 Z Z (C6 Z Z Z (A7 Z Z (A5 ?_))))));refine k1 ?_;refine ⟨(k+1,U7 n h),⟨by dsimp only;omega,B49 n h,?_,hp⟩,by dsimp only;omega,?_⟩
   ·intro e hm
    obtain ⟨i,hi,rfl⟩:=List.mem_map.1 hm
    have hi:=List.mem_range.1 hi
    have h4:=hq i hi
    have h5:=he0 _ (K27 (F41 (l:=ends) (i:=i) (by omega)))
    have h6:=C64 h.Rows n i
    omega
   ·dsimp only
    rw [hat]
    exact J69 ⟨le1 rfl,le1 rfl,le1 rfl,le1 rfl,trivial⟩ ⟨rfl,rfl,rfl,trivial⟩
 ·have hkl:k=c.Hunks.length:=by have:=A1 ht;omega
  rw [hkl,K15 (Nat.le_refl _)] at hp
  rw [hkl,K28]
  have hp:R9 n (List.replicate (n+1) 0) c.Hunks=true:=hp
  have hl1:=U2 (L5 c.Hunks)
  have hl2:=B50 (L5 c.Hunks)
  have hri:I8 (L5 c.Hunks):=by
   intro r hrm
   obtain ⟨l,h1,h2⟩:=List.mem_flatten.1 hrm
   obtain ⟨x,hx,rfl⟩:=List.mem_map.1 h1
   exact hr x hx r h2
  have htx:=E50 (L5 c.Hunks) c.Parents (by omega) hri (by omega) (by omega)
  rw [←hN] at htx
  refine k6 (k2 (A3 (A4 Z Z (A6 (A8 Z) Z (E1 Z Z Z Z (C4 (htx) Z Z Z ?_))))));rintro _ rfl;refine A7 Z Z (A5 ?_);refine k1 (k10 ?_)
  exact B6 (G6 rfl rfl rfl) (by unfold P5;rw [hp];rfl)
end Go.Proofs.YtbiadkkamhpdnaaGreatDoor
