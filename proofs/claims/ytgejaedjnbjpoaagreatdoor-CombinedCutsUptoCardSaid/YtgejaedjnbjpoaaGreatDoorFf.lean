/- Walks of the program's functions. -/
import Derived.Test.YtgejaedjnbjpoaaGreatDoorFe
import Derived.Test.YtgejaedjnbjpoaaGreatDoorFd
import Derived.Test.YtgejaedjnbjpoaaGreatDoorFc
import Derived.Test.YtgejaedjnbjpoaaGreatDoorFs
import Derived.Test.YtgejaedjnbjpoaaGreatDoorFb
import Derived.Test.YtgejaedjnbjpoaaGreatDoorFa
namespace Go.Proofs.YtgejaedjnbjpoaaGreatDoor
open Go Go.AL
set_option maxRecDepth 100000
set_option maxHeartbeats 1000000
set_option maxHeartbeats 1000000
end Go.Proofs.YtgejaedjnbjpoaaGreatDoor
namespace Go.Proofs.YtgejaedjnbjpoaaGreatDoor
open Go Go.AL
set_option maxRecDepth 100000
section
variable {P:Program} {nt:Nat} {fr:Fr} {o n:Str} {hs:List PatchHunk}
end
set_option maxHeartbeats 2000000
end Go.Proofs.YtgejaedjnbjpoaaGreatDoor
namespace Go.Proofs.YtgejaedjnbjpoaaGreatDoor
open Go Go.AL
set_option maxRecDepth 100000
theorem C56 (c:UInt8):∀n:Nat,Lib.repeatL [c] n=List.replicate n c
 | 0=>rfl
 | n+1=>by rw [Lib.repeatL,C56 c n];rfl
theorem G98 (c:UInt8) (n:Nat) (hn:n≤1048576):FnOk Tryz.prog 167 [L4 [c],G8 n] (fun rs=>rs=[L4 (List.replicate n c)]) :=
 H76 (xs:=[.string ⟨#[c]⟩,.int .i64 n]) (r:=.string ⟨(List.replicate n c).toArray⟩) ⟨_,rfl,rfl,rfl⟩ rfl fun w _=>by
  have:=Tryz.strings_Repeat ⟨#[c]⟩ n w (by omega) (by show 1*n≤_;omega)
  have e:Lib.repeatL (⟨#[c]⟩:ByteArray).data.toList n=List.replicate n c:=C56 c n
  rw [e] at this
  exact this
abbrev A12 (c:Comb):Ob:=.box (R2 c).s1.cells
theorem B06 (rows:List Row) (n:Nat) (hn:n≤32) (hr:I7 rows) (hl:rows.length≤268435456) :
  AL.Met Tryz.prog 112 [(pRows rows).s1,(G8 n).s1] [] [] [] (fun rs ob'=>rs=[.one (.mut 720)]∧ob'=[(720,.arr Int 1 F5 (H9 rows n))]):=by
 have e0:((n:Int)+1).toNat=n+1:=by omega
 refine AL.Met.intro Tryz.func112 (by decide) Z Z Z ?_
 refine k2 ?_
 refine A3 (A2 (A5 Z Z) Z (A6 ?_))
 refine k1 (k2 ?_)
 refine A3 (A2 (A4 Z Z) Z (A2 (B9 Z Z (by omega)) Z (C1 (V3 720 Int F5 0 Z Z (by omega) (by omega) (fun _=>by first | exact ⟨⟨rfl,rfl⟩,trivial⟩ | exact ⟨M9 _ _ _,trivial⟩) (by first | rfl | (simp [F9,H0,Ob.free,SV.free,S1.free,TC.free]<;>rfl))) Z ?_)));refine A2 (A5 Z Z) Z (A6 ?_)
 rw [e0,←G34 rows n]
 refine k1 (k2 (k2 ?_))
 refine A3 (A2 (A4 Z Z) Z (A2 (D4 Z (.pure _ _ _ _)) Z (A2 (A4 Z Z) Z (A6 ?_))))
 refine k1 (k3 ?_)
 refine C9 (X:=Nat) (fun i=>([(1,B7 n),(5,.s (.one (.mut 720))),(12,C0 Row 3 rowC rows),(13,B7 rows.length),(14,B7 i)],[(720,.arr Int 1 F5 (j9 rows n i 0))])) (fun i=>i≤rows.length) (fun i=>rows.length - i) 0 (Nat.zero_le _) (H62 ⟨le1 rfl,le1 rfl,le1 rfl,le1 rfl,le1 rfl,trivial⟩ ⟨rfl,trivial⟩) ?_
 intro i hi
 dsimp only at hi ⊢
 refine k2 ?_
 refine A3 (A2 (D8 Z Z) Z (A6 ?_))
 refine k1 (k2 ?_)
 refine B4 rfl (fun ht=>?_) (fun ht=>?_)
 ·have hlt:i < rows.length:=by have:=A0 ht;omega
  have hv:rows[i]?=some rows[i]:=by simp [hlt]
  have hrow:=hr _ (I07 hlt)
  have hstep:=fun p=>G35 rows n i p hlt
  obtain ⟨r,hrr⟩:∃r,r=rows[i]:=⟨_,rfl⟩
  rw [←hrr] at hv hrow hstep
  have hcl:=fun k=>B68 (rows.take i) n k
  have htl:(rows.take i).length=i:=by rw [I13];omega
  rw [htl] at hcl
  refine k5 (k1 (k2 (k3 (k2 ?_))))
  refine A3 (A2 (B0 Z (.pure _ _ _ _) Z (by omega) hv) Z (A2 (E8 Z Z) Z (C1 (G3 7 Z) Z (F6 (B8 TySz.out Z Z Z Z Z Z) (A6 ?_)))))
  refine k1 (k2 (k2 ?_))
  refine A3 (A2 (A4 Z Z) Z (A2 (A4 Z Z) Z (A6 ?_)))
  refine k1 (k3 ?_)
  refine C9 (X:=Nat) (fun p=>([(1,B7 n),(5,.s (.one (.mut 720))),(7,.s (.one (.ref 7 0))),(12,C0 Row 3 rowC rows),(13,B7 rows.length),(14,B7 i),(18,B7 n),(19,B7 p)],[(7,.box (pRow r).s1.cells),(720,.arr Int 1 F5 (j9 rows n i p))])) (fun p=>p≤n) (fun p=>n - p) 0 (Nat.zero_le _) (H62 ⟨le1 rfl,le1 rfl,le1 rfl,le1 rfl,le1 rfl,le1 rfl,le1 rfl,le1 rfl,trivial⟩ ⟨rfl,rfl,trivial⟩) ?_
  intro p hp
  dsimp only at hp ⊢
  have hlen:=H23 rows n i p
  have hget:=H24 rows n i p (by omega)
  have hcp:=hcl p
  refine k2 ?_
  refine A3 (A2 (D8 Z Z) Z (A6 ?_))
  refine k1 (k2 ?_)
  refine B4 rfl (fun ht=>?_) (fun ht=>?_)
  ·have hlt2:p < n:=by have:=A0 ht;omega
   have hst:=hstep p (by omega)
   rw [show Q6 n p=(p:Int) by unfold Q6;rw [if_neg (by omega)]] at hst
   refine k5 (k1 (k2 (k3 (k2 ?_))))
   refine A3 (A2 (A4 Z Z) Z (A2 (A5 Z Z) Z (A6 ?_)))
   refine k1 (k2 ?_)
   refine A3 (A2 (D2 Z Z Z) Z (A2 (A4 Z Z) Z (C3 (F27 r p hrow) Z Z Z ?_)));rintro _ rfl;refine A6 ?_
   refine k1 ?_
   refine B4 rfl (fun ht=>?_) (fun ht=>?_)
   ·rw [if_pos ht] at hst
    skip
    refine A3 (A2 (A4 Z Z) Z (A2 (A4 Z Z) Z (A2 (E0 Z Z Z (by omega) (by (rw [hlen];omega))) Z ?_)));refine A2 (L9 Z Z hget Z) Z (A2 (B9 Z Z (by omega)) Z (A2 (E0 Z Z Z (by omega) (by (rw [hlen];omega))) Z ?_));refine F6 (G1 TySz.out Z Z (by (rw [hlen];omega)) Z Z) ?_;refine A6 ?_
    refine k4 (k1 ?_)
    refine A3 (A2 (B9 Z Z (by omega)) Z (A2 (A4 Z Z) Z (A6 ?_)))
    refine k1 ?_
    refine ⟨p+1,by omega,by omega,?_⟩
    rw [hst]
    exact H62 ⟨le1 rfl,le1 rfl,le1 rfl,le1 rfl,le1 rfl,le1 rfl,le1 rfl,le1 rfl,trivial⟩ ⟨rfl,rfl,trivial⟩
   ·rw [if_neg (by rw [ht];decide)] at hst
    refine k5 (k4 (k1 ?_))
    refine A3 (A2 (B9 Z Z (by omega)) Z (A2 (A4 Z Z) Z (A6 ?_)))
    refine k1 ?_
    refine ⟨p+1,by omega,by omega,?_⟩
    rw [hst]
    exact H62 ⟨le1 rfl,le1 rfl,le1 rfl,le1 rfl,le1 rfl,le1 rfl,le1 rfl,le1 rfl,trivial⟩ ⟨rfl,rfl,trivial⟩
  ·have hpn:p=n:=by have:=A1 ht;omega
   subst hpn
   have hst:=hstep p (by omega)
   have hvis:Z4 r (Q6 p p)=!r.Lost:=by unfold Q6 Z4;rw [if_pos rfl,if_pos rfl]
   rw [hvis,G36] at hst
   refine k6 (k2 ?_)
   refine A3 (A2 (A7 Z) Z (A2 (A8 Z Z Z) Z (A2 (K9 Z) Z (A6 ?_))))
   refine k1 ?_
   refine B4 rfl (fun ht=>?_) (fun ht=>?_)
   ·rw [if_pos ht] at hst
    skip
    refine A3 (A2 (A4 Z Z) Z (A2 (A4 Z Z) Z (A2 (E0 Z Z Z (by omega) (by (rw [hlen];omega))) Z ?_)));refine A2 (L9 Z Z hget Z) Z (A2 (B9 Z Z (by omega)) Z (A2 (E0 Z Z Z (by omega) (by (rw [hlen];omega))) Z ?_));refine F6 (G1 TySz.out Z Z (by (rw [hlen];omega)) Z Z) ?_;refine A6 ?_
    refine k4 (k1 ?_)
    refine A3 (A2 (B9 Z Z (by omega)) Z (A2 (A4 Z Z) Z (A6 ?_)))
    refine k1 ?_
    refine ⟨i+1,by omega,by omega,?_⟩
    rw [hst]
    exact H62 ⟨le1 rfl,le1 rfl,le1 rfl,le1 rfl,le1 rfl,trivial⟩ ⟨rfl,trivial⟩
   ·rw [if_neg (by rw [ht];decide)] at hst
    refine k5 (k4 (k1 ?_))
    refine A3 (A2 (B9 Z Z (by omega)) Z (A2 (A4 Z Z) Z (A6 ?_)))
    refine k1 ?_
    refine ⟨i+1,by omega,by omega,?_⟩
    rw [hst]
    exact H62 ⟨le1 rfl,le1 rfl,le1 rfl,le1 rfl,le1 rfl,trivial⟩ ⟨rfl,trivial⟩
 ·have hil:i=rows.length:=by have:=A1 ht;omega
  subst hil
  rw [G37]
  refine k6 (k2 ?_)
  refine A3 (A2 (A4 Z Z) Z (A2 (A5 Z Z) Z (A6 ?_)))
  refine k1 (k10 ?_)
  exact l9 (B83 rfl rfl) (by repeat (first | exact H4 | refine H5 rfl ?_ | refine O8 _ ?_)) (ObIn.spec (ob':=[(720,_)]) ⟨rfl,trivial⟩) ⟨rfl,rfl⟩
theorem G05 (c:Comb) (hn:1≤c.Parents∧c.Parents≤32) (hr:∀h∈c.Hunks,I7 h.Rows) (hz:szC c.Hunks≤268435456):FnOk Tryz.prog 94 [R2 c] (fun rs=>rs=[J5 (V2 c.Parents.toNat c.Hunks)]):=by
 obtain ⟨n,hN⟩:∃n,n=c.Parents.toNat:=⟨_,rfl⟩
 rw [←hN]
 have hzl:=A04 c.Hunks
 refine FnOk.intro Tryz.func94 (by decide) Z Z Z Z ?_
 refine k2 ?_
 refine A3 (C1 (Q4 1 Z Z Z) Z (A2 (A5 Z Z) Z (A6 ?_)))
 refine k1 (k2 (k2 ?_))
 refine A3 (A2 (A7 Z) Z (A2 (A8 Z Z Z) Z (A2 (D4 Z (.pure _ _ _ _)) Z (A2 (A4 Z Z) Z (A6 ?_)))))
 refine k1 (k3 ?_)
 refine C9 (X:=Nat) (fun k=>([(1,.s (.one (.ref 1 0))),(8,C0 CHunk 2 M6 c.Hunks),(9,B7 c.Hunks.length),(10,B7 k)],[(1,A12 c)])) (fun k=>k≤c.Hunks.length∧V2 n c.Hunks=V2 n (c.Hunks.drop k)) (fun k=>c.Hunks.length - k) 0 ⟨Nat.zero_le _,rfl⟩ (H62 ⟨le1 rfl,le1 rfl,le1 rfl,le1 rfl,trivial⟩ ⟨rfl,trivial⟩) ?_
 rintro k ⟨hk,hp⟩
 dsimp only at hk hp ⊢
 refine k2 ?_
 refine A3 (A2 (D8 Z Z) Z (A6 ?_))
 refine k1 (k2 ?_)
 refine B4 rfl (fun ht=>?_) (fun ht=>?_)
 ·have hlt:k < c.Hunks.length:=by have:=A0 ht;omega
  have hv:c.Hunks[k]?=some c.Hunks[k]:=by simp [hlt]
  have hrw:=hr _ (I07 hlt)
  have hzm:=A68 (I07 hlt)
  rw [I01 hlt] at hp
  obtain ⟨h,hx⟩:∃x,x=c.Hunks[k]:=⟨_,rfl⟩
  rw [←hx] at hv hrw hp hzm
  have hz1:=R7 h.Rows
  unfold A88 at hzm
  have hp:V2 n c.Hunks=(L6 h.Rows n&&V2 n (c.Hunks.drop (k+1))):=hp
  refine k5 (k1 (k2 (k3 (k2 ?_))))
  refine A3 (A2 (B0 Z (.pure _ _ _ _) Z (by omega) hv) Z (A2 (E8 Z Z) Z (C1 (G3 4 Z) Z (F6 (B8 TySz.out Z Z Z Z Z Z) (A6 ?_)))))
  refine k1 (k2 ?_)
  refine A3 (A2 (A7 Z) Z (A2 (A8 Z Z Z) Z (A2 (D4 Z (.pure _ _ _ _)) Z (A2 (A4 Z Z) Z (A6 ?_)))))
  refine k1 (k3 ?_)
  refine C9 (X:=Nat) (fun j=>([(1,.s (.one (.ref 1 0))),(8,C0 CHunk 2 M6 c.Hunks),(9,B7 c.Hunks.length),(10,B7 k),(15,C0 Row 3 rowC h.Rows),(16,B7 h.Rows.length),(17,B7 j)],[(1,A12 c)])) (fun j=>j≤h.Rows.length∧L6 h.Rows n=L6 (h.Rows.drop j) n) (fun j=>h.Rows.length - j) 0 ⟨Nat.zero_le _,rfl⟩ (H62 ⟨le1 rfl,le1 rfl,le1 rfl,le1 rfl,le1 rfl,le1 rfl,le1 rfl,trivial⟩ ⟨rfl,trivial⟩) ?_
  rintro j ⟨hj,hq⟩
  dsimp only at hj hq ⊢
  refine k2 ?_
  refine A3 (A2 (D8 Z Z) Z (A6 ?_))
  refine k1 (k2 ?_)
  refine B4 rfl (fun ht=>?_) (fun ht=>?_)
  ·have hlt2:j < h.Rows.length:=by have:=A0 ht;omega
   have hv2:h.Rows[j]?=some h.Rows[j]:=by simp [hlt2]
   have hm:=hrw _ (I07 hlt2)
   rw [I01 hlt2,A50] at hq
   obtain ⟨r,hy⟩:∃x,x=h.Rows[j]:=⟨_,rfl⟩
   rw [←hy] at hv2 hm hq
   have hw:=D28 r c.Parents hn hm
   rw [←hN] at hw
   refine k5 (k1 (k2 (k3 (k2 ?_))))
   refine A3 (A2 (B0 Z (.pure _ _ _ _) Z (by omega) hv2) Z (A2 (E8 Z Z) Z (C1 (G3 6 Z) Z (F6 (B8 TySz.out Z Z Z Z Z Z) (A6 ?_)))))
   refine k1 (k2 ?_)
   refine A3 (A2 (D2 Z Z Z) Z (A2 (A7 Z) Z (A2 (A8 Z Z Z) Z (C3 (hw) Z Z Z ?_))));rintro _ rfl;refine A2 (K9 Z) Z (A6 ?_)
   refine k1 ?_
   refine B4 rfl (fun ht=>?_) (fun ht=>?_)
   ·have h2:X9 n r=false:=by simpa using ht
    rw [h2,Bool.false_and] at hq
    rw [hq,Bool.false_and] at hp
    refine k2 ?_
    refine A3 (A2 (A5 Z Z) Z (A6 ?_))
    refine k1 (k10 (k12 (k11 (k11 (k12 (k12 (k11 (k11 (k12 (k11 ?_))))))))))
    exact B5 (F2 rfl rfl rfl) (by rw [hp])
   ·have h2:X9 n r=true:=by simpa using ht
    rw [h2,Bool.true_and] at hq
    refine k5 (k4 (k1 ?_))
    refine A3 (A2 (B9 Z Z (by omega)) Z (A2 (A4 Z Z) Z (A6 ?_)))
    refine k1 ?_
    exact ⟨j+1,⟨by omega,hq⟩,by omega,H62 ⟨le1 rfl,le1 rfl,le1 rfl,le1 rfl,le1 rfl,le1 rfl,le1 rfl,trivial⟩ ⟨rfl,trivial⟩⟩
  ·have hjl:j=h.Rows.length:=by have:=A1 ht;omega
   rw [hjl,I02 (Nat.le_refl _)] at hq
   have hq:L6 h.Rows n=true:=hq
   rw [hq,Bool.true_and] at hp
   refine k6 (k7 (k7 (k8 Z (k4 (k1 ?_)))))
   refine A3 (A2 (B9 Z Z (by omega)) Z (A2 (A4 Z Z) Z (A6 ?_)))
   refine k1 ?_
   exact ⟨k+1,⟨by omega,hp⟩,by omega,H62 ⟨le1 rfl,le1 rfl,le1 rfl,le1 rfl,trivial⟩ ⟨rfl,trivial⟩⟩
 ·have hkl:k=c.Hunks.length:=by have:=A1 ht;omega
  rw [hkl,I02 (Nat.le_refl _)] at hp
  refine k6 (k2 ?_)
  refine A3 (A2 (A5 Z Z) Z (A6 ?_))
  refine k1 (k10 ?_)
  exact B5 (F2 rfl rfl rfl) (by rw [hp];rfl)
theorem F35 (h:CHunk) (n:Nat) (ends:List Int) (hn:n≤32) (hr:I7 h.Rows) (hl:h.Rows.length≤268435456) (he:ends.length=n+1) (he0:∀e∈ends,0≤e) :
  FnOk Tryz.prog 170 [A65 h,G8 n,L8 ends] (fun rs=>rs=if W5 n ends h=true then [L8 (T4 n h),J5 true] else [L8 [],J5 false]):=by
 have hnot:∀{Q:Prop},(W5 n ends h=true→False)→(if W5 n ends h=true then [L8 (T4 n h),J5 true] else [L8 [],J5 false])=[L8 [],J5 false]:=fun hq=>if_neg hq
 have hF:=C75 n ends h
 refine FnOk.intro Tryz.func170 (by decide) Z Z Z Z ?_
 refine k2 ?_
 refine A3 (C1 (Q4 3 Z Z Z) Z (A2 (A5 Z Z) Z (A2 (A5 Z Z) Z (A6 ?_))))
 refine k1 (k2 (k2 ?_))
 refine A3 (A2 (A7 Z) Z (A2 (A8 Z Z Z) Z (A2 (D4 Z (.pure _ _ _ _)) Z (A2 (A4 Z Z) Z (A2 (B9 Z Z (by omega)) Z (A2 (O3 Z Z) Z (A2 (A4 Z Z) Z (B1 Z Z Z Z (fun hg=>by rw [hg];exact A7 Z) ?_))))))));refine B1 Z Z Z Z (fun hg=>by rw [hg];exact A8 Z Z Z) ?_;refine B1 Z Z Z Z (fun hg=>by rw [hg];exact D4 Z (.pure _ _ _ _)) ?_;refine B1 Z Z Z Z (fun hg=>by rw [hg];exact K1 Z Z) ?_;refine A2 (B6 Z (fun h=>by first | rfl | (rw [h];rfl)) (fun h=>by first | rfl | (rw [h];rfl))) Z ?_;refine A6 ?_
 refine k1 ?_
 refine B4 rfl (fun ht=>?_) (fun ht=>?_)
 ·have h1:=A0 (or_pick.symm.trans ht)
  refine k2 ?_
  refine A3 (A2 (O4 _ 1 F5) Z (A2 (A5 Z Z) Z (A6 ?_)))
  refine k1 (k10 (k11 ?_))
  refine B5 (rs:=[L8 [],J5 false]) (A20 Z Z Z Z Z) ?_
  rw [if_neg]
  intro hq
  have h2:=(hF.1 hq).1
  rcases h1 with h1 | h1
  ·omega
  ·exact h2.2 (List.length_eq_zero_iff.1 (by omega))
 ·have h1:=A1 (or_pick.symm.trans ht)
  simp only [not_or,Decidable.not_not] at h1
  have hal:h.At.length=n+1:=by omega
  have hne:h.Rows≠[]:=fun e=>h1.2 (by rw [e];rfl)
  refine L1 [(1,B7 n),(2,C0 Int 1 F5 ends),(3,.s (.one (.ref 3 0)))] [(3,.box (A65 h).s1.cells)] (H62 ⟨le1 rfl,le1 rfl,le1 rfl,trivial⟩ ⟨rfl,trivial⟩) ?_
  refine k5 (k1 (k2 ?_))
  refine A3 (A2 (A7 Z) Z (A2 (A8 Z Z Z) Z (A2 (A4 Z Z) Z (l_new (B06 h.Rows n hn hr hl) Z Z Z Z ?_))));rintro _ _ ⟨rfl,rfl⟩;refine ⟨rfl,?_⟩;refine A2 (A5 Z Z) Z (A6 ?_)
  refine k1 (k2 (k2 ?_))
  refine A3 (A2 (A7 Z) Z (A2 (A8 Z Z Z) Z (A2 (D4 Z (.pure _ _ _ _)) Z (A2 (A4 Z Z) Z (A6 ?_)))))
  refine k1 (k3 ?_)
  refine C9 (X:=Nat) (fun k=>([(2,C0 Int 1 F5 ends),(8,.s (.one (.mut 720))),(28,C0 Int 1 F5 h.At),(29,B7 h.At.length),(30,B7 k)],[(720,.arr Int 1 F5 (s8 n h k))])) (fun k=>k≤h.At.length∧∀j,j < k→ends.getD j 0≤h.At.getD j 0∧h.At.getD j 0≤4096) (fun k=>h.At.length - k) 0 ⟨Nat.zero_le _,fun j hj=>by omega⟩ (by rw [F75];exact H62 ⟨le1 rfl,le1 rfl,le1 rfl,le1 rfl,le1 rfl,trivial⟩ ⟨rfl,trivial⟩) ?_
  rintro k ⟨hk,hp⟩
  dsimp only at hk hp ⊢
  have hlen:=G40 n h k
  refine k2 ?_
  refine A3 (A2 (D8 Z Z) Z (A6 ?_))
  refine k1 (k2 ?_)
  refine B4 rfl (fun ht=>?_) (fun ht=>?_)
  ·have hlt:k < h.At.length:=by have:=A0 ht;omega
   have hv:=D63 hlt
   have hve:=D63 (l:=ends) (i:=k) (by omega)
   have hget:=G41 n h k (by omega)
   have hset:=G42 n h k
   have hek:0≤ends.getD k 0:=he0 _ (I12 hve)
   have hcl:=B68 h.Rows n k
   obtain ⟨a,ha⟩:∃a,a=h.At.getD k 0:=⟨_,rfl⟩
   obtain ⟨e,hee⟩:∃e,e=ends.getD k 0:=⟨_,rfl⟩
   obtain ⟨q,hqq⟩:∃q,q=L7 h.Rows n k:=⟨_,rfl⟩
   rw [←ha] at hv hset
   rw [←hee] at hve hek
   rw [←hqq] at hget hset hcl
   refine k5 (k1 (k2 (k3 (k2 ?_))))
   refine A3 (A2 (A4 Z Z) Z (A2 (B0 Z (.pure _ _ _ _) Z (by omega) hv) Z (A2 (B2 Z Z) Z (A2 (A5 Z Z) Z (A2 (A5 Z Z) Z (A6 ?_))))))
   refine k1 (k2 (k2 ?_))
   refine A3 (A2 (A4 Z Z) Z (A2 (A4 Z Z) Z (A2 (A4 Z Z) Z (A2 (B0 Z (.pure _ _ _ _) Z (by omega) hve) Z (A2 (B2 Z Z) Z (A2 (D8 Z Z) Z (A2 (A4 Z Z) Z (B1 Z Z Z Z (fun hg=>by rw [hg];exact A4 Z Z) ?_))))))));refine B1 Z Z Z Z (fun hg=>by rw [hg];exact M7 Z Z) ?_;refine A2 (B6 Z (fun h=>by first | rfl | (rw [h];rfl)) (fun h=>by first | rfl | (rw [h];rfl))) Z ?_;refine A6 ?_
   refine k1 ?_
   refine B4 rfl (fun ht=>?_) (fun ht=>?_)
   ·have h2:=A0 (or_pick.symm.trans ht)
    refine k2 ?_
    refine A3 (A2 (O4 _ 1 F5) Z (A2 (A5 Z Z) Z (A6 ?_)))
    refine k1 (k10 (k11 (k12 (k11 (k11 (k12 (k11 ?_)))))))
    refine B5 (rs:=[L8 [],J5 false]) (A20 Z Z Z Z Z) ?_
    rw [if_neg]
    intro hq
    have h3:=(hF.1 hq).2 k (by omega)
    rw [←ha,←hee] at h3
    omega
   ·have h2:=A1 (or_pick.symm.trans ht)
    have h3:e≤a∧a≤4096:=by omega
    refine k5 (k1 ?_)
    refine A3 (A2 (A4 Z Z) Z (A2 (A4 Z Z) Z (A2 (E0 Z Z Z (by omega) (by (rw [hlen];omega))) Z ?_)));refine A2 (L9 Z Z hget Z) Z (A2 (A4 Z Z) Z (A2 (B9 Z Z (by omega)) Z (A2 (E0 Z Z Z (by omega) (by (rw [hlen];omega))) Z ?_)));refine F6 (G1 TySz.out Z Z (by (rw [hlen];omega)) Z Z) ?_;refine A6 ?_
    refine k4 (k1 ?_)
    refine A3 (A2 (B9 Z Z (by omega)) Z (A2 (A4 Z Z) Z (A6 ?_)))
    refine k1 ?_
    refine ⟨k+1,⟨by omega,fun j hj=>?_⟩,by omega,?_⟩
    ·by_cases e1:j=k
     ·subst e1;rw [←ha,←hee];exact h3
     ·exact hp j (by omega)
    ·rw [←hset]
     exact H62 ⟨le1 rfl,le1 rfl,le1 rfl,le1 rfl,le1 rfl,trivial⟩ ⟨rfl,trivial⟩
  ·have hkl:k=n+1:=by have:=A1 ht;omega
   subst hkl
   rw [F76]
   have hq:W5 n ends h=true:=hF.2 ⟨⟨hal,hne⟩,hp⟩
   refine G4 (Sees.freeze (k:=720) Z) ?_
   refine k6 (k2 ?_)
   refine A3 (A2 (A4 Z Z) Z (A2 (A5 Z Z) Z (A2 (A5 Z Z) Z (A6 ?_))))
   refine k1 (k10 ?_)
   exact B5 (rs:=[L8 (T4 n h),J5 true]) (A20 rfl rfl rfl rfl rfl) (by rw [if_pos hq])
theorem smax_ok (l:List Int) (hl:0 < l.length):FnOk Tryz.prog 173 [L8 l] (fun rs=>∃m,rs=[G8 m]∧∀b,m≤b↔∀e∈l,e≤b):=by
 refine FnOk.intro Tryz.func173 (by decide) Z Z Z Z ?_
 refine y4 (t:=0) rfl (.pure _ _ _ _) fun hb=>?_
 refine k2 ?_
 refine A3 (A2 (A5 Z Z) Z (A6 ?_))
 refine k1 (k2 (k2 ?_))
 refine A3 (A2 (A4 Z Z) Z (A2 (D4 Z (.pure _ _ _ _)) Z (A2 (D8 Z Z) Z (A6 ?_))))
 refine k1 ?_
 refine B4 rfl (fun ht=>?_) (fun ht=>?_)
 ·exact absurd (A0 ht) (by omega)
 refine k5 (k1 (k2 ?_))
 refine A3 (A2 (A4 Z Z) Z (A2 (B0 Z (.pure _ _ _ _) Z (by omega) (D63 (l:=l) (i:=0) hl)) Z (A2 (B2 Z Z) Z (A2 (A5 Z Z) Z (A6 ?_)))))
 refine k1 (k2 (k2 ?_))
 refine A3 (A2 (A5 Z Z) Z (A6 ?_))
 refine k1 (k3 ?_)
 refine C9 (X:=Nat × Int) (fun x=>([(0,C0 Int 1 F5 l),(3,B7 x.2),(4,B7 x.1)],[])) (fun x=>(1≤x.1∧x.1≤l.length)∧∀b,x.2≤b↔∀e∈l.take x.1,e≤b) (fun x=>l.length - x.1) (1,l.getD 0 0) ⟨⟨Nat.le_refl _,hl⟩,?_⟩ (H62 ⟨le1 rfl,le1 rfl,le1 rfl,trivial⟩ trivial) ?_
 ·intro b
  have:l.take 1=[l.getD 0 0]:=by
   cases l with
   | nil=>cases hl
   | cons x r=>rfl
  dsimp only
  rw [this];simp
 rintro ⟨k,m⟩ ⟨⟨hk1,hk⟩,hp⟩
 dsimp only at hk1 hk hp ⊢
 refine k2 (k2 ?_)
 refine A3 (A2 (A4 Z Z) Z (A2 (A4 Z Z) Z (A2 (D4 Z (.pure _ _ _ _)) Z (A2 (D8 Z Z) Z (A6 ?_)))))
 refine k1 ?_
 refine B4 rfl (fun ht=>?_) (fun ht=>?_)
 ·have hlt:k < l.length:=by have:=A0 ht;omega
  have hv:=D63 hlt
  refine k5 (k1 (k2 (k3 ?_)))
  refine A3 (A2 (A4 Z Z) Z (A2 (A4 Z Z) Z (A2 (A4 Z Z) Z (A2 (B0 Z (.pure _ _ _ _) Z (by omega) hv) Z (A2 (B2 Z Z) Z (A2 (n_max Z Z) Z (A2 (A5 Z Z) Z (A6 ?_))))))))
  refine k4 (k1 ?_)
  refine A3 (A2 (A4 Z Z) Z (A2 (B9 Z Z (by omega)) Z (A2 (A5 Z Z) Z (A6 ?_))))
  refine k1 ?_
  refine ⟨(k+1,if m < l.getD k 0 then l.getD k 0 else m),⟨⟨by dsimp only;omega,by dsimp only;omega⟩,?_⟩,by dsimp only;omega,H62 ⟨le1 rfl,le1 rfl,le1 rfl,trivial⟩ trivial⟩
  intro b
  dsimp only
  have e:l.take (k+1)=l.take k++[l.getD k 0]:=by
   rw [I04 hlt,I00,H97 hlt];rfl
  have h1:=hp b
  rw [e]
  constructor
  ·intro h x hx
   rcases List.mem_append.1 hx with hx | hx
   ·exact h1.1 (by omega) x hx
   ·simp only [List.mem_cons,List.not_mem_nil,or_false] at hx
    rw [hx];omega
  ·intro h
   have h2:=h1.2 (fun x hx=>h x (List.mem_append.2 (.inl hx)))
   have h3:=h (l.getD k 0) (List.mem_append.2 (.inr (by simp)))
   omega
 ·have hkl:k=l.length:=by have:=A1 ht;omega
  subst hkl
  rw [I16] at hp
  refine k6 (k2 ?_)
  refine A3 (A2 (A4 Z Z) Z (A2 (A5 Z Z) Z (A6 ?_)))
  refine k1 (k10 ?_)
  exact B5 (F2 rfl rfl rfl) ⟨m,rfl,hp⟩
theorem H45 (c:Comb) (hn:1≤c.Parents∧c.Parents≤32) (hr:∀h∈c.Hunks,I7 h.Rows) (hz:szC c.Hunks≤268435456) :
  FnOk Tryz.prog 95 [R2 c] (fun rs=>rs=[J5 (j8 c.Parents.toNat (List.replicate (c.Parents.toNat+1) 0) false 0 c.Hunks)]):=by
 obtain ⟨n,hN⟩:∃n,n=c.Parents.toNat:=⟨_,rfl⟩
 have hNc:c.Parents=(n:Int):=by omega
 rw [←hN]
 have e0:(c.Parents+1).toNat=n+1:=by omega
 have hzl:=A04 c.Hunks
 obtain ⟨W,hW⟩:∃W,W=j8 n (List.replicate (n+1) 0) false 0 c.Hunks:=⟨_,rfl⟩
 rw [←hW]
 refine FnOk.intro Tryz.func95 (by decide) Z Z Z Z ?_
 refine k2 ?_
 refine A3 (C1 (Q4 1 Z Z Z) Z (A2 (A5 Z Z) Z (A6 ?_)))
 refine k1 (k2 ?_)
 refine A3 (C1 (G3 3 Z) Z (A6 ?_))
 refine k1 (k2 ?_)
 refine A3 (A2 (A7 Z) Z (A2 (A8 Z Z Z) Z (A2 (B9 Z Z (by omega)) Z (C1 (V3 720 Int F5 0 Z Z (by omega) (by omega) (fun _=>by first | exact ⟨⟨rfl,rfl⟩,trivial⟩ | exact ⟨M9 _ _ _,trivial⟩) (by first | rfl | (simp [F9,H0,Ob.free,SV.free,S1.free,TC.free]<;>rfl))) Z ?_))));refine A2 (A5 Z Z) Z (A6 ?_)
 rw [e0]
 refine k1 (k2 (k2 ?_))
 refine G4 (Sees.freeze (k:=720) Z) ?_
 refine A3 (A2 (A7 Z) Z (A2 (A8 Z Z Z) Z (A2 (D4 Z (.pure _ _ _ _)) Z (A2 (A4 Z Z) Z (A6 ?_)))))
 refine k1 (k3 ?_)
 refine C9 (X:=Nat × List Int × Bool × Int) (fun x=>([(1,.s (.one (.ref 1 0))),(3,.s (.one (.ref 3 0))),(4,C0 Int 1 F5 x.2.1),(15,C0 CHunk 2 M6 c.Hunks),(16,B7 c.Hunks.length),(17,B7 x.1)],[(1,A12 c),(3,.box [.p (.v (.bool x.2.2.1)),.p (.v (.int .u32 x.2.2.2))])])) (fun x=>x.1≤c.Hunks.length∧x.2.1.length=n+1∧(∀e∈x.2.1,0≤e)∧W=j8 n x.2.1 x.2.2.1 x.2.2.2 (c.Hunks.drop x.1)) (fun x=>c.Hunks.length - x.1) (0,List.replicate (n+1) 0,false,0) ⟨Nat.zero_le _,by simp,fun e he=>by have:=(List.mem_replicate.1 he).2;omega,hW⟩ (H62 ⟨le1 rfl,le1 rfl,le1 rfl,le1 rfl,le1 rfl,le1 rfl,trivial⟩ ⟨rfl,rfl,trivial⟩) ?_
 rintro ⟨k,ends,res,par⟩ ⟨hk,hel,he0,hp⟩
 dsimp only at hk hel he0 hp ⊢
 refine k2 ?_
 refine A3 (A2 (D8 Z Z) Z (A6 ?_))
 refine k1 (k2 ?_)
 refine B4 rfl (fun ht=>?_) (fun ht=>?_)
 ·have hlt:k < c.Hunks.length:=by have:=A0 ht;omega
  have hv:c.Hunks[k]?=some c.Hunks[k]:=by simp [hlt]
  have hmem:=I07 hlt
  have hrw:=hr _ hmem
  have hzm:=A68 hmem
  rw [I01 hlt,j8] at hp
  obtain ⟨h,hx⟩:∃x,x=c.Hunks[k]:=⟨_,rfl⟩
  rw [←hx] at hv hrw hzm hp
  have hz1:=R7 h.Rows
  have hz2:=A67 h.Rows
  unfold A88 at hzm
  have hf:=F35 h n ends (by omega) hrw (by omega) hel he0
  rw [←hNc] at hf
  refine k5 (k1 (k2 (k3 (k2 ?_))))
  refine A3 (A2 (B0 Z (.pure _ _ _ _) Z (by omega) hv) Z (A2 (E8 Z Z) Z (C1 (G3 6 Z) Z (F6 (B8 TySz.out Z Z Z Z Z Z) (A6 ?_)))))
  refine k1 (k2 ?_)
  refine A3 (A2 (A5 Z Z) Z (A6 ?_))
  refine k1 (k2 (k2 ?_))
  cases hfb:W5 n ends h with
  | false =>
   rw [hfb,if_neg (by decide)] at hf
   rw [hfb,Bool.false_and] at hp
   refine A3 (A2 (D2 Z Z Z) Z (A2 (A7 Z) Z (A2 (A8 Z Z Z) Z (A2 (A4 Z Z) Z (C3 (hf) Z Z Z ?_)))));rintro _ rfl;refine A2 (A4 Z Z) Z (A2 (D5 Z Z) Z (A2 (D5 Z Z) Z (A2 (A5 Z Z) Z (A2 (A5 Z Z) Z (A6 ?_)))))
   refine k1 (k2 ?_)
   refine A3 (A2 (A4 Z Z) Z (A2 (K9 Z) Z (A6 ?_)))
   refine k1 ?_
   refine B4 rfl (fun ht=>?_) (fun ht=>?_)
   ·refine k2 ?_
    refine A3 (A2 (A5 Z Z) Z (A6 ?_))
    refine k1 (k10 (k11 (k12 (k11 (k11 (k12 (k11 ?_)))))))
    exact B5 (F2 rfl rfl rfl) (by rw [hp])
   ·cases ht
  | true =>
   rw [hfb,if_pos rfl] at hf
   rw [hfb,Bool.true_and] at hp
   have hpos:∀e∈T4 n h,0≤e:=by
    intro e hm
    obtain ⟨j,hj,rfl⟩:=List.mem_map.1 hm
    have hj:=List.mem_range.1 hj
    have h1:=((C75 n ends h).1 hfb).2 j hj
    have h2:=he0 _ (I12 (D63 (l:=ends) (i:=j) (by omega)))
    have h3:=B68 h.Rows n j
    omega
   refine A3 (A2 (D2 Z Z Z) Z (A2 (A7 Z) Z (A2 (A8 Z Z Z) Z (A2 (A4 Z Z) Z (C3 (hf) Z Z Z ?_)))));rintro _ rfl;refine A2 (A4 Z Z) Z (A2 (D5 Z Z) Z (A2 (D5 Z Z) Z (A2 (A5 Z Z) Z (A2 (A5 Z Z) Z (A6 ?_)))))
   refine k1 (k2 ?_)
   refine A3 (A2 (A4 Z Z) Z (A2 (K9 Z) Z (A6 ?_)))
   refine k1 ?_
   refine B4 rfl (fun ht=>?_) (fun ht=>?_)
   ·cases ht
   refine k5 (k1 (k2 ?_))
   refine A3 (A2 (A7 Z) Z (A2 (A8 Z Z Z) Z (A2 (D4 Z (.pure _ _ _ _)) Z (A2 (A4 Z Z) Z (A6 ?_)))))
   refine k1 (k3 ?_)
   refine C9 (X:=Nat × Bool × Int) (fun x=>([(1,.s (.one (.ref 1 0))),(3,.s (.one (.ref 3 0))),(4,C0 Int 1 F5 (T4 n h)),(15,C0 CHunk 2 M6 c.Hunks),(16,B7 c.Hunks.length),(17,B7 k),(32,C0 Row 3 rowC h.Rows),(33,B7 h.Rows.length),(34,B7 x.1)],[(1,A12 c),(3,.box [.p (.v (.bool x.2.1)),.p (.v (.int .u32 x.2.2))])])) (fun x=>x.1≤h.Rows.length∧Q0 res par h.Rows=Q0 x.2.1 x.2.2 (h.Rows.drop x.1)∧j6 res h.Rows=j6 x.2.1 (h.Rows.drop x.1)∧j7 par h.Rows=j7 x.2.2 (h.Rows.drop x.1)) (fun x=>h.Rows.length - x.1) (0,res,par) ⟨Nat.zero_le _,rfl,rfl,rfl⟩ (H62 ⟨le1 rfl,le1 rfl,le1 rfl,le1 rfl,le1 rfl,le1 rfl,le1 rfl,le1 rfl,le1 rfl,trivial⟩ ⟨rfl,rfl,trivial⟩) ?_
   rintro ⟨j,res',par'⟩ ⟨hj,q1,q2,q3⟩
   dsimp only at hj q1 q2 q3 ⊢
   refine k2 ?_
   refine A3 (A2 (D8 Z Z) Z (A6 ?_))
   refine k1 (k2 ?_)
   refine B4 rfl (fun ht=>?_) (fun ht=>?_)
   ·have hlt2:j < h.Rows.length:=by have:=A0 ht;omega
    have hv2:h.Rows[j]?=some h.Rows[j]:=by simp [hlt2]
    have htl:=B99 h.Rows _ (I07 hlt2)
    rw [I01 hlt2] at q1 q2 q3
    rw [Q0] at q1
    obtain ⟨r,hy⟩:∃x,x=h.Rows[j]:=⟨_,rfl⟩
    rw [←hy] at hv2 htl q1 q2 q3
    refine k5 (k1 (k2 (k3 (k2 ?_))))
    refine A3 (A2 (B0 Z (.pure _ _ _ _) Z (by omega) hv2) Z (A2 (E8 Z Z) Z (C1 (G3 9 Z) Z (F6 (B8 TySz.out Z Z Z Z Z Z) (A6 ?_)))))
    refine k1 (k2 ?_)
    by_cases hs:J3 r.Text=true
    ·refine A3 (A2 (D2 Z Z Z) Z (C3 (A43 r (by omega)) Z Z Z ?_));rintro _ rfl;refine A2 (K9 Z) Z (A2 (A4 Z Z) Z (s9 Z Z Z (by rw [hs];rfl) ?_));refine A2 (D2 Z Z Z) Z (s9 Z Z Z (by rw [hs];rfl) ?_);refine F06 (G58 r res' par' (by omega)) Z Z Z Z Z Z ?_;rintro _ _ ⟨rfl,rfl⟩;refine B1 Z Z Z Z (fun hg=>by rw [hg];exact K9 Z) ?_;refine A2 (B6 Z (fun h=>by first | rfl | (rw [h];rfl)) (fun h=>by first | rfl | (rw [h];rfl))) Z ?_;refine A6 ?_
     refine k1 ?_
     refine B4 rfl (fun ht=>?_) (fun ht=>?_)
     ·have h2:B47 res' par' r=false:=by rw [hs] at ht;simpa using ht
      rw [hs,h2,Bool.true_and,Bool.false_and] at q1
      rw [q1,Bool.false_and] at hp
      refine k2 ?_
      refine A3 (A2 (A5 Z Z) Z (A6 ?_))
      refine k1 (k10 (k12 (k11 (k11 (k12 (k12 (k11 (k11 (k12 (k11 ?_))))))))))
      exact B5 (F2 rfl rfl rfl) (by rw [hp])
     ·have h2:B47 res' par' r=true:=by rw [hs] at ht;simpa using ht
      rw [hs,h2,Bool.true_and,Bool.true_and] at q1
      refine k5 (k4 (k1 ?_))
      refine A3 (A2 (B9 Z Z (by omega)) Z (A2 (A4 Z Z) Z (A6 ?_)))
      refine k1 ?_
      exact ⟨(j+1,_,_),⟨by dsimp only;omega,q1,q2,q3⟩,by dsimp only;omega,H62 ⟨le1 rfl,le1 rfl,le1 rfl,le1 rfl,le1 rfl,le1 rfl,le1 rfl,le1 rfl,le1 rfl,trivial⟩ ⟨rfl,rfl,trivial⟩⟩
    ·have hs':J3 r.Text=false:=by simpa using hs
     refine A3 (A2 (D2 Z Z Z) Z (C3 (A43 r (by omega)) Z Z Z ?_));rintro _ rfl;refine A2 (K9 Z) Z (A2 (A4 Z Z) Z (B1 Z Z Z Z (fun hg=>by rw [hg];exact D2 Z Z Z) ?_));refine X5 Z Z Z (by rw [hs'];decide) Z ?_;refine X5 Z Z Z (by rw [hs'];decide) Z ?_;refine A2 (B6 (q:=true) Z (fun h=>rfl) (fun h=>by rw [hs'] at h;cases h)) Z ?_;refine A6 ?_
     rw [hs',Bool.false_and,Bool.false_and] at q1
     rw [q1,Bool.false_and] at hp
     refine k1 ?_
     refine B4 rfl (fun ht=>?_) (fun ht=>?_)
     ·refine k2 ?_
      refine A3 (A2 (A5 Z Z) Z (A6 ?_))
      refine k1 (k10 (k12 (k11 (k11 (k12 (k12 (k11 (k11 (k12 (k11 ?_))))))))))
      exact B5 (F2 rfl rfl rfl) (by rw [hp])
     ·rw [hs'] at ht;cases ht
   ·have hjl:j=h.Rows.length:=by have:=A1 ht;omega
    rw [hjl,I02 (Nat.le_refl _)] at q1 q2 q3
    have q1:Q0 res par h.Rows=true:=q1
    have q2:j6 res h.Rows=res':=q2
    have q3:j7 par h.Rows=par':=q3
    rw [q1,q2,q3,Bool.true_and] at hp
    refine k6 (k7 (k7 (k8 Z (k4 (k1 ?_)))))
    refine A3 (A2 (B9 Z Z (by omega)) Z (A2 (A4 Z Z) Z (A6 ?_)))
    refine k1 ?_
    exact ⟨(k+1,_,_,_),⟨by dsimp only;omega,A66 n h,hpos,hp⟩,by dsimp only;omega,H62 ⟨le1 rfl,le1 rfl,le1 rfl,le1 rfl,le1 rfl,le1 rfl,trivial⟩ ⟨rfl,rfl,trivial⟩⟩
 ·have hkl:k=c.Hunks.length:=by have:=A1 ht;omega
  rw [hkl,I02 (Nat.le_refl _)] at hp
  have hp:W=decide (∀e∈ends,e≤4096):=hp
  refine k6 (k2 ?_)
  refine A3 (A2 (A4 Z Z) Z (C3 (smax_ok ends (by omega)) Z Z Z ?_));rintro _ ⟨m,rfl,hm⟩;refine A2 (c6 Z Z) Z (A2 (A5 Z Z) Z (A6 ?_))
  refine k1 (k10 ?_)
  exact B5 (F2 rfl rfl rfl) (by rw [hp];simp only [hm 4096])
theorem C29 (s:Str):FnOk Tryz.prog 93 [L4 s] (fun rs=>rs=[J5 (S7 s)]):=by
 refine FnOk.intro Tryz.func93 (by decide) Z Z Z Z ?_
 refine k2 ?_
 refine A3 (A2 (A5 Z Z) Z (A6 ?_))
 refine k1 (k2 ?_)
 refine A3 (A2 (A4 Z Z) Z (A2 (L0 Z) Z (A2 (A18 Z Z) Z (A2 (A4 Z Z) Z (B1 Z Z Z Z (fun hg=>by rw [hg];exact A4 Z Z) ?_)))));refine B1 Z Z Z Z (fun hg=>by rw [hg];exact L0 Z) ?_;refine B1 Z Z Z Z (fun hg=>by rw [hg];exact c6 Z Z) ?_;refine A2 (B6 Z (fun h=>by first | rfl | (rw [h];rfl)) (fun h=>by first | rfl | (rw [h];rfl))) Z ?_;refine A2 (A5 Z Z) Z (A6 ?_)
 refine k1 (k10 ?_)
 refine B5 (F2 Z Z Z) ?_
 rw [O0]
 unfold S7
 congr 4
 apply decide_eq_decide.2
 omega
theorem E24 (c:Comb) (hp:c.Path.length≤16777216):FnOk Tryz.prog 89 [R2 c] (fun rs=>rs=[L4 (A70 c)]):=by
 have hq:=B70 c.Path
 have hf:=E97 c.Parents
 refine FnOk.intro Tryz.func89 (by decide) Z Z Z Z ?_
 refine k2 ?_
 refine A3 (C1 (Q4 1 Z Z Z) Z (A2 (A5 Z Z) Z (A6 ?_)))
 refine k1 (k2 ?_)
 refine A3 (A2 (A5 Z Z) Z (A6 ?_))
 refine k1 (k2 (k2 ?_))
 refine A3 (A2 (A7 Z) Z (A2 (A8 Z Z Z) Z (A6 ?_)))
 refine k1 ?_
 refine B4 rfl (fun ht=>?_) (fun ht=>?_)
 ·have hd:c.Dense=true:=ht
  skip
  refine A3 (A2 (A5 Z Z) Z (A6 ?_))
  refine k1 (k2 ?_)
  refine C6 (by kernel_rfl) (by kernel_rfl) (A9 (A4 Z Z) Z Z (A9 (F0 Z Z (by (simp only [H95,H96,H98];omega))) Z Z (A9 (F0 Z Z (by (simp only [H95,H96,H98];omega))) Z Z (A9 (A7 Z) Z Z (A9 (A8 Z Z Z) Z Z (A9 (H6 (E20 c.Path (by omega)) Z Z) Z Z (A9 (F0 Z Z (by (simp only [H95,H96,H98];omega))) Z Z (A9 (F0 Z Z (by (simp only [H95,H96,H98];omega))) Z Z (A9 (A7 Z) Z Z (A9 (A8 Z Z Z) Z Z (A9 (H6 (l7 c.Parents) Z Z) Z Z (A9 (F0 Z Z (by (simp only [H95,H96,H98];omega))) Z Z (A9 (F0 Z Z (by (simp only [H95,H96,H98];omega))) Z Z (A9 (A5 Z Z) Z Z (K0 ?_)))))))))))))))
  refine k1 (k10 ?_)
  exact B5 (F2 rfl rfl rfl) (by unfold A70 A82;rw [if_pos hd];simp [ccS,parS])
 ·have hd:c.Dense=false:=ht
  refine k5 (k1 (k2 ?_))
  refine C6 (by kernel_rfl) (by kernel_rfl) (A9 (A4 Z Z) Z Z (A9 (F0 Z Z (by (simp only [H95,H96,H98];omega))) Z Z (A9 (F0 Z Z (by (simp only [H95,H96,H98];omega))) Z Z (A9 (A7 Z) Z Z (A9 (A8 Z Z Z) Z Z (A9 (H6 (E20 c.Path (by omega)) Z Z) Z Z (A9 (F0 Z Z (by (simp only [H95,H96,H98];omega))) Z Z (A9 (F0 Z Z (by (simp only [H95,H96,H98];omega))) Z Z (A9 (A7 Z) Z Z (A9 (A8 Z Z Z) Z Z (A9 (H6 (l7 c.Parents) Z Z) Z Z (A9 (F0 Z Z (by (simp only [H95,H96,H98];omega))) Z Z (A9 (F0 Z Z (by (simp only [H95,H96,H98];omega))) Z Z (A9 (A5 Z Z) Z Z (K0 ?_)))))))))))))))
  refine k1 (k10 ?_)
  exact B5 (F2 rfl rfl rfl) (by unfold A70 A82;rw [hd,if_neg (by decide)];simp [combS,parS])
theorem D33 (h:CHunk) (n:Nat) (hn:n≤32) (hr:I7 h.Rows) (hl:h.Rows.length≤268435456) (ha:h.At.length=n+1) (hb:∀a∈h.At,-4611686018427387904≤a∧a≤4611686018427387904) :
  FnOk Tryz.prog 90 [A65 h,G8 n] (fun rs=>rs=[L4 (A80 n h++[10])]):=by
 have hrep:FnOk Tryz.prog 167 [L4 [64],G8 ((n:Int)+1)] (fun rs=>rs=[L4 (atS (n+1))]):=by
  have:=G98 64 (n+1) (by omega)
  rwa [show ((n+1:Nat):Int)=(n:Int)+1 by omega] at this
 obtain ⟨A,hA⟩:∃A,A=atS (n+1):=⟨_,rfl⟩
 have hAl:A.length=n+1:=by rw [hA,C94]
 have hend:A80 n h++[10]=A++T3 n h n++([32,43]++N5 (h.At.getD n 0) (L7 h.Rows n n)++[32]++A++[10]):=by
  unfold A80
  rw [A05,hA]
  unfold C73 E94
  rw [if_pos rfl];simp
 rw [hend]
 rw [←hA] at hrep
 have hsl:=fun k=>A69 n h k
 have hcnt:=fun k=>B68 h.Rows n k
 have hgA:∀k,k < n+1→h.At[k]?=some (h.At.getD k 0):=fun k hk=>D63 (by omega)
 have hgC:∀k,k < n+1→(H9 h.Rows n)[k]?=some (L7 h.Rows n k):=fun k hk=>G39 h.Rows n k hk
 have hrA:∀k,k < n+1 → -4611686018427387904≤h.At.getD k 0∧h.At.getD k 0≤4611686018427387904:=fun k hk=>hb _ (I12 (hgA k hk))
 refine FnOk.intro Tryz.func90 (by decide) Z Z Z Z ?_
 refine k2 ?_
 refine A3 (C1 (Q4 2 Z Z Z) Z (A2 (A5 Z Z) Z (A6 ?_)))
 refine k1 (k2 ?_)
 refine A3 (A2 (A7 Z) Z (A2 (A8 Z Z Z) Z (A2 (A4 Z Z) Z (l_new (B06 h.Rows n hn hr hl) Z Z Z Z ?_))));rintro _ _ ⟨rfl,rfl⟩;refine ⟨rfl,?_⟩;refine A2 (A5 Z Z) Z (A6 ?_)
 refine k1 (k2 ?_)
 refine G4 (Sees.freeze (k:=720) Z) ?_
 refine A3 (A2 (A4 Z Z) Z (A2 (B9 Z Z (by omega)) Z (C3 (hrep) Z Z Z ?_)));rintro _ rfl;refine A2 (A5 Z Z) Z (A6 ?_)
 refine k1 (k2 ?_)
 refine A3 (C1 (D03 700 Z) Z (A6 ?_))
 refine k1 (k2 ?_)
 refine G4 (H75 701 UInt8 1 u8C 5 (kb:=700) (o:=1) Z Z Z) ?_
 refine A3 (A2 (A4 Z Z) Z (A74 (P4 (xs:=[]) (s:=A) ⟨⟨_,.inl rfl,rfl⟩,rfl⟩ (by simp only [H98];omega)) Z Z Z ?_));rintro _ _ ⟨rfl,rfl⟩;refine A6 ?_
 refine k1 (k2 (k2 ?_))
 refine A3 (A2 (A4 Z Z) Z (A2 (A4 Z Z) Z (A6 ?_)))
 refine k1 (k3 ?_)
 refine C9 (X:=Nat) (fun p=>([(1,B7 n),(2,.s (.one (.ref 2 0))),(5,C0 Int 1 F5 (H9 h.Rows n)),(6,R3 A),(7,.s (.one (.ref 700 0))),(18,B7 n),(19,B7 p)],[(2,.box (A65 h).s1.cells),(700,.tbx 144 [.ref 700 0,.buf 701 UInt8 1 u8C (A++T3 n h p)]),(701,.spare (A++T3 n h p).length 1 5)])) (fun p=>p≤n) (fun p=>n - p) 0 (Nat.zero_le _) ?_ ?_
 ·rw [show T3 n h 0=[] from rfl,I14]
  exact H62 ⟨le1 rfl,le1 rfl,le1 rfl,le1 rfl,le1 rfl,le1 rfl,le1 rfl,trivial⟩ ⟨rfl,rfl,rfl,trivial⟩
 intro p hp
 dsimp only at hp ⊢
 have hsp:=hsl p
 have hsucc:=A05 n h p
 refine k2 ?_
 refine A3 (A2 (D8 Z Z) Z (A6 ?_))
 refine k1 (k2 ?_)
 refine B4 rfl (fun ht=>?_) (fun ht=>?_)
 ·have hlt:p < n:=by have:=A0 ht;omega
  have hga:=hgA p (by omega)
  have hgc:=hgC p (by omega)
  have hra:=hrA p (by omega)
  have hcp:=hcnt p
  have hsw:C73 n h p=[32,45]++N5 (h.At.getD p 0) (L7 h.Rows n p):=by
   unfold C73 E94;rw [if_neg (by omega)]
  have hrl:=A00 (h.At.getD p 0) (L7 h.Rows n p)
  rw [hsw] at hsucc
  obtain ⟨a,haa⟩:∃a,a=h.At.getD p 0:=⟨_,rfl⟩
  obtain ⟨q,hqq⟩:∃q,q=L7 h.Rows n p:=⟨_,rfl⟩
  rw [←haa] at hga hra hrl hsucc
  rw [←hqq] at hgc hcp hrl hsucc
  have hlb:(A++T3 n h p).length≤1000:=by rw [H95];omega
  obtain ⟨B,hB⟩:∃B,B=A++T3 n h p:=⟨_,rfl⟩
  rw [←hB] at hlb ⊢
  refine k5 (k1 (k2 (k3 (k2 ?_))))
  refine A3 (A2 (A4 Z Z) Z (A2 (A5 Z Z) Z (A6 ?_)))
  refine k1 ?_
  refine A08 11 (by kernel_rfl) (by kernel_rfl) Z (A9 (A7 Z) Z Z (A9 (A8 Z Z Z) Z Z (A9 (A4 Z Z) Z Z (A9 (B0 Z (.pure _ _ _ _) Z (by omega) hga) Z Z (A9 (B2 Z Z) Z Z (A9 (A4 Z Z) Z Z (A9 (A4 Z Z) Z Z (A9 (B0 Z (.pure _ _ _ _) Z (by omega) hgc) Z Z (A9 (B2 Z Z) Z Z (A9 (H6 (E19 a q hra (by omega)) Z Z) Z Z (A9 (F0 Z Z (by (simp only [H95,H96,H98];omega))) Z Z (K0 (F12 (P4 (xs:=B) (s:=[32,45]++N5 a q) ⟨⟨_,.inr rfl,rfl⟩,rfl⟩ (by simp only [H95,H96,H98];omega)) Z Z Z ?_)))))))))))));rintro _ _ ⟨rfl,rfl⟩;refine ⟨_,rfl,?_⟩;refine K0 ?_
  refine k4 (k1 ?_)
  refine A3 (A2 (B9 Z Z (by omega)) Z (A2 (A4 Z Z) Z (A6 ?_)))
  refine k1 ?_
  refine ⟨p+1,by omega,by omega,?_⟩
  have hs2:A++T3 n h (p+1)=B++([32,45]++N5 a q):=by rw [hsucc,hB,I06]
  rw [hs2]
  exact H62 ⟨le1 rfl,le1 rfl,le1 rfl,le1 rfl,le1 rfl,le1 rfl,le1 rfl,trivial⟩ ⟨rfl,rfl,rfl,trivial⟩
 ·have hpn:p=n:=by have:=A1 ht;omega
  subst hpn
  have hga:=hgA p (by omega)
  have hgc:=hgC p (by omega)
  have hra:=hrA p (by omega)
  have hcp:=hcnt p
  have hrl:=A00 (h.At.getD p 0) (L7 h.Rows p p)
  obtain ⟨a,haa⟩:∃a,a=h.At.getD p 0:=⟨_,rfl⟩
  obtain ⟨q,hqq⟩:∃q,q=L7 h.Rows p p:=⟨_,rfl⟩
  rw [←haa] at hga hra hrl ⊢
  rw [←hqq] at hgc hcp hrl ⊢
  have hlb:(A++T3 p h p).length≤1000:=by rw [H95];omega
  obtain ⟨B,hB⟩:∃B,B=A++T3 p h p:=⟨_,rfl⟩
  rw [←hB] at hlb ⊢
  refine k6 (k2 ?_)
  refine A08 15 (by kernel_rfl) (by kernel_rfl) Z (A9 (A7 Z) Z Z (A9 (A8 Z Z Z) Z Z (A9 (A4 Z Z) Z Z (A9 (B0 Z (.pure _ _ _ _) Z (by omega) hga) Z Z (A9 (B2 Z Z) Z Z (A9 (A4 Z Z) Z Z (A9 (A4 Z Z) Z Z (A9 (B0 Z (.pure _ _ _ _) Z (by omega) hgc) Z Z (A9 (B2 Z Z) Z Z (A9 (H6 (E19 a q hra (by omega)) Z Z) Z Z (A9 (F0 Z Z (by (simp only [H95,H96,H98];omega))) Z Z (A9 (F0 Z Z (by (simp only [H95,H96,H98];omega))) Z Z (A9 (A4 Z Z) Z Z (A9 (F0 Z Z (by (simp only [H95,H96,H98];omega))) Z Z (A9 (F0 Z Z (by (simp only [H95,H96,H98];omega))) Z Z (K0 (F12 (P4 (xs:=B) (s:=[32,43]++N5 a q++[32]++A++[10]) ⟨⟨_,.inr rfl,rfl⟩,rfl⟩ (by simp only [H95,H96,H98];omega)) Z Z Z ?_)))))))))))))))));rintro _ _ ⟨rfl,rfl⟩;refine ⟨_,rfl,?_⟩;refine K0 ?_
  refine k1 (k2 ?_)
  refine A3 (C22 (k:=700) (k':=701) ⟨_,rfl,rfl,rfl⟩ A11 Z Z Z Z Z (.inr Z) Z (A2 (A5 Z Z) Z (A6 ?_)))
  refine k1 (k10 ?_)
  exact B5 (F2 rfl rfl rfl) rfl
def B96 (r:Row):UInt8:=if r.Lost then 45 else 43
theorem crow_ok (r:Row) (n:Nat) (hn:n≤32) (hm:0≤r.Marks∧r.Marks < 4294967296) (hx:r.Text.length≤268435456) :
  FnOk Tryz.prog 91 [pRow r,G8 n] (fun rs=>rs=[L4 (T6 n r).flatten]):=by
 rw [D67]
 refine FnOk.intro Tryz.func91 (by decide) Z Z Z Z ?_
 refine k2 ?_
 refine A3 (C1 (Q4 2 Z Z Z) Z (A2 (A5 Z Z) Z (A6 ?_)))
 refine k1 (k2 ?_)
 refine A3 (A2 (A5 Z Z) Z (A6 ?_))
 refine J4 ?_
 refine r7 [(1,B7 n),(2,.s (.one (.ref 2 0))),(5,I6 (.int .u8 (B96 r).toNat))] [(2,.box (pRow r).s1.cells)] ?_ ?_
 ·refine k2 ?_
  refine A3 (A2 (A7 Z) Z (A2 (A8 Z Z Z) Z (A6 ?_)))
  refine k1 ?_
  refine B4 rfl (fun ht=>?_) (fun ht=>?_)
  ·have h:r.Lost=true:=ht
   skip
   refine A3 (A2 (A5 Z Z) Z (A6 ?_))
   refine k1 ?_
   rw [show B96 r=45 by unfold B96;rw [h];rfl]
   exact H62 ⟨le1 rfl,le1 rfl,le1 rfl,trivial⟩ ⟨rfl,trivial⟩
  ·have h:r.Lost=false:=ht
   refine k5 (k1 ?_)
   rw [show B96 r=43 by unfold B96;rw [h];rfl]
   exact H62 ⟨le1 rfl,le1 rfl,le1 rfl,trivial⟩ ⟨rfl,trivial⟩
 refine k2 ?_
 refine A3 (A2 (A4 Z Z) Z (A2 (A7 Z) Z (A2 (A8 Z Z Z) Z (A2 (L0 Z) Z (A2 (B9 Z Z (by omega)) Z (A2 (B9 Z Z (by omega)) Z (C1 (G83 730 UInt8 u8C Z Z (by omega) (by omega) (by first | rfl | (simp [F9,H0,Ob.free,SV.free,S1.free,TC.free]<;>rfl))) Z ?_)))))));refine A2 (A5 Z Z) Z (A6 ?_)
 refine k1 (k2 (k2 ?_))
 refine A3 (A2 (A4 Z Z) Z (A2 (A4 Z Z) Z (A6 ?_)))
 refine k1 (k3 ?_)
 refine C9 (X:=Nat) (fun p=>([(1,B7 n),(2,.s (.one (.ref 2 0))),(5,I6 (.int .u8 (B96 r).toNat)),(6,.s (.one (.buf 730 UInt8 1 u8C (Z6 p r)))),(17,B7 n),(18,B7 p)],[(2,.box (pRow r).s1.cells),(730,.spare (Z6 p r).length 1 5)])) (fun p=>p≤n) (fun p=>n - p) 0 (Nat.zero_le _) (H62 ⟨le1 rfl,le1 rfl,le1 rfl,le1 rfl,le1 rfl,le1 rfl,trivial⟩ ⟨rfl,rfl,trivial⟩) ?_
 intro p hp
 dsimp only at hp ⊢
 have hml:=A30 p r
 have hsucc:=C76 p r
 refine k2 ?_
 refine A3 (A2 (D8 Z Z) Z (A6 ?_))
 refine k1 (k2 ?_)
 refine B4 rfl (fun ht=>?_) (fun ht=>?_)
 ·have hlt:p < n:=by have:=A0 ht;omega
  refine k5 (k1 (k2 (k3 (k2 ?_))))
  refine A3 (A2 (A4 Z Z) Z (A2 (A5 Z Z) Z (A6 ?_)))
  refine k1 (k2 ?_)
  refine A3 (A2 (A7 Z) Z (A2 (A8 Z Z Z) Z (A2 (A4 Z Z) Z (A2 (A72 Z Z (by omega)) Z (A2 (X6 Z Z Z (fun _=>rfl)) Z (A2 (K1 Z Z) Z (A6 ?_)))))))
  refine k1 ?_
  have h3:0≤r.Marks / 2 ^ p:=Int.ediv_nonneg hm.1 (Int.pow_nonneg (by decide))
  have h4:r.Marks / 2 ^ p≤r.Marks:=Int.ediv_le_self _ hm.1
  have e32:r.Marks.fdiv (2 ^ (min (p:Int).toNat IntKind.u32.bits))=r.Marks / 2 ^ p:=E28 r.Marks p (by omega)
  have e1:=C00 (r.Marks / 2 ^ p) (by omega)
  refine B4 rfl (fun ht=>?_) (fun ht=>?_)
  ·rw [e32,e1] at ht
   have hb:A28 r.Marks p=true:=by unfold A28;simpa using ht
   have hmk:A81 r p=B96 r:=by unfold A81 B96;rw [hb,if_neg (by decide)]
   rw [hmk] at hsucc
   skip
   refine A3 (A2 (A4 Z Z) Z (A2 (A4 Z Z) Z (A2 (C8 (c:=u8C) (ys:=[B96 r]) (D7 Z Z Z Z E7) Z Z Z) Z (C1 (F3 Z Z Z (.pure _ _ _ _) (by (simp only [H96,H98];omega)) Z) Z (A2 (A5 Z Z) Z (A6 ?_))))))
   refine k4 (k1 ?_)
   refine A3 (A2 (B9 Z Z (by omega)) Z (A2 (A4 Z Z) Z (A6 ?_)))
   refine k1 ?_
   refine ⟨p+1,by omega,by omega,?_⟩
   rw [hsucc]
   exact H62 ⟨le1 rfl,le1 rfl,le1 rfl,le1 rfl,le1 rfl,le1 rfl,trivial⟩ ⟨rfl,rfl,trivial⟩
  ·rw [e32,e1] at ht
   have hb:A28 r.Marks p=false:=by unfold A28;simpa using ht
   have hmk:A81 r p=32:=by unfold A81;rw [if_pos hb]
   rw [hmk] at hsucc
   skip
   refine A3 (A2 (A4 Z Z) Z (A2 (C8 (c:=u8C) (ys:=[32]) (D7 Z Z Z Z E7) Z Z Z) Z (C1 (F3 Z Z Z (.pure _ _ _ _) (by (simp only [H96,H98];omega)) Z) Z (A2 (A5 Z Z) Z (A6 ?_)))))
   refine k4 (k1 ?_)
   refine A3 (A2 (B9 Z Z (by omega)) Z (A2 (A4 Z Z) Z (A6 ?_)))
   refine k1 ?_
   refine ⟨p+1,by omega,by omega,?_⟩
   rw [hsucc]
   exact H62 ⟨le1 rfl,le1 rfl,le1 rfl,le1 rfl,le1 rfl,le1 rfl,trivial⟩ ⟨rfl,rfl,trivial⟩
 ·have hpn:p=n:=by have:=A1 ht;omega
  subst hpn
  refine k6 (k2 ?_)
  refine A3 (A2 (A4 Z Z) Z (A2 (A7 Z) Z (A2 (A8 Z Z Z) Z (C1 (A32 TyStr.out Z Z Z (by omega) Z) Z (A2 (A5 Z Z) Z (A6 ?_))))))
  refine k1 (k2 (k2 ?_))
  refine A3 (A2 (A7 Z) Z (A2 (A8 Z Z Z) Z (C3 (B25 r.Text (by omega)) Z Z Z ?_)));rintro _ rfl;refine A2 (K9 Z) Z (A6 ?_)
  refine k1 ?_
  refine B4 rfl (fun ht=>?_) (fun ht=>?_)
  ·have h:ended r.Text=false:=by simpa using ht
   skip
   refine A3 (A2 (A4 Z Z) Z (C1 (A32 TyStr.out Z Z Z (by (simp only [H95,H96,H98];omega)) Z) Z (A2 (A5 Z Z) Z (A6 ?_))))
   refine k1 (k2 ?_)
   refine A3 (A2 (A4 Z Z) Z (A2 (W0 TyStr.out Z (.buf _ _ _ _ _)) Z (A2 (A5 Z Z) Z (A6 ?_))))
   refine k1 (k10 ?_)
   exact B5 (F2 rfl rfl rfl) (by rw [h,if_neg (by decide)];rfl)
  ·have h:ended r.Text=true:=by simpa using ht
   refine k5 (k1 (k2 ?_))
   refine A3 (A2 (A4 Z Z) Z (A2 (W0 TyStr.out Z (.buf _ _ _ _ _)) Z (A2 (A5 Z Z) Z (A6 ?_))))
   refine k1 (k10 ?_)
   exact B5 (F2 rfl rfl rfl) (by rw [if_pos h,I14])
structure CFit (c:Comb):Prop where
 par:0≤c.Parents∧c.Parents≤32
 path:c.Path.length≤4194304
 sz:szC c.Hunks≤268435456
 rows:∀h∈c.Hunks,I7 h.Rows
 ats:∀h∈c.Hunks,h.At.length=c.Parents.toNat+1∧∀a∈h.At,-4611686018427387904≤a∧a≤4611686018427387904
theorem H46 (c:Comb) (hc:CFit c):FnOk Tryz.prog 96 [R2 c] (fun rs=>rs=[G8 (A16 c).length]):=by
 obtain ⟨h1,h2,h3,h4,h5⟩:=hc
 have hzl:=A04 c.Hunks
 have hm29:markS.length=29:=rfl
 obtain ⟨n,hN⟩:∃n,n=c.Parents.toNat:=⟨_,rfl⟩
 have hNc:c.Parents=(n:Int):=by omega
 have hn:n≤32:=by omega
 have hct:=fun k=>E98 c (by omega) k
 have hcs:=fun k h=>F78 c k h
 rw [←hN] at h5 hcs
 refine FnOk.intro Tryz.func96 (by decide) Z Z Z Z ?_
 refine k2 ?_
 refine A3 (C1 (Q4 1 Z Z Z) Z (A2 (A5 Z Z) Z (A6 ?_)))
 refine k1 (k2 ?_)
 refine A3 (A2 (D2 Z Z Z) Z (C3 (E24 c (by omega)) Z Z Z ?_));rintro _ rfl;refine A2 (L0 Z) Z (A2 (A5 Z Z) Z (A6 ?_))
 refine k1 (k2 (k2 ?_))
 refine A3 (A2 (A7 Z) Z (A2 (A8 Z Z Z) Z (A2 (D4 Z (.pure _ _ _ _)) Z (A2 (A4 Z Z) Z (A6 ?_)))))
 refine k1 (k3 ?_)
 refine C9 (X:=Nat) (fun k=>([(1,.s (.one (.ref 1 0))),(3,B7 (cTo c k).length),(12,C0 CHunk 2 M6 c.Hunks),(13,B7 c.Hunks.length),(14,B7 k)],[(1,A12 c)])) (fun k=>k≤c.Hunks.length) (fun k=>c.Hunks.length - k) 0 (Nat.zero_le _) (by rw [D65];exact H62 ⟨le1 rfl,le1 rfl,le1 rfl,le1 rfl,le1 rfl,trivial⟩ ⟨rfl,trivial⟩) ?_
 intro k hk
 dsimp only at hk ⊢
 have hck:=hct k
 refine k2 ?_
 refine A3 (A2 (D8 Z Z) Z (A6 ?_))
 refine k1 (k2 ?_)
 refine B4 rfl (fun ht=>?_) (fun ht=>?_)
 ·have hlt:k < c.Hunks.length:=by have:=A0 ht;omega
  have hv:c.Hunks[k]?=some c.Hunks[k]:=by simp [hlt]
  have hmem:=I07 hlt
  have hrw:=h4 _ hmem
  have hat:=h5 _ hmem
  have hzm:=A68 hmem
  have hsucc:=hcs k hlt
  obtain ⟨h,hx⟩:∃x,x=c.Hunks[k]:=⟨_,rfl⟩
  rw [←hx] at hv hrw hat hzm hsucc
  have hz1:=R7 h.Rows
  have hz2:=A67 h.Rows
  unfold A88 at hzm
  have hh:=D33 h n hn hrw (by omega) hat.1 hat.2
  rw [←hNc] at hh
  have hhl:=B33 hn h
  obtain ⟨base,hbase⟩:∃base,base=(cTo c k).length:=⟨_,rfl⟩
  have hcl:=congrArg List.length hsucc
  rw [H95,E42,H95,←hbase] at hcl
  rw [←hbase] at hck ⊢
  obtain ⟨hd,hhd⟩:∃hd,hd=A80 n h++[10]:=⟨_,rfl⟩
  have hdl:hd.length≤926:=by rw [hhd,H95];simp only [H96,H98];omega
  rw [←hhd] at hh hcl
  refine k5 (k1 (k2 (k3 (k2 ?_))))
  refine A3 (A2 (B0 Z (.pure _ _ _ _) Z (by omega) hv) Z (A2 (E8 Z Z) Z (C1 (G3 5 Z) Z (F6 (B8 TySz.out Z Z Z Z Z Z) (A6 ?_)))))
  refine k1 (k2 ?_)
  refine A3 (A2 (A4 Z Z) Z (A2 (D2 Z Z Z) Z (A2 (A7 Z) Z (A2 (A8 Z Z Z) Z (C3 (hh) Z Z Z ?_)))));rintro _ rfl;refine A2 (L0 Z) Z (A2 (B9 Z Z (by omega)) Z (A2 (A5 Z Z) Z (A6 ?_)))
  refine k1 (k2 ?_)
  refine A3 (A2 (A7 Z) Z (A2 (A8 Z Z Z) Z (A2 (D4 Z (.pure _ _ _ _)) Z (A2 (A4 Z Z) Z (A6 ?_)))))
  refine k1 (k3 ?_)
  refine C9 (X:=Nat) (fun j=>([(1,.s (.one (.ref 1 0))),(3,B7 (base+hd.length+(rTo n h.Rows j).length:Nat)),(12,C0 CHunk 2 M6 c.Hunks),(13,B7 c.Hunks.length),(14,B7 k),(26,C0 Row 3 rowC h.Rows),(27,B7 h.Rows.length),(28,B7 j)],[(1,A12 c)])) (fun j=>j≤h.Rows.length) (fun j=>h.Rows.length - j) 0 (Nat.zero_le _) ?_ ?_
  ·have e:((base+hd.length+(rTo n h.Rows 0).length:Nat):Int)=(base:Int)+(hd.length:Int):=by rw [F79];simp
   rw [e]
   exact H62 ⟨le1 rfl,le1 rfl,le1 rfl,le1 rfl,le1 rfl,le1 rfl,le1 rfl,le1 rfl,trivial⟩ ⟨rfl,trivial⟩
  intro j hj
  dsimp only at hj ⊢
  have hrl:=G76 hn h.Rows j
  refine k2 ?_
  refine A3 (A2 (D8 Z Z) Z (A6 ?_))
  refine k1 (k2 ?_)
  refine B4 rfl (fun ht=>?_) (fun ht=>?_)
  ·have hlt2:j < h.Rows.length:=by have:=A0 ht;omega
   have hv2:h.Rows[j]?=some h.Rows[j]:=by simp [hlt2]
   have hrm:=C44 (I07 hlt2)
   have hsucc2:=F80 n h.Rows j hlt2
   obtain ⟨r,hy⟩:∃x,x=h.Rows[j]:=⟨_,rfl⟩
   rw [←hy] at hv2 hrm hsucc2
   have hrm:r.Text.length+96≤(h.Rows.map Q7).sum:=hrm
   have hl2:=congrArg List.length hsucc2
   have hml:=A30 n r
   rw [H95,D67,H95,H95,hml] at hl2
   refine k5 (k1 (k2 (k3 (k2 ?_))))
   refine A3 (A2 (B0 Z (.pure _ _ _ _) Z (by omega) hv2) Z (A2 (E8 Z Z) Z (C1 (G3 7 Z) Z (F6 (B8 TySz.out Z Z Z Z Z Z) (A6 ?_)))))
   refine k1 (k2 ?_)
   refine A3 (A2 (A4 Z Z) Z (A2 (A7 Z) Z (A2 (A8 Z Z Z) Z (A2 (A7 Z) Z (A2 (A8 Z Z Z) Z (A2 (L0 Z) Z (A2 (B9 Z Z (by omega)) Z (A2 (B9 Z Z (by omega)) Z (A2 (A5 Z Z) Z (A6 ?_))))))))))
   refine k1 (k2 ?_)
   refine A3 (A2 (A7 Z) Z (A2 (A8 Z Z Z) Z (C3 (B25 r.Text (by omega)) Z Z Z ?_)));rintro _ rfl;refine A2 (K9 Z) Z (A6 ?_)
   refine k1 ?_
   refine B4 rfl (fun ht=>?_) (fun ht=>?_)
   ·have h2:ended r.Text=false:=by simpa using ht
    rw [h2,if_neg (by decide),hm29] at hl2
    have e:((base+hd.length+(rTo n h.Rows (j+1)).length:Nat):Int)=((base+hd.length+(rTo n h.Rows j).length:Nat):Int)+(c.Parents+(r.Text.length:Int))+29:=by omega
    skip
    refine A3 (A2 (A4 Z Z) Z (A2 (B9 Z Z (by omega)) Z (A2 (A5 Z Z) Z (A6 ?_))))
    refine k4 (k1 ?_)
    refine A3 (A2 (B9 Z Z (by omega)) Z (A2 (A4 Z Z) Z (A6 ?_)))
    refine k1 ?_
    refine ⟨j+1,by omega,by omega,?_⟩
    rw [e]
    exact H62 ⟨le1 rfl,le1 rfl,le1 rfl,le1 rfl,le1 rfl,le1 rfl,le1 rfl,le1 rfl,trivial⟩ ⟨rfl,trivial⟩
   ·have h2:ended r.Text=true:=by simpa using ht
    rw [if_pos h2,H98] at hl2
    have e:((base+hd.length+(rTo n h.Rows (j+1)).length:Nat):Int)=((base+hd.length+(rTo n h.Rows j).length:Nat):Int)+(c.Parents+(r.Text.length:Int)):=by omega
    refine k5 (k4 (k1 ?_))
    refine A3 (A2 (B9 Z Z (by omega)) Z (A2 (A4 Z Z) Z (A6 ?_)))
    refine k1 ?_
    refine ⟨j+1,by omega,by omega,?_⟩
    rw [e]
    exact H62 ⟨le1 rfl,le1 rfl,le1 rfl,le1 rfl,le1 rfl,le1 rfl,le1 rfl,le1 rfl,trivial⟩ ⟨rfl,trivial⟩
  ·have hjl:j=h.Rows.length:=by have:=A1 ht;omega
   subst hjl
   have e:base+hd.length+(rTo n h.Rows h.Rows.length).length=(cTo c (k+1)).length:=by omega
   rw [e]
   refine k6 (k7 (k7 (k8 Z (k4 (k1 ?_)))))
   refine A3 (A2 (B9 Z Z (by omega)) Z (A2 (A4 Z Z) Z (A6 ?_)))
   refine k1 ?_
   exact ⟨k+1,by omega,by omega,H62 ⟨le1 rfl,le1 rfl,le1 rfl,le1 rfl,le1 rfl,trivial⟩ ⟨rfl,trivial⟩⟩
 ·have hkl:k=c.Hunks.length:=by have:=A1 ht;omega
  subst hkl
  rw [D66]
  refine k6 (k2 ?_)
  refine A3 (A2 (A4 Z Z) Z (A2 (A5 Z Z) Z (A6 ?_)))
  refine k1 (k10 ?_)
  exact B5 (F2 rfl rfl rfl) rfl
theorem C30 {c:Comb} (hp:c.Path.length≤4194304) (hn:1≤c.Parents∧c.Parents≤32) (hz:szC c.Hunks≤268435456) (hr:∀h∈c.Hunks,I7 h.Rows) (hg:P7 c.Parents.toNat c.Hunks=true):CFit c:=by
 refine ⟨by omega,hp,hz,hr,fun h hm=>?_⟩
 unfold P7 at hg
 rw [H99] at hg
 obtain ⟨a1,a2,a3⟩:=C43 c.Hunks _ (fun k hk=>by rw [I00,List.getElem?_replicate_of_lt hk];exact Int.le_refl _) hg.1 h hm
 refine ⟨a1,fun a ha=>?_⟩
 obtain ⟨k,hk,rfl⟩:=List.getElem_of_mem ha
 have h1:=a3 k (by omega)
 have h2:=B68 h.Rows c.Parents.toNat k
 have e:h.At.getD k 0=h.At[k]:=by rw [I00,H97 hk];rfl
 rw [e] at h1
 omega
theorem C31 (c:Comb) (hz:szC c.Hunks≤268435456) (hr:∀h∈c.Hunks,I7 h.Rows):FnOk Tryz.prog 43 [R2 c] (fun rs=>rs=[G8 (I5 c)]):=by
 refine FnOk.intro Tryz.func43 (by decide) Z Z Z Z ?_
 refine k2 ?_
 refine A3 (C1 (Q4 1 Z Z Z) Z (A2 (A5 Z Z) Z (A6 ?_)))
 refine k1 (k2 (k3 (k2 ?_)))
 refine A3 (A2 (A7 Z) Z (A2 (A8 Z Z Z) Z (C3 (C29 c.Path) Z Z Z ?_)));rintro _ rfl;refine A2 (K9 Z) Z (A2 (A5 Z Z) Z (A6 ?_))
 refine k1 ?_
 refine B4 rfl (fun ht=>?_) (fun ht=>?_)
 ·have h:S7 c.Path=false:=by simpa using ht
  refine k2 ?_
  refine A3 (A2 (A5 Z Z) Z (A6 ?_))
  refine k1 (k10 (k12 (k11 ?_)))
  exact B5 (F2 rfl rfl rfl) (by unfold I5;rw [if_pos h])
 have h:S7 c.Path=true:=by simpa using ht
 have hpl:=A0 h
 refine k2 ?_
 refine A3 (A2 (A7 Z) Z (A2 (A8 Z Z Z) Z (A2 (D8 Z Z) Z (A2 (A4 Z Z) Z (B1 Z Z Z Z (fun hg=>by rw [hg];exact A7 Z) ?_)))));refine B1 Z Z Z Z (fun hg=>by rw [hg];exact A8 Z Z Z) ?_;refine B1 Z Z Z Z (fun hg=>by rw [hg];exact M7 Z Z) ?_;refine A2 (B6 Z (fun h=>by first | rfl | (rw [h];rfl)) (fun h=>by first | rfl | (rw [h];rfl))) Z ?_;refine A2 (A5 Z Z) Z (A6 ?_)
 refine k1 ?_
 refine B4 rfl (fun ht=>?_) (fun ht=>?_)
 ·have h1:=A0 (or_pick.symm.trans ht)
  refine k2 ?_
  refine A3 (A2 (A5 Z Z) Z (A6 ?_))
  refine k1 (k10 (k12 (k11 ?_)))
  exact B5 (F2 rfl rfl rfl) (by unfold I5;rw [if_neg (by rw [h];decide),if_pos (by omega)])
 have h1:=A1 (or_pick.symm.trans ht)
 have hn:1≤c.Parents∧c.Parents≤32:=by omega
 refine k2 ?_
 refine A3 (A2 (D2 Z Z Z) Z (C3 (G05 c hn hr hz) Z Z Z ?_));rintro _ rfl;refine A2 (K9 Z) Z (A2 (A5 Z Z) Z (A6 ?_))
 refine k1 ?_
 refine B4 rfl (fun ht=>?_) (fun ht=>?_)
 ·have h2:V2 c.Parents.toNat c.Hunks=false:=by simpa using ht
  refine k2 ?_
  refine A3 (A2 (A5 Z Z) Z (A6 ?_))
  refine k1 (k10 (k12 (k11 ?_)))
  exact B5 (F2 rfl rfl rfl) (by unfold I5;rw [if_neg (by rw [h];decide),if_neg (by omega),if_pos h2])
 have h2:V2 c.Parents.toNat c.Hunks=true:=by simpa using ht
 have hw:=H45 c hn hr hz
 rw [F74 (by omega) h2] at hw
 refine k2 ?_
 refine A3 (A2 (D2 Z Z Z) Z (C3 (hw) Z Z Z ?_));rintro _ rfl;refine A2 (K9 Z) Z (A2 (A5 Z Z) Z (A6 ?_))
 refine k1 ?_
 refine B4 rfl (fun ht=>?_) (fun ht=>?_)
 ·have h3:P7 c.Parents.toNat c.Hunks=false:=by simpa using ht
  refine k2 ?_
  refine A3 (A2 (A5 Z Z) Z (A6 ?_))
  refine k1 (k10 (k12 (k11 ?_)))
  exact B5 (F2 rfl rfl rfl) (by unfold I5;rw [if_neg (by rw [h];decide),if_neg (by omega),if_neg (by rw [h2];decide),if_pos h3])
 have h3:P7 c.Parents.toNat c.Hunks=true:=by simpa using ht
 refine k2 ?_
 refine A3 (A2 (D2 Z Z Z) Z (C3 (H46 c (C30 (by omega) hn hz hr h3)) Z Z Z ?_));rintro _ rfl;refine A2 (M7 Z Z) Z (A2 (A5 Z Z) Z (A6 ?_))
 refine k1 ?_
 refine B4 rfl (fun ht=>?_) (fun ht=>?_)
 ·have h4:=A0 ht
  refine k2 ?_
  refine A3 (A2 (A5 Z Z) Z (A6 ?_))
  refine k1 (k10 (k12 (k11 ?_)))
  exact B5 (F2 rfl rfl rfl) (by unfold I5;rw [if_neg (by rw [h];decide),if_neg (by omega),if_neg (by rw [h2];decide),if_neg (by rw [h3];decide),if_pos (by omega)])
 have h4:=A1 ht
 refine k5 (k2 ?_)
 refine A3 (A2 (A5 Z Z) Z (A6 ?_))
 refine k1 (k10 ?_)
 exact B5 (F2 rfl rfl rfl) (by unfold I5;rw [if_neg (by rw [h];decide),if_neg (by omega),if_neg (by rw [h2];decide),if_neg (by rw [h3];decide),if_neg (by omega)])
theorem G06 {c:Comb} (h:I5 c=0) (hz:szC c.Hunks≤268435456) (hr:∀h∈c.Hunks,I7 h.Rows):CFit c:=by
 obtain ⟨h1,h2,h3,h4,h5⟩:=G33 h
 have hp:=A0 h5
 have hg:P7 c.Parents.toNat c.Hunks=true:=by
  cases hb:P7 c.Parents.toNat c.Hunks with
  | true=>rfl
  | false =>
   exfalso
   unfold I5 at h
   rw [hb] at h
   rw [if_neg (by rw [h5];decide),if_neg (by omega)] at h
   split at h
   ·cases h
   ·cases h
 exact C30 (by omega) (by omega) hz hr hg
theorem G07 (c:Comb) (hz:szC c.Hunks≤268435456) (hr:∀h∈c.Hunks,I7 h.Rows):FnOk Tryz.prog 42 [R2 c] (fun rs=>rs=if I5 c=0 then [L4 (A16 c),G8 0] else [L4 [],G8 (I5 c)]):=by
 by_cases hck:I5 c=0
 rotate_left
 ·rw [if_neg hck]
  refine FnOk.intro Tryz.func42 (by decide) Z Z Z Z ?_
  refine k2 ?_
  refine A3 (C1 (Q4 1 Z Z Z) Z (A2 (A5 Z Z) Z (A2 (A5 Z Z) Z (A6 ?_))))
  refine k1 (k2 (k2 ?_))
  refine A3 (A2 (D2 Z Z Z) Z (C3 (C31 c hz hr) Z Z Z ?_));rintro _ rfl;refine A2 (A5 Z Z) Z (A6 ?_)
  refine k1 (k2 ?_)
  refine A3 (A2 (A4 Z Z) Z (A2 (O3 Z Z) Z (A6 ?_)))
  refine k1 ?_
  refine B4 rfl (fun ht=>?_) (fun ht=>?_)
  rotate_left
  ·exact absurd (Decidable.not_not.1 (A1 ht)) hck
  refine k2 ?_
  refine A3 (A2 (A4 Z Z) Z (A2 (A5 Z Z) Z (A2 (A5 Z Z) Z (A6 ?_))))
  refine k1 (k10 (k11 ?_))
  exact B5 (A20 rfl rfl rfl rfl rfl) rfl
 rw [if_pos hck]
 have hcc:=C31 c hz hr
 rw [hck] at hcc
 obtain ⟨h1,h2,_,h4,h5⟩:=G06 hck hz hr
 have hzl:=A04 c.Hunks
 obtain ⟨n,hN⟩:∃n,n=c.Parents.toNat:=⟨_,rfl⟩
 have hNc:c.Parents=(n:Int):=by omega
 have hn:n≤32:=by omega
 have hct:=fun k=>E98 c (by omega) k
 have hcs:=fun k h=>F78 c k h
 rw [←hN] at h5 hcs
 refine FnOk.intro Tryz.func42 (by decide) Z Z Z Z ?_
 refine k2 ?_
 refine A3 (C1 (Q4 1 Z Z Z) Z (A2 (A5 Z Z) Z (A2 (A5 Z Z) Z (A6 ?_))))
 refine k1 (k2 (k2 ?_))
 refine A3 (A2 (D2 Z Z Z) Z (C3 (hcc) Z Z Z ?_));rintro _ rfl;refine A2 (A5 Z Z) Z (A6 ?_)
 refine k1 (k2 ?_)
 refine A3 (A2 (A4 Z Z) Z (A2 (O3 Z Z) Z (A6 ?_)))
 refine k1 ?_
 refine B4 rfl (fun ht=>?_) (fun ht=>?_)
 ·cases ht
 refine k5 (k1 (k2 ?_))
 refine A3 (C1 (D03 700 Z) Z (A6 ?_))
 refine k1 (k2 ?_)
 refine G4 (H75 701 UInt8 1 u8C 5 (kb:=700) (o:=1) Z Z Z) ?_
 have hct0:=hct 0
 rw [D65] at hct0
 refine A3 (A2 (D2 Z Z Z) Z (C3 (E24 c (by omega)) Z Z Z ?_));rintro _ rfl;refine A74 (P4 (xs:=[]) (s:=A70 c) ⟨⟨_,.inl rfl,rfl⟩,rfl⟩ (by simp only [H98];omega)) Z Z Z ?_;rintro _ _ ⟨rfl,rfl⟩;refine A6 ?_
 refine k1 (k2 (k2 ?_))
 refine A3 (A2 (A7 Z) Z (A2 (A8 Z Z Z) Z (A2 (D4 Z (.pure _ _ _ _)) Z (A2 (A4 Z Z) Z (A6 ?_)))))
 refine k1 (k3 ?_)
 refine C9 (X:=Nat) (fun k=>([(1,.s (.one (.ref 1 0))),(5,.s (.one (.ref 700 0))),(19,C0 CHunk 2 M6 c.Hunks),(20,B7 c.Hunks.length),(21,B7 k)],[(1,A12 c),(700,.tbx 144 [.ref 700 0,.buf 701 UInt8 1 u8C (cTo c k)]),(701,.spare (cTo c k).length 1 5)])) (fun k=>k≤c.Hunks.length) (fun k=>c.Hunks.length - k) 0 (Nat.zero_le _) (by rw [D65];exact H62 ⟨le1 rfl,le1 rfl,le1 rfl,le1 rfl,le1 rfl,trivial⟩ ⟨rfl,rfl,rfl,trivial⟩) ?_
 intro k hk
 dsimp only at hk ⊢
 have hck:=hct k
 refine k2 ?_
 refine A3 (A2 (D8 Z Z) Z (A6 ?_))
 refine k1 (k2 ?_)
 refine B4 rfl (fun ht=>?_) (fun ht=>?_)
 ·have hlt:k < c.Hunks.length:=by have:=A0 ht;omega
  have hv:c.Hunks[k]?=some c.Hunks[k]:=by simp [hlt]
  have hmem:=I07 hlt
  have hrw:=h4 _ hmem
  have hat:=h5 _ hmem
  have hzm:=A68 hmem
  have hsucc:=hcs k hlt
  obtain ⟨h,hx⟩:∃x,x=c.Hunks[k]:=⟨_,rfl⟩
  rw [←hx] at hv hrw hat hzm hsucc
  have hz1:=R7 h.Rows
  have hz2:=A67 h.Rows
  unfold A88 at hzm
  have hh:=D33 h n hn hrw (by omega) hat.1 hat.2
  rw [←hNc] at hh
  have hhl:=B33 hn h
  obtain ⟨base,hbase⟩:∃base,base=cTo c k:=⟨_,rfl⟩
  rw [E42,←hbase] at hsucc
  rw [←hbase] at hck ⊢
  obtain ⟨hd,hhd⟩:∃hd,hd=A80 n h++[10]:=⟨_,rfl⟩
  have hdl:hd.length≤926:=by rw [hhd,H95];simp only [H96,H98];omega
  rw [←hhd] at hh hsucc
  refine k5 (k1 (k2 (k3 (k2 ?_))))
  refine A3 (A2 (B0 Z (.pure _ _ _ _) Z (by omega) hv) Z (A2 (E8 Z Z) Z (C1 (G3 7 Z) Z (F6 (B8 TySz.out Z Z Z Z Z Z) (A6 ?_)))))
  refine k1 (k2 ?_)
  refine A3 (A2 (D2 Z Z Z) Z (A2 (A7 Z) Z (A2 (A8 Z Z Z) Z (C3 (hh) Z Z Z ?_))));rintro _ rfl;refine A74 (P4 (xs:=base) (s:=hd) ⟨⟨_,.inr rfl,rfl⟩,rfl⟩ (by omega)) Z Z Z ?_;rintro _ _ ⟨rfl,rfl⟩;refine A6 ?_
  refine k1 (k2 ?_)
  refine A3 (A2 (A7 Z) Z (A2 (A8 Z Z Z) Z (A2 (D4 Z (.pure _ _ _ _)) Z (A2 (A4 Z Z) Z (A6 ?_)))))
  refine k1 (k3 ?_)
  refine C9 (X:=Nat) (fun j=>([(1,.s (.one (.ref 1 0))),(5,.s (.one (.ref 700 0))),(19,C0 CHunk 2 M6 c.Hunks),(20,B7 c.Hunks.length),(21,B7 k),(31,C0 Row 3 rowC h.Rows),(32,B7 h.Rows.length),(33,B7 j)],[(1,A12 c),(700,.tbx 144 [.ref 700 0,.buf 701 UInt8 1 u8C (base++hd++rTo n h.Rows j)]),(701,.spare (base++hd++rTo n h.Rows j).length 1 5)])) (fun j=>j≤h.Rows.length) (fun j=>h.Rows.length - j) 0 (Nat.zero_le _) ?_ ?_
  ·rw [F79,I14]
   exact H62 ⟨le1 rfl,le1 rfl,le1 rfl,le1 rfl,le1 rfl,le1 rfl,le1 rfl,le1 rfl,trivial⟩ ⟨rfl,rfl,rfl,trivial⟩
  intro j hj
  dsimp only at hj ⊢
  have hrl:=G76 hn h.Rows j
  refine k2 ?_
  refine A3 (A2 (D8 Z Z) Z (A6 ?_))
  refine k1 (k2 ?_)
  refine B4 rfl (fun ht=>?_) (fun ht=>?_)
  ·have hlt2:j < h.Rows.length:=by have:=A0 ht;omega
   have hv2:h.Rows[j]?=some h.Rows[j]:=by simp [hlt2]
   have hmem2:=I07 hlt2
   have hrm:=C44 hmem2
   have hmm:=hrw _ hmem2
   have hsucc2:=F80 n h.Rows j hlt2
   obtain ⟨r,hy⟩:∃x,x=h.Rows[j]:=⟨_,rfl⟩
   rw [←hy] at hv2 hrm hsucc2 hmm
   have hrp:=E41 hn r
   have hrk:=crow_ok r n hn hmm (by have hrm:r.Text.length+96≤(h.Rows.map Q7).sum:=hrm;omega)
   rw [←hNc] at hrk
   obtain ⟨bs,hbs⟩:∃bs,bs=base++hd++rTo n h.Rows j:=⟨_,rfl⟩
   have hbl:bs.length≤16777216+48+268435456+926+268435456:=by rw [hbs,H95,H95];omega
   rw [←hbs]
   refine k5 (k1 (k2 (k3 (k2 ?_))))
   refine A3 (A2 (B0 Z (.pure _ _ _ _) Z (by omega) hv2) Z (A2 (E8 Z Z) Z (C1 (G3 9 Z) Z (F6 (B8 TySz.out Z Z Z Z Z Z) (A6 ?_)))))
   refine k1 ?_
   refine A3 (A2 (D2 Z Z Z) Z (A2 (A7 Z) Z (A2 (A8 Z Z Z) Z (C3 (hrk) Z Z Z ?_))));rintro _ rfl;refine A74 (P4 (xs:=bs) (s:=(T6 n r).flatten) ⟨⟨_,.inr rfl,rfl⟩,rfl⟩ (by omega)) Z Z Z ?_;rintro _ _ ⟨rfl,rfl⟩;refine A6 ?_
   refine k4 (k1 ?_)
   refine A3 (A2 (B9 Z Z (by omega)) Z (A2 (A4 Z Z) Z (A6 ?_)))
   refine k1 ?_
   refine ⟨j+1,by omega,by omega,?_⟩
   rw [hsucc2,←I06,←hbs]
   exact H62 ⟨le1 rfl,le1 rfl,le1 rfl,le1 rfl,le1 rfl,le1 rfl,le1 rfl,le1 rfl,trivial⟩ ⟨rfl,rfl,rfl,trivial⟩
  ·have hjl:j=h.Rows.length:=by have:=A1 ht;omega
   subst hjl
   have e:base++hd++rTo n h.Rows h.Rows.length=cTo c (k+1):=by rw [hsucc,I06]
   rw [e]
   refine k6 (k7 (k7 (k8 Z (k4 (k1 ?_)))))
   refine A3 (A2 (B9 Z Z (by omega)) Z (A2 (A4 Z Z) Z (A6 ?_)))
   refine k1 ?_
   exact ⟨k+1,by omega,by omega,H62 ⟨le1 rfl,le1 rfl,le1 rfl,le1 rfl,le1 rfl,trivial⟩ ⟨rfl,rfl,rfl,trivial⟩⟩
 ·have hkl:k=c.Hunks.length:=by have:=A1 ht;omega
  subst hkl
  rw [D66]
  refine k6 (k2 ?_)
  refine A3 (C22 (k:=700) (k':=701) ⟨_,rfl,rfl,rfl⟩ A11 Z Z Z Z Z (.inr Z) Z (A2 (A5 Z Z) Z (A2 (A5 Z Z) Z (A6 ?_))))
  refine k1 (k10 ?_)
  exact B5 (A20 rfl rfl rfl rfl rfl) rfl
end Go.Proofs.YtgejaedjnbjpoaaGreatDoor
