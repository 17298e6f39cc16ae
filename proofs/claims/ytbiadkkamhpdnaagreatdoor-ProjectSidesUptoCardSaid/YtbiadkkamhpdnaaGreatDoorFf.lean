/- Walks of the program's functions. -/
import Derived.Test.YtbiadkkamhpdnaaGreatDoorFe
import Derived.Test.YtbiadkkamhpdnaaGreatDoorFs
import Derived.Test.YtbiadkkamhpdnaaGreatDoorFa
import Derived.Test.YtbiadkkamhpdnaaGreatDoorFb
import Derived.Test.YtbiadkkamhpdnaaGreatDoorFd
import Derived.Test.YtbiadkkamhpdnaaGreatDoorFc
set_option linter.unusedSimpArgs false
namespace Go.Proofs.YtbiadkkamhpdnaaGreatDoor
open Go Go.AL
set_option maxRecDepth 100000
theorem D60 (c:UInt8):∀n:Nat,Lib.repeatL [c] n=List.replicate n c
 | 0=>rfl
 | n+1=>by rw [Lib.repeatL,D60 c n];rfl
theorem I80 (c:UInt8) (n:Nat) (hn:n≤1048576):FnOk Tryz.prog 150 [M9 [c],G5 n] (fun rs=>rs=[M9 (List.replicate n c)]) :=
 J83 (xs:=[.string ⟨#[c]⟩,.int .i64 n]) (r:=.string ⟨(List.replicate n c).toArray⟩) ⟨_,rfl,rfl,rfl⟩ rfl fun w _=>by
  have:=Tryz.strings_Repeat ⟨#[c]⟩ n w (by omega) (by show 1*n≤_;omega)
  have e:Lib.repeatL (⟨#[c]⟩:ByteArray).data.toList n=List.replicate n c:=D60 c n
  rw [e] at this
  exact this
abbrev cBox (c:Comb):Ob:=.box (A19 c).s1.cells
theorem B67 (rows:List Row) (n:Nat) (hn:n≤32) (hr:K1 rows) (hl:rows.length≤268435456) :
  AL.Met Tryz.prog 149 [(pRows rows).s1,(G5 n).s1] [] [] [] (fun rs ob'=>rs=[.one (.mut 720)]∧ob'=[(720,.arr Int 1 G7 (F6 rows n))]):=by
 have e0:((n:Int)+1).toNat=n+1:=by omega
 refine AL.Met.intro Tryz.func149 (by decide) Z Z Z ?_
 refine k2 ?_
 refine A4 (A3 (A6 Z Z) Z (A7 ?_))
 refine k1 (k2 ?_)
 refine A4 (A3 (A5 Z Z) Z (A3 (C6 Z Z (by omega)) Z (C5 (A59 720 Int G7 0 Z Z (by omega) (by omega) (fun _=>by first | exact ⟨⟨rfl,rfl⟩,trivial⟩ | exact ⟨S2 _ _ _,trivial⟩) (by first | rfl | (simp [G4,J6,Ob.free,SV.free,S1.free,TC.free]<;>rfl))) Z ?_)));refine A3 (A6 Z Z) Z (A7 ?_)
 rw [e0,←I00 rows n]
 refine k1 (k2 (k2 ?_))
 refine A4 (A3 (A5 Z Z) Z (A3 (E3 Z (.pure _ _ _ _)) Z (A3 (A5 Z Z) Z (A7 ?_))))
 refine k1 (k3 ?_)
 refine E2 (X:=Nat) (fun i=>([(1,C0 n),(5,.s (.one (.mut 720))),(12,C7 Row 3 rowC rows),(13,C0 rows.length),(14,C0 i)],[(720,.arr Int 1 G7 (x6 rows n i 0))])) (fun i=>i≤rows.length) (fun i=>rows.length - i) 0 (Nat.zero_le _) (J70 ⟨le1 rfl,le1 rfl,le1 rfl,le1 rfl,le1 rfl,trivial⟩ ⟨rfl,trivial⟩) ?_
 intro i hi
 dsimp only at hi ⊢
 refine k2 ?_
 refine A4 (A3 (F0 Z Z) Z (A7 ?_))
 refine k1 (k2 ?_)
 refine B6 rfl (fun ht=>?_) (fun ht=>?_)
 ·have hlt:i < rows.length:=by have:=A0 ht;omega
  have hv:rows[i]?=some rows[i]:=by simp [hlt]
  have hrow:=hr _ (K17 hlt)
  have hstep:=fun p=>I01 rows n i p hlt
  obtain ⟨r,hrr⟩:∃r,r=rows[i]:=⟨_,rfl⟩
  rw [←hrr] at hv hrow hstep
  have hcl:=fun k=>E98 (rows.take i) n k
  have htl:(rows.take i).length=i:=by rw [K22];omega
  rw [htl] at hcl
  refine k5 (k1 (k2 (k3 (k2 ?_))))
  refine A4 (A3 (B4 Z (.pure _ _ _ _) Z (by omega) hv) Z (A3 (D6 Z Z) Z (C5 (E8 7 Z) Z (E7 (B2 TySz.out Z Z Z Z Z Z) (A7 ?_)))))
  refine k1 (k2 (k2 ?_))
  refine A4 (A3 (A5 Z Z) Z (A3 (A5 Z Z) Z (A7 ?_)))
  refine k1 (k3 ?_)
  refine E2 (X:=Nat) (fun p=>([(1,C0 n),(5,.s (.one (.mut 720))),(7,.s (.one (.ref 7 0))),(12,C7 Row 3 rowC rows),(13,C0 rows.length),(14,C0 i),(18,C0 n),(19,C0 p)],[(7,.box (pRow r).s1.cells),(720,.arr Int 1 G7 (x6 rows n i p))])) (fun p=>p≤n) (fun p=>n - p) 0 (Nat.zero_le _) (J70 ⟨le1 rfl,le1 rfl,le1 rfl,le1 rfl,le1 rfl,le1 rfl,le1 rfl,le1 rfl,trivial⟩ ⟨rfl,rfl,trivial⟩) ?_
  intro p hp
  dsimp only at hp ⊢
  have hlen:=J07 rows n i p
  have hget:=J08 rows n i p (by omega)
  have hcp:=hcl p
  refine k2 ?_
  refine A4 (A3 (F0 Z Z) Z (A7 ?_))
  refine k1 (k2 ?_)
  refine B6 rfl (fun ht=>?_) (fun ht=>?_)
  ·have hlt2:p < n:=by have:=A0 ht;omega
   have hst:=hstep p (by omega)
   rw [show A26 n p=(p:Int) by unfold A26;rw [if_neg (by omega)]] at hst
   refine k5 (k1 (k2 (k3 (k2 ?_))))
   refine A4 (A3 (A5 Z Z) Z (A3 (A6 Z Z) Z (A7 ?_)))
   refine k1 (k2 ?_)
   refine A4 (A3 (D1 Z Z Z) Z (A3 (A5 Z Z) Z (C9 (D54 r p hrow) Z Z Z ?_)));rintro _ rfl;refine A7 ?_
   refine k1 ?_
   refine B6 rfl (fun ht=>?_) (fun ht=>?_)
   ·rw [if_pos ht] at hst
    skip
    refine A4 (A3 (A5 Z Z) Z (A3 (A5 Z Z) Z (A3 (H9 Z Z Z (by omega) (by (rw [hlen];omega))) Z ?_)));refine A3 (V2 Z Z hget Z) Z (A3 (C6 Z Z (by omega)) Z (A3 (H9 Z Z Z (by omega) (by (rw [hlen];omega))) Z ?_));refine E7 (L2 TySz.out Z Z (by (rw [hlen];omega)) Z Z) ?_;refine A7 ?_
    refine k4 (k1 ?_)
    refine A4 (A3 (C6 Z Z (by omega)) Z (A3 (A5 Z Z) Z (A7 ?_)))
    refine k1 ?_
    refine ⟨p+1,by omega,by omega,?_⟩
    rw [hst]
    exact J70 ⟨le1 rfl,le1 rfl,le1 rfl,le1 rfl,le1 rfl,le1 rfl,le1 rfl,le1 rfl,trivial⟩ ⟨rfl,rfl,trivial⟩
   ·rw [if_neg (by rw [ht];decide)] at hst
    refine k5 (k4 (k1 ?_))
    refine A4 (A3 (C6 Z Z (by omega)) Z (A3 (A5 Z Z) Z (A7 ?_)))
    refine k1 ?_
    refine ⟨p+1,by omega,by omega,?_⟩
    rw [hst]
    exact J70 ⟨le1 rfl,le1 rfl,le1 rfl,le1 rfl,le1 rfl,le1 rfl,le1 rfl,le1 rfl,trivial⟩ ⟨rfl,rfl,trivial⟩
  ·have hpn:p=n:=by have:=A1 ht;omega
   subst hpn
   have hst:=hstep p (by omega)
   have hvis:j4 r (A26 p p)=!r.Lost:=by unfold A26 j4;rw [if_pos rfl,if_pos rfl]
   rw [hvis,I02] at hst
   refine k6 (k2 ?_)
   refine A4 (A3 (A8 Z) Z (A3 (A9 Z Z Z) Z (A3 (I7 Z) Z (A7 ?_))))
   refine k1 ?_
   refine B6 rfl (fun ht=>?_) (fun ht=>?_)
   ·rw [if_pos ht] at hst
    skip
    refine A4 (A3 (A5 Z Z) Z (A3 (A5 Z Z) Z (A3 (H9 Z Z Z (by omega) (by (rw [hlen];omega))) Z ?_)));refine A3 (V2 Z Z hget Z) Z (A3 (C6 Z Z (by omega)) Z (A3 (H9 Z Z Z (by omega) (by (rw [hlen];omega))) Z ?_));refine E7 (L2 TySz.out Z Z (by (rw [hlen];omega)) Z Z) ?_;refine A7 ?_
    refine k4 (k1 ?_)
    refine A4 (A3 (C6 Z Z (by omega)) Z (A3 (A5 Z Z) Z (A7 ?_)))
    refine k1 ?_
    refine ⟨i+1,by omega,by omega,?_⟩
    rw [hst]
    exact J70 ⟨le1 rfl,le1 rfl,le1 rfl,le1 rfl,le1 rfl,trivial⟩ ⟨rfl,trivial⟩
   ·rw [if_neg (by rw [ht];decide)] at hst
    refine k5 (k4 (k1 ?_))
    refine A4 (A3 (C6 Z Z (by omega)) Z (A3 (A5 Z Z) Z (A7 ?_)))
    refine k1 ?_
    refine ⟨i+1,by omega,by omega,?_⟩
    rw [hst]
    exact J70 ⟨le1 rfl,le1 rfl,le1 rfl,le1 rfl,le1 rfl,trivial⟩ ⟨rfl,trivial⟩
 ·have hil:i=rows.length:=by have:=A1 ht;omega
  subst hil
  rw [I03]
  refine k6 (k2 ?_)
  refine A4 (A3 (A5 Z Z) Z (A3 (A6 Z Z) Z (A7 ?_)))
  refine k1 (k10 ?_)
  exact K8 (Y6 rfl rfl) (by repeat (first | exact D5 | refine D4 rfl ?_ | refine F4 _ ?_)) (ObIn.spec (ob':=[(720,_)]) ⟨rfl,trivial⟩) ⟨rfl,rfl⟩
theorem H76 (c:Comb) (hn:1≤c.Parents∧c.Parents≤32) (hr:∀h∈c.Hunks,K1 h.Rows) (hz:szC c.Hunks≤268435456):FnOk Tryz.prog 92 [A19 c] (fun rs=>rs=[O9 (w8 c.Parents.toNat c.Hunks)]):=by
 obtain ⟨n,hN⟩:∃n,n=c.Parents.toNat:=⟨_,rfl⟩
 rw [←hN]
 have hzl:=G38 c.Hunks
 refine FnOk.intro Tryz.func92 (by decide) Z Z Z Z ?_
 refine k2 ?_
 refine A4 (C5 (Q1 1 Z Z Z) Z (A3 (A6 Z Z) Z (A7 ?_)))
 refine k1 (k2 (k2 ?_))
 refine A4 (A3 (A8 Z) Z (A3 (A9 Z Z Z) Z (A3 (E3 Z (.pure _ _ _ _)) Z (A3 (A5 Z Z) Z (A7 ?_)))))
 refine k1 (k3 ?_)
 refine E2 (X:=Nat) (fun k=>([(1,.s (.one (.ref 1 0))),(8,C7 CHunk 2 W1 c.Hunks),(9,C0 c.Hunks.length),(10,C0 k)],[(1,cBox c)])) (fun k=>k≤c.Hunks.length∧w8 n c.Hunks=w8 n (c.Hunks.drop k)) (fun k=>c.Hunks.length - k) 0 ⟨Nat.zero_le _,rfl⟩ (J70 ⟨le1 rfl,le1 rfl,le1 rfl,le1 rfl,trivial⟩ ⟨rfl,trivial⟩) ?_
 rintro k ⟨hk,hp⟩
 dsimp only at hk hp ⊢
 refine k2 ?_
 refine A4 (A3 (F0 Z Z) Z (A7 ?_))
 refine k1 (k2 ?_)
 refine B6 rfl (fun ht=>?_) (fun ht=>?_)
 ·have hlt:k < c.Hunks.length:=by have:=A0 ht;omega
  have hv:c.Hunks[k]?=some c.Hunks[k]:=by simp [hlt]
  have hrw:=hr _ (K17 hlt)
  have hzm:=G37 (K17 hlt)
  rw [K11 hlt] at hp
  obtain ⟨h,hx⟩:∃x,x=c.Hunks[k]:=⟨_,rfl⟩
  rw [←hx] at hv hrw hp hzm
  have hz1:=A00 h.Rows
  unfold D90 at hzm
  have hp:w8 n c.Hunks=(Q5 h.Rows n&&w8 n (c.Hunks.drop (k+1))):=hp
  refine k5 (k1 (k2 (k3 (k2 ?_))))
  refine A4 (A3 (B4 Z (.pure _ _ _ _) Z (by omega) hv) Z (A3 (D6 Z Z) Z (C5 (E8 4 Z) Z (E7 (B2 TySz.out Z Z Z Z Z Z) (A7 ?_)))))
  refine k1 (k2 ?_)
  refine A4 (A3 (A8 Z) Z (A3 (A9 Z Z Z) Z (A3 (E3 Z (.pure _ _ _ _)) Z (A3 (A5 Z Z) Z (A7 ?_)))))
  refine k1 (k3 ?_)
  refine E2 (X:=Nat) (fun j=>([(1,.s (.one (.ref 1 0))),(8,C7 CHunk 2 W1 c.Hunks),(9,C0 c.Hunks.length),(10,C0 k),(15,C7 Row 3 rowC h.Rows),(16,C0 h.Rows.length),(17,C0 j)],[(1,cBox c)])) (fun j=>j≤h.Rows.length∧Q5 h.Rows n=Q5 (h.Rows.drop j) n) (fun j=>h.Rows.length - j) 0 ⟨Nat.zero_le _,rfl⟩ (J70 ⟨le1 rfl,le1 rfl,le1 rfl,le1 rfl,le1 rfl,le1 rfl,le1 rfl,trivial⟩ ⟨rfl,trivial⟩) ?_
  rintro j ⟨hj,hq⟩
  dsimp only at hj hq ⊢
  refine k2 ?_
  refine A4 (A3 (F0 Z Z) Z (A7 ?_))
  refine k1 (k2 ?_)
  refine B6 rfl (fun ht=>?_) (fun ht=>?_)
  ·have hlt2:j < h.Rows.length:=by have:=A0 ht;omega
   have hv2:h.Rows[j]?=some h.Rows[j]:=by simp [hlt2]
   have hm:=hrw _ (K17 hlt2)
   rw [K11 hlt2,C84] at hq
   obtain ⟨r,hy⟩:∃x,x=h.Rows[j]:=⟨_,rfl⟩
   rw [←hy] at hv2 hm hq
   have hw:=E41 r c.Parents hn hm
   rw [←hN] at hw
   refine k5 (k1 (k2 (k3 (k2 ?_))))
   refine A4 (A3 (B4 Z (.pure _ _ _ _) Z (by omega) hv2) Z (A3 (D6 Z Z) Z (C5 (E8 6 Z) Z (E7 (B2 TySz.out Z Z Z Z Z Z) (A7 ?_)))))
   refine k1 (k2 ?_)
   refine A4 (A3 (D1 Z Z Z) Z (A3 (A8 Z) Z (A3 (A9 Z Z Z) Z (C9 (hw) Z Z Z ?_))));rintro _ rfl;refine A3 (I7 Z) Z (A7 ?_)
   refine k1 ?_
   refine B6 rfl (fun ht=>?_) (fun ht=>?_)
   ·have h2:V8 n r=false:=by simpa using ht
    rw [h2,Bool.false_and] at hq
    rw [hq,Bool.false_and] at hp
    refine k2 ?_
    refine A4 (A3 (A6 Z Z) Z (A7 ?_))
    refine k1 (k10 (k12 (k11 (k11 (k12 (k12 (k11 (k11 (k12 (k11 ?_))))))))))
    exact B7 (H6 rfl rfl rfl) (by rw [hp])
   ·have h2:V8 n r=true:=by simpa using ht
    rw [h2,Bool.true_and] at hq
    refine k5 (k4 (k1 ?_))
    refine A4 (A3 (C6 Z Z (by omega)) Z (A3 (A5 Z Z) Z (A7 ?_)))
    refine k1 ?_
    exact ⟨j+1,⟨by omega,hq⟩,by omega,J70 ⟨le1 rfl,le1 rfl,le1 rfl,le1 rfl,le1 rfl,le1 rfl,le1 rfl,trivial⟩ ⟨rfl,trivial⟩⟩
  ·have hjl:j=h.Rows.length:=by have:=A1 ht;omega
   rw [hjl,K15 (Nat.le_refl _)] at hq
   have hq:Q5 h.Rows n=true:=hq
   rw [hq,Bool.true_and] at hp
   refine k6 (k7 (k7 (k8 Z (k4 (k1 ?_)))))
   refine A4 (A3 (C6 Z Z (by omega)) Z (A3 (A5 Z Z) Z (A7 ?_)))
   refine k1 ?_
   exact ⟨k+1,⟨by omega,hp⟩,by omega,J70 ⟨le1 rfl,le1 rfl,le1 rfl,le1 rfl,trivial⟩ ⟨rfl,trivial⟩⟩
 ·have hkl:k=c.Hunks.length:=by have:=A1 ht;omega
  rw [hkl,K15 (Nat.le_refl _)] at hp
  refine k6 (k2 ?_)
  refine A4 (A3 (A6 Z Z) Z (A7 ?_))
  refine k1 (k10 ?_)
  exact B7 (H6 rfl rfl rfl) (by rw [hp];rfl)
theorem G89 (h:CHunk) (n:Nat) (ends:List Int) (hn:n≤32) (hr:K1 h.Rows) (hl:h.Rows.length≤268435456) (he:ends.length=n+1) (he0:∀e∈ends,0≤e) :
  FnOk Tryz.prog 156 [G35 h,G5 n,P7 ends] (fun rs=>rs=if Z7 n ends h=true then [P7 (V0 n h),O9 true] else [P7 [],O9 false]):=by
 have hnot:∀{Q:Prop},(Z7 n ends h=true→False)→(if Z7 n ends h=true then [P7 (V0 n h),O9 true] else [P7 [],O9 false])=[P7 [],O9 false]:=fun hq=>if_neg hq
 have hF:=D81 n ends h
 refine FnOk.intro Tryz.func156 (by decide) Z Z Z Z ?_
 refine k2 ?_
 refine A4 (C5 (Q1 3 Z Z Z) Z (A3 (A6 Z Z) Z (A3 (A6 Z Z) Z (A7 ?_))))
 refine k1 (k2 (k2 ?_))
 refine A4 (A3 (A8 Z) Z (A3 (A9 Z Z Z) Z (A3 (E3 Z (.pure _ _ _ _)) Z (A3 (A5 Z Z) Z (A3 (C6 Z Z (by omega)) Z (A3 (K2 Z Z) Z (A3 (A5 Z Z) Z (B1 Z Z Z Z (fun hg=>by rw [hg];exact A8 Z) ?_))))))));refine B1 Z Z Z Z (fun hg=>by rw [hg];exact A9 Z Z Z) ?_;refine B1 Z Z Z Z (fun hg=>by rw [hg];exact E3 Z (.pure _ _ _ _)) ?_;refine B1 Z Z Z Z (fun hg=>by rw [hg];exact Q0 Z Z) ?_;refine A3 (B5 Z (fun h=>by first | rfl | (rw [h];rfl)) (fun h=>by first | rfl | (rw [h];rfl))) Z ?_;refine A7 ?_
 refine k1 ?_
 refine B6 rfl (fun ht=>?_) (fun ht=>?_)
 ·have h1:=A0 (or_pick.symm.trans ht)
  refine k2 ?_
  refine A4 (A3 (T0 _ 1 G7) Z (A3 (A6 Z Z) Z (A7 ?_)))
  refine k1 (k10 (k11 ?_))
  refine B7 (rs:=[P7 [],O9 false]) (p9 Z Z Z Z Z) ?_
  rw [if_neg]
  intro hq
  have h2:=(hF.1 hq).1
  rcases h1 with h1 | h1
  ·omega
  ·exact h2.2 (List.length_eq_zero_iff.1 (by omega))
 ·have h1:=A1 (or_pick.symm.trans ht)
  simp only [not_or,Decidable.not_not] at h1
  have hal:h.At.length=n+1:=by omega
  have hne:h.Rows≠[]:=fun e=>h1.2 (by rw [e];rfl)
  refine M7 [(1,C0 n),(2,C7 Int 1 G7 ends),(3,.s (.one (.ref 3 0)))] [(3,.box (G35 h).s1.cells)] (J70 ⟨le1 rfl,le1 rfl,le1 rfl,trivial⟩ ⟨rfl,trivial⟩) ?_
  refine k5 (k1 (k2 ?_))
  refine A4 (A3 (A8 Z) Z (A3 (A9 Z Z Z) Z (A3 (A5 Z Z) Z (l_new (B67 h.Rows n hn hr hl) Z Z Z Z ?_))));rintro _ _ ⟨rfl,rfl⟩;refine ⟨rfl,?_⟩;refine A3 (A6 Z Z) Z (A7 ?_)
  refine k1 (k2 (k2 ?_))
  refine A4 (A3 (A8 Z) Z (A3 (A9 Z Z Z) Z (A3 (E3 Z (.pure _ _ _ _)) Z (A3 (A5 Z Z) Z (A7 ?_)))))
  refine k1 (k3 ?_)
  refine E2 (X:=Nat) (fun k=>([(2,C7 Int 1 G7 ends),(8,.s (.one (.mut 720))),(28,C7 Int 1 G7 h.At),(29,C0 h.At.length),(30,C0 k)],[(720,.arr Int 1 G7 (A27 n h k))])) (fun k=>k≤h.At.length∧∀j,j < k→ends.getD j 0≤h.At.getD j 0∧h.At.getD j 0≤4096) (fun k=>h.At.length - k) 0 ⟨Nat.zero_le _,fun j hj=>by omega⟩ (by rw [H30];exact J70 ⟨le1 rfl,le1 rfl,le1 rfl,le1 rfl,le1 rfl,trivial⟩ ⟨rfl,trivial⟩) ?_
  rintro k ⟨hk,hp⟩
  dsimp only at hk hp ⊢
  have hlen:=I05 n h k
  refine k2 ?_
  refine A4 (A3 (F0 Z Z) Z (A7 ?_))
  refine k1 (k2 ?_)
  refine B6 rfl (fun ht=>?_) (fun ht=>?_)
  ·have hlt:k < h.At.length:=by have:=A0 ht;omega
   have hv:=getI hlt
   have hve:=getI (l:=ends) (i:=k) (by omega)
   have hget:=I06 n h k (by omega)
   have hset:=I07 n h k
   have hek:0≤ends.getD k 0:=he0 _ (K16 hve)
   have hcl:=E98 h.Rows n k
   obtain ⟨a,ha⟩:∃a,a=h.At.getD k 0:=⟨_,rfl⟩
   obtain ⟨e,hee⟩:∃e,e=ends.getD k 0:=⟨_,rfl⟩
   obtain ⟨q,hqq⟩:∃q,q=N4 h.Rows n k:=⟨_,rfl⟩
   rw [←ha] at hv hset
   rw [←hee] at hve hek
   rw [←hqq] at hget hset hcl
   refine k5 (k1 (k2 (k3 (k2 ?_))))
   refine A4 (A3 (A5 Z Z) Z (A3 (B4 Z (.pure _ _ _ _) Z (by omega) hv) Z (A3 (C8 Z Z) Z (A3 (A6 Z Z) Z (A3 (A6 Z Z) Z (A7 ?_))))))
   refine k1 (k2 (k2 ?_))
   refine A4 (A3 (A5 Z Z) Z (A3 (A5 Z Z) Z (A3 (A5 Z Z) Z (A3 (B4 Z (.pure _ _ _ _) Z (by omega) hve) Z (A3 (C8 Z Z) Z (A3 (F0 Z Z) Z (A3 (A5 Z Z) Z (B1 Z Z Z Z (fun hg=>by rw [hg];exact A5 Z Z) ?_))))))));refine B1 Z Z Z Z (fun hg=>by rw [hg];exact R5 Z Z) ?_;refine A3 (B5 Z (fun h=>by first | rfl | (rw [h];rfl)) (fun h=>by first | rfl | (rw [h];rfl))) Z ?_;refine A7 ?_
   refine k1 ?_
   refine B6 rfl (fun ht=>?_) (fun ht=>?_)
   ·have h2:=A0 (or_pick.symm.trans ht)
    refine k2 ?_
    refine A4 (A3 (T0 _ 1 G7) Z (A3 (A6 Z Z) Z (A7 ?_)))
    refine k1 (k10 (k11 (k12 (k11 (k11 (k12 (k11 ?_)))))))
    refine B7 (rs:=[P7 [],O9 false]) (p9 Z Z Z Z Z) ?_
    rw [if_neg]
    intro hq
    have h3:=(hF.1 hq).2 k (by omega)
    rw [←ha,←hee] at h3
    omega
   ·have h2:=A1 (or_pick.symm.trans ht)
    have h3:e≤a∧a≤4096:=by omega
    refine k5 (k1 ?_)
    refine A4 (A3 (A5 Z Z) Z (A3 (A5 Z Z) Z (A3 (H9 Z Z Z (by omega) (by (rw [hlen];omega))) Z ?_)));refine A3 (V2 Z Z hget Z) Z (A3 (A5 Z Z) Z (A3 (C6 Z Z (by omega)) Z (A3 (H9 Z Z Z (by omega) (by (rw [hlen];omega))) Z ?_)));refine E7 (L2 TySz.out Z Z (by (rw [hlen];omega)) Z Z) ?_;refine A7 ?_
    refine k4 (k1 ?_)
    refine A4 (A3 (C6 Z Z (by omega)) Z (A3 (A5 Z Z) Z (A7 ?_)))
    refine k1 ?_
    refine ⟨k+1,⟨by omega,fun j hj=>?_⟩,by omega,?_⟩
    ·by_cases e1:j=k
     ·subst e1;rw [←ha,←hee];exact h3
     ·exact hp j (by omega)
    ·rw [←hset]
     exact J70 ⟨le1 rfl,le1 rfl,le1 rfl,le1 rfl,le1 rfl,trivial⟩ ⟨rfl,trivial⟩
  ·have hkl:k=n+1:=by have:=A1 ht;omega
   subst hkl
   rw [H31]
   have hq:Z7 n ends h=true:=hF.2 ⟨⟨hal,hne⟩,hp⟩
   refine G6 (Sees.freeze (k:=720) Z) ?_
   refine k6 (k2 ?_)
   refine A4 (A3 (A5 Z Z) Z (A3 (A6 Z Z) Z (A3 (A6 Z Z) Z (A7 ?_))))
   refine k1 (k10 ?_)
   exact B7 (rs:=[P7 (V0 n h),O9 true]) (p9 rfl rfl rfl rfl rfl) (by rw [if_pos hq])
theorem I33 (l:List Int) (hl:0 < l.length):FnOk Tryz.prog 112 [P7 l] (fun rs=>∃m,rs=[G5 m]∧∀b,m≤b↔∀e∈l,e≤b):=by
 refine FnOk.intro Tryz.func112 (by decide) Z Z Z Z ?_
 refine G01 (t:=0) rfl (.pure _ _ _ _) fun hb=>?_
 refine k2 ?_
 refine A4 (A3 (A6 Z Z) Z (A7 ?_))
 refine k1 (k2 (k2 ?_))
 refine A4 (A3 (A5 Z Z) Z (A3 (E3 Z (.pure _ _ _ _)) Z (A3 (F0 Z Z) Z (A7 ?_))))
 refine k1 ?_
 refine B6 rfl (fun ht=>?_) (fun ht=>?_)
 ·exact absurd (A0 ht) (by omega)
 refine k5 (k1 (k2 ?_))
 refine A4 (A3 (A5 Z Z) Z (A3 (B4 Z (.pure _ _ _ _) Z (by omega) (getI (l:=l) (i:=0) hl)) Z (A3 (C8 Z Z) Z (A3 (A6 Z Z) Z (A7 ?_)))))
 refine k1 (k2 (k2 ?_))
 refine A4 (A3 (A6 Z Z) Z (A7 ?_))
 refine k1 (k3 ?_)
 refine E2 (X:=Nat × Int) (fun x=>([(0,C7 Int 1 G7 l),(3,C0 x.2),(4,C0 x.1)],[])) (fun x=>(1≤x.1∧x.1≤l.length)∧∀b,x.2≤b↔∀e∈l.take x.1,e≤b) (fun x=>l.length - x.1) (1,l.getD 0 0) ⟨⟨Nat.le_refl _,hl⟩,?_⟩ (J70 ⟨le1 rfl,le1 rfl,le1 rfl,trivial⟩ trivial) ?_
 ·intro b
  have:l.take 1=[l.getD 0 0]:=by
   cases l with
   | nil=>cases hl
   | cons x r=>rfl
  dsimp only
  rw [this];simp
 rintro ⟨k,m⟩ ⟨⟨hk1,hk⟩,hp⟩
 dsimp only at hk1 hk hp ⊢
 refine k2 (k2 ?_)
 refine A4 (A3 (A5 Z Z) Z (A3 (A5 Z Z) Z (A3 (E3 Z (.pure _ _ _ _)) Z (A3 (F0 Z Z) Z (A7 ?_)))))
 refine k1 ?_
 refine B6 rfl (fun ht=>?_) (fun ht=>?_)
 ·have hlt:k < l.length:=by have:=A0 ht;omega
  have hv:=getI hlt
  refine k5 (k1 (k2 (k3 ?_)))
  refine A4 (A3 (A5 Z Z) Z (A3 (A5 Z Z) Z (A3 (A5 Z Z) Z (A3 (B4 Z (.pure _ _ _ _) Z (by omega) hv) Z (A3 (C8 Z Z) Z (A3 (n_max Z Z) Z (A3 (A6 Z Z) Z (A7 ?_))))))))
  refine k4 (k1 ?_)
  refine A4 (A3 (A5 Z Z) Z (A3 (C6 Z Z (by omega)) Z (A3 (A6 Z Z) Z (A7 ?_))))
  refine k1 ?_
  refine ⟨(k+1,if m < l.getD k 0 then l.getD k 0 else m),⟨⟨by dsimp only;omega,by dsimp only;omega⟩,?_⟩,by dsimp only;omega,J70 ⟨le1 rfl,le1 rfl,le1 rfl,trivial⟩ trivial⟩
  intro b
  dsimp only
  have e:l.take (k+1)=l.take k++[l.getD k 0]:=by
   rw [K14 hlt,K09,K06 hlt];rfl
  have h1:=hp b
  rw [e]
  constructor
  ·intro h x hx
   rcases List.mem_append.1 hx with hx | hx
   ·exact h1.1 (by omega) x hx
   ·simp only [K53,List.not_mem_nil,or_false] at hx
    rw [hx];omega
  ·intro h
   have h2:=h1.2 (fun x hx=>h x (List.mem_append.2 (.inl hx)))
   have h3:=h (l.getD k 0) (List.mem_append.2 (.inr (by simp)))
   omega
 ·have hkl:k=l.length:=by have:=A1 ht;omega
  subst hkl
  rw [K28] at hp
  refine k6 (k2 ?_)
  refine A4 (A3 (A5 Z Z) Z (A3 (A6 Z Z) Z (A7 ?_)))
  refine k1 (k10 ?_)
  exact B7 (H6 rfl rfl rfl) ⟨m,rfl,hp⟩
theorem J40 (c:Comb) (hn:1≤c.Parents∧c.Parents≤32) (hr:∀h∈c.Hunks,K1 h.Rows) (hz:szC c.Hunks≤268435456) :
  FnOk Tryz.prog 93 [A19 c] (fun rs=>rs=[O9 (x2 c.Parents.toNat (List.replicate (c.Parents.toNat+1) 0) false 0 c.Hunks)]):=by
 obtain ⟨n,hN⟩:∃n,n=c.Parents.toNat:=⟨_,rfl⟩
 have hNc:c.Parents=(n:Int):=by omega
 rw [←hN]
 have e0:(c.Parents+1).toNat=n+1:=by omega
 have hzl:=G38 c.Hunks
 obtain ⟨W,hW⟩:∃W,W=x2 n (List.replicate (n+1) 0) false 0 c.Hunks:=⟨_,rfl⟩
 rw [←hW]
 refine FnOk.intro Tryz.func93 (by decide) Z Z Z Z ?_
 refine k2 ?_
 refine A4 (C5 (Q1 1 Z Z Z) Z (A3 (A6 Z Z) Z (A7 ?_)))
 refine k1 (k2 ?_)
 refine A4 (C5 (E8 3 Z) Z (A7 ?_))
 refine k1 (k2 ?_)
 refine A4 (A3 (A8 Z) Z (A3 (A9 Z Z Z) Z (A3 (C6 Z Z (by omega)) Z (C5 (A59 720 Int G7 0 Z Z (by omega) (by omega) (fun _=>by first | exact ⟨⟨rfl,rfl⟩,trivial⟩ | exact ⟨S2 _ _ _,trivial⟩) (by first | rfl | (simp [G4,J6,Ob.free,SV.free,S1.free,TC.free]<;>rfl))) Z ?_))));refine A3 (A6 Z Z) Z (A7 ?_)
 rw [e0]
 refine k1 (k2 (k2 ?_))
 refine G6 (Sees.freeze (k:=720) Z) ?_
 refine A4 (A3 (A8 Z) Z (A3 (A9 Z Z Z) Z (A3 (E3 Z (.pure _ _ _ _)) Z (A3 (A5 Z Z) Z (A7 ?_)))))
 refine k1 (k3 ?_)
 refine E2 (X:=Nat × List Int × Bool × Int) (fun x=>([(1,.s (.one (.ref 1 0))),(3,.s (.one (.ref 3 0))),(4,C7 Int 1 G7 x.2.1),(15,C7 CHunk 2 W1 c.Hunks),(16,C0 c.Hunks.length),(17,C0 x.1)],[(1,cBox c),(3,.box [.p (.v (.bool x.2.2.1)),.p (.v (.int .u32 x.2.2.2))])])) (fun x=>x.1≤c.Hunks.length∧x.2.1.length=n+1∧(∀e∈x.2.1,0≤e)∧W=x2 n x.2.1 x.2.2.1 x.2.2.2 (c.Hunks.drop x.1)) (fun x=>c.Hunks.length - x.1) (0,List.replicate (n+1) 0,false,0) ⟨Nat.zero_le _,by simp,fun e he=>by have:=(List.mem_replicate.1 he).2;omega,hW⟩ (J70 ⟨le1 rfl,le1 rfl,le1 rfl,le1 rfl,le1 rfl,le1 rfl,trivial⟩ ⟨rfl,rfl,trivial⟩) ?_
 rintro ⟨k,ends,res,par⟩ ⟨hk,hel,he0,hp⟩
 dsimp only at hk hel he0 hp ⊢
 refine k2 ?_
 refine A4 (A3 (F0 Z Z) Z (A7 ?_))
 refine k1 (k2 ?_)
 refine B6 rfl (fun ht=>?_) (fun ht=>?_)
 ·have hlt:k < c.Hunks.length:=by have:=A0 ht;omega
  have hv:c.Hunks[k]?=some c.Hunks[k]:=by simp [hlt]
  have hmem:=K17 hlt
  have hrw:=hr _ hmem
  have hzm:=G37 hmem
  rw [K11 hlt,x2] at hp
  obtain ⟨h,hx⟩:∃x,x=c.Hunks[k]:=⟨_,rfl⟩
  rw [←hx] at hv hrw hzm hp
  have hz1:=A00 h.Rows
  have hz2:=C54 h.Rows
  unfold D90 at hzm
  have hf:=G89 h n ends (by omega) hrw (by omega) hel he0
  rw [←hNc] at hf
  refine k5 (k1 (k2 (k3 (k2 ?_))))
  refine A4 (A3 (B4 Z (.pure _ _ _ _) Z (by omega) hv) Z (A3 (D6 Z Z) Z (C5 (E8 6 Z) Z (E7 (B2 TySz.out Z Z Z Z Z Z) (A7 ?_)))))
  refine k1 (k2 ?_)
  refine A4 (A3 (A6 Z Z) Z (A7 ?_))
  refine k1 (k2 (k2 ?_))
  cases hfb:Z7 n ends h with
  | false =>
   rw [hfb,if_neg (by decide)] at hf
   rw [hfb,Bool.false_and] at hp
   refine A4 (A3 (D1 Z Z Z) Z (A3 (A8 Z) Z (A3 (A9 Z Z Z) Z (A3 (A5 Z Z) Z (C9 (hf) Z Z Z ?_)))));rintro _ rfl;refine A3 (A5 Z Z) Z (A3 (C1 Z Z) Z (A3 (C1 Z Z) Z (A3 (A6 Z Z) Z (A3 (A6 Z Z) Z (A7 ?_)))))
   refine k1 (k2 ?_)
   refine A4 (A3 (A5 Z Z) Z (A3 (I7 Z) Z (A7 ?_)))
   refine k1 ?_
   refine B6 rfl (fun ht=>?_) (fun ht=>?_)
   ·refine k2 ?_
    refine A4 (A3 (A6 Z Z) Z (A7 ?_))
    refine k1 (k10 (k11 (k12 (k11 (k11 (k12 (k11 ?_)))))))
    exact B7 (H6 rfl rfl rfl) (by rw [hp])
   ·cases ht
  | true =>
   rw [hfb,if_pos rfl] at hf
   rw [hfb,Bool.true_and] at hp
   have hpos:∀e∈V0 n h,0≤e:=by
    intro e hm
    obtain ⟨j,hj,rfl⟩:=List.mem_map.1 hm
    have hj:=List.mem_range.1 hj
    have h1:=((D81 n ends h).1 hfb).2 j hj
    have h2:=he0 _ (K16 (getI (l:=ends) (i:=j) (by omega)))
    have h3:=E98 h.Rows n j
    omega
   refine A4 (A3 (D1 Z Z Z) Z (A3 (A8 Z) Z (A3 (A9 Z Z Z) Z (A3 (A5 Z Z) Z (C9 (hf) Z Z Z ?_)))));rintro _ rfl;refine A3 (A5 Z Z) Z (A3 (C1 Z Z) Z (A3 (C1 Z Z) Z (A3 (A6 Z Z) Z (A3 (A6 Z Z) Z (A7 ?_)))))
   refine k1 (k2 ?_)
   refine A4 (A3 (A5 Z Z) Z (A3 (I7 Z) Z (A7 ?_)))
   refine k1 ?_
   refine B6 rfl (fun ht=>?_) (fun ht=>?_)
   ·cases ht
   refine k5 (k1 (k2 ?_))
   refine A4 (A3 (A8 Z) Z (A3 (A9 Z Z Z) Z (A3 (E3 Z (.pure _ _ _ _)) Z (A3 (A5 Z Z) Z (A7 ?_)))))
   refine k1 (k3 ?_)
   refine E2 (X:=Nat × Bool × Int) (fun x=>([(1,.s (.one (.ref 1 0))),(3,.s (.one (.ref 3 0))),(4,C7 Int 1 G7 (V0 n h)),(15,C7 CHunk 2 W1 c.Hunks),(16,C0 c.Hunks.length),(17,C0 k),(32,C7 Row 3 rowC h.Rows),(33,C0 h.Rows.length),(34,C0 x.1)],[(1,cBox c),(3,.box [.p (.v (.bool x.2.1)),.p (.v (.int .u32 x.2.2))])])) (fun x=>x.1≤h.Rows.length∧Q6 res par h.Rows=Q6 x.2.1 x.2.2 (h.Rows.drop x.1)∧w9 res h.Rows=w9 x.2.1 (h.Rows.drop x.1)∧x1 par h.Rows=x1 x.2.2 (h.Rows.drop x.1)) (fun x=>h.Rows.length - x.1) (0,res,par) ⟨Nat.zero_le _,rfl,rfl,rfl⟩ (J70 ⟨le1 rfl,le1 rfl,le1 rfl,le1 rfl,le1 rfl,le1 rfl,le1 rfl,le1 rfl,le1 rfl,trivial⟩ ⟨rfl,rfl,trivial⟩) ?_
   rintro ⟨j,res',par'⟩ ⟨hj,q1,q2,q3⟩
   dsimp only at hj q1 q2 q3 ⊢
   refine k2 ?_
   refine A4 (A3 (F0 Z Z) Z (A7 ?_))
   refine k1 (k2 ?_)
   refine B6 rfl (fun ht=>?_) (fun ht=>?_)
   ·have hlt2:j < h.Rows.length:=by have:=A0 ht;omega
    have hv2:h.Rows[j]?=some h.Rows[j]:=by simp [hlt2]
    have htl:=G98 h.Rows _ (K17 hlt2)
    rw [K11 hlt2] at q1 q2 q3
    rw [Q6] at q1
    obtain ⟨r,hy⟩:∃x,x=h.Rows[j]:=⟨_,rfl⟩
    rw [←hy] at hv2 htl q1 q2 q3
    refine k5 (k1 (k2 (k3 (k2 ?_))))
    refine A4 (A3 (B4 Z (.pure _ _ _ _) Z (by omega) hv2) Z (A3 (D6 Z Z) Z (C5 (E8 9 Z) Z (E7 (B2 TySz.out Z Z Z Z Z Z) (A7 ?_)))))
    refine k1 (k2 ?_)
    by_cases hs:H7 r.Text=true
    ·refine A4 (A3 (D1 Z Z Z) Z (C9 (B16 r (by omega)) Z Z Z ?_));rintro _ rfl;refine A3 (I7 Z) Z (A3 (A5 Z Z) Z (H3 Z Z Z (by rw [hs];rfl) ?_));refine A3 (D1 Z Z Z) Z (H3 Z Z Z (by rw [hs];rfl) ?_);refine G55 (I27 r res' par' (by omega)) Z Z Z Z Z Z ?_;rintro _ _ ⟨rfl,rfl⟩;refine B1 Z Z Z Z (fun hg=>by rw [hg];exact I7 Z) ?_;refine A3 (B5 Z (fun h=>by first | rfl | (rw [h];rfl)) (fun h=>by first | rfl | (rw [h];rfl))) Z ?_;refine A7 ?_
     refine k1 ?_
     refine B6 rfl (fun ht=>?_) (fun ht=>?_)
     ·have h2:C26 res' par' r=false:=by rw [hs] at ht;simpa using ht
      rw [hs,h2,Bool.true_and,Bool.false_and] at q1
      rw [q1,Bool.false_and] at hp
      refine k2 ?_
      refine A4 (A3 (A6 Z Z) Z (A7 ?_))
      refine k1 (k10 (k12 (k11 (k11 (k12 (k12 (k11 (k11 (k12 (k11 ?_))))))))))
      exact B7 (H6 rfl rfl rfl) (by rw [hp])
     ·have h2:C26 res' par' r=true:=by rw [hs] at ht;simpa using ht
      rw [hs,h2,Bool.true_and,Bool.true_and] at q1
      refine k5 (k4 (k1 ?_))
      refine A4 (A3 (C6 Z Z (by omega)) Z (A3 (A5 Z Z) Z (A7 ?_)))
      refine k1 ?_
      exact ⟨(j+1,_,_),⟨by dsimp only;omega,q1,q2,q3⟩,by dsimp only;omega,J70 ⟨le1 rfl,le1 rfl,le1 rfl,le1 rfl,le1 rfl,le1 rfl,le1 rfl,le1 rfl,le1 rfl,trivial⟩ ⟨rfl,rfl,trivial⟩⟩
    ·have hs':H7 r.Text=false:=by simpa using hs
     refine A4 (A3 (D1 Z Z Z) Z (C9 (B16 r (by omega)) Z Z Z ?_));rintro _ rfl;refine A3 (I7 Z) Z (A3 (A5 Z Z) Z (B1 Z Z Z Z (fun hg=>by rw [hg];exact D1 Z Z Z) ?_));refine J5 Z Z Z (by rw [hs'];decide) Z ?_;refine J5 Z Z Z (by rw [hs'];decide) Z ?_;refine A3 (B5 (q:=true) Z (fun h=>rfl) (fun h=>by rw [hs'] at h;cases h)) Z ?_;refine A7 ?_
     rw [hs',Bool.false_and,Bool.false_and] at q1
     rw [q1,Bool.false_and] at hp
     refine k1 ?_
     refine B6 rfl (fun ht=>?_) (fun ht=>?_)
     ·refine k2 ?_
      refine A4 (A3 (A6 Z Z) Z (A7 ?_))
      refine k1 (k10 (k12 (k11 (k11 (k12 (k12 (k11 (k11 (k12 (k11 ?_))))))))))
      exact B7 (H6 rfl rfl rfl) (by rw [hp])
     ·rw [hs'] at ht;cases ht
   ·have hjl:j=h.Rows.length:=by have:=A1 ht;omega
    rw [hjl,K15 (Nat.le_refl _)] at q1 q2 q3
    have q1:Q6 res par h.Rows=true:=q1
    have q2:w9 res h.Rows=res':=q2
    have q3:x1 par h.Rows=par':=q3
    rw [q1,q2,q3,Bool.true_and] at hp
    refine k6 (k7 (k7 (k8 Z (k4 (k1 ?_)))))
    refine A4 (A3 (C6 Z Z (by omega)) Z (A3 (A5 Z Z) Z (A7 ?_)))
    refine k1 ?_
    exact ⟨(k+1,_,_,_),⟨by dsimp only;omega,C53 n h,hpos,hp⟩,by dsimp only;omega,J70 ⟨le1 rfl,le1 rfl,le1 rfl,le1 rfl,le1 rfl,le1 rfl,trivial⟩ ⟨rfl,rfl,trivial⟩⟩
 ·have hkl:k=c.Hunks.length:=by have:=A1 ht;omega
  rw [hkl,K15 (Nat.le_refl _)] at hp
  have hp:W=decide (∀e∈ends,e≤4096):=hp
  refine k6 (k2 ?_)
  refine A4 (A3 (A5 Z Z) Z (C9 (I33 ends (by omega)) Z Z Z ?_));rintro _ ⟨m,rfl,hm⟩;refine A3 (A57 Z Z) Z (A3 (A6 Z Z) Z (A7 ?_))
  refine k1 (k10 ?_)
  exact B7 (H6 rfl rfl rfl) (by rw [hp];simp only [hm 4096])
theorem D26 (s:Str):FnOk Tryz.prog 91 [M9 s] (fun rs=>rs=[O9 (K4 s)]):=by
 refine FnOk.intro Tryz.func91 (by decide) Z Z Z Z ?_
 refine k2 ?_
 refine A4 (A3 (A6 Z Z) Z (A7 ?_))
 refine k1 (k2 ?_)
 refine A4 (A3 (A5 Z Z) Z (A3 (N1 Z) Z (A3 (A88 Z Z) Z (A3 (A5 Z Z) Z (B1 Z Z Z Z (fun hg=>by rw [hg];exact A5 Z Z) ?_)))));refine B1 Z Z Z Z (fun hg=>by rw [hg];exact N1 Z) ?_;refine B1 Z Z Z Z (fun hg=>by rw [hg];exact A57 Z Z) ?_;refine A3 (B5 Z (fun h=>by first | rfl | (rw [h];rfl)) (fun h=>by first | rfl | (rw [h];rfl))) Z ?_;refine A3 (A6 Z Z) Z (A7 ?_)
 refine k1 (k10 ?_)
 refine B7 (H6 Z Z Z) ?_
 rw [L8]
 unfold K4
 congr 4
 apply decide_eq_decide.2
 omega
theorem I81 (c:Comb) (hp:c.Path.length≤16777216):FnOk Tryz.prog 86 [A19 c] (fun rs=>rs=[M9 (B86 c)]):=by
 have hq:=F02 c.Path
 have hf:=I48 c.Parents
 refine FnOk.intro Tryz.func86 (by decide) Z Z Z Z ?_
 refine k2 ?_
 refine A4 (C5 (Q1 1 Z Z Z) Z (A3 (A6 Z Z) Z (A7 ?_)))
 refine k1 (k2 ?_)
 refine A4 (A3 (A6 Z Z) Z (A7 ?_))
 refine k1 (k2 (k2 ?_))
 refine A4 (A3 (A8 Z) Z (A3 (A9 Z Z Z) Z (A7 ?_)))
 refine k1 ?_
 refine B6 rfl (fun ht=>?_) (fun ht=>?_)
 ·have hd:c.Dense=true:=ht
  skip
  refine A4 (A3 (A6 Z Z) Z (A7 ?_))
  refine k1 (k2 ?_)
  refine E1 (by kernel_rfl) (by kernel_rfl) (B0 (A5 Z Z) Z Z (B0 (I5 Z Z (by (simp only [K05,K07,K10];omega))) Z Z (B0 (I5 Z Z (by (simp only [K05,K07,K10];omega))) Z Z (B0 (A8 Z) Z Z (B0 (A9 Z Z Z) Z Z (B0 (I0 (C02 c.Path (by omega)) Z Z) Z Z (B0 (I5 Z Z (by (simp only [K05,K07,K10];omega))) Z Z (B0 (I5 Z Z (by (simp only [K05,K07,K10];omega))) Z Z (B0 (A8 Z) Z Z (B0 (A9 Z Z Z) Z Z (B0 (I0 (x9 c.Parents) Z Z) Z Z (B0 (I5 Z Z (by (simp only [K05,K07,K10];omega))) Z Z (B0 (I5 Z Z (by (simp only [K05,K07,K10];omega))) Z Z (B0 (A6 Z Z) Z Z (L4 ?_)))))))))))))))
  refine k1 (k10 ?_)
  exact B7 (H6 rfl rfl rfl) (by unfold B86 H28;rw [if_pos hd];simp [ccS,parS])
 ·have hd:c.Dense=false:=ht
  refine k5 (k1 (k2 ?_))
  refine E1 (by kernel_rfl) (by kernel_rfl) (B0 (A5 Z Z) Z Z (B0 (I5 Z Z (by (simp only [K05,K07,K10];omega))) Z Z (B0 (I5 Z Z (by (simp only [K05,K07,K10];omega))) Z Z (B0 (A8 Z) Z Z (B0 (A9 Z Z Z) Z Z (B0 (I0 (C02 c.Path (by omega)) Z Z) Z Z (B0 (I5 Z Z (by (simp only [K05,K07,K10];omega))) Z Z (B0 (I5 Z Z (by (simp only [K05,K07,K10];omega))) Z Z (B0 (A8 Z) Z Z (B0 (A9 Z Z Z) Z Z (B0 (I0 (x9 c.Parents) Z Z) Z Z (B0 (I5 Z Z (by (simp only [K05,K07,K10];omega))) Z Z (B0 (I5 Z Z (by (simp only [K05,K07,K10];omega))) Z Z (B0 (A6 Z Z) Z Z (L4 ?_)))))))))))))))
  refine k1 (k10 ?_)
  exact B7 (H6 rfl rfl rfl) (by unfold B86 H28;rw [hd,if_neg (by decide)];simp [combS,parS])
theorem H77 (h:CHunk) (n:Nat) (hn:n≤32) (hr:K1 h.Rows) (hl:h.Rows.length≤268435456) (ha:h.At.length=n+1) (hb:∀a∈h.At,-4611686018427387904≤a∧a≤4611686018427387904) :
  FnOk Tryz.prog 87 [G35 h,G5 n] (fun rs=>rs=[M9 (C29 n h++[10])]):=by
 have hrep:FnOk Tryz.prog 150 [M9 [64],G5 ((n:Int)+1)] (fun rs=>rs=[M9 (atS (n+1))]):=by
  have:=I80 64 (n+1) (by omega)
  rwa [show ((n+1:Nat):Int)=(n:Int)+1 by omega] at this
 obtain ⟨A,hA⟩:∃A,A=atS (n+1):=⟨_,rfl⟩
 have hAl:A.length=n+1:=by rw [hA,G36]
 have hend:C29 n h++[10]=A++n7 n h n++([32,43]++V9 (h.At.getD n 0) (N4 h.Rows n n)++[32]++A++[10]):=by
  unfold C29
  rw [B85,hA]
  unfold E94 sgnB
  rw [if_pos rfl];simp
 rw [hend]
 rw [←hA] at hrep
 have hsl:=fun k=>B36 n h k
 have hcnt:=fun k=>E98 h.Rows n k
 have hgA:∀k,k < n+1→h.At[k]?=some (h.At.getD k 0):=fun k hk=>getI (by omega)
 have hgC:∀k,k < n+1→(F6 h.Rows n)[k]?=some (N4 h.Rows n k):=fun k hk=>I04 h.Rows n k hk
 have hrA:∀k,k < n+1 → -4611686018427387904≤h.At.getD k 0∧h.At.getD k 0≤4611686018427387904:=fun k hk=>hb _ (K16 (hgA k hk))
 refine FnOk.intro Tryz.func87 (by decide) Z Z Z Z ?_
 refine k2 ?_
 refine A4 (C5 (Q1 2 Z Z Z) Z (A3 (A6 Z Z) Z (A7 ?_)))
 refine k1 (k2 ?_)
 refine A4 (A3 (A8 Z) Z (A3 (A9 Z Z Z) Z (A3 (A5 Z Z) Z (l_new (B67 h.Rows n hn hr hl) Z Z Z Z ?_))));rintro _ _ ⟨rfl,rfl⟩;refine ⟨rfl,?_⟩;refine A3 (A6 Z Z) Z (A7 ?_)
 refine k1 (k2 ?_)
 refine G6 (Sees.freeze (k:=720) Z) ?_
 refine A4 (A3 (A5 Z Z) Z (A3 (C6 Z Z (by omega)) Z (C9 (hrep) Z Z Z ?_)));rintro _ rfl;refine A3 (A6 Z Z) Z (A7 ?_)
 refine k1 (k2 ?_)
 refine A4 (C5 (E18 700 Z) Z (A7 ?_))
 refine k1 (k2 ?_)
 refine G6 (J82 701 UInt8 1 u8C 5 (kb:=700) (o:=1) Z Z Z) ?_
 refine A4 (A3 (A5 Z Z) Z (X9 (O4 (xs:=[]) (s:=A) ⟨⟨_,.inl rfl,rfl⟩,rfl⟩ (by simp only [K10];omega)) Z Z Z ?_));rintro _ _ ⟨rfl,rfl⟩;refine A7 ?_
 refine k1 (k2 (k2 ?_))
 refine A4 (A3 (A5 Z Z) Z (A3 (A5 Z Z) Z (A7 ?_)))
 refine k1 (k3 ?_)
 refine E2 (X:=Nat) (fun p=>([(1,C0 n),(2,.s (.one (.ref 2 0))),(5,C7 Int 1 G7 (F6 h.Rows n)),(6,Y3 A),(7,.s (.one (.ref 700 0))),(18,C0 n),(19,C0 p)],[(2,.box (G35 h).s1.cells),(700,.tbx 124 [.ref 700 0,.buf 701 UInt8 1 u8C (A++n7 n h p)]),(701,.spare (A++n7 n h p).length 1 5)])) (fun p=>p≤n) (fun p=>n - p) 0 (Nat.zero_le _) ?_ ?_
 ·rw [show n7 n h 0=[] from rfl,K27]
  exact J70 ⟨le1 rfl,le1 rfl,le1 rfl,le1 rfl,le1 rfl,le1 rfl,le1 rfl,trivial⟩ ⟨rfl,rfl,rfl,trivial⟩
 intro p hp
 dsimp only at hp ⊢
 have hsp:=hsl p
 have hsucc:=B85 n h p
 refine k2 ?_
 refine A4 (A3 (F0 Z Z) Z (A7 ?_))
 refine k1 (k2 ?_)
 refine B6 rfl (fun ht=>?_) (fun ht=>?_)
 ·have hlt:p < n:=by have:=A0 ht;omega
  have hga:=hgA p (by omega)
  have hgc:=hgC p (by omega)
  have hra:=hrA p (by omega)
  have hcp:=hcnt p
  have hsw:E94 n h p=[32,45]++V9 (h.At.getD p 0) (N4 h.Rows n p):=by
   unfold E94 sgnB;rw [if_neg (by omega)]
  have hrl:=Z3 (h.At.getD p 0) (N4 h.Rows n p)
  rw [hsw] at hsucc
  obtain ⟨a,haa⟩:∃a,a=h.At.getD p 0:=⟨_,rfl⟩
  obtain ⟨q,hqq⟩:∃q,q=N4 h.Rows n p:=⟨_,rfl⟩
  rw [←haa] at hga hra hrl hsucc
  rw [←hqq] at hgc hcp hrl hsucc
  have hlb:(A++n7 n h p).length≤1000:=by rw [K05];omega
  obtain ⟨B,hB⟩:∃B,B=A++n7 n h p:=⟨_,rfl⟩
  rw [←hB] at hlb ⊢
  refine k5 (k1 (k2 (k3 (k2 ?_))))
  refine A4 (A3 (A5 Z Z) Z (A3 (A6 Z Z) Z (A7 ?_)))
  refine k1 ?_
  refine U1 11 (by kernel_rfl) (by kernel_rfl) Z (B0 (A8 Z) Z Z (B0 (A9 Z Z Z) Z Z (B0 (A5 Z Z) Z Z (B0 (B4 Z (.pure _ _ _ _) Z (by omega) hga) Z Z (B0 (C8 Z Z) Z Z (B0 (A5 Z Z) Z Z (B0 (A5 Z Z) Z Z (B0 (B4 Z (.pure _ _ _ _) Z (by omega) hgc) Z Z (B0 (C8 Z Z) Z Z (B0 (I0 (C01 a q hra (by omega)) Z Z) Z Z (B0 (I5 Z Z (by (simp only [K05,K07,K10];omega))) Z Z (L4 (A41 (O4 (xs:=B) (s:=[32,45]++V9 a q) ⟨⟨_,.inr rfl,rfl⟩,rfl⟩ (by simp only [K05,K07,K10];omega)) Z Z Z ?_)))))))))))));rintro _ _ ⟨rfl,rfl⟩;refine ⟨_,rfl,?_⟩;refine L4 ?_
  refine k4 (k1 ?_)
  refine A4 (A3 (C6 Z Z (by omega)) Z (A3 (A5 Z Z) Z (A7 ?_)))
  refine k1 ?_
  refine ⟨p+1,by omega,by omega,?_⟩
  have hs2:A++n7 n h (p+1)=B++([32,45]++V9 a q):=by rw [hsucc,hB,K23]
  rw [hs2]
  exact J70 ⟨le1 rfl,le1 rfl,le1 rfl,le1 rfl,le1 rfl,le1 rfl,le1 rfl,trivial⟩ ⟨rfl,rfl,rfl,trivial⟩
 ·have hpn:p=n:=by have:=A1 ht;omega
  subst hpn
  have hga:=hgA p (by omega)
  have hgc:=hgC p (by omega)
  have hra:=hrA p (by omega)
  have hcp:=hcnt p
  have hrl:=Z3 (h.At.getD p 0) (N4 h.Rows p p)
  obtain ⟨a,haa⟩:∃a,a=h.At.getD p 0:=⟨_,rfl⟩
  obtain ⟨q,hqq⟩:∃q,q=N4 h.Rows p p:=⟨_,rfl⟩
  rw [←haa] at hga hra hrl ⊢
  rw [←hqq] at hgc hcp hrl ⊢
  have hlb:(A++n7 p h p).length≤1000:=by rw [K05];omega
  obtain ⟨B,hB⟩:∃B,B=A++n7 p h p:=⟨_,rfl⟩
  rw [←hB] at hlb ⊢
  refine k6 (k2 ?_)
  refine U1 15 (by kernel_rfl) (by kernel_rfl) Z (B0 (A8 Z) Z Z (B0 (A9 Z Z Z) Z Z (B0 (A5 Z Z) Z Z (B0 (B4 Z (.pure _ _ _ _) Z (by omega) hga) Z Z (B0 (C8 Z Z) Z Z (B0 (A5 Z Z) Z Z (B0 (A5 Z Z) Z Z (B0 (B4 Z (.pure _ _ _ _) Z (by omega) hgc) Z Z (B0 (C8 Z Z) Z Z (B0 (I0 (C01 a q hra (by omega)) Z Z) Z Z (B0 (I5 Z Z (by (simp only [K05,K07,K10];omega))) Z Z (B0 (I5 Z Z (by (simp only [K05,K07,K10];omega))) Z Z (B0 (A5 Z Z) Z Z (B0 (I5 Z Z (by (simp only [K05,K07,K10];omega))) Z Z (B0 (I5 Z Z (by (simp only [K05,K07,K10];omega))) Z Z (L4 (A41 (O4 (xs:=B) (s:=[32,43]++V9 a q++[32]++A++[10]) ⟨⟨_,.inr rfl,rfl⟩,rfl⟩ (by simp only [K05,K07,K10];omega)) Z Z Z ?_)))))))))))))))));rintro _ _ ⟨rfl,rfl⟩;refine ⟨_,rfl,?_⟩;refine L4 ?_
  refine k1 (k2 ?_)
  refine A4 (D17 (k:=700) (k':=701) ⟨_,rfl,rfl,rfl⟩ A81 Z Z Z Z Z (.inr Z) Z (A3 (A6 Z Z) Z (A7 ?_)))
  refine k1 (k10 ?_)
  exact B7 (H6 rfl rfl rfl) rfl
structure CFit (c:Comb):Prop where
 par:0≤c.Parents∧c.Parents≤32
 path:c.Path.length≤4194304
 sz:szC c.Hunks≤268435456
 rows:∀h∈c.Hunks,K1 h.Rows
 ats:∀h∈c.Hunks,h.At.length=c.Parents.toNat+1∧∀a∈h.At,-4611686018427387904≤a∧a≤4611686018427387904
theorem J41 (c:Comb) (hc:CFit c):FnOk Tryz.prog 94 [A19 c] (fun rs=>rs=[G5 (C51 c).length]):=by
 obtain ⟨h1,h2,h3,h4,h5⟩:=hc
 have hzl:=G38 c.Hunks
 have hm29:markS.length=29:=rfl
 obtain ⟨n,hN⟩:∃n,n=c.Parents.toNat:=⟨_,rfl⟩
 have hNc:c.Parents=(n:Int):=by omega
 have hn:n≤32:=by omega
 have hct:=fun k=>cTo_len c (by omega) k
 have hcs:=fun k h=>J60 c k h
 rw [←hN] at h5 hcs
 refine FnOk.intro Tryz.func94 (by decide) Z Z Z Z ?_
 refine k2 ?_
 refine A4 (C5 (Q1 1 Z Z Z) Z (A3 (A6 Z Z) Z (A7 ?_)))
 refine k1 (k2 ?_)
 refine A4 (A3 (D1 Z Z Z) Z (C9 (I81 c (by omega)) Z Z Z ?_));rintro _ rfl;refine A3 (N1 Z) Z (A3 (A6 Z Z) Z (A7 ?_))
 refine k1 (k2 (k2 ?_))
 refine A4 (A3 (A8 Z) Z (A3 (A9 Z Z Z) Z (A3 (E3 Z (.pure _ _ _ _)) Z (A3 (A5 Z Z) Z (A7 ?_)))))
 refine k1 (k3 ?_)
 refine E2 (X:=Nat) (fun k=>([(1,.s (.one (.ref 1 0))),(3,C0 (cTo c k).length),(12,C7 CHunk 2 W1 c.Hunks),(13,C0 c.Hunks.length),(14,C0 k)],[(1,cBox c)])) (fun k=>k≤c.Hunks.length) (fun k=>c.Hunks.length - k) 0 (Nat.zero_le _) (by rw [J59];exact J70 ⟨le1 rfl,le1 rfl,le1 rfl,le1 rfl,le1 rfl,trivial⟩ ⟨rfl,trivial⟩) ?_
 intro k hk
 dsimp only at hk ⊢
 have hck:=hct k
 refine k2 ?_
 refine A4 (A3 (F0 Z Z) Z (A7 ?_))
 refine k1 (k2 ?_)
 refine B6 rfl (fun ht=>?_) (fun ht=>?_)
 ·have hlt:k < c.Hunks.length:=by have:=A0 ht;omega
  have hv:c.Hunks[k]?=some c.Hunks[k]:=by simp [hlt]
  have hmem:=K17 hlt
  have hrw:=h4 _ hmem
  have hat:=h5 _ hmem
  have hzm:=G37 hmem
  have hsucc:=hcs k hlt
  obtain ⟨h,hx⟩:∃x,x=c.Hunks[k]:=⟨_,rfl⟩
  rw [←hx] at hv hrw hat hzm hsucc
  have hz1:=A00 h.Rows
  have hz2:=C54 h.Rows
  unfold D90 at hzm
  have hh:=H77 h n hn hrw (by omega) hat.1 hat.2
  rw [←hNc] at hh
  have hhl:=F84 hn h
  obtain ⟨base,hbase⟩:∃base,base=(cTo c k).length:=⟨_,rfl⟩
  have hcl:=congrArg List.length hsucc
  rw [K05,J11,K05,←hbase] at hcl
  rw [←hbase] at hck ⊢
  obtain ⟨hd,hhd⟩:∃hd,hd=C29 n h++[10]:=⟨_,rfl⟩
  have hdl:hd.length≤926:=by rw [hhd,K05];simp only [K07,K10];omega
  rw [←hhd] at hh hcl
  refine k5 (k1 (k2 (k3 (k2 ?_))))
  refine A4 (A3 (B4 Z (.pure _ _ _ _) Z (by omega) hv) Z (A3 (D6 Z Z) Z (C5 (E8 5 Z) Z (E7 (B2 TySz.out Z Z Z Z Z Z) (A7 ?_)))))
  refine k1 (k2 ?_)
  refine A4 (A3 (A5 Z Z) Z (A3 (D1 Z Z Z) Z (A3 (A8 Z) Z (A3 (A9 Z Z Z) Z (C9 (hh) Z Z Z ?_)))));rintro _ rfl;refine A3 (N1 Z) Z (A3 (C6 Z Z (by omega)) Z (A3 (A6 Z Z) Z (A7 ?_)))
  refine k1 (k2 ?_)
  refine A4 (A3 (A8 Z) Z (A3 (A9 Z Z Z) Z (A3 (E3 Z (.pure _ _ _ _)) Z (A3 (A5 Z Z) Z (A7 ?_)))))
  refine k1 (k3 ?_)
  refine E2 (X:=Nat) (fun j=>([(1,.s (.one (.ref 1 0))),(3,C0 (base+hd.length+(rTo n h.Rows j).length:Nat)),(12,C7 CHunk 2 W1 c.Hunks),(13,C0 c.Hunks.length),(14,C0 k),(26,C7 Row 3 rowC h.Rows),(27,C0 h.Rows.length),(28,C0 j)],[(1,cBox c)])) (fun j=>j≤h.Rows.length) (fun j=>h.Rows.length - j) 0 (Nat.zero_le _) ?_ ?_
  ·have e:((base+hd.length+(rTo n h.Rows 0).length:Nat):Int)=(base:Int)+(hd.length:Int):=by rw [J61];simp
   rw [e]
   exact J70 ⟨le1 rfl,le1 rfl,le1 rfl,le1 rfl,le1 rfl,le1 rfl,le1 rfl,le1 rfl,trivial⟩ ⟨rfl,trivial⟩
  intro j hj
  dsimp only at hj ⊢
  have hrl:=rTo_len hn h.Rows j
  refine k2 ?_
  refine A4 (A3 (F0 Z Z) Z (A7 ?_))
  refine k1 (k2 ?_)
  refine B6 rfl (fun ht=>?_) (fun ht=>?_)
  ·have hlt2:j < h.Rows.length:=by have:=A0 ht;omega
   have hv2:h.Rows[j]?=some h.Rows[j]:=by simp [hlt2]
   have hrm:=J06 (K17 hlt2)
   have hsucc2:=J62 n h.Rows j hlt2
   obtain ⟨r,hy⟩:∃x,x=h.Rows[j]:=⟨_,rfl⟩
   rw [←hy] at hv2 hrm hsucc2
   have hrm:r.Text.length+96≤(h.Rows.map Y2).sum:=hrm
   have hl2:=congrArg List.length hsucc2
   have hml:=D41 n r
   rw [K05,I08,K05,K05,hml] at hl2
   refine k5 (k1 (k2 (k3 (k2 ?_))))
   refine A4 (A3 (B4 Z (.pure _ _ _ _) Z (by omega) hv2) Z (A3 (D6 Z Z) Z (C5 (E8 7 Z) Z (E7 (B2 TySz.out Z Z Z Z Z Z) (A7 ?_)))))
   refine k1 (k2 ?_)
   refine A4 (A3 (A5 Z Z) Z (A3 (A8 Z) Z (A3 (A9 Z Z Z) Z (A3 (A8 Z) Z (A3 (A9 Z Z Z) Z (A3 (N1 Z) Z (A3 (C6 Z Z (by omega)) Z (A3 (C6 Z Z (by omega)) Z (A3 (A6 Z Z) Z (A7 ?_))))))))))
   refine k1 (k2 ?_)
   refine A4 (A3 (A8 Z) Z (A3 (A9 Z Z Z) Z (C9 (A36 r.Text (by omega)) Z Z Z ?_)));rintro _ rfl;refine A3 (I7 Z) Z (A7 ?_)
   refine k1 ?_
   refine B6 rfl (fun ht=>?_) (fun ht=>?_)
   ·have h2:ended r.Text=false:=by simpa using ht
    rw [h2,if_neg (by decide),hm29] at hl2
    have e:((base+hd.length+(rTo n h.Rows (j+1)).length:Nat):Int)=((base+hd.length+(rTo n h.Rows j).length:Nat):Int)+(c.Parents+(r.Text.length:Int))+29:=by omega
    skip
    refine A4 (A3 (A5 Z Z) Z (A3 (C6 Z Z (by omega)) Z (A3 (A6 Z Z) Z (A7 ?_))))
    refine k4 (k1 ?_)
    refine A4 (A3 (C6 Z Z (by omega)) Z (A3 (A5 Z Z) Z (A7 ?_)))
    refine k1 ?_
    refine ⟨j+1,by omega,by omega,?_⟩
    rw [e]
    exact J70 ⟨le1 rfl,le1 rfl,le1 rfl,le1 rfl,le1 rfl,le1 rfl,le1 rfl,le1 rfl,trivial⟩ ⟨rfl,trivial⟩
   ·have h2:ended r.Text=true:=by simpa using ht
    rw [if_pos h2,K10] at hl2
    have e:((base+hd.length+(rTo n h.Rows (j+1)).length:Nat):Int)=((base+hd.length+(rTo n h.Rows j).length:Nat):Int)+(c.Parents+(r.Text.length:Int)):=by omega
    refine k5 (k4 (k1 ?_))
    refine A4 (A3 (C6 Z Z (by omega)) Z (A3 (A5 Z Z) Z (A7 ?_)))
    refine k1 ?_
    refine ⟨j+1,by omega,by omega,?_⟩
    rw [e]
    exact J70 ⟨le1 rfl,le1 rfl,le1 rfl,le1 rfl,le1 rfl,le1 rfl,le1 rfl,le1 rfl,trivial⟩ ⟨rfl,trivial⟩
  ·have hjl:j=h.Rows.length:=by have:=A1 ht;omega
   subst hjl
   have e:base+hd.length+(rTo n h.Rows h.Rows.length).length=(cTo c (k+1)).length:=by omega
   rw [e]
   refine k6 (k7 (k7 (k8 Z (k4 (k1 ?_)))))
   refine A4 (A3 (C6 Z Z (by omega)) Z (A3 (A5 Z Z) Z (A7 ?_)))
   refine k1 ?_
   exact ⟨k+1,by omega,by omega,J70 ⟨le1 rfl,le1 rfl,le1 rfl,le1 rfl,le1 rfl,trivial⟩ ⟨rfl,trivial⟩⟩
 ·have hkl:k=c.Hunks.length:=by have:=A1 ht;omega
  subst hkl
  rw [H33]
  refine k6 (k2 ?_)
  refine A4 (A3 (A5 Z Z) Z (A3 (A6 Z Z) Z (A7 ?_)))
  refine k1 (k10 ?_)
  exact B7 (H6 rfl rfl rfl) rfl
theorem I82 {c:Comb} (hp:c.Path.length≤4194304) (hn:1≤c.Parents∧c.Parents≤32) (hz:szC c.Hunks≤268435456) (hr:∀h∈c.Hunks,K1 h.Rows) (hg:j9 c.Parents.toNat c.Hunks=true):CFit c:=by
 refine ⟨by omega,hp,hz,hr,fun h hm=>?_⟩
 unfold j9 at hg
 rw [K08] at hg
 obtain ⟨a1,a2,a3⟩:=D40 c.Hunks _ (fun k hk=>by rw [K09,List.getElem?_replicate_of_lt hk];exact Int.le_refl _) hg.1 h hm
 refine ⟨a1,fun a ha=>?_⟩
 obtain ⟨k,hk,rfl⟩:=List.getElem_of_mem ha
 have h1:=a3 k (by omega)
 have h2:=E98 h.Rows c.Parents.toNat k
 have e:h.At.getD k 0=h.At[k]:=by rw [K09,K06 hk];rfl
 rw [e] at h1
 omega
theorem F67 (c:Comb) (hz:szC c.Hunks≤268435456) (hr:∀h∈c.Hunks,K1 h.Rows):FnOk Tryz.prog 40 [A19 c] (fun rs=>rs=[G5 (J4 c)]):=by
 refine FnOk.intro Tryz.func40 (by decide) Z Z Z Z ?_
 refine k2 ?_
 refine A4 (C5 (Q1 1 Z Z Z) Z (A3 (A6 Z Z) Z (A7 ?_)))
 refine k1 (k2 (k3 (k2 ?_)))
 refine A4 (A3 (A8 Z) Z (A3 (A9 Z Z Z) Z (C9 (D26 c.Path) Z Z Z ?_)));rintro _ rfl;refine A3 (I7 Z) Z (A3 (A6 Z Z) Z (A7 ?_))
 refine k1 ?_
 refine B6 rfl (fun ht=>?_) (fun ht=>?_)
 ·have h:K4 c.Path=false:=by simpa using ht
  refine k2 ?_
  refine A4 (A3 (A6 Z Z) Z (A7 ?_))
  refine k1 (k10 (k12 (k11 ?_)))
  exact B7 (H6 rfl rfl rfl) (by unfold J4;rw [if_pos h])
 have h:K4 c.Path=true:=by simpa using ht
 have hpl:=A0 h
 refine k2 ?_
 refine A4 (A3 (A8 Z) Z (A3 (A9 Z Z Z) Z (A3 (F0 Z Z) Z (A3 (A5 Z Z) Z (B1 Z Z Z Z (fun hg=>by rw [hg];exact A8 Z) ?_)))));refine B1 Z Z Z Z (fun hg=>by rw [hg];exact A9 Z Z Z) ?_;refine B1 Z Z Z Z (fun hg=>by rw [hg];exact R5 Z Z) ?_;refine A3 (B5 Z (fun h=>by first | rfl | (rw [h];rfl)) (fun h=>by first | rfl | (rw [h];rfl))) Z ?_;refine A3 (A6 Z Z) Z (A7 ?_)
 refine k1 ?_
 refine B6 rfl (fun ht=>?_) (fun ht=>?_)
 ·have h1:=A0 (or_pick.symm.trans ht)
  refine k2 ?_
  refine A4 (A3 (A6 Z Z) Z (A7 ?_))
  refine k1 (k10 (k12 (k11 ?_)))
  exact B7 (H6 rfl rfl rfl) (by unfold J4;rw [if_neg (by rw [h];decide),if_pos (by omega)])
 have h1:=A1 (or_pick.symm.trans ht)
 have hn:1≤c.Parents∧c.Parents≤32:=by omega
 refine k2 ?_
 refine A4 (A3 (D1 Z Z Z) Z (C9 (H76 c hn hr hz) Z Z Z ?_));rintro _ rfl;refine A3 (I7 Z) Z (A3 (A6 Z Z) Z (A7 ?_))
 refine k1 ?_
 refine B6 rfl (fun ht=>?_) (fun ht=>?_)
 ·have h2:w8 c.Parents.toNat c.Hunks=false:=by simpa using ht
  refine k2 ?_
  refine A4 (A3 (A6 Z Z) Z (A7 ?_))
  refine k1 (k10 (k12 (k11 ?_)))
  exact B7 (H6 rfl rfl rfl) (by unfold J4;rw [if_neg (by rw [h];decide),if_neg (by omega),if_pos h2])
 have h2:w8 c.Parents.toNat c.Hunks=true:=by simpa using ht
 have hw:=J40 c hn hr hz
 rw [H29 (by omega) h2] at hw
 refine k2 ?_
 refine A4 (A3 (D1 Z Z Z) Z (C9 (hw) Z Z Z ?_));rintro _ rfl;refine A3 (I7 Z) Z (A3 (A6 Z Z) Z (A7 ?_))
 refine k1 ?_
 refine B6 rfl (fun ht=>?_) (fun ht=>?_)
 ·have h3:j9 c.Parents.toNat c.Hunks=false:=by simpa using ht
  refine k2 ?_
  refine A4 (A3 (A6 Z Z) Z (A7 ?_))
  refine k1 (k10 (k12 (k11 ?_)))
  exact B7 (H6 rfl rfl rfl) (by unfold J4;rw [if_neg (by rw [h];decide),if_neg (by omega),if_neg (by rw [h2];decide),if_pos h3])
 have h3:j9 c.Parents.toNat c.Hunks=true:=by simpa using ht
 refine k2 ?_
 refine A4 (A3 (D1 Z Z Z) Z (C9 (J41 c (I82 (by omega) hn hz hr h3)) Z Z Z ?_));rintro _ rfl;refine A3 (R5 Z Z) Z (A3 (A6 Z Z) Z (A7 ?_))
 refine k1 ?_
 refine B6 rfl (fun ht=>?_) (fun ht=>?_)
 ·have h4:=A0 ht
  refine k2 ?_
  refine A4 (A3 (A6 Z Z) Z (A7 ?_))
  refine k1 (k10 (k12 (k11 ?_)))
  exact B7 (H6 rfl rfl rfl) (by unfold J4;rw [if_neg (by rw [h];decide),if_neg (by omega),if_neg (by rw [h2];decide),if_neg (by rw [h3];decide),if_pos (by omega)])
 have h4:=A1 ht
 refine k5 (k2 ?_)
 refine A4 (A3 (A6 Z Z) Z (A7 ?_))
 refine k1 (k10 ?_)
 exact B7 (H6 rfl rfl rfl) (by unfold J4;rw [if_neg (by rw [h];decide),if_neg (by omega),if_neg (by rw [h2];decide),if_neg (by rw [h3];decide),if_neg (by omega)])
theorem H78 (rows:List Row) (n:Nat) (hn:n≤32) (hr:K1 rows) (hl:rows.length≤268435456):FnOk Tryz.prog 149 [pRows rows,G5 n] (fun rs=>rs=[P7 (F6 rows n)]) :=
 J99 (k:=720) rfl (B67 rows n hn hr hl)
theorem H79 {gf:Fr} {ob:Obs} (l:List Int) (hl:0 < l.length∧l.length≤1073741824) (h:C3 ob 720=some (.arr Int 1 G7 l)) :
  AL.Met Tryz.prog 166 [.one (.mut 720)] gf ob [] (fun rs ob'=>rs=[.one (.p (.list Int 1 G7 l))]∧ob'=ob):=by
 refine AL.Met.intro Tryz.func166 (by decide) Z Z Z ?_
 refine k2 ?_
 refine A4 (A3 (A6 Z Z) Z (A7 ?_))
 refine k1 (k2 (k2 ?_))
 refine A4 (A3 (A5 Z Z) Z (A3 (F25 Z h) Z (A7 ?_)))
 refine k1 ?_
 refine B6 rfl (fun ht=>?_) (fun ht=>?_)
 ·cases ht
 refine k5 (k1 (k2 ?_))
 refine A4 (A3 (B63 (c:=G7) (ys:=[]) I6 Z Z Z) Z (A3 (A5 Z Z) Z (A3 (C74 Z Z h (by (simp;omega)) (hl.1)) Z (A3 (A6 Z Z) Z (A7 ?_)))))
 rw [K32]
 refine k1 (k10 ?_)
 exact K8 (Y6 rfl rfl) (by repeat (first | exact D5 | refine D4 rfl ?_ | refine F4 _ ?_)) (fun _ _ h=>h) ⟨rfl,rfl⟩
theorem F68 (l:List Row) (hl:0 < l.length∧l.length≤1073741824):FnOk Tryz.prog 113 [pRows l] (fun rs=>rs=[pRows l]):=by
 refine FnOk.intro Tryz.func113 (by decide) Z Z Z Z ?_
 refine k2 ?_
 refine A4 (A3 (A6 Z Z) Z (A7 ?_))
 refine k1 (k2 (k2 ?_))
 refine A4 (A3 (A5 Z Z) Z ?_);(first | (refine D13 (B99 rfl (.pure _ _ _ _)) rfl ?_) | (refine D13 (B99 rfl (.buf _ _ _ _ _)) rfl ?_));rintro _ ⟨b1,rfl,hnil⟩;refine A7 ?_
 refine k1 ?_
 refine B6 rfl (fun ht=>?_) (fun ht=>?_)
 ·have:=hnil ht
  rw [this] at hl
  exact absurd hl.1 (by simp)
 refine k5 (k1 (k2 ?_))
 refine A4 (A3 (B63 (c:=rowC) (ys:=[]) I6 Z Z Z) Z (A3 (A5 Z Z) Z (A3 (C21 Z Z (.pure _ _ _ _) (by (simp;omega)) (hl.1)) Z (A3 (A6 Z Z) Z (A7 ?_)))))
 rw [K32]
 refine k1 (k10 ?_)
 exact B7 (H6 rfl rfl rfl) rfl
theorem H80 (rows:List Row) (n k:Nat) {e t:Nat} (h:e≤t):N4 (rows.take t) n k=N4 (rows.take e) n k+N4 ((rows.drop e).take (t - e)) n k:=by
 have h1:rows.take t=rows.take e++(rows.drop e).take (t - e):=by
  have:=List.take_add (l:=rows) (i:=e) (j:=t - e)
  rwa [show e+(t - e)=t by omega] at this
 unfold N4
 rw [h1]
 unfold G8
 rw [K50,K19,K05,Int.natCast_add]
def B42 (rows:List Row) (n e t i:Nat):List Int:=(List.range (n+1)).map fun k=>if k < i then N4 (rows.take t) n k else N4 (rows.take e) n k
theorem I83 (rows:List Row) (n e t i:Nat):(B42 rows n e t i).length=n+1:=by simp [B42]
theorem H81 (rows:List Row) (n e t:Nat):B42 rows n e t 0=F6 (rows.take e) n:=by
 unfold B42 F6
 exact List.map_congr_left fun k _=>if_neg (by omega)
theorem H82 (rows:List Row) (n e t:Nat):B42 rows n e t (n+1)=F6 (rows.take t) n:=by
 unfold B42 F6
 exact List.map_congr_left fun k hk=>if_pos (by simpa using hk)
theorem I84 (rows:List Row) (n e t i:Nat) (hi:i < n+1):(B42 rows n e t i)[i]?=some (N4 (rows.take e) n i):=by
 unfold B42
 rw [D29 (n+1) i _ hi,if_neg (by omega)]
theorem I85 (rows:List Row) (n e t i:Nat):(B42 rows n e t i).set i (N4 (rows.take t) n i)=B42 rows n e t (i+1):=by
 refine D28 (n+1) i _ _ _ (fun _=>if_pos (by omega)) (fun q _ hq=>?_)
 by_cases h:q < i
 ·rw [if_pos h,if_pos (by omega)]
 ·rw [if_neg h,if_neg (by omega)]
theorem I34 (rows:List Row) (n k:Nat):0≤N4 rows n k∧N4 rows n k≤rows.length:=by
 unfold N4
 have:=C05 rows (A26 n k)
 omega
set_option maxHeartbeats 1000000
theorem E49 {gf:Fr} {ob:Obs} (t:Table) (n e z:Nat) (hn:t.Parents=n) (hn2:n≤32) (hr:K1 t.Rows) (hl:t.Rows.length≤8388608) (h1:e≤z) (h2:z≤t.Rows.length)
  (h5:C3 ob 5=some (.box (pTable t).s1.cells)) (h13:C3 ob 13=some (t8 e)) (h12:C3 ob 12=some (.box [.mut 720])) (h720:C3 ob 720=some (.arr Int 1 G7 (F6 (t.Rows.take e) n))) :
  AL.Met Tryz.prog 165 [iS z,.one (.ref 5 0),.one (.ref 13 0),.one (.ref 12 0)] gf ob []
   (fun rs ob'=>rs=[]∧ob'=(13,t8 z)::(720,.arr Int 1 G7 (F6 (t.Rows.take z) n))::(5,.box (pTable t).s1.cells)::(12,.box [.mut 720])::ob):=by
 obtain ⟨tp,rows⟩:=t
 have hn:tp=(n:Int):=hn
 subst hn
 dsimp only at hr hl h2 h720 ⊢
 have hsl:((rows.drop e).take (z - e)).length=z - e:=by rw [K22,K24];omega
 have hC:=H78 ((rows.drop e).take (z - e)) n hn2 (fun r hm=>hr r (List.mem_of_mem_drop (List.mem_of_mem_take hm))) (by omega)
 obtain ⟨cs,hcs⟩:∃cs,cs=F6 ((rows.drop e).take (z - e)) n:=⟨_,rfl⟩
 have hcl:cs.length=n+1:=by rw [hcs];simp [F6]
 rw [←hcs] at hC
 refine AL.Met.introH Tryz.func165 (by decide) rfl rfl rfl (fun hH=>?_)
 refine k2 (k2 ?_)
 refine E1 (by kernel_rfl) (by kernel_rfl) (B0 (A8 Z) Z Z (B0 (A9 Z h5 Z) Z Z (B0 (A9 Z h13 Z) Z Z (B0 (A5 Z Z) Z Z (B0 (O8 Z (.pure _ _ _ _) Z Z (by (first | omega | (dsimp only;omega))) (by (first | omega | (dsimp only;omega))) (by (first | omega | (dsimp only;omega)))) Z Z (B0 (A8 Z) Z Z (B0 (A9 Z h5 Z) Z Z (B0 (I0 (hC) Z Z) Z Z (B0 (E3 Z (.pure _ _ _ _)) Z Z (B0 (A5 Z Z) Z Z (L4 ?_)))))))))))
 refine k1 (k3 ?_)
 refine E2 (X:=Nat) (fun i=>([(0,C0 z),(1,.s (.one (.ref 5 0))),(2,.s (.one (.ref 13 0))),(3,.s (.one (.ref 12 0))),(14,C7 Int 1 G7 cs),(15,C0 cs.length),(16,C0 i)]++gf,(13,t8 e)::(720,.arr Int 1 G7 (B42 rows n e z i))::(5,.box (pTable ⟨n,rows⟩).s1.cells)::(12,.box [.mut 720])::ob)) (fun i=>i≤n+1) (fun i=>n+1 - i) 0 (Nat.zero_le _) ?_ ?_
 ·dsimp only
  rw [H81]
  exact J71 ⟨le1 rfl,le1 rfl,le1 rfl,le1 rfl,le1 rfl,le1 rfl,le1 rfl,trivial⟩ hH (by repeat (first | exact D5 | refine D4 rfl ?_)) (B12 (L:=[(13,_),(720,_),(5,_),(12,_)]) ⟨h13,h720,h5,h12,trivial⟩ A94)
 intro i hi
 dsimp only at hi ⊢
 have hal:=I83 rows n e z i
 refine k2 ?_
 refine A4 (A3 (F0 Z Z) Z (A7 ?_))
 refine k1 (k2 ?_)
 refine B6 rfl (fun ht=>?_) (fun ht=>?_)
 ·have hlt:i < n+1:=by have:=A0 ht;omega
  have hv:cs[i]?=some (N4 ((rows.drop e).take (z - e)) n i):=by rw [hcs];unfold F6;exact D29 (n+1) i _ hlt
  have hg:=I84 rows n e z i hlt
  have hst:=I85 rows n e z i
  have hsp:=H80 rows n i h1
  have b1:=I34 (rows.take e) n i
  have b2:=I34 ((rows.drop e).take (z - e)) n i
  have hte:(rows.take e).length=e:=by rw [K22];omega
  have hv2:(B42 rows n e z i)[((i:Nat):Int).toNat]?=some (N4 (rows.take e) n i):=by rw [K12];exact hg
  refine k5 (k1 (k2 (k3 (k2 ?_))))
  refine A4 (A3 (A5 Z Z) Z (A3 (B4 Z (.pure _ _ _ _) Z (by omega) hv) Z (A3 (C8 Z Z) Z (A3 (A6 Z Z) Z (A3 (A6 Z Z) Z (A7 ?_))))))
  refine k1 ?_
  refine A4 (A3 (A9 Z Z Z) Z (A3 (A5 Z Z) Z (A3 (H9 Z Z Z (by omega) (by (rw [hal];omega))) Z ?_)));refine A3 (V2 Z Z hv2 Z) Z (A3 (A5 Z Z) Z (A3 (C6 Z Z (by omega)) Z (A3 (H9 Z Z Z (by omega) (by (rw [hal];omega))) Z ?_)));refine E7 (L2 TySz.out Z Z (by (rw [hal];omega)) Z Z) ?_;refine A7 ?_
  rw [K12,←hsp,hst]
  refine k4 (k1 ?_)
  refine A4 (A3 (C6 Z Z (by omega)) Z (A3 (A5 Z Z) Z (A7 ?_)))
  refine k1 ?_
  refine ⟨i+1,by omega,by omega,?_⟩
  exact J71 ⟨le1 rfl,le1 rfl,le1 rfl,le1 rfl,le1 rfl,le1 rfl,le1 rfl,trivial⟩ hH (by repeat (first | exact D5 | refine D4 rfl ?_)) (B12 (L:=[(13,_),(720,_),(5,_),(12,_)]) ⟨rfl,rfl,rfl,rfl,trivial⟩ (by repeat (first | exact A94 | refine A95 rfl ?_)))
 have hin:i=n+1:=by have:=A1 ht;omega
 rw [hin,H82]
 refine k6 (k7 (k7 (k8 Z (k1 ?_))))
 refine A4 (A3 (A5 Z Z) Z (E7 (B2 TySz.out Z Z Z Z Z Z) (A7 ?_)))
 skip
 exact C35 (rets0 rfl) (by repeat (first | exact D5 | refine D4 rfl ?_)) (B12 (L:=[(13,_),(720,_),(5,_),(12,_)]) ⟨rfl,rfl,rfl,rfl,trivial⟩ (by repeat (first | exact A94 | refine A95 rfl ?_))) ⟨rfl,rfl⟩
def E50 (n:Int):Int→List Span→Bool
 | _,[]=>true
 | e,s::r=>if s.From < e∨s.To≤s.From∨n < s.To then false else E50 n s.To r
theorem G90 (sp:List Span) (n:Int) (hl:sp.length≤536870912):FnOk Tryz.prog 164 [pSpans sp,G5 n] (fun rs=>rs=[O9 (E50 n 0 sp)]):=by
 obtain ⟨W,hW⟩:∃W,W=E50 n 0 sp:=⟨_,rfl⟩
 rw [←hW]
 refine FnOk.intro Tryz.func164 (by decide) Z Z Z Z ?_
 refine k2 ?_
 refine A4 (A3 (A6 Z Z) Z (A7 ?_))
 refine k1 (k2 ?_)
 refine A4 (A3 (A6 Z Z) Z (A7 ?_))
 refine k1 (k2 (k2 ?_))
 refine A4 (A3 (A5 Z Z) Z (A3 (E3 Z (.pure _ _ _ _)) Z (A3 (A5 Z Z) Z (A7 ?_))))
 refine k1 (k3 ?_)
 refine E2 (X:=Nat × Int) (fun x=>([(1,C0 n),(5,C0 x.2),(8,C7 Span 2 spanC sp),(9,C0 sp.length),(10,C0 x.1)],[])) (fun x=>x.1≤sp.length∧W=E50 n x.2 (sp.drop x.1)) (fun x=>sp.length - x.1) (0,0) ⟨Nat.zero_le _,hW⟩ (J70 ⟨le1 rfl,le1 rfl,le1 rfl,le1 rfl,le1 rfl,trivial⟩ trivial) ?_
 rintro ⟨k,e⟩ ⟨hk,hp⟩
 dsimp only at hk hp ⊢
 refine k2 ?_
 refine A4 (A3 (F0 Z Z) Z (A7 ?_))
 refine k1 (k2 ?_)
 refine B6 rfl (fun ht=>?_) (fun ht=>?_)
 rotate_left
 ·have hkl:k=sp.length:=by have:=A1 ht;omega
  rw [hkl,K15 (Nat.le_refl _)] at hp
  have hp:W=true:=hp
  refine k6 (k2 ?_)
  refine A4 (A3 (A6 Z Z) Z (A7 ?_))
  refine k1 (k10 ?_)
  exact B7 (H6 rfl rfl rfl) (by rw [hp])
 have hlt:k < sp.length:=by have:=A0 ht;omega
 have hv:sp[k]?=some sp[k]:=by simp [hlt]
 rw [K11 hlt,E50] at hp
 obtain ⟨s,hsd⟩:∃s,s=sp[k]:=⟨_,rfl⟩
 rw [←hsd] at hp hv
 refine k5 (k1 (k2 (k3 (k2 ?_))))
 refine A4 (A3 (B4 Z (.pure _ _ _ _) Z (by omega) hv) Z (A3 (D6 Z Z) Z (C5 (E8 757 Z) Z (E7 (B2 TySz.out Z Z Z Z Z Z) (A7 ?_)))))
 refine k1 (k2 (k2 ?_))
 refine A4 (A3 (A8 Z) Z (A3 (A9 Z Z Z) Z (A3 (A5 Z Z) Z (A3 (F0 Z Z) Z (A3 (A5 Z Z) Z (B1 Z Z Z Z (fun hg=>by rw [hg];exact A8 Z) ?_))))));refine B1 Z Z Z Z (fun hg=>by rw [hg];exact A9 Z Z Z) ?_;refine B1 Z Z Z Z (fun hg=>by rw [hg];exact A8 Z) ?_;refine B1 Z Z Z Z (fun hg=>by rw [hg];exact A9 Z Z Z) ?_;refine B1 Z Z Z Z (fun hg=>by rw [hg];exact A57 Z Z) ?_;refine A3 (B5 Z (fun h=>by first | rfl | (rw [h];rfl)) (fun h=>by first | rfl | (rw [h];rfl))) Z ?_;refine A3 (A5 Z Z) Z (B1 Z Z Z Z (fun hg=>by rw [hg];exact A8 Z) ?_);refine B1 Z Z Z Z (fun hg=>by rw [hg];exact A9 Z Z Z) ?_;refine B1 Z Z Z Z (fun hg=>by rw [hg];exact A5 Z Z) ?_;refine B1 Z Z Z Z (fun hg=>by rw [hg];exact R5 Z Z) ?_;refine A3 (B5 Z (fun h=>by first | rfl | (rw [h];rfl)) (fun h=>by first | rfl | (rw [h];rfl))) Z ?_;refine A7 ?_
 refine k1 ?_
 refine B6 rfl (fun ht=>?_) (fun ht=>?_)
 ·have hc:s.From < e∨s.To≤s.From∨n < s.To:=by
   by_cases q1:s.From < e
   ·exact .inl q1
   ·by_cases q2:s.To≤s.From
    ·exact .inr (.inl q2)
    ·simp [q1,q2] at ht
     exact .inr (.inr ht)
  rw [if_pos hc] at hp
  refine k2 ?_
  refine A4 (A3 (A6 Z Z) Z (A7 ?_))
  refine k1 (k10 (k11 (k12 (k11 (k11 (k12 (k11 ?_)))))))
  exact B7 (H6 rfl rfl rfl) (by rw [hp])
 have hc:¬(s.From < e∨s.To≤s.From∨n < s.To):=by
  rintro (q | q | q)
  ·simp [q] at ht
  ·simp [q] at ht
  ·simp [q] at ht
 rw [if_neg hc] at hp
 refine k5 (k1 ?_)
 refine A4 (A3 (A8 Z) Z (A3 (A9 Z Z Z) Z (A3 (A6 Z Z) Z (A7 ?_))))
 refine k4 (k1 ?_)
 refine A4 (A3 (C6 Z Z (by omega)) Z (A3 (A5 Z Z) Z (A7 ?_)))
 refine k1 ?_
 exact ⟨(k+1,s.To),⟨hlt,hp⟩,by dsimp only;omega,J70 ⟨le1 rfl,le1 rfl,le1 rfl,le1 rfl,le1 rfl,trivial⟩ trivial⟩
end Go.Proofs.YtbiadkkamhpdnaaGreatDoor
namespace Go.Proofs.YtbiadkkamhpdnaaGreatDoor
open Go Go.AL
set_option maxRecDepth 100000
set_option maxHeartbeats 1000000
end Go.Proofs.YtbiadkkamhpdnaaGreatDoor
namespace Go.Proofs.YtbiadkkamhpdnaaGreatDoor
open Go Go.AL
set_option maxRecDepth 100000
end Go.Proofs.YtbiadkkamhpdnaaGreatDoor
