/- Walks of the program's functions. -/
import Derived.Test.YtbiadkkamhpdnaaGreatDoorFe
import Derived.Test.YtbiadkkamhpdnaaGreatDoorFs
import Derived.Test.YtbiadkkamhpdnaaGreatDoorFa
import Derived.Test.YtbiadkkamhpdnaaGreatDoorFb
import Derived.Test.YtbiadkkamhpdnaaGreatDoorFd
import Derived.Test.YtbiadkkamhpdnaaGreatDoorFc
set_option linter.unusedSimpArgs false
namespace Go.Proofs.YtbiadkkamhpdnaaGreatDoor
open Go Go.AL
set_option maxRecDepth 100000
theorem C92 (c:UInt8):∀n:Nat,Lib.repeatL [c] n=List.replicate n c
 | 0=>rfl
 | n+1=>by rw [Lib.repeatL,C92 c n];rfl
theorem H91 (c:UInt8) (n:Nat) (hn:n≤1048576):FnOk Tryz.prog 150 [P8 [c],J0 n] (fun rs=>rs=[P8 (List.replicate n c)]) :=
 I95 (xs:=[.string ⟨#[c]⟩,.int .i64 n]) (r:=.string ⟨(List.replicate n c).toArray⟩) ⟨_,rfl,rfl,rfl⟩ rfl fun w _=>by
  have:=Tryz.strings_Repeat ⟨#[c]⟩ n w (by omega) (by show 1*n≤_;omega)
  have e:Lib.repeatL (⟨#[c]⟩:ByteArray).data.toList n=List.replicate n c:=C92 c n
  rw [e] at this
  exact this
abbrev D17 (c:Comb):Ob:=.box (U6 c).s1.cells
theorem B20 (rows:List Row) (n:Nat) (hn:n≤32) (hr:L3 rows) (hl:rows.length≤268435456) :
  AL.Met Tryz.prog 149 [(pRows rows).s1,(J0 n).s1] [] [] [] (fun rs ob'=>rs=[.one (.mut 720)]∧ob'=[(720,.arr Int 1 G3 (F7 rows n))]):=by
 have e0:((n:Int)+1).toNat=n+1:=by omega
 refine AL.Met.intro Tryz.func149 (by decide) Z Z Z ?_
 refine k2 (A3 (A7 Z Z (A5 ?_)));refine k1 (k2 (A3 (A4 Z Z (C5 Z Z Z (C2 (W2 720 Int G3 0 Z Z (by omega) (by omega) (fun _=>by first | exact ⟨⟨rfl,rfl⟩,trivial⟩ | exact ⟨N3 _ _ _,trivial⟩) (by first | rfl | (simp [H6,I4,Ob.free,SV.free,S1.free,TC.free]<;>rfl))) Z ?_)))));refine A7 Z Z (A5 ?_)
 rw [e0,←H14 rows n]
 refine k1 (k2 (k2 (A3 (A4 Z Z (E4 Z Z (A4 Z Z (A5 ?_)))))));refine k1 (k3 (D2 (X:=Nat) (fun i=>([(1,B6 n),(5,.s (.one (.mut 720))),(12,C0 Row 3 rowC rows),(13,B6 rows.length),(14,B6 i)],[(720,.arr Int 1 G3 (m9 rows n i 0))])) (fun i=>i≤rows.length) (fun i=>rows.length - i) 0 (Nat.zero_le _) (I81 ⟨le1 rfl,le1 rfl,le1 rfl,le1 rfl,le1 rfl,trivial⟩ ⟨rfl,trivial⟩) ?_))
 intro i hi
 dsimp only at hi ⊢
 refine k2 (A3 (F4 Z Z Z (A5 ?_)));refine k1 (k2 ?_);refine B5 rfl (fun ht=>?_) (fun ht=>?_)
 ·have hlt:i < rows.length:=by have:=A0 ht;omega
  have hv:rows[i]?=some rows[i]:=by simp [hlt]
  have hrow:=hr _ (J26 hlt)
  have hstep:=fun p=>H15 rows n i p hlt
  obtain ⟨r,hrr⟩:∃r,r=rows[i]:=⟨_,rfl⟩
  rw [←hrr] at hv hrow hstep
  have hcl:=fun k=>E00 (rows.take i) n k
  have htl:(rows.take i).length=i:=by rw [J36];omega
  rw [htl] at hcl
  refine k5 (k1 (k2 (k3 (k2 (A3 (A6 (A9 Z (.pure _ _ _ _) Z (by omega) hv) Z (A6 (F5 Z Z) Z (C2 (H3 7 Z) Z (G1 (B7 TySz.out Z Z Z Z Z Z) (A5 ?_))))))))));refine k1 (k2 (k2 (A3 (A4 Z Z (A4 Z Z (A5 ?_))))));refine k1 (k3 (D2 (X:=Nat) (fun p=>([(1,B6 n),(5,.s (.one (.mut 720))),(7,.s (.one (.ref 7 0))),(12,C0 Row 3 rowC rows),(13,B6 rows.length),(14,B6 i),(18,B6 n),(19,B6 p)],[(7,.box (pRow r).s1.cells),(720,.arr Int 1 G3 (m9 rows n i p))])) (fun p=>p≤n) (fun p=>n - p) 0 (Nat.zero_le _) (I81 ⟨le1 rfl,le1 rfl,le1 rfl,le1 rfl,le1 rfl,le1 rfl,le1 rfl,le1 rfl,trivial⟩ ⟨rfl,rfl,trivial⟩) ?_))
  intro p hp
  dsimp only at hp ⊢
  have hlen:=I14 rows n i p
  have hget:=I15 rows n i p (by omega)
  have hcp:=hcl p
  refine k2 (A3 (F4 Z Z Z (A5 ?_)));refine k1 (k2 ?_);refine B5 rfl (fun ht=>?_) (fun ht=>?_)
  ·have hlt2:p < n:=by have:=A0 ht;omega
   have hst:=hstep p (by omega)
   rw [show x1 n p=(p:Int) by unfold x1;rw [if_neg (by omega)]] at hst
   refine k5 (k1 (k2 (k3 (k2 (A3 (A4 Z Z (A7 Z Z (A5 ?_))))))));refine k1 (k2 (A3 (A6 (D6 Z Z Z) Z (A4 Z Z (C6 (F91 r p hrow) Z Z Z ?_)))));rintro _ rfl;refine A5 ?_;refine k1 ?_;refine B5 rfl (fun ht=>?_) (fun ht=>?_)
   ·rw [if_pos ht] at hst
    skip
    refine A3 (A4 Z Z (A4 Z Z (A6 (E2 Z Z Z (by omega) (by (rw [hlen];omega))) Z ?_)));refine A6 (P4 Z Z hget Z) Z (C5 Z Z Z (A6 (E2 Z Z Z (by omega) (by (rw [hlen];omega))) Z ?_));refine G1 (H0 TySz.out Z Z (by (rw [hlen];omega)) Z Z) ?_;refine A5 ?_;refine k4 (k1 (A3 (C5 Z Z Z (A4 Z Z (A5 ?_)))));refine k1 ?_;refine ⟨p+1,by omega,by omega,?_⟩
    rw [hst]
    exact I81 ⟨le1 rfl,le1 rfl,le1 rfl,le1 rfl,le1 rfl,le1 rfl,le1 rfl,le1 rfl,trivial⟩ ⟨rfl,rfl,trivial⟩
   ·rw [if_neg (by rw [ht];decide)] at hst
    refine k5 (k4 (k1 (A3 (C5 Z Z Z (A4 Z Z (A5 ?_))))));refine k1 ?_;refine ⟨p+1,by omega,by omega,?_⟩
    rw [hst]
    exact I81 ⟨le1 rfl,le1 rfl,le1 rfl,le1 rfl,le1 rfl,le1 rfl,le1 rfl,le1 rfl,trivial⟩ ⟨rfl,rfl,trivial⟩
  ·have hpn:p=n:=by have:=A1 ht;omega
   subst hpn
   have hst:=hstep p (by omega)
   have hvis:b9 r (x1 p p)=!r.Lost:=by unfold x1 b9;rw [if_pos rfl,if_pos rfl]
   rw [hvis,H16] at hst
   refine k6 (k2 (A3 (A6 (A8 Z) Z (E9 Z Z Z Z (A6 (M3 Z) Z (A5 ?_))))));refine k1 ?_;refine B5 rfl (fun ht=>?_) (fun ht=>?_)
   ·rw [if_pos ht] at hst
    skip
    refine A3 (A4 Z Z (A4 Z Z (A6 (E2 Z Z Z (by omega) (by (rw [hlen];omega))) Z ?_)));refine A6 (P4 Z Z hget Z) Z (C5 Z Z Z (A6 (E2 Z Z Z (by omega) (by (rw [hlen];omega))) Z ?_));refine G1 (H0 TySz.out Z Z (by (rw [hlen];omega)) Z Z) ?_;refine A5 ?_;refine k4 (k1 (A3 (C5 Z Z Z (A4 Z Z (A5 ?_)))));refine k1 ?_;refine ⟨i+1,by omega,by omega,?_⟩
    rw [hst]
    exact I81 ⟨le1 rfl,le1 rfl,le1 rfl,le1 rfl,le1 rfl,trivial⟩ ⟨rfl,trivial⟩
   ·rw [if_neg (by rw [ht];decide)] at hst
    refine k5 (k4 (k1 (A3 (C5 Z Z Z (A4 Z Z (A5 ?_))))));refine k1 ?_;refine ⟨i+1,by omega,by omega,?_⟩
    rw [hst]
    exact I81 ⟨le1 rfl,le1 rfl,le1 rfl,le1 rfl,le1 rfl,trivial⟩ ⟨rfl,trivial⟩
 ·have hil:i=rows.length:=by have:=A1 ht;omega
  subst hil
  rw [H17]
  refine k6 (k2 (A3 (A4 Z Z (A7 Z Z (A5 ?_)))));refine k1 (k10 ?_)
  exact X6 (A90 rfl rfl) (by repeat (first | exact F8 | refine F9 rfl ?_ | refine M1 _ ?_)) (ObIn.spec (ob':=[(720,_)]) ⟨rfl,trivial⟩) ⟨rfl,rfl⟩
theorem G84 (c:Comb) (hn:1≤c.Parents∧c.Parents≤32) (hr:∀h∈c.Hunks,L3 h.Rows) (hz:szC c.Hunks≤268435456):FnOk Tryz.prog 92 [U6 c] (fun rs=>rs=[N1 (q9 c.Parents.toNat c.Hunks)]):=by
 obtain ⟨n,hN⟩:∃n,n=c.Parents.toNat:=⟨_,rfl⟩
 rw [←hN]
 have hzl:=C42 c.Hunks
 refine FnOk.intro Tryz.func92 (by decide) Z Z Z Z ?_
 refine k2 (A3 (C2 (T8 1 Z Z Z) Z (A7 Z Z (A5 ?_))));refine k1 (k2 (k2 (A3 (A6 (A8 Z) Z (E9 Z Z Z Z (E4 Z Z (A4 Z Z (A5 ?_))))))));refine k1 (k3 (D2 (X:=Nat) (fun k=>([(1,.s (.one (.ref 1 0))),(8,C0 CHunk 2 Q8 c.Hunks),(9,B6 c.Hunks.length),(10,B6 k)],[(1,D17 c)])) (fun k=>k≤c.Hunks.length∧q9 n c.Hunks=q9 n (c.Hunks.drop k)) (fun k=>c.Hunks.length - k) 0 ⟨Nat.zero_le _,rfl⟩ (I81 ⟨le1 rfl,le1 rfl,le1 rfl,le1 rfl,trivial⟩ ⟨rfl,trivial⟩) ?_))
 rintro k ⟨hk,hp⟩
 dsimp only at hk hp ⊢
 refine k2 (A3 (F4 Z Z Z (A5 ?_)));refine k1 (k2 ?_);refine B5 rfl (fun ht=>?_) (fun ht=>?_)
 ·have hlt:k < c.Hunks.length:=by have:=A0 ht;omega
  have hv:c.Hunks[k]?=some c.Hunks[k]:=by simp [hlt]
  have hrw:=hr _ (J26 hlt)
  have hzm:=C41 (J26 hlt)
  rw [J20 hlt] at hp
  obtain ⟨h,hx⟩:∃x,x=c.Hunks[k]:=⟨_,rfl⟩
  rw [←hx] at hv hrw hp hzm
  have hz1:=r5 h.Rows
  unfold D99 at hzm
  have hp:q9 n c.Hunks=(P6 h.Rows n&&q9 n (c.Hunks.drop (k+1))):=hp
  refine k5 (k1 (k2 (k3 (k2 (A3 (A6 (A9 Z (.pure _ _ _ _) Z (by omega) hv) Z (A6 (F5 Z Z) Z (C2 (H3 4 Z) Z (G1 (B7 TySz.out Z Z Z Z Z Z) (A5 ?_))))))))));refine k1 (k2 (A3 (A6 (A8 Z) Z (E9 Z Z Z Z (E4 Z Z (A4 Z Z (A5 ?_)))))));refine k1 (k3 (D2 (X:=Nat) (fun j=>([(1,.s (.one (.ref 1 0))),(8,C0 CHunk 2 Q8 c.Hunks),(9,B6 c.Hunks.length),(10,B6 k),(15,C0 Row 3 rowC h.Rows),(16,B6 h.Rows.length),(17,B6 j)],[(1,D17 c)])) (fun j=>j≤h.Rows.length∧P6 h.Rows n=P6 (h.Rows.drop j) n) (fun j=>h.Rows.length - j) 0 ⟨Nat.zero_le _,rfl⟩ (I81 ⟨le1 rfl,le1 rfl,le1 rfl,le1 rfl,le1 rfl,le1 rfl,le1 rfl,trivial⟩ ⟨rfl,trivial⟩) ?_))
  rintro j ⟨hj,hq⟩
  dsimp only at hj hq ⊢
  refine k2 (A3 (F4 Z Z Z (A5 ?_)));refine k1 (k2 ?_);refine B5 rfl (fun ht=>?_) (fun ht=>?_)
  ·have hlt2:j < h.Rows.length:=by have:=A0 ht;omega
   have hv2:h.Rows[j]?=some h.Rows[j]:=by simp [hlt2]
   have hm:=hrw _ (J26 hlt2)
   rw [J20 hlt2,C28] at hq
   obtain ⟨r,hy⟩:∃x,x=h.Rows[j]:=⟨_,rfl⟩
   rw [←hy] at hv2 hm hq
   have hw:=D60 r c.Parents hn hm
   rw [←hN] at hw
   refine k5 (k1 (k2 (k3 (k2 (A3 (A6 (A9 Z (.pure _ _ _ _) Z (by omega) hv2) Z (A6 (F5 Z Z) Z (C2 (H3 6 Z) Z (G1 (B7 TySz.out Z Z Z Z Z Z) (A5 ?_))))))))));refine k1 (k2 (A3 (A6 (D6 Z Z Z) Z (A6 (A8 Z) Z (E9 Z Z Z Z (C6 (hw) Z Z Z ?_))))));rintro _ rfl;refine A6 (M3 Z) Z (A5 ?_);refine k1 ?_;refine B5 rfl (fun ht=>?_) (fun ht=>?_)
   ·have h2:T6 n r=false:=by simpa using ht
    rw [h2,Bool.false_and] at hq
    rw [hq,Bool.false_and] at hp
    refine k2 (A3 (A7 Z Z (A5 ?_)));refine k1 (k10 (k12 (k11 (k11 (k12 (k12 (k11 (k11 (k12 (k11 ?_))))))))))
    exact B9 (I5 rfl rfl rfl) (by rw [hp])
   ·have h2:T6 n r=true:=by simpa using ht
    rw [h2,Bool.true_and] at hq
    refine k5 (k4 (k1 (A3 (C5 Z Z Z (A4 Z Z (A5 ?_))))));refine k1 ?_
    exact ⟨j+1,⟨by omega,hq⟩,by omega,I81 ⟨le1 rfl,le1 rfl,le1 rfl,le1 rfl,le1 rfl,le1 rfl,le1 rfl,trivial⟩ ⟨rfl,trivial⟩⟩
  ·have hjl:j=h.Rows.length:=by have:=A1 ht;omega
   rw [hjl,J23 (Nat.le_refl _)] at hq
   have hq:P6 h.Rows n=true:=hq
   rw [hq,Bool.true_and] at hp
   refine k6 (k7 (k7 (k8 Z (k4 (k1 (A3 (C5 Z Z Z (A4 Z Z (A5 ?_)))))))));refine k1 ?_
   exact ⟨k+1,⟨by omega,hp⟩,by omega,I81 ⟨le1 rfl,le1 rfl,le1 rfl,le1 rfl,trivial⟩ ⟨rfl,trivial⟩⟩
 ·have hkl:k=c.Hunks.length:=by have:=A1 ht;omega
  rw [hkl,J23 (Nat.le_refl _)] at hp
  refine k6 (k2 (A3 (A7 Z Z (A5 ?_))));refine k1 (k10 ?_)
  exact B9 (I5 rfl rfl rfl) (by rw [hp];rfl)
theorem G01 (h:CHunk) (n:Nat) (ends:List Int) (hn:n≤32) (hr:L3 h.Rows) (hl:h.Rows.length≤268435456) (he:ends.length=n+1) (he0:∀e∈ends,0≤e) :
  FnOk Tryz.prog 156 [F52 h,J0 n,M7 ends] (fun rs=>rs=if X4 n ends h=true then [M7 (T9 n h),N1 true] else [M7 [],N1 false]):=by
 have hnot:∀{Q:Prop},(X4 n ends h=true→False)→(if X4 n ends h=true then [M7 (T9 n h),N1 true] else [M7 [],N1 false])=[M7 [],N1 false]:=fun hq=>if_neg hq
 have hF:=D08 n ends h
 refine FnOk.intro Tryz.func156 (by decide) Z Z Z Z ?_
 refine k2 (A3 (C2 (T8 3 Z Z Z) Z (A7 Z Z (A7 Z Z (A5 ?_)))));refine k1 (k2 (k2 (A3 (A6 (A8 Z) Z (E9 Z Z Z Z (E4 Z Z (A4 Z Z (C5 Z Z Z (A6 (O6 Z Z) Z (A4 Z Z (B2 Z Z Z Z (fun hg=>by rw [hg];exact A8 Z) ?_)))))))))));refine B2 Z Z Z Z (fun hg=>by rw [hg];exact B4 Z Z Z) ?_;refine B2 Z Z Z Z (fun hg=>by rw [hg];exact V1 Z (.pure _ _ _ _)) ?_;refine B2 Z Z Z Z (fun hg=>by rw [hg];exact Q0 Z Z) ?_;refine J5 Z Z ?_;refine A5 ?_;refine k1 ?_;refine B5 rfl (fun ht=>?_) (fun ht=>?_)
 ·have h1:=A0 (or_pick.symm.trans ht)
  refine k2 (A3 (A6 (M5 _ 1 G3) Z (A7 Z Z (A5 ?_))));refine k1 (k10 (k11 (B9 (rs:=[M7 [],N1 false]) (y7 Z Z Z Z Z) ?_)))
  rw [if_neg]
  intro hq
  have h2:=(hF.1 hq).1
  rcases h1 with h1 | h1
  ·omega
  ·exact h2.2 (List.length_eq_zero_iff.1 (by omega))
 ·have h1:=A1 (or_pick.symm.trans ht)
  simp only [not_or,Decidable.not_not] at h1
  have hal:h.At.length=n+1:=by omega
  have hne:h.Rows≠[]:=fun e=>h1.2 (by rw [e];rfl)
  refine L6 [(1,B6 n),(2,C0 Int 1 G3 ends),(3,.s (.one (.ref 3 0)))] [(3,.box (F52 h).s1.cells)] (I81 ⟨le1 rfl,le1 rfl,le1 rfl,trivial⟩ ⟨rfl,trivial⟩) ?_
  refine k5 (k1 (k2 (A3 (A6 (A8 Z) Z (E9 Z Z Z Z (A4 Z Z (l_new (B20 h.Rows n hn hr hl) Z Z Z Z ?_)))))));rintro _ _ ⟨rfl,rfl⟩;refine ⟨rfl,?_⟩;refine A7 Z Z (A5 ?_);refine k1 (k2 (k2 (A3 (A6 (A8 Z) Z (E9 Z Z Z Z (E4 Z Z (A4 Z Z (A5 ?_))))))));refine k1 (k3 (D2 (X:=Nat) (fun k=>([(2,C0 Int 1 G3 ends),(8,.s (.one (.mut 720))),(28,C0 Int 1 G3 h.At),(29,B6 h.At.length),(30,B6 k)],[(720,.arr Int 1 G3 (x2 n h k))])) (fun k=>k≤h.At.length∧∀j,j < k→ends.getD j 0≤h.At.getD j 0∧h.At.getD j 0≤4096) (fun k=>h.At.length - k) 0 ⟨Nat.zero_le _,fun j hj=>by omega⟩ (by rw [G41];exact I81 ⟨le1 rfl,le1 rfl,le1 rfl,le1 rfl,le1 rfl,trivial⟩ ⟨rfl,trivial⟩) ?_))
  rintro k ⟨hk,hp⟩
  dsimp only at hk hp ⊢
  have hlen:=H19 n h k
  refine k2 (A3 (F4 Z Z Z (A5 ?_)));refine k1 (k2 ?_);refine B5 rfl (fun ht=>?_) (fun ht=>?_)
  ·have hlt:k < h.At.length:=by have:=A0 ht;omega
   have hv:=getI hlt
   have hve:=getI (l:=ends) (i:=k) (by omega)
   have hget:=H20 n h k (by omega)
   have hset:=H21 n h k
   have hek:0≤ends.getD k 0:=he0 _ (J30 hve)
   have hcl:=E00 h.Rows n k
   obtain ⟨a,ha⟩:∃a,a=h.At.getD k 0:=⟨_,rfl⟩
   obtain ⟨e,hee⟩:∃e,e=ends.getD k 0:=⟨_,rfl⟩
   obtain ⟨q,hqq⟩:∃q,q=N7 h.Rows n k:=⟨_,rfl⟩
   rw [←ha] at hv hset
   rw [←hee] at hve hek
   rw [←hqq] at hget hset hcl
   refine k5 (k1 (k2 (k3 (k2 (A3 (A4 Z Z (A6 (A9 Z (.pure _ _ _ _) Z (by omega) hv) Z (A6 (B3 Z Z) Z (A7 Z Z (A7 Z Z (A5 ?_)))))))))));refine k1 (k2 (k2 (A3 (A4 Z Z (A4 Z Z (A4 Z Z (A6 (A9 Z (.pure _ _ _ _) Z (by omega) hve) Z (A6 (B3 Z Z) Z (F4 Z Z Z (A4 Z Z (B2 Z Z Z Z (fun hg=>by rw [hg];exact C3 Z Z) ?_)))))))))));refine B2 Z Z Z Z (fun hg=>by rw [hg];exact R0 Z Z) ?_;refine J5 Z Z ?_;refine A5 ?_;refine k1 ?_;refine B5 rfl (fun ht=>?_) (fun ht=>?_)
   ·have h2:=A0 (or_pick.symm.trans ht)
    refine k2 (A3 (A6 (M5 _ 1 G3) Z (A7 Z Z (A5 ?_))));refine k1 (k10 (k11 (k12 (k11 (k11 (k12 (k11 (B9 (rs:=[M7 [],N1 false]) (y7 Z Z Z Z Z) ?_))))))))
    rw [if_neg]
    intro hq
    have h3:=(hF.1 hq).2 k (by omega)
    rw [←ha,←hee] at h3
    omega
   ·have h2:=A1 (or_pick.symm.trans ht)
    have h3:e≤a∧a≤4096:=by omega
    refine k5 (k1 (A3 (A4 Z Z (A4 Z Z (A6 (E2 Z Z Z (by omega) (by (rw [hlen];omega))) Z ?_)))));refine A6 (P4 Z Z hget Z) Z (A4 Z Z (C5 Z Z Z (A6 (E2 Z Z Z (by omega) (by (rw [hlen];omega))) Z ?_)));refine G1 (H0 TySz.out Z Z (by (rw [hlen];omega)) Z Z) ?_;refine A5 ?_;refine k4 (k1 (A3 (C5 Z Z Z (A4 Z Z (A5 ?_)))));refine k1 ?_;refine ⟨k+1,⟨by omega,fun j hj=>?_⟩,by omega,?_⟩
    ·by_cases e1:j=k
     ·subst e1;rw [←ha,←hee];exact h3
     ·exact hp j (by omega)
    ·rw [←hset]
     exact I81 ⟨le1 rfl,le1 rfl,le1 rfl,le1 rfl,le1 rfl,trivial⟩ ⟨rfl,trivial⟩
  ·have hkl:k=n+1:=by have:=A1 ht;omega
   subst hkl
   rw [G42]
   have hq:X4 n ends h=true:=hF.2 ⟨⟨hal,hne⟩,hp⟩
   refine H5 (Sees.freeze (k:=720) Z) ?_
   refine k6 (k2 (A3 (A4 Z Z (A7 Z Z (A7 Z Z (A5 ?_))))));refine k1 (k10 ?_)
   exact B9 (rs:=[M7 (T9 n h),N1 true]) (y7 rfl rfl rfl rfl rfl) (by rw [if_pos hq])
theorem smax_ok (l:List Int) (hl:0 < l.length):FnOk Tryz.prog 112 [M7 l] (fun rs=>∃m,rs=[J0 m]∧∀b,m≤b↔∀e∈l,e≤b):=by
 refine FnOk.intro Tryz.func112 (by decide) Z Z Z Z ?_
 refine C08 (t:=0) rfl (.pure _ _ _ _) fun hb=>?_
 refine k2 (A3 (A7 Z Z (A5 ?_)));refine k1 (k2 (k2 (A3 (A4 Z Z (E4 Z Z (F4 Z Z Z (A5 ?_)))))));refine k1 ?_;refine B5 rfl (fun ht=>?_) (fun ht=>?_)
 ·exact absurd (A0 ht) (by omega)
 refine k5 (k1 (k2 (A3 (A4 Z Z (A6 (A9 Z (.pure _ _ _ _) Z (by omega) (getI (l:=l) (i:=0) hl)) Z (A6 (B3 Z Z) Z (A7 Z Z (A5 ?_))))))));refine k1 (k2 (k2 (A3 (A7 Z Z (A5 ?_)))));refine k1 (k3 ?_);refine D2 (X:=Nat × Int) (fun x=>([(0,C0 Int 1 G3 l),(3,B6 x.2),(4,B6 x.1)],[])) (fun x=>(1≤x.1∧x.1≤l.length)∧∀b,x.2≤b↔∀e∈l.take x.1,e≤b) (fun x=>l.length - x.1) (1,l.getD 0 0) ⟨⟨Nat.le_refl _,hl⟩,?_⟩ (I81 ⟨le1 rfl,le1 rfl,le1 rfl,trivial⟩ trivial) ?_
 ·intro b
  have:l.take 1=[l.getD 0 0]:=by
   cases l with
   | nil=>cases hl
   | cons x r=>rfl
  dsimp only
  rw [this];simp
 rintro ⟨k,m⟩ ⟨⟨hk1,hk⟩,hp⟩
 dsimp only at hk1 hk hp ⊢
 refine k2 (k2 (A3 (A4 Z Z (A4 Z Z (E4 Z Z (F4 Z Z Z (A5 ?_)))))));refine k1 ?_;refine B5 rfl (fun ht=>?_) (fun ht=>?_)
 ·have hlt:k < l.length:=by have:=A0 ht;omega
  have hv:=getI hlt
  refine k5 (k1 (k2 (k3 (A3 (A4 Z Z (A4 Z Z (A4 Z Z (A6 (A9 Z (.pure _ _ _ _) Z (by omega) hv) Z (A6 (B3 Z Z) Z (A6 (n_max Z Z) Z (A7 Z Z (A5 ?_))))))))))));refine k4 (k1 (A3 (A4 Z Z (C5 Z Z Z (A7 Z Z (A5 ?_))))));refine k1 ?_;refine ⟨(k+1,if m < l.getD k 0 then l.getD k 0 else m),⟨⟨by dsimp only;omega,by dsimp only;omega⟩,?_⟩,by dsimp only;omega,I81 ⟨le1 rfl,le1 rfl,le1 rfl,trivial⟩ trivial⟩
  intro b
  dsimp only
  have e:l.take (k+1)=l.take k++[l.getD k 0]:=by
   rw [J22 hlt,J17,J14 hlt];rfl
  have h1:=hp b
  rw [e]
  constructor
  ·intro h x hx
   rcases List.mem_append.1 hx with hx | hx
   ·exact h1.1 (by omega) x hx
   ·simp only [J53,J49,or_false] at hx
    rw [hx];omega
  ·intro h
   have h2:=h1.2 (fun x hx=>h x (List.mem_append.2 (.inl hx)))
   have h3:=h (l.getD k 0) (List.mem_append.2 (.inr (by simp)))
   omega
 ·have hkl:k=l.length:=by have:=A1 ht;omega
  subst hkl
  rw [J32] at hp
  refine k6 (k2 (A3 (A4 Z Z (A7 Z Z (A5 ?_)))));refine k1 (k10 ?_)
  exact B9 (I5 rfl rfl rfl) ⟨m,rfl,hp⟩
theorem I48 (c:Comb) (hn:1≤c.Parents∧c.Parents≤32) (hr:∀h∈c.Hunks,L3 h.Rows) (hz:szC c.Hunks≤268435456) :
  FnOk Tryz.prog 93 [U6 c] (fun rs=>rs=[N1 (l9 c.Parents.toNat (List.replicate (c.Parents.toNat+1) 0) false 0 c.Hunks)]):=by
 obtain ⟨n,hN⟩:∃n,n=c.Parents.toNat:=⟨_,rfl⟩
 have hNc:c.Parents=(n:Int):=by omega
 rw [←hN]
 have e0:(c.Parents+1).toNat=n+1:=by omega
 have hzl:=C42 c.Hunks
 obtain ⟨W,hW⟩:∃W,W=l9 n (List.replicate (n+1) 0) false 0 c.Hunks:=⟨_,rfl⟩
 rw [←hW]
 refine FnOk.intro Tryz.func93 (by decide) Z Z Z Z ?_
 refine k2 (A3 (C2 (T8 1 Z Z Z) Z (A7 Z Z (A5 ?_))));refine k1 (k2 (A3 (C2 (H3 3 Z) Z (A5 ?_))));refine k1 (k2 (A3 (A6 (A8 Z) Z (E9 Z Z Z Z (C5 Z Z Z (C2 (W2 720 Int G3 0 Z Z (by omega) (by omega) (fun _=>by first | exact ⟨⟨rfl,rfl⟩,trivial⟩ | exact ⟨N3 _ _ _,trivial⟩) (by first | rfl | (simp [H6,I4,Ob.free,SV.free,S1.free,TC.free]<;>rfl))) Z ?_))))));refine A7 Z Z (A5 ?_)
 rw [e0]
 refine k1 (k2 (k2 (H5 (Sees.freeze (k:=720) Z) ?_)))
 refine A3 (A6 (A8 Z) Z (E9 Z Z Z Z (E4 Z Z (A4 Z Z (A5 ?_)))));refine k1 (k3 (D2 (X:=Nat × List Int × Bool × Int) (fun x=>([(1,.s (.one (.ref 1 0))),(3,.s (.one (.ref 3 0))),(4,C0 Int 1 G3 x.2.1),(15,C0 CHunk 2 Q8 c.Hunks),(16,B6 c.Hunks.length),(17,B6 x.1)],[(1,D17 c),(3,.box [.p (.v (.bool x.2.2.1)),.p (.v (.int .u32 x.2.2.2))])])) (fun x=>x.1≤c.Hunks.length∧x.2.1.length=n+1∧(∀e∈x.2.1,0≤e)∧W=l9 n x.2.1 x.2.2.1 x.2.2.2 (c.Hunks.drop x.1)) (fun x=>c.Hunks.length - x.1) (0,List.replicate (n+1) 0,false,0) ⟨Nat.zero_le _,by simp,fun e he=>by have:=(List.mem_replicate.1 he).2;omega,hW⟩ (I81 ⟨le1 rfl,le1 rfl,le1 rfl,le1 rfl,le1 rfl,le1 rfl,trivial⟩ ⟨rfl,rfl,trivial⟩) ?_))
 rintro ⟨k,ends,res,par⟩ ⟨hk,hel,he0,hp⟩
 dsimp only at hk hel he0 hp ⊢
 refine k2 (A3 (F4 Z Z Z (A5 ?_)));refine k1 (k2 ?_);refine B5 rfl (fun ht=>?_) (fun ht=>?_)
 ·have hlt:k < c.Hunks.length:=by have:=A0 ht;omega
  have hv:c.Hunks[k]?=some c.Hunks[k]:=by simp [hlt]
  have hmem:=J26 hlt
  have hrw:=hr _ hmem
  have hzm:=C41 hmem
  rw [J20 hlt,l9] at hp
  obtain ⟨h,hx⟩:∃x,x=c.Hunks[k]:=⟨_,rfl⟩
  rw [←hx] at hv hrw hzm hp
  have hz1:=r5 h.Rows
  have hz2:=B98 h.Rows
  unfold D99 at hzm
  have hf:=G01 h n ends (by omega) hrw (by omega) hel he0
  rw [←hNc] at hf
  refine k5 (k1 (k2 (k3 (k2 (A3 (A6 (A9 Z (.pure _ _ _ _) Z (by omega) hv) Z (A6 (F5 Z Z) Z (C2 (H3 6 Z) Z (G1 (B7 TySz.out Z Z Z Z Z Z) (A5 ?_))))))))));refine k1 (k2 (A3 (A7 Z Z (A5 ?_))));refine k1 (k2 (k2 ?_))
  cases hfb:X4 n ends h with
  | false =>
   rw [hfb,if_neg (by decide)] at hf
   rw [hfb,Bool.false_and] at hp
   refine A3 (A6 (D6 Z Z Z) Z (A6 (A8 Z) Z (E9 Z Z Z Z (A4 Z Z (C6 (hf) Z Z Z ?_)))));rintro _ rfl;refine A4 Z Z (J4 Z Z Z (J4 Z Z Z (A7 Z Z (A7 Z Z (A5 ?_)))));refine k1 (k2 (A3 (A4 Z Z (A6 (M3 Z) Z (A5 ?_)))));refine k1 ?_;refine B5 rfl (fun ht=>?_) (fun ht=>?_)
   ·refine k2 (A3 (A7 Z Z (A5 ?_)));refine k1 (k10 (k11 (k12 (k11 (k11 (k12 (k11 ?_)))))))
    exact B9 (I5 rfl rfl rfl) (by rw [hp])
   ·cases ht
  | true =>
   rw [hfb,if_pos rfl] at hf
   rw [hfb,Bool.true_and] at hp
   have hpos:∀e∈T9 n h,0≤e:=by
    intro e hm
    obtain ⟨j,hj,rfl⟩:=List.mem_map.1 hm
    have hj:=List.mem_range.1 hj
    have h1:=((D08 n ends h).1 hfb).2 j hj
    have h2:=he0 _ (J30 (getI (l:=ends) (i:=j) (by omega)))
    have h3:=E00 h.Rows n j
    omega
   refine A3 (A6 (D6 Z Z Z) Z (A6 (A8 Z) Z (E9 Z Z Z Z (A4 Z Z (C6 (hf) Z Z Z ?_)))));rintro _ rfl;refine A4 Z Z (J4 Z Z Z (J4 Z Z Z (A7 Z Z (A7 Z Z (A5 ?_)))));refine k1 (k2 (A3 (A4 Z Z (A6 (M3 Z) Z (A5 ?_)))));refine k1 ?_;refine B5 rfl (fun ht=>?_) (fun ht=>?_)
   ·cases ht
   refine k5 (k1 (k2 (A3 (A6 (A8 Z) Z (E9 Z Z Z Z (E4 Z Z (A4 Z Z (A5 ?_))))))));refine k1 (k3 (D2 (X:=Nat × Bool × Int) (fun x=>([(1,.s (.one (.ref 1 0))),(3,.s (.one (.ref 3 0))),(4,C0 Int 1 G3 (T9 n h)),(15,C0 CHunk 2 Q8 c.Hunks),(16,B6 c.Hunks.length),(17,B6 k),(32,C0 Row 3 rowC h.Rows),(33,B6 h.Rows.length),(34,B6 x.1)],[(1,D17 c),(3,.box [.p (.v (.bool x.2.1)),.p (.v (.int .u32 x.2.2))])])) (fun x=>x.1≤h.Rows.length∧Q6 res par h.Rows=Q6 x.2.1 x.2.2 (h.Rows.drop x.1)∧l7 res h.Rows=l7 x.2.1 (h.Rows.drop x.1)∧l8 par h.Rows=l8 x.2.2 (h.Rows.drop x.1)) (fun x=>h.Rows.length - x.1) (0,res,par) ⟨Nat.zero_le _,rfl,rfl,rfl⟩ (I81 ⟨le1 rfl,le1 rfl,le1 rfl,le1 rfl,le1 rfl,le1 rfl,le1 rfl,le1 rfl,le1 rfl,trivial⟩ ⟨rfl,rfl,trivial⟩) ?_))
   rintro ⟨j,res',par'⟩ ⟨hj,q1,q2,q3⟩
   dsimp only at hj q1 q2 q3 ⊢
   refine k2 (A3 (F4 Z Z Z (A5 ?_)));refine k1 (k2 ?_);refine B5 rfl (fun ht=>?_) (fun ht=>?_)
   ·have hlt2:j < h.Rows.length:=by have:=A0 ht;omega
    have hv2:h.Rows[j]?=some h.Rows[j]:=by simp [hlt2]
    have htl:=G16 h.Rows _ (J26 hlt2)
    rw [J20 hlt2] at q1 q2 q3
    rw [Q6] at q1
    obtain ⟨r,hy⟩:∃x,x=h.Rows[j]:=⟨_,rfl⟩
    rw [←hy] at hv2 htl q1 q2 q3
    refine k5 (k1 (k2 (k3 (k2 (A3 (A6 (A9 Z (.pure _ _ _ _) Z (by omega) hv2) Z (A6 (F5 Z Z) Z (C2 (H3 9 Z) Z (G1 (B7 TySz.out Z Z Z Z Z Z) (A5 ?_))))))))));refine k1 (k2 ?_)
    by_cases hs:K3 r.Text=true
    ·refine A3 (A6 (D6 Z Z Z) Z (C6 (A60 r (by omega)) Z Z Z ?_));rintro _ rfl;refine A6 (M3 Z) Z (A4 Z Z (O5 Z Z Z (by rw [hs];rfl) ?_));refine A6 (D6 Z Z Z) Z (O5 Z Z Z (by rw [hs];rfl) ?_);refine F70 (H37 r res' par' (by omega)) Z Z Z Z Z Z ?_;rintro _ _ ⟨rfl,rfl⟩;refine B2 Z Z Z Z (fun hg=>by rw [hg];exact M3 Z) ?_;refine J5 Z Z ?_;refine A5 ?_;refine k1 ?_;refine B5 rfl (fun ht=>?_) (fun ht=>?_)
     ·have h2:B75 res' par' r=false:=by rw [hs] at ht;simpa using ht
      rw [hs,h2,Bool.true_and,Bool.false_and] at q1
      rw [q1,Bool.false_and] at hp
      refine k2 (A3 (A7 Z Z (A5 ?_)));refine k1 (k10 (k12 (k11 (k11 (k12 (k12 (k11 (k11 (k12 (k11 ?_))))))))))
      exact B9 (I5 rfl rfl rfl) (by rw [hp])
     ·have h2:B75 res' par' r=true:=by rw [hs] at ht;simpa using ht
      rw [hs,h2,Bool.true_and,Bool.true_and] at q1
      refine k5 (k4 (k1 (A3 (C5 Z Z Z (A4 Z Z (A5 ?_))))));refine k1 ?_
      exact ⟨(j+1,_,_),⟨by dsimp only;omega,q1,q2,q3⟩,by dsimp only;omega,I81 ⟨le1 rfl,le1 rfl,le1 rfl,le1 rfl,le1 rfl,le1 rfl,le1 rfl,le1 rfl,le1 rfl,trivial⟩ ⟨rfl,rfl,trivial⟩⟩
    ·have hs':K3 r.Text=false:=by simpa using hs
     refine A3 (A6 (D6 Z Z Z) Z (C6 (A60 r (by omega)) Z Z Z ?_));rintro _ rfl;refine A6 (M3 Z) Z (A4 Z Z (B2 Z Z Z Z (fun hg=>by rw [hg];exact D6 Z Z Z) ?_));refine O8 Z Z Z (by rw [hs'];decide) Z ?_;refine O8 Z Z Z (by rw [hs'];decide) Z ?_;refine A6 (K6 (q:=true) Z (fun h=>rfl) (fun h=>by rw [hs'] at h;cases h)) Z ?_;refine A5 ?_
     rw [hs',Bool.false_and,Bool.false_and] at q1
     rw [q1,Bool.false_and] at hp
     refine k1 ?_;refine B5 rfl (fun ht=>?_) (fun ht=>?_)
     ·refine k2 (A3 (A7 Z Z (A5 ?_)));refine k1 (k10 (k12 (k11 (k11 (k12 (k12 (k11 (k11 (k12 (k11 ?_))))))))))
      exact B9 (I5 rfl rfl rfl) (by rw [hp])
     ·rw [hs'] at ht;cases ht
   ·have hjl:j=h.Rows.length:=by have:=A1 ht;omega
    rw [hjl,J23 (Nat.le_refl _)] at q1 q2 q3
    have q1:Q6 res par h.Rows=true:=q1
    have q2:l7 res h.Rows=res':=q2
    have q3:l8 par h.Rows=par':=q3
    rw [q1,q2,q3,Bool.true_and] at hp
    refine k6 (k7 (k7 (k8 Z (k4 (k1 (A3 (C5 Z Z Z (A4 Z Z (A5 ?_)))))))));refine k1 ?_
    exact ⟨(k+1,_,_,_),⟨by dsimp only;omega,B97 n h,hpos,hp⟩,by dsimp only;omega,I81 ⟨le1 rfl,le1 rfl,le1 rfl,le1 rfl,le1 rfl,le1 rfl,trivial⟩ ⟨rfl,rfl,trivial⟩⟩
 ·have hkl:k=c.Hunks.length:=by have:=A1 ht;omega
  rw [hkl,J23 (Nat.le_refl _)] at hp
  have hp:W=decide (∀e∈ends,e≤4096):=hp
  refine k6 (k2 (A3 (A4 Z Z (C6 (smax_ok ends (by omega)) Z Z Z ?_))));rintro _ ⟨m,rfl,hm⟩;refine A6 (A39 Z Z) Z (A7 Z Z (A5 ?_));refine k1 (k10 ?_)
  exact B9 (I5 rfl rfl rfl) (by rw [hp];simp only [hm 4096])
theorem B47 (s:Str):FnOk Tryz.prog 91 [P8 s] (fun rs=>rs=[N1 (R6 s)]):=by
 refine FnOk.intro Tryz.func91 (by decide) Z Z Z Z ?_
 refine k2 (A3 (A7 Z Z (A5 ?_)));refine k1 (k2 (A3 (A4 Z Z (A6 (Q3 Z) Z (A6 (B61 Z Z) Z (A4 Z Z (B2 Z Z Z Z (fun hg=>by rw [hg];exact C3 Z Z) ?_)))))));refine B2 Z Z Z Z (fun hg=>by rw [hg];exact Q3 Z) ?_;refine B2 Z Z Z Z (fun hg=>by rw [hg];exact A39 Z Z) ?_;refine J5 Z Z ?_;refine A7 Z Z (A5 ?_);refine k1 (k10 (B9 (I5 Z Z Z) ?_))
 rw [Q2]
 unfold R6
 congr 4
 apply decide_eq_decide.2
 omega
theorem E77 (c:Comb) (hp:c.Path.length≤16777216):FnOk Tryz.prog 86 [U6 c] (fun rs=>rs=[P8 (A85 c)]):=by
 have hq:=E06 c.Path
 have hf:=H59 c.Parents
 refine FnOk.intro Tryz.func86 (by decide) Z Z Z Z ?_
 refine k2 (A3 (C2 (T8 1 Z Z Z) Z (A7 Z Z (A5 ?_))));refine k1 (k2 (A3 (A7 Z Z (A5 ?_))));refine k1 (k2 (k2 (A3 (A6 (A8 Z) Z (E9 Z Z Z Z (A5 ?_))))));refine k1 ?_;refine B5 rfl (fun ht=>?_) (fun ht=>?_)
 ·have hd:c.Dense=true:=ht
  skip
  refine A3 (A7 Z Z (A5 ?_));refine k1 (k2 (D5 (by kernel_rfl) (by kernel_rfl) (D3 Z Z (B1 (L0 Z Z (by (simp only [J15,J16,J19];omega))) Z Z (B1 (L0 Z Z (by (simp only [J15,J16,J19];omega))) Z Z (B1 (A8 Z) Z Z (B1 (B4 Z Z Z) Z Z (B1 (O4 (E73 c.Path (by omega)) Z Z) Z Z (B1 (L0 Z Z (by (simp only [J15,J16,J19];omega))) Z Z (B1 (L0 Z Z (by (simp only [J15,J16,J19];omega))) Z Z (B1 (A8 Z) Z Z (B1 (B4 Z Z Z) Z Z (B1 (O4 (n9 c.Parents) Z Z) Z Z (B1 (L0 Z Z (by (simp only [J15,J16,J19];omega))) Z Z (B1 (L0 Z Z (by (simp only [J15,J16,J19];omega))) Z Z (B1 (K8 Z Z) Z Z (O2 ?_)))))))))))))))));refine k1 (k10 ?_)
  exact B9 (I5 rfl rfl rfl) (by unfold A85 G39;rw [if_pos hd];simp [ccS,parS])
 ·have hd:c.Dense=false:=ht
  refine k5 (k1 (k2 (D5 (by kernel_rfl) (by kernel_rfl) (D3 Z Z (B1 (L0 Z Z (by (simp only [J15,J16,J19];omega))) Z Z (B1 (L0 Z Z (by (simp only [J15,J16,J19];omega))) Z Z (B1 (A8 Z) Z Z (B1 (B4 Z Z Z) Z Z (B1 (O4 (E73 c.Path (by omega)) Z Z) Z Z (B1 (L0 Z Z (by (simp only [J15,J16,J19];omega))) Z Z (B1 (L0 Z Z (by (simp only [J15,J16,J19];omega))) Z Z (B1 (A8 Z) Z Z (B1 (B4 Z Z Z) Z Z (B1 (O4 (n9 c.Parents) Z Z) Z Z (B1 (L0 Z Z (by (simp only [J15,J16,J19];omega))) Z Z (B1 (L0 Z Z (by (simp only [J15,J16,J19];omega))) Z Z (B1 (K8 Z Z) Z Z (O2 ?_))))))))))))))))));refine k1 (k10 ?_)
  exact B9 (I5 rfl rfl rfl) (by unfold A85 G39;rw [hd,if_neg (by decide)];simp [combS,parS])
theorem D66 (h:CHunk) (n:Nat) (hn:n≤32) (hr:L3 h.Rows) (hl:h.Rows.length≤268435456) (ha:h.At.length=n+1) (hb:∀a∈h.At,-4611686018427387904≤a∧a≤4611686018427387904) :
  FnOk Tryz.prog 87 [F52 h,J0 n] (fun rs=>rs=[P8 (B36 n h++[10])]):=by
 have hrep:FnOk Tryz.prog 150 [P8 [64],J0 ((n:Int)+1)] (fun rs=>rs=[P8 (atS (n+1))]):=by
  have:=H91 64 (n+1) (by omega)
  rwa [show ((n+1:Nat):Int)=(n:Int)+1 by omega] at this
 obtain ⟨A,hA⟩:∃A,A=atS (n+1):=⟨_,rfl⟩
 have hAl:A.length=n+1:=by rw [hA,F53]
 have hend:B36 n h++[10]=A++Z9 n h n++([32,43]++U9 (h.At.getD n 0) (N7 h.Rows n n)++[32]++A++[10]):=by
  unfold B36
  rw [B37,hA]
  unfold D96 sgnB
  rw [if_pos rfl];simp
 rw [hend]
 rw [←hA] at hrep
 have hsl:=fun k=>A84 n h k
 have hcnt:=fun k=>E00 h.Rows n k
 have hgA:∀k,k < n+1→h.At[k]?=some (h.At.getD k 0):=fun k hk=>getI (by omega)
 have hgC:∀k,k < n+1→(F7 h.Rows n)[k]?=some (N7 h.Rows n k):=fun k hk=>H18 h.Rows n k hk
 have hrA:∀k,k < n+1 → -4611686018427387904≤h.At.getD k 0∧h.At.getD k 0≤4611686018427387904:=fun k hk=>hb _ (J30 (hgA k hk))
 refine FnOk.intro Tryz.func87 (by decide) Z Z Z Z ?_
 refine k2 (A3 (C2 (T8 2 Z Z Z) Z (A7 Z Z (A5 ?_))));refine k1 (k2 (A3 (A6 (A8 Z) Z (E9 Z Z Z Z (A4 Z Z (l_new (B20 h.Rows n hn hr hl) Z Z Z Z ?_))))));rintro _ _ ⟨rfl,rfl⟩;refine ⟨rfl,?_⟩;refine A7 Z Z (A5 ?_);refine k1 (k2 (H5 (Sees.freeze (k:=720) Z) ?_))
 refine A3 (A4 Z Z (C5 Z Z Z (C6 (hrep) Z Z Z ?_)));rintro _ rfl;refine A7 Z Z (A5 ?_);refine k1 (k2 (A3 (C2 (D39 700 Z) Z (A5 ?_))));refine k1 (k2 (H5 (I94 701 UInt8 1 u8C 5 (kb:=700) (o:=1) Z Z Z) ?_))
 refine A3 (A4 Z Z (A15 (P9 (xs:=[]) (s:=A) ⟨⟨_,.inl rfl,rfl⟩,rfl⟩ (by simp only [J19];omega)) Z Z Z ?_));rintro _ _ ⟨rfl,rfl⟩;refine A5 ?_;refine k1 (k2 (k2 (A3 (A4 Z Z (A4 Z Z (A5 ?_))))));refine k1 (k3 ?_);refine D2 (X:=Nat) (fun p=>([(1,B6 n),(2,.s (.one (.ref 2 0))),(5,C0 Int 1 G3 (F7 h.Rows n)),(6,X0 A),(7,.s (.one (.ref 700 0))),(18,B6 n),(19,B6 p)],[(2,.box (F52 h).s1.cells),(700,.tbx 124 [.ref 700 0,.buf 701 UInt8 1 u8C (A++Z9 n h p)]),(701,.spare (A++Z9 n h p).length 1 5)])) (fun p=>p≤n) (fun p=>n - p) 0 (Nat.zero_le _) ?_ ?_
 ·rw [show Z9 n h 0=[] from rfl,J35]
  exact I81 ⟨le1 rfl,le1 rfl,le1 rfl,le1 rfl,le1 rfl,le1 rfl,le1 rfl,trivial⟩ ⟨rfl,rfl,rfl,trivial⟩
 intro p hp
 dsimp only at hp ⊢
 have hsp:=hsl p
 have hsucc:=B37 n h p
 refine k2 (A3 (F4 Z Z Z (A5 ?_)));refine k1 (k2 ?_);refine B5 rfl (fun ht=>?_) (fun ht=>?_)
 ·have hlt:p < n:=by have:=A0 ht;omega
  have hga:=hgA p (by omega)
  have hgc:=hgC p (by omega)
  have hra:=hrA p (by omega)
  have hcp:=hcnt p
  have hsw:D96 n h p=[32,45]++U9 (h.At.getD p 0) (N7 h.Rows n p):=by
   unfold D96 sgnB;rw [if_neg (by omega)]
  have hrl:=B29 (h.At.getD p 0) (N7 h.Rows n p)
  rw [hsw] at hsucc
  obtain ⟨a,haa⟩:∃a,a=h.At.getD p 0:=⟨_,rfl⟩
  obtain ⟨q,hqq⟩:∃q,q=N7 h.Rows n p:=⟨_,rfl⟩
  rw [←haa] at hga hra hrl hsucc
  rw [←hqq] at hgc hcp hrl hsucc
  have hlb:(A++Z9 n h p).length≤1000:=by rw [J15];omega
  obtain ⟨B,hB⟩:∃B,B=A++Z9 n h p:=⟨_,rfl⟩
  rw [←hB] at hlb ⊢
  refine k5 (k1 (k2 (k3 (k2 (A3 (A4 Z Z (A7 Z Z (A5 ?_))))))));refine k1 (B64 11 (by kernel_rfl) (by kernel_rfl) Z (B1 (A8 Z) Z Z (B1 (B4 Z Z Z) Z Z (D3 Z Z (B1 (A9 Z (.pure _ _ _ _) Z (by omega) hga) Z Z (B1 (B3 Z Z) Z Z (D3 Z Z (D3 Z Z (B1 (A9 Z (.pure _ _ _ _) Z (by omega) hgc) Z Z (B1 (B3 Z Z) Z Z (B1 (O4 (E72 a q hra (by omega)) Z Z) Z Z (B1 (L0 Z Z (by (simp only [J15,J16,J19];omega))) Z Z (O2 ?_)))))))))))));refine F77 (P9 (xs:=B) (s:=[32,45]++U9 a q) ⟨⟨_,.inr rfl,rfl⟩,rfl⟩ (by simp only [J15,J16,J19];omega)) Z Z Z ?_;rintro _ _ ⟨rfl,rfl⟩;refine ⟨_,rfl,?_⟩;refine O2 ?_;refine k4 (k1 (A3 (C5 Z Z Z (A4 Z Z (A5 ?_)))));refine k1 ?_;refine ⟨p+1,by omega,by omega,?_⟩
  have hs2:A++Z9 n h (p+1)=B++([32,45]++U9 a q):=by rw [hsucc,hB,J25]
  rw [hs2]
  exact I81 ⟨le1 rfl,le1 rfl,le1 rfl,le1 rfl,le1 rfl,le1 rfl,le1 rfl,trivial⟩ ⟨rfl,rfl,rfl,trivial⟩
 ·have hpn:p=n:=by have:=A1 ht;omega
  subst hpn
  have hga:=hgA p (by omega)
  have hgc:=hgC p (by omega)
  have hra:=hrA p (by omega)
  have hcp:=hcnt p
  have hrl:=B29 (h.At.getD p 0) (N7 h.Rows p p)
  obtain ⟨a,haa⟩:∃a,a=h.At.getD p 0:=⟨_,rfl⟩
  obtain ⟨q,hqq⟩:∃q,q=N7 h.Rows p p:=⟨_,rfl⟩
  rw [←haa] at hga hra hrl ⊢
  rw [←hqq] at hgc hcp hrl ⊢
  have hlb:(A++Z9 p h p).length≤1000:=by rw [J15];omega
  obtain ⟨B,hB⟩:∃B,B=A++Z9 p h p:=⟨_,rfl⟩
  rw [←hB] at hlb ⊢
  refine k6 (k2 (B64 15 (by kernel_rfl) (by kernel_rfl) Z (B1 (A8 Z) Z Z (B1 (B4 Z Z Z) Z Z (D3 Z Z (B1 (A9 Z (.pure _ _ _ _) Z (by omega) hga) Z Z (B1 (B3 Z Z) Z Z (D3 Z Z (D3 Z Z (B1 (A9 Z (.pure _ _ _ _) Z (by omega) hgc) Z Z (B1 (B3 Z Z) Z Z (B1 (O4 (E72 a q hra (by omega)) Z Z) Z Z (B1 (L0 Z Z (by (simp only [J15,J16,J19];omega))) Z Z (B1 (L0 Z Z (by (simp only [J15,J16,J19];omega))) Z Z (D3 Z Z (B1 (L0 Z Z (by (simp only [J15,J16,J19];omega))) Z Z (B1 (L0 Z Z (by (simp only [J15,J16,J19];omega))) Z Z (O2 ?_))))))))))))))))));refine F77 (P9 (xs:=B) (s:=[32,43]++U9 a q++[32]++A++[10]) ⟨⟨_,.inr rfl,rfl⟩,rfl⟩ (by simp only [J15,J16,J19];omega)) Z Z Z ?_;rintro _ _ ⟨rfl,rfl⟩;refine ⟨_,rfl,?_⟩;refine O2 ?_;refine k1 (k2 (A3 (C58 (k:=700) (k':=701) ⟨_,rfl,rfl,rfl⟩ A34 Z Z Z Z Z (.inr Z) Z (A7 Z Z (A5 ?_)))));refine k1 (k10 ?_)
  exact B9 (I5 rfl rfl rfl) rfl
def C25 (r:Row):UInt8:=if r.Lost then 45 else 43
theorem crow_ok (r:Row) (n:Nat) (hn:n≤32) (hm:0≤r.Marks∧r.Marks < 4294967296) (hx:r.Text.length≤268435456) :
  FnOk Tryz.prog 88 [pRow r,J0 n] (fun rs=>rs=[P8 (A48 n r).flatten]):=by
 rw [E08]
 refine FnOk.intro Tryz.func88 (by decide) Z Z Z Z ?_
 refine k2 (A3 (C2 (T8 2 Z Z Z) Z (A7 Z Z (A5 ?_))));refine k1 (k2 (A3 (A7 Z Z (A5 ?_))));refine K4 ?_
 refine z6 [(1,B6 n),(2,.s (.one (.ref 2 0))),(5,I9 (.int .u8 (C25 r).toNat))] [(2,.box (pRow r).s1.cells)] ?_ ?_
 ·refine k2 (A3 (A6 (A8 Z) Z (E9 Z Z Z Z (A5 ?_))));refine k1 ?_;refine B5 rfl (fun ht=>?_) (fun ht=>?_)
  ·have h:r.Lost=true:=ht
   skip
   refine A3 (A7 Z Z (A5 ?_));refine k1 ?_
   rw [show C25 r=45 by unfold C25;rw [h];rfl]
   exact I81 ⟨le1 rfl,le1 rfl,le1 rfl,trivial⟩ ⟨rfl,trivial⟩
  ·have h:r.Lost=false:=ht
   refine k5 (k1 ?_)
   rw [show C25 r=43 by unfold C25;rw [h];rfl]
   exact I81 ⟨le1 rfl,le1 rfl,le1 rfl,trivial⟩ ⟨rfl,trivial⟩
 refine k2 (A3 (A4 Z Z (A6 (A8 Z) Z (E9 Z Z Z Z (A6 (Q3 Z) Z (C5 Z Z Z (C5 Z Z Z (C2 (H76 730 UInt8 u8C Z Z (by omega) (by omega) (by first | rfl | (simp [H6,I4,Ob.free,SV.free,S1.free,TC.free]<;>rfl))) Z ?_))))))));refine A7 Z Z (A5 ?_);refine k1 (k2 (k2 (A3 (A4 Z Z (A4 Z Z (A5 ?_))))));refine k1 (k3 (D2 (X:=Nat) (fun p=>([(1,B6 n),(2,.s (.one (.ref 2 0))),(5,I9 (.int .u8 (C25 r).toNat)),(6,.s (.one (.buf 730 UInt8 1 u8C (A36 p r)))),(17,B6 n),(18,B6 p)],[(2,.box (pRow r).s1.cells),(730,.spare (A36 p r).length 1 5)])) (fun p=>p≤n) (fun p=>n - p) 0 (Nat.zero_le _) (I81 ⟨le1 rfl,le1 rfl,le1 rfl,le1 rfl,le1 rfl,le1 rfl,trivial⟩ ⟨rfl,rfl,trivial⟩) ?_))
 intro p hp
 dsimp only at hp ⊢
 have hml:=B55 p r
 have hsucc:=G47 p r
 refine k2 (A3 (F4 Z Z Z (A5 ?_)));refine k1 (k2 ?_);refine B5 rfl (fun ht=>?_) (fun ht=>?_)
 ·have hlt:p < n:=by have:=A0 ht;omega
  refine k5 (k1 (k2 (k3 (k2 (A3 (A4 Z Z (A7 Z Z (A5 ?_))))))));refine k1 (k2 (A3 (A6 (A8 Z) Z (E9 Z Z Z Z (A4 Z Z (A6 (B60 Z Z (by omega)) Z (A6 (Z4 Z Z Z (fun _=>rfl)) Z (A6 (Q0 Z Z) Z (A5 ?_)))))))));refine k1 ?_
  have h3:0≤r.Marks / 2 ^ p:=Int.ediv_nonneg hm.1 (Int.pow_nonneg (by decide))
  have h4:r.Marks / 2 ^ p≤r.Marks:=Int.ediv_le_self _ hm.1
  have e32:r.Marks.fdiv (2 ^ (min (p:Int).toNat IntKind.u32.bits))=r.Marks / 2 ^ p:=H47 r.Marks p (by omega)
  have e1:=G17 (r.Marks / 2 ^ p) (by omega)
  refine B5 rfl (fun ht=>?_) (fun ht=>?_)
  ·rw [e32,e1] at ht
   have hb:V5 r.Marks p=true:=by unfold V5;simpa using ht
   have hmk:E89 r p=C25 r:=by unfold E89 C25;rw [hb,if_neg (by decide)]
   rw [hmk] at hsucc
   skip
   refine A3 (A4 Z Z (A4 Z Z (A6 (C9 (c:=u8C) (ys:=[C25 r]) (E0 Z Z Z Z G6) Z Z Z) Z (C2 (H4 Z Z Z (.pure _ _ _ _) (by (simp only [J16,J19];omega)) Z) Z (A7 Z Z (A5 ?_))))));refine k4 (k1 (A3 (C5 Z Z Z (A4 Z Z (A5 ?_)))));refine k1 ?_;refine ⟨p+1,by omega,by omega,?_⟩
   rw [hsucc]
   exact I81 ⟨le1 rfl,le1 rfl,le1 rfl,le1 rfl,le1 rfl,le1 rfl,trivial⟩ ⟨rfl,rfl,trivial⟩
  ·rw [e32,e1] at ht
   have hb:V5 r.Marks p=false:=by unfold V5;simpa using ht
   have hmk:E89 r p=32:=by unfold E89;rw [if_pos hb]
   rw [hmk] at hsucc
   skip
   refine A3 (A4 Z Z (A6 (C9 (c:=u8C) (ys:=[32]) (E0 Z Z Z Z G6) Z Z Z) Z (C2 (H4 Z Z Z (.pure _ _ _ _) (by (simp only [J16,J19];omega)) Z) Z (A7 Z Z (A5 ?_)))));refine k4 (k1 (A3 (C5 Z Z Z (A4 Z Z (A5 ?_)))));refine k1 ?_;refine ⟨p+1,by omega,by omega,?_⟩
   rw [hsucc]
   exact I81 ⟨le1 rfl,le1 rfl,le1 rfl,le1 rfl,le1 rfl,le1 rfl,trivial⟩ ⟨rfl,rfl,trivial⟩
 ·have hpn:p=n:=by have:=A1 ht;omega
  subst hpn
  refine k6 (k2 (A3 (A4 Z Z (A6 (A8 Z) Z (E9 Z Z Z Z (C2 (B80 TyStr.out Z Z Z (by omega) Z) Z (A7 Z Z (A5 ?_))))))));refine k1 (k2 (k2 (A3 (A6 (A8 Z) Z (E9 Z Z Z Z (C6 (B46 r.Text (by omega)) Z Z Z ?_))))));rintro _ rfl;refine A6 (M3 Z) Z (A5 ?_);refine k1 ?_;refine B5 rfl (fun ht=>?_) (fun ht=>?_)
  ·have h:ended r.Text=false:=by simpa using ht
   skip
   refine A3 (A4 Z Z (C2 (B80 TyStr.out Z Z Z (by (simp only [J15,J16,J19];omega)) Z) Z (A7 Z Z (A5 ?_))));refine k1 (k2 (A3 (A4 Z Z (A6 (y6 TyStr.out Z (.buf _ _ _ _ _)) Z (A7 Z Z (A5 ?_))))));refine k1 (k10 ?_)
   exact B9 (I5 rfl rfl rfl) (by rw [h,if_neg (by decide)];rfl)
  ·have h:ended r.Text=true:=by simpa using ht
   refine k5 (k1 (k2 (A3 (A4 Z Z (A6 (y6 TyStr.out Z (.buf _ _ _ _ _)) Z (A7 Z Z (A5 ?_)))))));refine k1 (k10 ?_)
   exact B9 (I5 rfl rfl rfl) (by rw [if_pos h,J35])
structure CFit (c:Comb):Prop where
 par:0≤c.Parents∧c.Parents≤32
 path:c.Path.length≤4194304
 sz:szC c.Hunks≤268435456
 rows:∀h∈c.Hunks,L3 h.Rows
 ats:∀h∈c.Hunks,h.At.length=c.Parents.toNat+1∧∀a∈h.At,-4611686018427387904≤a∧a≤4611686018427387904
theorem I49 (c:Comb) (hc:CFit c):FnOk Tryz.prog 94 [U6 c] (fun rs=>rs=[J0 (A37 c).length]):=by
 obtain ⟨h1,h2,h3,h4,h5⟩:=hc
 have hzl:=C42 c.Hunks
 have hm29:markS.length=29:=rfl
 obtain ⟨n,hN⟩:∃n,n=c.Parents.toNat:=⟨_,rfl⟩
 have hNc:c.Parents=(n:Int):=by omega
 have hn:n≤32:=by omega
 have hct:=fun k=>H60 c (by omega) k
 have hcs:=fun k h=>G44 c k h
 rw [←hN] at h5 hcs
 refine FnOk.intro Tryz.func94 (by decide) Z Z Z Z ?_
 refine k2 (A3 (C2 (T8 1 Z Z Z) Z (A7 Z Z (A5 ?_))));refine k1 (k2 (A3 (A6 (D6 Z Z Z) Z (C6 (E77 c (by omega)) Z Z Z ?_))));rintro _ rfl;refine A6 (Q3 Z) Z (A7 Z Z (A5 ?_));refine k1 (k2 (k2 (A3 (A6 (A8 Z) Z (E9 Z Z Z Z (E4 Z Z (A4 Z Z (A5 ?_))))))));refine k1 (k3 (D2 (X:=Nat) (fun k=>([(1,.s (.one (.ref 1 0))),(3,B6 (cTo c k).length),(12,C0 CHunk 2 Q8 c.Hunks),(13,B6 c.Hunks.length),(14,B6 k)],[(1,D17 c)])) (fun k=>k≤c.Hunks.length) (fun k=>c.Hunks.length - k) 0 (Nat.zero_le _) (by rw [E04];exact I81 ⟨le1 rfl,le1 rfl,le1 rfl,le1 rfl,le1 rfl,trivial⟩ ⟨rfl,trivial⟩) ?_))
 intro k hk
 dsimp only at hk ⊢
 have hck:=hct k
 refine k2 (A3 (F4 Z Z Z (A5 ?_)));refine k1 (k2 ?_);refine B5 rfl (fun ht=>?_) (fun ht=>?_)
 ·have hlt:k < c.Hunks.length:=by have:=A0 ht;omega
  have hv:c.Hunks[k]?=some c.Hunks[k]:=by simp [hlt]
  have hmem:=J26 hlt
  have hrw:=h4 _ hmem
  have hat:=h5 _ hmem
  have hzm:=C41 hmem
  have hsucc:=hcs k hlt
  obtain ⟨h,hx⟩:∃x,x=c.Hunks[k]:=⟨_,rfl⟩
  rw [←hx] at hv hrw hat hzm hsucc
  have hz1:=r5 h.Rows
  have hz2:=B98 h.Rows
  unfold D99 at hzm
  have hh:=D66 h n hn hrw (by omega) hat.1 hat.2
  rw [←hNc] at hh
  have hhl:=C77 hn h
  obtain ⟨base,hbase⟩:∃base,base=(cTo c k).length:=⟨_,rfl⟩
  have hcl:=congrArg List.length hsucc
  rw [J15,E93,J15,←hbase] at hcl
  rw [←hbase] at hck ⊢
  obtain ⟨hd,hhd⟩:∃hd,hd=B36 n h++[10]:=⟨_,rfl⟩
  have hdl:hd.length≤926:=by rw [hhd,J15];simp only [J16,J19];omega
  rw [←hhd] at hh hcl
  refine k5 (k1 (k2 (k3 (k2 (A3 (A6 (A9 Z (.pure _ _ _ _) Z (by omega) hv) Z (A6 (F5 Z Z) Z (C2 (H3 5 Z) Z (G1 (B7 TySz.out Z Z Z Z Z Z) (A5 ?_))))))))));refine k1 (k2 (A3 (A4 Z Z (A6 (D6 Z Z Z) Z (A6 (A8 Z) Z (E9 Z Z Z Z (C6 (hh) Z Z Z ?_)))))));rintro _ rfl;refine A6 (Q3 Z) Z (C5 Z Z Z (A7 Z Z (A5 ?_)));refine k1 (k2 (A3 (A6 (A8 Z) Z (E9 Z Z Z Z (E4 Z Z (A4 Z Z (A5 ?_)))))));refine k1 (k3 ?_);refine D2 (X:=Nat) (fun j=>([(1,.s (.one (.ref 1 0))),(3,B6 (base+hd.length+(rTo n h.Rows j).length:Nat)),(12,C0 CHunk 2 Q8 c.Hunks),(13,B6 c.Hunks.length),(14,B6 k),(26,C0 Row 3 rowC h.Rows),(27,B6 h.Rows.length),(28,B6 j)],[(1,D17 c)])) (fun j=>j≤h.Rows.length) (fun j=>h.Rows.length - j) 0 (Nat.zero_le _) ?_ ?_
  ·have e:((base+hd.length+(rTo n h.Rows 0).length:Nat):Int)=(base:Int)+(hd.length:Int):=by rw [G45];simp
   rw [e]
   exact I81 ⟨le1 rfl,le1 rfl,le1 rfl,le1 rfl,le1 rfl,le1 rfl,le1 rfl,le1 rfl,trivial⟩ ⟨rfl,trivial⟩
  intro j hj
  dsimp only at hj ⊢
  have hrl:=H58 hn h.Rows j
  refine k2 (A3 (F4 Z Z Z (A5 ?_)));refine k1 (k2 ?_);refine B5 rfl (fun ht=>?_) (fun ht=>?_)
  ·have hlt2:j < h.Rows.length:=by have:=A0 ht;omega
   have hv2:h.Rows[j]?=some h.Rows[j]:=by simp [hlt2]
   have hrm:=E91 (J26 hlt2)
   have hsucc2:=G46 n h.Rows j hlt2
   obtain ⟨r,hy⟩:∃x,x=h.Rows[j]:=⟨_,rfl⟩
   rw [←hy] at hv2 hrm hsucc2
   have hrm:r.Text.length+96≤(h.Rows.map W5).sum:=hrm
   have hl2:=congrArg List.length hsucc2
   have hml:=B55 n r
   rw [J15,E08,J15,J15,hml] at hl2
   refine k5 (k1 (k2 (k3 (k2 (A3 (A6 (A9 Z (.pure _ _ _ _) Z (by omega) hv2) Z (A6 (F5 Z Z) Z (C2 (H3 7 Z) Z (G1 (B7 TySz.out Z Z Z Z Z Z) (A5 ?_))))))))));refine k1 (k2 (A3 (A4 Z Z (A6 (A8 Z) Z (E9 Z Z Z Z (A6 (A8 Z) Z (E9 Z Z Z Z (A6 (Q3 Z) Z (C5 Z Z Z (C5 Z Z Z (A7 Z Z (A5 ?_))))))))))));refine k1 (k2 (A3 (A6 (A8 Z) Z (E9 Z Z Z Z (C6 (B46 r.Text (by omega)) Z Z Z ?_)))));rintro _ rfl;refine A6 (M3 Z) Z (A5 ?_);refine k1 ?_;refine B5 rfl (fun ht=>?_) (fun ht=>?_)
   ·have h2:ended r.Text=false:=by simpa using ht
    rw [h2,if_neg (by decide),hm29] at hl2
    have e:((base+hd.length+(rTo n h.Rows (j+1)).length:Nat):Int)=((base+hd.length+(rTo n h.Rows j).length:Nat):Int)+(c.Parents+(r.Text.length:Int))+29:=by omega
    skip
    refine A3 (A4 Z Z (C5 Z Z Z (A7 Z Z (A5 ?_))));refine k4 (k1 (A3 (C5 Z Z Z (A4 Z Z (A5 ?_)))));refine k1 ?_;refine ⟨j+1,by omega,by omega,?_⟩
    rw [e]
    exact I81 ⟨le1 rfl,le1 rfl,le1 rfl,le1 rfl,le1 rfl,le1 rfl,le1 rfl,le1 rfl,trivial⟩ ⟨rfl,trivial⟩
   ·have h2:ended r.Text=true:=by simpa using ht
    rw [if_pos h2,J19] at hl2
    have e:((base+hd.length+(rTo n h.Rows (j+1)).length:Nat):Int)=((base+hd.length+(rTo n h.Rows j).length:Nat):Int)+(c.Parents+(r.Text.length:Int)):=by omega
    refine k5 (k4 (k1 (A3 (C5 Z Z Z (A4 Z Z (A5 ?_))))));refine k1 ?_;refine ⟨j+1,by omega,by omega,?_⟩
    rw [e]
    exact I81 ⟨le1 rfl,le1 rfl,le1 rfl,le1 rfl,le1 rfl,le1 rfl,le1 rfl,le1 rfl,trivial⟩ ⟨rfl,trivial⟩
  ·have hjl:j=h.Rows.length:=by have:=A1 ht;omega
   subst hjl
   have e:base+hd.length+(rTo n h.Rows h.Rows.length).length=(cTo c (k+1)).length:=by omega
   rw [e]
   refine k6 (k7 (k7 (k8 Z (k4 (k1 (A3 (C5 Z Z Z (A4 Z Z (A5 ?_)))))))));refine k1 ?_
   exact ⟨k+1,by omega,by omega,I81 ⟨le1 rfl,le1 rfl,le1 rfl,le1 rfl,le1 rfl,trivial⟩ ⟨rfl,trivial⟩⟩
 ·have hkl:k=c.Hunks.length:=by have:=A1 ht;omega
  subst hkl
  rw [E05]
  refine k6 (k2 (A3 (A4 Z Z (A7 Z Z (A5 ?_)))));refine k1 (k10 ?_)
  exact B9 (I5 rfl rfl rfl) rfl
theorem E78 {c:Comb} (hp:c.Path.length≤4194304) (hn:1≤c.Parents∧c.Parents≤32) (hz:szC c.Hunks≤268435456) (hr:∀h∈c.Hunks,L3 h.Rows) (hg:V7 c.Parents.toNat c.Hunks=true):CFit c:=by
 refine ⟨by omega,hp,hz,hr,fun h hm=>?_⟩
 unfold V7 at hg
 rw [J18] at hg
 obtain ⟨a1,a2,a3⟩:=C76 c.Hunks _ (fun k hk=>by rw [J17,List.getElem?_replicate_of_lt hk];exact Int.le_refl _) hg.1 h hm
 refine ⟨a1,fun a ha=>?_⟩
 obtain ⟨k,hk,rfl⟩:=List.getElem_of_mem ha
 have h1:=a3 k (by omega)
 have h2:=E00 h.Rows c.Parents.toNat k
 have e:h.At.getD k 0=h.At[k]:=by rw [J17,J14 hk];rfl
 rw [e] at h1
 omega
theorem C63 (c:Comb) (hz:szC c.Hunks≤268435456) (hr:∀h∈c.Hunks,L3 h.Rows):FnOk Tryz.prog 40 [U6 c] (fun rs=>rs=[J0 (L5 c)]):=by
 refine FnOk.intro Tryz.func40 (by decide) Z Z Z Z ?_
 refine k2 (A3 (C2 (T8 1 Z Z Z) Z (A7 Z Z (A5 ?_))));refine k1 (k2 (k3 (k2 (A3 (A6 (A8 Z) Z (E9 Z Z Z Z (C6 (B47 c.Path) Z Z Z ?_)))))));rintro _ rfl;refine A6 (M3 Z) Z (A7 Z Z (A5 ?_));refine k1 ?_;refine B5 rfl (fun ht=>?_) (fun ht=>?_)
 ·have h:R6 c.Path=false:=by simpa using ht
  refine k2 (A3 (A7 Z Z (A5 ?_)));refine k1 (k10 (k12 (k11 ?_)))
  exact B9 (I5 rfl rfl rfl) (by unfold L5;rw [if_pos h])
 have h:R6 c.Path=true:=by simpa using ht
 have hpl:=A0 h
 refine k2 (A3 (A6 (A8 Z) Z (E9 Z Z Z Z (F4 Z Z Z (A4 Z Z (B2 Z Z Z Z (fun hg=>by rw [hg];exact A8 Z) ?_))))));refine B2 Z Z Z Z (fun hg=>by rw [hg];exact B4 Z Z Z) ?_;refine B2 Z Z Z Z (fun hg=>by rw [hg];exact R0 Z Z) ?_;refine J5 Z Z ?_;refine A7 Z Z (A5 ?_);refine k1 ?_;refine B5 rfl (fun ht=>?_) (fun ht=>?_)
 ·have h1:=A0 (or_pick.symm.trans ht)
  refine k2 (A3 (A7 Z Z (A5 ?_)));refine k1 (k10 (k12 (k11 ?_)))
  exact B9 (I5 rfl rfl rfl) (by unfold L5;rw [if_neg (by rw [h];decide),if_pos (by omega)])
 have h1:=A1 (or_pick.symm.trans ht)
 have hn:1≤c.Parents∧c.Parents≤32:=by omega
 refine k2 (A3 (A6 (D6 Z Z Z) Z (C6 (G84 c hn hr hz) Z Z Z ?_)));rintro _ rfl;refine A6 (M3 Z) Z (A7 Z Z (A5 ?_));refine k1 ?_;refine B5 rfl (fun ht=>?_) (fun ht=>?_)
 ·have h2:q9 c.Parents.toNat c.Hunks=false:=by simpa using ht
  refine k2 (A3 (A7 Z Z (A5 ?_)));refine k1 (k10 (k12 (k11 ?_)))
  exact B9 (I5 rfl rfl rfl) (by unfold L5;rw [if_neg (by rw [h];decide),if_neg (by omega),if_pos h2])
 have h2:q9 c.Parents.toNat c.Hunks=true:=by simpa using ht
 have hw:=I48 c hn hr hz
 rw [G40 (by omega) h2] at hw
 refine k2 (A3 (A6 (D6 Z Z Z) Z (C6 (hw) Z Z Z ?_)));rintro _ rfl;refine A6 (M3 Z) Z (A7 Z Z (A5 ?_));refine k1 ?_;refine B5 rfl (fun ht=>?_) (fun ht=>?_)
 ·have h3:V7 c.Parents.toNat c.Hunks=false:=by simpa using ht
  refine k2 (A3 (A7 Z Z (A5 ?_)));refine k1 (k10 (k12 (k11 ?_)))
  exact B9 (I5 rfl rfl rfl) (by unfold L5;rw [if_neg (by rw [h];decide),if_neg (by omega),if_neg (by rw [h2];decide),if_pos h3])
 have h3:V7 c.Parents.toNat c.Hunks=true:=by simpa using ht
 refine k2 (A3 (A6 (D6 Z Z Z) Z (C6 (I49 c (E78 (by omega) hn hz hr h3)) Z Z Z ?_)));rintro _ rfl;refine A6 (R0 Z Z) Z (A7 Z Z (A5 ?_));refine k1 ?_;refine B5 rfl (fun ht=>?_) (fun ht=>?_)
 ·have h4:=A0 ht
  refine k2 (A3 (A7 Z Z (A5 ?_)));refine k1 (k10 (k12 (k11 ?_)))
  exact B9 (I5 rfl rfl rfl) (by unfold L5;rw [if_neg (by rw [h];decide),if_neg (by omega),if_neg (by rw [h2];decide),if_neg (by rw [h3];decide),if_pos (by omega)])
 have h4:=A1 ht
 refine k5 (k2 (A3 (A7 Z Z (A5 ?_))));refine k1 (k10 ?_)
 exact B9 (I5 rfl rfl rfl) (by unfold L5;rw [if_neg (by rw [h];decide),if_neg (by omega),if_neg (by rw [h2];decide),if_neg (by rw [h3];decide),if_neg (by omega)])
theorem G85 {c:Comb} (h:L5 c=0) (hz:szC c.Hunks≤268435456) (hr:∀h∈c.Hunks,L3 h.Rows):CFit c:=by
 obtain ⟨h1,h2,h3,h4,h5⟩:=H12 h
 have hp:=A0 h5
 have hg:V7 c.Parents.toNat c.Hunks=true:=by
  cases hb:V7 c.Parents.toNat c.Hunks with
  | true=>rfl
  | false =>
   exfalso
   unfold L5 at h
   rw [hb] at h
   rw [if_neg (by rw [h5];decide),if_neg (by omega)] at h
   split at h
   ·cases h
   ·cases h
 exact E78 (by omega) (by omega) hz hr hg
theorem G86 (c:Comb) (hz:szC c.Hunks≤268435456) (hr:∀h∈c.Hunks,L3 h.Rows):FnOk Tryz.prog 38 [U6 c] (fun rs=>rs=if L5 c=0 then [P8 (A37 c),J0 0] else [P8 [],J0 (L5 c)]):=by
 by_cases hck:L5 c=0
 rotate_left
 ·rw [if_neg hck]
  refine FnOk.intro Tryz.func38 (by decide) Z Z Z Z ?_
  refine k2 (A3 (C2 (T8 1 Z Z Z) Z (A7 Z Z (A7 Z Z (A5 ?_)))));refine k1 (k2 (k2 (A3 (A6 (D6 Z Z Z) Z (C6 (C63 c hz hr) Z Z Z ?_)))));rintro _ rfl;refine A7 Z Z (A5 ?_);refine k1 (k2 (A3 (A4 Z Z (A6 (O6 Z Z) Z (A5 ?_)))));refine k1 ?_;refine B5 rfl (fun ht=>?_) (fun ht=>?_)
  rotate_left
  ·exact absurd (Decidable.not_not.1 (A1 ht)) hck
  refine k2 (A3 (A4 Z Z (A7 Z Z (A7 Z Z (A5 ?_)))));refine k1 (k10 (k11 ?_))
  exact B9 (y7 rfl rfl rfl rfl rfl) rfl
 rw [if_pos hck]
 have hcc:=C63 c hz hr
 rw [hck] at hcc
 obtain ⟨h1,h2,_,h4,h5⟩:=G85 hck hz hr
 have hzl:=C42 c.Hunks
 obtain ⟨n,hN⟩:∃n,n=c.Parents.toNat:=⟨_,rfl⟩
 have hNc:c.Parents=(n:Int):=by omega
 have hn:n≤32:=by omega
 have hct:=fun k=>H60 c (by omega) k
 have hcs:=fun k h=>G44 c k h
 rw [←hN] at h5 hcs
 refine FnOk.intro Tryz.func38 (by decide) Z Z Z Z ?_
 refine k2 (A3 (C2 (T8 1 Z Z Z) Z (A7 Z Z (A7 Z Z (A5 ?_)))));refine k1 (k2 (k2 (A3 (A6 (D6 Z Z Z) Z (C6 (hcc) Z Z Z ?_)))));rintro _ rfl;refine A7 Z Z (A5 ?_);refine k1 (k2 (A3 (A4 Z Z (A6 (O6 Z Z) Z (A5 ?_)))));refine k1 ?_;refine B5 rfl (fun ht=>?_) (fun ht=>?_)
 ·cases ht
 refine k5 (k1 (k2 (A3 (C2 (D39 700 Z) Z (A5 ?_)))));refine k1 (k2 (H5 (I94 701 UInt8 1 u8C 5 (kb:=700) (o:=1) Z Z Z) ?_))
 have hct0:=hct 0
 rw [E04] at hct0
 refine A3 (A6 (D6 Z Z Z) Z (C6 (E77 c (by omega)) Z Z Z ?_));rintro _ rfl;refine A15 (P9 (xs:=[]) (s:=A85 c) ⟨⟨_,.inl rfl,rfl⟩,rfl⟩ (by simp only [J19];omega)) Z Z Z ?_;rintro _ _ ⟨rfl,rfl⟩;refine A5 ?_;refine k1 (k2 (k2 (A3 (A6 (A8 Z) Z (E9 Z Z Z Z (E4 Z Z (A4 Z Z (A5 ?_))))))));refine k1 (k3 (D2 (X:=Nat) (fun k=>([(1,.s (.one (.ref 1 0))),(5,.s (.one (.ref 700 0))),(19,C0 CHunk 2 Q8 c.Hunks),(20,B6 c.Hunks.length),(21,B6 k)],[(1,D17 c),(700,.tbx 124 [.ref 700 0,.buf 701 UInt8 1 u8C (cTo c k)]),(701,.spare (cTo c k).length 1 5)])) (fun k=>k≤c.Hunks.length) (fun k=>c.Hunks.length - k) 0 (Nat.zero_le _) (by rw [E04];exact I81 ⟨le1 rfl,le1 rfl,le1 rfl,le1 rfl,le1 rfl,trivial⟩ ⟨rfl,rfl,rfl,trivial⟩) ?_))
 intro k hk
 dsimp only at hk ⊢
 have hck:=hct k
 refine k2 (A3 (F4 Z Z Z (A5 ?_)));refine k1 (k2 ?_);refine B5 rfl (fun ht=>?_) (fun ht=>?_)
 ·have hlt:k < c.Hunks.length:=by have:=A0 ht;omega
  have hv:c.Hunks[k]?=some c.Hunks[k]:=by simp [hlt]
  have hmem:=J26 hlt
  have hrw:=h4 _ hmem
  have hat:=h5 _ hmem
  have hzm:=C41 hmem
  have hsucc:=hcs k hlt
  obtain ⟨h,hx⟩:∃x,x=c.Hunks[k]:=⟨_,rfl⟩
  rw [←hx] at hv hrw hat hzm hsucc
  have hz1:=r5 h.Rows
  have hz2:=B98 h.Rows
  unfold D99 at hzm
  have hh:=D66 h n hn hrw (by omega) hat.1 hat.2
  rw [←hNc] at hh
  have hhl:=C77 hn h
  obtain ⟨base,hbase⟩:∃base,base=cTo c k:=⟨_,rfl⟩
  rw [E93,←hbase] at hsucc
  rw [←hbase] at hck ⊢
  obtain ⟨hd,hhd⟩:∃hd,hd=B36 n h++[10]:=⟨_,rfl⟩
  have hdl:hd.length≤926:=by rw [hhd,J15];simp only [J16,J19];omega
  rw [←hhd] at hh hsucc
  refine k5 (k1 (k2 (k3 (k2 (A3 (A6 (A9 Z (.pure _ _ _ _) Z (by omega) hv) Z (A6 (F5 Z Z) Z (C2 (H3 7 Z) Z (G1 (B7 TySz.out Z Z Z Z Z Z) (A5 ?_))))))))));refine k1 (k2 (A3 (A6 (D6 Z Z Z) Z (A6 (A8 Z) Z (E9 Z Z Z Z (C6 (hh) Z Z Z ?_))))));rintro _ rfl;refine A15 (P9 (xs:=base) (s:=hd) ⟨⟨_,.inr rfl,rfl⟩,rfl⟩ (by omega)) Z Z Z ?_;rintro _ _ ⟨rfl,rfl⟩;refine A5 ?_;refine k1 (k2 (A3 (A6 (A8 Z) Z (E9 Z Z Z Z (E4 Z Z (A4 Z Z (A5 ?_)))))));refine k1 (k3 ?_);refine D2 (X:=Nat) (fun j=>([(1,.s (.one (.ref 1 0))),(5,.s (.one (.ref 700 0))),(19,C0 CHunk 2 Q8 c.Hunks),(20,B6 c.Hunks.length),(21,B6 k),(31,C0 Row 3 rowC h.Rows),(32,B6 h.Rows.length),(33,B6 j)],[(1,D17 c),(700,.tbx 124 [.ref 700 0,.buf 701 UInt8 1 u8C (base++hd++rTo n h.Rows j)]),(701,.spare (base++hd++rTo n h.Rows j).length 1 5)])) (fun j=>j≤h.Rows.length) (fun j=>h.Rows.length - j) 0 (Nat.zero_le _) ?_ ?_
  ·rw [G45,J35]
   exact I81 ⟨le1 rfl,le1 rfl,le1 rfl,le1 rfl,le1 rfl,le1 rfl,le1 rfl,le1 rfl,trivial⟩ ⟨rfl,rfl,rfl,trivial⟩
  intro j hj
  dsimp only at hj ⊢
  have hrl:=H58 hn h.Rows j
  refine k2 (A3 (F4 Z Z Z (A5 ?_)));refine k1 (k2 ?_);refine B5 rfl (fun ht=>?_) (fun ht=>?_)
  ·have hlt2:j < h.Rows.length:=by have:=A0 ht;omega
   have hv2:h.Rows[j]?=some h.Rows[j]:=by simp [hlt2]
   have hmem2:=J26 hlt2
   have hrm:=E91 hmem2
   have hmm:=hrw _ hmem2
   have hsucc2:=G46 n h.Rows j hlt2
   obtain ⟨r,hy⟩:∃x,x=h.Rows[j]:=⟨_,rfl⟩
   rw [←hy] at hv2 hrm hsucc2 hmm
   have hrp:=E92 hn r
   have hrk:=crow_ok r n hn hmm (by have hrm:r.Text.length+96≤(h.Rows.map W5).sum:=hrm;omega)
   rw [←hNc] at hrk
   obtain ⟨bs,hbs⟩:∃bs,bs=base++hd++rTo n h.Rows j:=⟨_,rfl⟩
   have hbl:bs.length≤16777216+48+268435456+926+268435456:=by rw [hbs,J15,J15];omega
   rw [←hbs]
   refine k5 (k1 (k2 (k3 (k2 (A3 (A6 (A9 Z (.pure _ _ _ _) Z (by omega) hv2) Z (A6 (F5 Z Z) Z (C2 (H3 9 Z) Z (G1 (B7 TySz.out Z Z Z Z Z Z) (A5 ?_))))))))));refine k1 (A3 (A6 (D6 Z Z Z) Z (A6 (A8 Z) Z (E9 Z Z Z Z (C6 (hrk) Z Z Z ?_)))));rintro _ rfl;refine A15 (P9 (xs:=bs) (s:=(A48 n r).flatten) ⟨⟨_,.inr rfl,rfl⟩,rfl⟩ (by omega)) Z Z Z ?_;rintro _ _ ⟨rfl,rfl⟩;refine A5 ?_;refine k4 (k1 (A3 (C5 Z Z Z (A4 Z Z (A5 ?_)))));refine k1 ?_;refine ⟨j+1,by omega,by omega,?_⟩
   rw [hsucc2,←J25,←hbs]
   exact I81 ⟨le1 rfl,le1 rfl,le1 rfl,le1 rfl,le1 rfl,le1 rfl,le1 rfl,le1 rfl,trivial⟩ ⟨rfl,rfl,rfl,trivial⟩
  ·have hjl:j=h.Rows.length:=by have:=A1 ht;omega
   subst hjl
   have e:base++hd++rTo n h.Rows h.Rows.length=cTo c (k+1):=by rw [hsucc,J25]
   rw [e]
   refine k6 (k7 (k7 (k8 Z (k4 (k1 (A3 (C5 Z Z Z (A4 Z Z (A5 ?_)))))))));refine k1 ?_
   exact ⟨k+1,by omega,by omega,I81 ⟨le1 rfl,le1 rfl,le1 rfl,le1 rfl,le1 rfl,trivial⟩ ⟨rfl,rfl,rfl,trivial⟩⟩
 ·have hkl:k=c.Hunks.length:=by have:=A1 ht;omega
  subst hkl
  rw [E05]
  refine k6 (k2 (A3 (C58 (k:=700) (k':=701) ⟨_,rfl,rfl,rfl⟩ A34 Z Z Z Z Z (.inr Z) Z (A7 Z Z (A7 Z Z (A5 ?_))))));refine k1 (k10 ?_)
  exact B9 (y7 rfl rfl rfl rfl rfl) rfl
theorem G87 (rows:List Row) (n:Nat) (hn:n≤32) (hr:L3 rows) (hl:rows.length≤268435456):FnOk Tryz.prog 149 [pRows rows,J0 n] (fun rs=>rs=[M7 (F7 rows n)]) :=
 J10 (k:=720) rfl (B20 rows n hn hr hl)
theorem G88 {gf:Fr} {ob:Obs} (l:List Int) (hl:0 < l.length∧l.length≤1073741824) (h:C1 ob 720=some (.arr Int 1 G3 l)) :
  AL.Met Tryz.prog 166 [.one (.mut 720)] gf ob [] (fun rs ob'=>rs=[.one (.p (.list Int 1 G3 l))]∧ob'=ob):=by
 refine AL.Met.intro Tryz.func166 (by decide) Z Z Z ?_
 refine k2 (A3 (A7 Z Z (A5 ?_)));refine k1 (k2 (k2 (A3 (A4 Z Z (A6 (E32 Z h) Z (A5 ?_))))));refine k1 ?_;refine B5 rfl (fun ht=>?_) (fun ht=>?_)
 ·cases ht
 refine k5 (k1 (k2 (A3 (A6 (B16 (c:=G3) (ys:=[]) G6 Z Z Z) Z (A4 Z Z (A6 (C20 Z Z h (by (simp;omega)) (hl.1)) Z (A7 Z Z (A5 ?_))))))))
 rw [J43]
 refine k1 (k10 ?_)
 exact X6 (A90 rfl rfl) (by repeat (first | exact F8 | refine F9 rfl ?_ | refine M1 _ ?_)) (fun _ _ h=>h) ⟨rfl,rfl⟩
theorem H92 (l:List Row) (hl:0 < l.length∧l.length≤1073741824):FnOk Tryz.prog 113 [pRows l] (fun rs=>rs=[pRows l]):=by
 refine FnOk.intro Tryz.func113 (by decide) Z Z Z Z ?_
 refine k2 (A3 (A7 Z Z (A5 ?_)));refine k1 (k2 (k2 (A3 (A4 Z Z ?_))));(first | (refine F09 (E58 rfl (.pure _ _ _ _)) rfl ?_) | (refine F09 (E58 rfl (.buf _ _ _ _ _)) rfl ?_));rintro _ ⟨b1,rfl,hnil⟩;refine A5 ?_;refine k1 ?_;refine B5 rfl (fun ht=>?_) (fun ht=>?_)
 ·have:=hnil ht
  rw [this] at hl
  exact absurd hl.1 (by simp)
 refine k5 (k1 (k2 (A3 (A6 (B16 (c:=rowC) (ys:=[]) G6 Z Z Z) Z (A4 Z Z (A6 (B68 Z Z (.pure _ _ _ _) (by (simp;omega)) (hl.1)) Z (A7 Z Z (A5 ?_))))))))
 rw [J43]
 refine k1 (k10 ?_)
 exact B9 (I5 rfl rfl rfl) rfl
theorem G89 (rows:List Row) (n k:Nat) {e t:Nat} (h:e≤t):N7 (rows.take t) n k=N7 (rows.take e) n k+N7 ((rows.drop e).take (t - e)) n k:=by
 have h1:rows.take t=rows.take e++(rows.drop e).take (t - e):=by
  have:=List.take_add (l:=rows) (i:=e) (j:=t - e)
  rwa [show e+(t - e)=t by omega] at this
 unfold N7
 rw [h1]
 unfold M8
 rw [J64,J28,J15,Int.natCast_add]
def A92 (rows:List Row) (n e t i:Nat):List Int:=(List.range (n+1)).map fun k=>if k < i then N7 (rows.take t) n k else N7 (rows.take e) n k
theorem H93 (rows:List Row) (n e t i:Nat):(A92 rows n e t i).length=n+1:=by simp [A92]
theorem G90 (rows:List Row) (n e t:Nat):A92 rows n e t 0=F7 (rows.take e) n:=by
 unfold A92 F7
 exact List.map_congr_left fun k _=>if_neg (by omega)
theorem G91 (rows:List Row) (n e t:Nat):A92 rows n e t (n+1)=F7 (rows.take t) n:=by
 unfold A92 F7
 exact List.map_congr_left fun k hk=>if_pos (by simpa using hk)
theorem H94 (rows:List Row) (n e t i:Nat) (hi:i < n+1):(A92 rows n e t i)[i]?=some (N7 (rows.take e) n i):=by
 unfold A92
 rw [A45 (n+1) i _ hi,if_neg (by omega)]
theorem H95 (rows:List Row) (n e t i:Nat):(A92 rows n e t i).set i (N7 (rows.take t) n i)=A92 rows n e t (i+1):=by
 refine y4 (n+1) i _ _ _ (fun _=>if_pos (by omega)) (fun q _ hq=>?_)
 by_cases h:q < i
 ·rw [if_pos h,if_pos (by omega)]
 ·rw [if_neg h,if_neg (by omega)]
theorem H43 (rows:List Row) (n k:Nat):0≤N7 rows n k∧N7 rows n k≤rows.length:=by
 unfold N7
 have:=C65 rows (x1 n k)
 omega
set_option maxHeartbeats 1000000
theorem D67 {gf:Fr} {ob:Obs} (t:Table) (n e z:Nat) (hn:t.Parents=n) (hn2:n≤32) (hr:L3 t.Rows) (hl:t.Rows.length≤8388608) (h1:e≤z) (h2:z≤t.Rows.length)
  (h5:C1 ob 5=some (.box (pTable t).s1.cells)) (h13:C1 ob 13=some (i8 e)) (h12:C1 ob 12=some (.box [.mut 720])) (h720:C1 ob 720=some (.arr Int 1 G3 (F7 (t.Rows.take e) n))) :
  AL.Met Tryz.prog 165 [iS z,.one (.ref 5 0),.one (.ref 13 0),.one (.ref 12 0)] gf ob []
   (fun rs ob'=>rs=[]∧ob'=(13,i8 z)::(720,.arr Int 1 G3 (F7 (t.Rows.take z) n))::(5,.box (pTable t).s1.cells)::(12,.box [.mut 720])::ob):=by
 obtain ⟨tp,rows⟩:=t
 have hn:tp=(n:Int):=hn
 subst hn
 dsimp only at hr hl h2 h720 ⊢
 have hsl:((rows.drop e).take (z - e)).length=z - e:=by rw [J36,J31];omega
 have hC:=G87 ((rows.drop e).take (z - e)) n hn2 (fun r hm=>hr r (List.mem_of_mem_drop (List.mem_of_mem_take hm))) (by omega)
 obtain ⟨cs,hcs⟩:∃cs,cs=F7 ((rows.drop e).take (z - e)) n:=⟨_,rfl⟩
 have hcl:cs.length=n+1:=by rw [hcs];simp [F7]
 rw [←hcs] at hC
 refine AL.Met.introH Tryz.func165 (by decide) rfl rfl rfl (fun hH=>?_)
 refine k2 (k2 (D5 (by kernel_rfl) (by kernel_rfl) (B1 (A8 Z) Z Z (B1 (B4 Z h5 Z) Z Z (B1 (B4 Z h13 Z) Z Z (D3 Z Z (B1 (X1 Z (.pure _ _ _ _) Z Z (by (first | omega | (dsimp only;omega))) (by (first | omega | (dsimp only;omega))) (by (first | omega | (dsimp only;omega)))) Z Z (B1 (A8 Z) Z Z (B1 (B4 Z h5 Z) Z Z (B1 (O4 (hC) Z Z) Z Z (B1 (V1 Z (.pure _ _ _ _)) Z Z (D3 Z Z (O2 ?_)))))))))))));refine k1 (k3 ?_);refine D2 (X:=Nat) (fun i=>([(0,B6 z),(1,.s (.one (.ref 5 0))),(2,.s (.one (.ref 13 0))),(3,.s (.one (.ref 12 0))),(14,C0 Int 1 G3 cs),(15,B6 cs.length),(16,B6 i)]++gf,(13,i8 e)::(720,.arr Int 1 G3 (A92 rows n e z i))::(5,.box (pTable ⟨n,rows⟩).s1.cells)::(12,.box [.mut 720])::ob)) (fun i=>i≤n+1) (fun i=>n+1 - i) 0 (Nat.zero_le _) ?_ ?_
 ·dsimp only
  rw [G90]
  exact I82 ⟨le1 rfl,le1 rfl,le1 rfl,le1 rfl,le1 rfl,le1 rfl,le1 rfl,trivial⟩ hH (by repeat (first | exact F8 | refine F9 rfl ?_)) (B45 (L:=[(13,_),(720,_),(5,_),(12,_)]) ⟨h13,h720,h5,h12,trivial⟩ B13)
 intro i hi
 dsimp only at hi ⊢
 have hal:=H93 rows n e z i
 refine k2 (A3 (F4 Z Z Z (A5 ?_)));refine k1 (k2 ?_);refine B5 rfl (fun ht=>?_) (fun ht=>?_)
 ·have hlt:i < n+1:=by have:=A0 ht;omega
  have hv:cs[i]?=some (N7 ((rows.drop e).take (z - e)) n i):=by rw [hcs];unfold F7;exact A45 (n+1) i _ hlt
  have hg:=H94 rows n e z i hlt
  have hst:=H95 rows n e z i
  have hsp:=G89 rows n i h1
  have b1:=H43 (rows.take e) n i
  have b2:=H43 ((rows.drop e).take (z - e)) n i
  have hte:(rows.take e).length=e:=by rw [J36];omega
  have hv2:(A92 rows n e z i)[((i:Nat):Int).toNat]?=some (N7 (rows.take e) n i):=by rw [J21];exact hg
  refine k5 (k1 (k2 (k3 (k2 (A3 (A4 Z Z (A6 (A9 Z (.pure _ _ _ _) Z (by omega) hv) Z (A6 (B3 Z Z) Z (A7 Z Z (A7 Z Z (A5 ?_)))))))))));refine k1 (A3 (E9 Z Z Z Z (A4 Z Z (A6 (E2 Z Z Z (by omega) (by (rw [hal];omega))) Z ?_))));refine A6 (P4 Z Z hv2 Z) Z (A4 Z Z (C5 Z Z Z (A6 (E2 Z Z Z (by omega) (by (rw [hal];omega))) Z ?_)));refine G1 (H0 TySz.out Z Z (by (rw [hal];omega)) Z Z) ?_;refine A5 ?_
  rw [J21,←hsp,hst]
  refine k4 (k1 (A3 (C5 Z Z Z (A4 Z Z (A5 ?_)))));refine k1 ?_;refine ⟨i+1,by omega,by omega,?_⟩
  exact I82 ⟨le1 rfl,le1 rfl,le1 rfl,le1 rfl,le1 rfl,le1 rfl,le1 rfl,trivial⟩ hH (by repeat (first | exact F8 | refine F9 rfl ?_)) (B45 (L:=[(13,_),(720,_),(5,_),(12,_)]) ⟨rfl,rfl,rfl,rfl,trivial⟩ (by repeat (first | exact B13 | refine B14 rfl ?_)))
 have hin:i=n+1:=by have:=A1 ht;omega
 rw [hin,G91]
 refine k6 (k7 (k7 (k8 Z (k1 (A3 (A4 Z Z (G1 (B7 TySz.out Z Z Z Z Z Z) (A5 ?_))))))))
 skip
 exact D41 (rets0 rfl) (by repeat (first | exact F8 | refine F9 rfl ?_)) (B45 (L:=[(13,_),(720,_),(5,_),(12,_)]) ⟨rfl,rfl,rfl,rfl,trivial⟩ (by repeat (first | exact B13 | refine B14 rfl ?_))) ⟨rfl,rfl⟩
def D68 (n:Int):Int→List Span→Bool
 | _,[]=>true
 | e,s::r=>if s.From < e∨s.To≤s.From∨n < s.To then false else D68 n s.To r
theorem G02 (sp:List Span) (n:Int) (hl:sp.length≤536870912):FnOk Tryz.prog 164 [pSpans sp,J0 n] (fun rs=>rs=[N1 (D68 n 0 sp)]):=by
 obtain ⟨W,hW⟩:∃W,W=D68 n 0 sp:=⟨_,rfl⟩
 rw [←hW]
 refine FnOk.intro Tryz.func164 (by decide) Z Z Z Z ?_
 refine k2 (A3 (A7 Z Z (A5 ?_)));refine k1 (k2 (A3 (A7 Z Z (A5 ?_))));refine k1 (k2 (k2 (A3 (A4 Z Z (E4 Z Z (A4 Z Z (A5 ?_)))))));refine k1 (k3 (D2 (X:=Nat × Int) (fun x=>([(1,B6 n),(5,B6 x.2),(8,C0 Span 2 spanC sp),(9,B6 sp.length),(10,B6 x.1)],[])) (fun x=>x.1≤sp.length∧W=D68 n x.2 (sp.drop x.1)) (fun x=>sp.length - x.1) (0,0) ⟨Nat.zero_le _,hW⟩ (I81 ⟨le1 rfl,le1 rfl,le1 rfl,le1 rfl,le1 rfl,trivial⟩ trivial) ?_))
 rintro ⟨k,e⟩ ⟨hk,hp⟩
 dsimp only at hk hp ⊢
 refine k2 (A3 (F4 Z Z Z (A5 ?_)));refine k1 (k2 ?_);refine B5 rfl (fun ht=>?_) (fun ht=>?_)
 rotate_left
 ·have hkl:k=sp.length:=by have:=A1 ht;omega
  rw [hkl,J23 (Nat.le_refl _)] at hp
  have hp:W=true:=hp
  refine k6 (k2 (A3 (A7 Z Z (A5 ?_))));refine k1 (k10 ?_)
  exact B9 (I5 rfl rfl rfl) (by rw [hp])
 have hlt:k < sp.length:=by have:=A0 ht;omega
 have hv:sp[k]?=some sp[k]:=by simp [hlt]
 rw [J20 hlt,D68] at hp
 obtain ⟨s,hsd⟩:∃s,s=sp[k]:=⟨_,rfl⟩
 rw [←hsd] at hp hv
 refine k5 (k1 (k2 (k3 (k2 (A3 (A6 (A9 Z (.pure _ _ _ _) Z (by omega) hv) Z (A6 (F5 Z Z) Z (C2 (H3 757 Z) Z (G1 (B7 TySz.out Z Z Z Z Z Z) (A5 ?_))))))))));refine k1 (k2 (k2 (A3 (A6 (A8 Z) Z (E9 Z Z Z Z (A4 Z Z (F4 Z Z Z (A4 Z Z (B2 Z Z Z Z (fun hg=>by rw [hg];exact A8 Z) ?_)))))))));refine B2 Z Z Z Z (fun hg=>by rw [hg];exact B4 Z Z Z) ?_;refine B2 Z Z Z Z (fun hg=>by rw [hg];exact A8 Z) ?_;refine B2 Z Z Z Z (fun hg=>by rw [hg];exact B4 Z Z Z) ?_;refine B2 Z Z Z Z (fun hg=>by rw [hg];exact A39 Z Z) ?_;refine J5 Z Z ?_;refine A4 Z Z (B2 Z Z Z Z (fun hg=>by rw [hg];exact A8 Z) ?_);refine B2 Z Z Z Z (fun hg=>by rw [hg];exact B4 Z Z Z) ?_;refine B2 Z Z Z Z (fun hg=>by rw [hg];exact C3 Z Z) ?_;refine B2 Z Z Z Z (fun hg=>by rw [hg];exact R0 Z Z) ?_;refine J5 Z Z ?_;refine A5 ?_;refine k1 ?_;refine B5 rfl (fun ht=>?_) (fun ht=>?_)
 ·have hc:s.From < e∨s.To≤s.From∨n < s.To:=by
   by_cases q1:s.From < e
   ·exact .inl q1
   ·by_cases q2:s.To≤s.From
    ·exact .inr (.inl q2)
    ·simp [q1,q2] at ht
     exact .inr (.inr ht)
  rw [if_pos hc] at hp
  refine k2 (A3 (A7 Z Z (A5 ?_)));refine k1 (k10 (k11 (k12 (k11 (k11 (k12 (k11 ?_)))))))
  exact B9 (I5 rfl rfl rfl) (by rw [hp])
 have hc:¬(s.From < e∨s.To≤s.From∨n < s.To):=by
  rintro (q | q | q)
  ·simp [q] at ht
  ·simp [q] at ht
  ·simp [q] at ht
 rw [if_neg hc] at hp
 refine k5 (k1 (A3 (A6 (A8 Z) Z (E9 Z Z Z Z (A7 Z Z (A5 ?_))))));refine k4 (k1 (A3 (C5 Z Z Z (A4 Z Z (A5 ?_)))));refine k1 ?_
 exact ⟨(k+1,s.To),⟨hlt,hp⟩,by dsimp only;omega,I81 ⟨le1 rfl,le1 rfl,le1 rfl,le1 rfl,le1 rfl,trivial⟩ trivial⟩
end Go.Proofs.YtbiadkkamhpdnaaGreatDoor
namespace Go.Proofs.YtbiadkkamhpdnaaGreatDoor
open Go Go.AL
set_option maxRecDepth 100000
set_option maxHeartbeats 1000000
end Go.Proofs.YtbiadkkamhpdnaaGreatDoor
namespace Go.Proofs.YtbiadkkamhpdnaaGreatDoor
open Go Go.AL
set_option maxRecDepth 100000
end Go.Proofs.YtbiadkkamhpdnaaGreatDoor
