/- Walks of the program's functions. -/
import Derived.Test.YtbiadkkamhpdnaaGreatDoorFe
import Derived.Test.YtbiadkkamhpdnaaGreatDoorFs
import Derived.Test.YtbiadkkamhpdnaaGreatDoorFa
import Derived.Test.YtbiadkkamhpdnaaGreatDoorFb
import Derived.Test.YtbiadkkamhpdnaaGreatDoorFd
import Derived.Test.YtbiadkkamhpdnaaGreatDoorFc
set_option linter.unusedSimpArgs false
namespace Go.Proofs.YtbiadkkamhpdnaaGreatDoor
open Go Go.AL
set_option maxRecDepth 100000
theorem D76 (c:UInt8):∀n:Nat,Lib.repeatL [c] n=List.replicate n c
 | 0=>rfl
 | n+1=>by rw [Lib.repeatL,D76 c n];rfl
theorem I69 (c:UInt8) (n:Nat) (hn:n≤1048576):FnOk Tryz.prog 150 [L6 [c],E5 n] (fun rs=>rs=[L6 (List.replicate n c)]) :=
 J72 (xs:=[.string ⟨#[c]⟩,.int .i64 n]) (r:=.string ⟨(List.replicate n c).toArray⟩) ⟨_,rfl,rfl,rfl⟩ rfl fun w _=>by
  have:=Tryz.strings_Repeat ⟨#[c]⟩ n w (by omega) (by show 1*n≤_;omega)
  have e:Lib.repeatL (⟨#[c]⟩:ByteArray).data.toList n=List.replicate n c:=D76 c n
  rw [e] at this
  exact this
abbrev C66 (c:Comb):Ob:=.box (S5 c).s1.cells
theorem D77 (rows:List Row) (n:Nat) (hn:n≤32) (hr:I2 rows) (hl:rows.length≤268435456) :
  AL.Met Tryz.prog 149 [(pRows rows).s1,(E5 n).s1] [] [] [] (fun rs ob'=>rs=[.one (.mut 720)]∧ob'=[(720,.arr Int 1 H4 (j2 rows n))]):=by
 have e0:((n:Int)+1).toNat=n+1:=by omega
 refine AL.Met.intro Tryz.func149 (by decide) Z Z Z ?_
 refine k2 (A2 (A7 Z Z (A4 ?_)));refine k1 (k2 (A2 (A3 Z Z (C7 Z Z Z (C0 (p7 720 Int H4 0 Z Z (by omega) (by omega) (fun _=>by first | exact ⟨⟨rfl,rfl⟩,trivial⟩ | exact ⟨Q5 _ _ _,trivial⟩) (by first | rfl | (simp [I1,J8,Ob.free,SV.free,S1.free,TC.free]<;>rfl))) Z ?_)))));refine A7 Z Z (A4 ?_)
 rw [e0,←H85 rows n]
 refine k1 (k2 (k2 (A2 (A3 Z Z (D9 Z Z (A3 Z Z (A4 ?_)))))));refine k1 (k3 (D1 (X:=Nat) (fun i=>([(1,B8 n),(5,.s (.one (.mut 720))),(12,C4 Row 3 rowC rows),(13,B8 rows.length),(14,B8 i)],[(720,.arr Int 1 H4 (A04 rows n i 0))])) (fun i=>i≤rows.length) (fun i=>rows.length - i) 0 (Nat.zero_le _) (J58 ⟨le1 rfl,le1 rfl,le1 rfl,le1 rfl,le1 rfl,trivial⟩ ⟨rfl,trivial⟩) ?_))
 intro i hi
 dsimp only at hi ⊢
 refine k2 (A2 (E1 Z Z Z (A4 ?_)));refine k1 (k2 ?_);refine B3 rfl (fun ht=>?_) (fun ht=>?_)
 ·have hlt:i < rows.length:=by have:=A0 ht;omega
  have hv:rows[i]?=some rows[i]:=by simp [hlt]
  have hrow:=hr _ (J96 hlt)
  have hstep:=fun p=>H86 rows n i p hlt
  obtain ⟨r,hrr⟩:∃r,r=rows[i]:=⟨_,rfl⟩
  rw [←hrr] at hv hrow hstep
  have hcl:=fun k=>C80 (rows.take i) n k
  have htl:(rows.take i).length=i:=by rw [K03];omega
  rw [htl] at hcl
  refine k5 (k1 (k2 (k3 (k2 (A2 (A6 (A8 Z (.pure _ _ _ _) Z (by omega) hv) Z (A6 (C8 Z Z) Z (C0 (F4 7 Z) Z (E2 (B6 TySz.out Z Z Z Z Z Z) (A4 ?_))))))))));refine k1 (k2 (k2 (A2 (A3 Z Z (A3 Z Z (A4 ?_))))));refine k1 (k3 (D1 (X:=Nat) (fun p=>([(1,B8 n),(5,.s (.one (.mut 720))),(7,.s (.one (.ref 7 0))),(12,C4 Row 3 rowC rows),(13,B8 rows.length),(14,B8 i),(18,B8 n),(19,B8 p)],[(7,.box (pRow r).s1.cells),(720,.arr Int 1 H4 (A04 rows n i p))])) (fun p=>p≤n) (fun p=>n - p) 0 (Nat.zero_le _) (J58 ⟨le1 rfl,le1 rfl,le1 rfl,le1 rfl,le1 rfl,le1 rfl,le1 rfl,le1 rfl,trivial⟩ ⟨rfl,rfl,trivial⟩) ?_))
  intro p hp
  dsimp only at hp ⊢
  have hlen:=J02 rows n i p
  have hget:=J03 rows n i p (by omega)
  have hcp:=hcl p
  refine k2 (A2 (E1 Z Z Z (A4 ?_)));refine k1 (k2 ?_);refine B3 rfl (fun ht=>?_) (fun ht=>?_)
  ·have hlt2:p < n:=by have:=A0 ht;omega
   have hst:=hstep p (by omega)
   rw [show V9 n p=(p:Int) by unfold V9;rw [if_neg (by omega)]] at hst
   refine k5 (k1 (k2 (k3 (k2 (A2 (A3 Z Z (A7 Z Z (A4 ?_))))))));refine k1 (k2 (A2 (A6 (C6 Z Z Z) Z (A3 Z Z (C2 (D70 r p hrow) Z Z Z ?_)))));rintro _ rfl;refine A4 ?_;refine k1 ?_;refine B3 rfl (fun ht=>?_) (fun ht=>?_)
   ·rw [if_pos ht] at hst
    skip
    refine A2 (A3 Z Z (A3 Z Z (A6 (F7 Z Z Z (by omega) (by (rw [hlen];omega))) Z ?_)));refine A6 (Q2 Z Z hget Z) Z (C7 Z Z Z (A6 (F7 Z Z Z (by omega) (by (rw [hlen];omega))) Z ?_));refine E2 (I9 TySz.out Z Z (by (rw [hlen];omega)) Z Z) ?_;refine A4 ?_;refine k4 (k1 (A2 (C7 Z Z Z (A3 Z Z (A4 ?_)))));refine k1 ?_;refine ⟨p+1,by omega,by omega,?_⟩
    rw [hst]
    exact J58 ⟨le1 rfl,le1 rfl,le1 rfl,le1 rfl,le1 rfl,le1 rfl,le1 rfl,le1 rfl,trivial⟩ ⟨rfl,rfl,trivial⟩
   ·rw [if_neg (by rw [ht];decide)] at hst
    refine k5 (k4 (k1 (A2 (C7 Z Z Z (A3 Z Z (A4 ?_))))));refine k1 ?_;refine ⟨p+1,by omega,by omega,?_⟩
    rw [hst]
    exact J58 ⟨le1 rfl,le1 rfl,le1 rfl,le1 rfl,le1 rfl,le1 rfl,le1 rfl,le1 rfl,trivial⟩ ⟨rfl,rfl,trivial⟩
  ·have hpn:p=n:=by have:=A1 ht;omega
   subst hpn
   have hst:=hstep p (by omega)
   have hvis:i6 r (V9 p p)=!r.Lost:=by unfold V9 i6;rw [if_pos rfl,if_pos rfl]
   rw [hvis,H87] at hst
   refine k6 (k2 (A2 (A6 (A5 Z) Z (D3 Z Z Z Z (L7 Z Z (A4 ?_))))));refine k1 ?_;refine B3 rfl (fun ht=>?_) (fun ht=>?_)
   ·rw [if_pos ht] at hst
    skip
    refine A2 (A3 Z Z (A3 Z Z (A6 (F7 Z Z Z (by omega) (by (rw [hlen];omega))) Z ?_)));refine A6 (Q2 Z Z hget Z) Z (C7 Z Z Z (A6 (F7 Z Z Z (by omega) (by (rw [hlen];omega))) Z ?_));refine E2 (I9 TySz.out Z Z (by (rw [hlen];omega)) Z Z) ?_;refine A4 ?_;refine k4 (k1 (A2 (C7 Z Z Z (A3 Z Z (A4 ?_)))));refine k1 ?_;refine ⟨i+1,by omega,by omega,?_⟩
    rw [hst]
    exact J58 ⟨le1 rfl,le1 rfl,le1 rfl,le1 rfl,le1 rfl,trivial⟩ ⟨rfl,trivial⟩
   ·rw [if_neg (by rw [ht];decide)] at hst
    refine k5 (k4 (k1 (A2 (C7 Z Z Z (A3 Z Z (A4 ?_))))));refine k1 ?_;refine ⟨i+1,by omega,by omega,?_⟩
    rw [hst]
    exact J58 ⟨le1 rfl,le1 rfl,le1 rfl,le1 rfl,le1 rfl,trivial⟩ ⟨rfl,trivial⟩
 ·have hil:i=rows.length:=by have:=A1 ht;omega
  subst hil
  rw [H88]
  refine k6 (k2 (A2 (A3 Z Z (A7 Z Z (A4 ?_)))));refine k1 (k10 ?_)
  exact S7 (A64 rfl rfl) (by repeat (first | exact H2 | refine G8 rfl ?_ | refine J4 _ ?_)) (ObIn.spec (ob':=[(720,_)]) ⟨rfl,trivial⟩) ⟨rfl,rfl⟩
theorem H63 (c:Comb) (hn:1≤c.Parents∧c.Parents≤32) (hr:∀h∈c.Hunks,I2 h.Rows) (hz:szC c.Hunks≤268435456):FnOk Tryz.prog 92 [S5 c] (fun rs=>rs=[I8 (Z6 c.Parents.toNat c.Hunks)]):=by
 obtain ⟨n,hN⟩:∃n,n=c.Parents.toNat:=⟨_,rfl⟩
 rw [←hN]
 have hzl:=C27 c.Hunks
 refine FnOk.intro Tryz.func92 (by decide) Z Z Z Z ?_
 refine k2 (A2 (C0 (M2 1 Z Z Z) Z (A7 Z Z (A4 ?_))));refine k1 (k2 (k2 (A2 (A6 (A5 Z) Z (D3 Z Z Z Z (D9 Z Z (A3 Z Z (A4 ?_))))))));refine k1 (k3 (D1 (X:=Nat) (fun k=>([(1,.s (.one (.ref 1 0))),(8,C4 CHunk 2 S4 c.Hunks),(9,B8 c.Hunks.length),(10,B8 k)],[(1,C66 c)])) (fun k=>k≤c.Hunks.length∧Z6 n c.Hunks=Z6 n (c.Hunks.drop k)) (fun k=>c.Hunks.length - k) 0 ⟨Nat.zero_le _,rfl⟩ (J58 ⟨le1 rfl,le1 rfl,le1 rfl,le1 rfl,trivial⟩ ⟨rfl,trivial⟩) ?_))
 rintro k ⟨hk,hp⟩
 dsimp only at hk hp ⊢
 refine k2 (A2 (E1 Z Z Z (A4 ?_)));refine k1 (k2 ?_);refine B3 rfl (fun ht=>?_) (fun ht=>?_)
 ·have hlt:k < c.Hunks.length:=by have:=A0 ht;omega
  have hv:c.Hunks[k]?=some c.Hunks[k]:=by simp [hlt]
  have hrw:=hr _ (J96 hlt)
  have hzm:=C26 (J96 hlt)
  rw [J92 hlt] at hp
  obtain ⟨h,hx⟩:∃x,x=c.Hunks[k]:=⟨_,rfl⟩
  rw [←hx] at hv hrw hp hzm
  have hz1:=W3 h.Rows
  unfold A56 at hzm
  have hp:Z6 n c.Hunks=(N5 h.Rows n&&Z6 n (c.Hunks.drop (k+1))):=hp
  refine k5 (k1 (k2 (k3 (k2 (A2 (A6 (A8 Z (.pure _ _ _ _) Z (by omega) hv) Z (A6 (C8 Z Z) Z (C0 (F4 4 Z) Z (E2 (B6 TySz.out Z Z Z Z Z Z) (A4 ?_))))))))));refine k1 (k2 (A2 (A6 (A5 Z) Z (D3 Z Z Z Z (D9 Z Z (A3 Z Z (A4 ?_)))))));refine k1 (k3 (D1 (X:=Nat) (fun j=>([(1,.s (.one (.ref 1 0))),(8,C4 CHunk 2 S4 c.Hunks),(9,B8 c.Hunks.length),(10,B8 k),(15,C4 Row 3 rowC h.Rows),(16,B8 h.Rows.length),(17,B8 j)],[(1,C66 c)])) (fun j=>j≤h.Rows.length∧N5 h.Rows n=N5 (h.Rows.drop j) n) (fun j=>h.Rows.length - j) 0 ⟨Nat.zero_le _,rfl⟩ (J58 ⟨le1 rfl,le1 rfl,le1 rfl,le1 rfl,le1 rfl,le1 rfl,le1 rfl,trivial⟩ ⟨rfl,trivial⟩) ?_))
  rintro j ⟨hj,hq⟩
  dsimp only at hj hq ⊢
  refine k2 (A2 (E1 Z Z Z (A4 ?_)));refine k1 (k2 ?_);refine B3 rfl (fun ht=>?_) (fun ht=>?_)
  ·have hlt2:j < h.Rows.length:=by have:=A0 ht;omega
   have hv2:h.Rows[j]?=some h.Rows[j]:=by simp [hlt2]
   have hm:=hrw _ (J96 hlt2)
   rw [J92 hlt2,B36] at hq
   obtain ⟨r,hy⟩:∃x,x=h.Rows[j]:=⟨_,rfl⟩
   rw [←hy] at hv2 hm hq
   have hw:=E64 r c.Parents hn hm
   rw [←hN] at hw
   refine k5 (k1 (k2 (k3 (k2 (A2 (A6 (A8 Z (.pure _ _ _ _) Z (by omega) hv2) Z (A6 (C8 Z Z) Z (C0 (F4 6 Z) Z (E2 (B6 TySz.out Z Z Z Z Z Z) (A4 ?_))))))))));refine k1 (k2 (A2 (A6 (C6 Z Z Z) Z (A6 (A5 Z) Z (D3 Z Z Z Z (C2 (hw) Z Z Z ?_))))));rintro _ rfl;refine L7 Z Z (A4 ?_);refine k1 ?_;refine B3 rfl (fun ht=>?_) (fun ht=>?_)
   ·have h2:i7 n r=false:=by simpa using ht
    rw [h2,Bool.false_and] at hq
    rw [hq,Bool.false_and] at hp
    refine k2 (A2 (A7 Z Z (A4 ?_)));refine k1 (k10 (k12 (k11 (k11 (k12 (k12 (k11 (k11 (k12 (k11 ?_))))))))))
    exact B4 (F3 rfl rfl rfl) (by rw [hp])
   ·have h2:i7 n r=true:=by simpa using ht
    rw [h2,Bool.true_and] at hq
    refine k5 (k4 (k1 (A2 (C7 Z Z Z (A3 Z Z (A4 ?_))))));refine k1 ?_
    exact ⟨j+1,⟨by omega,hq⟩,by omega,J58 ⟨le1 rfl,le1 rfl,le1 rfl,le1 rfl,le1 rfl,le1 rfl,le1 rfl,trivial⟩ ⟨rfl,trivial⟩⟩
  ·have hjl:j=h.Rows.length:=by have:=A1 ht;omega
   rw [hjl,J94 (Nat.le_refl _)] at hq
   have hq:N5 h.Rows n=true:=hq
   rw [hq,Bool.true_and] at hp
   refine k6 (k7 (k7 (k8 Z (k4 (k1 (A2 (C7 Z Z Z (A3 Z Z (A4 ?_)))))))));refine k1 ?_
   exact ⟨k+1,⟨by omega,hp⟩,by omega,J58 ⟨le1 rfl,le1 rfl,le1 rfl,le1 rfl,trivial⟩ ⟨rfl,trivial⟩⟩
 ·have hkl:k=c.Hunks.length:=by have:=A1 ht;omega
  rw [hkl,J94 (Nat.le_refl _)] at hp
  refine k6 (k2 (A2 (A7 Z Z (A4 ?_))));refine k1 (k10 ?_)
  exact B4 (F3 rfl rfl rfl) (by rw [hp];rfl)
theorem G83 (h:CHunk) (n:Nat) (ends:List Int) (hn:n≤32) (hr:I2 h.Rows) (hl:h.Rows.length≤268435456) (he:ends.length=n+1) (he0:∀e∈ends,0≤e) :
  FnOk Tryz.prog 156 [B54 h,E5 n,M1 ends] (fun rs=>rs=if m7 n ends h=true then [M1 (Y3 n h),I8 true] else [M1 [],I8 false]):=by
 have hnot:∀{Q:Prop},(m7 n ends h=true→False)→(if m7 n ends h=true then [M1 (Y3 n h),I8 true] else [M1 [],I8 false])=[M1 [],I8 false]:=fun hq=>if_neg hq
 have hF:=E05 n ends h
 refine FnOk.intro Tryz.func156 (by decide) Z Z Z Z ?_
 refine k2 (A2 (C0 (M2 3 Z Z Z) Z (A7 Z Z (A7 Z Z (A4 ?_)))));refine k1 (k2 (k2 (A2 (A6 (A5 Z) Z (D3 Z Z Z Z (D9 Z Z (A3 Z Z (C7 Z Z Z (A6 (H9 Z Z) Z (A3 Z Z (B0 Z Z Z Z (fun hg=>by rw [hg];exact A5 Z) ?_)))))))))));refine B0 Z Z Z Z (fun hg=>by rw [hg];exact B2 Z Z Z) ?_;refine B0 Z Z Z Z (fun hg=>by rw [hg];exact O8 Z (.pure _ _ _ _)) ?_;refine B0 Z Z Z Z (fun hg=>by rw [hg];exact J7 Z Z) ?_;refine F2 Z Z ?_;refine A4 ?_;refine k1 ?_;refine B3 rfl (fun ht=>?_) (fun ht=>?_)
 ·have h1:=A0 (or_pick.symm.trans ht)
  refine k2 (A2 (A6 (K5 _ 1 H4) Z (A7 Z Z (A4 ?_))));refine k1 (k10 (k11 (B4 (rs:=[M1 [],I8 false]) (U7 Z Z Z Z Z) ?_)))
  rw [if_neg]
  intro hq
  have h2:=(hF.1 hq).1
  rcases h1 with h1 | h1
  ·omega
  ·exact h2.2 (List.length_eq_zero_iff.1 (by omega))
 ·have h1:=A1 (or_pick.symm.trans ht)
  simp only [not_or,Decidable.not_not] at h1
  have hal:h.At.length=n+1:=by omega
  have hne:h.Rows≠[]:=fun e=>h1.2 (by rw [e];rfl)
  refine O9 [(1,B8 n),(2,C4 Int 1 H4 ends),(3,.s (.one (.ref 3 0)))] [(3,.box (B54 h).s1.cells)] (J58 ⟨le1 rfl,le1 rfl,le1 rfl,trivial⟩ ⟨rfl,trivial⟩) ?_
  refine k5 (k1 (k2 (A2 (A6 (A5 Z) Z (D3 Z Z Z Z (A3 Z Z (l_new (D77 h.Rows n hn hr hl) Z Z Z Z ?_)))))));rintro _ _ ⟨rfl,rfl⟩;refine ⟨rfl,?_⟩;refine A7 Z Z (A4 ?_);refine k1 (k2 (k2 (A2 (A6 (A5 Z) Z (D3 Z Z Z Z (D9 Z Z (A3 Z Z (A4 ?_))))))));refine k1 (k3 (D1 (X:=Nat) (fun k=>([(2,C4 Int 1 H4 ends),(8,.s (.one (.mut 720))),(28,C4 Int 1 H4 h.At),(29,B8 h.At.length),(30,B8 k)],[(720,.arr Int 1 H4 (A45 n h k))])) (fun k=>k≤h.At.length∧∀j,j < k→ends.getD j 0≤h.At.getD j 0∧h.At.getD j 0≤4096) (fun k=>h.At.length - k) 0 ⟨Nat.zero_le _,fun j hj=>by omega⟩ (by rw [H24];exact J58 ⟨le1 rfl,le1 rfl,le1 rfl,le1 rfl,le1 rfl,trivial⟩ ⟨rfl,trivial⟩) ?_))
  rintro k ⟨hk,hp⟩
  dsimp only at hk hp ⊢
  have hlen:=H91 n h k
  refine k2 (A2 (E1 Z Z Z (A4 ?_)));refine k1 (k2 ?_);refine B3 rfl (fun ht=>?_) (fun ht=>?_)
  ·have hlt:k < h.At.length:=by have:=A0 ht;omega
   have hv:=F43 hlt
   have hve:=F43 (l:=ends) (i:=k) (by omega)
   have hget:=H92 n h k (by omega)
   have hset:=H93 n h k
   have hek:0≤ends.getD k 0:=he0 _ (K02 hve)
   have hcl:=C80 h.Rows n k
   obtain ⟨a,ha⟩:∃a,a=h.At.getD k 0:=⟨_,rfl⟩
   obtain ⟨e,hee⟩:∃e,e=ends.getD k 0:=⟨_,rfl⟩
   obtain ⟨q,hqq⟩:∃q,q=U2 h.Rows n k:=⟨_,rfl⟩
   rw [←ha] at hv hset
   rw [←hee] at hve hek
   rw [←hqq] at hget hset hcl
   refine k5 (k1 (k2 (k3 (k2 (A2 (A3 Z Z (A6 (A8 Z (.pure _ _ _ _) Z (by omega) hv) Z (A6 (B1 Z Z) Z (A7 Z Z (A7 Z Z (A4 ?_)))))))))));refine k1 (k2 (k2 (A2 (A3 Z Z (A3 Z Z (A3 Z Z (A6 (A8 Z (.pure _ _ _ _) Z (by omega) hve) Z (A6 (B1 Z Z) Z (E1 Z Z Z (A3 Z Z (B0 Z Z Z Z (fun hg=>by rw [hg];exact B5 Z Z) ?_)))))))))));refine B0 Z Z Z Z (fun hg=>by rw [hg];exact K9 Z Z) ?_;refine F2 Z Z ?_;refine A4 ?_;refine k1 ?_;refine B3 rfl (fun ht=>?_) (fun ht=>?_)
   ·have h2:=A0 (or_pick.symm.trans ht)
    refine k2 (A2 (A6 (K5 _ 1 H4) Z (A7 Z Z (A4 ?_))));refine k1 (k10 (k11 (k12 (k11 (k11 (k12 (k11 (B4 (rs:=[M1 [],I8 false]) (U7 Z Z Z Z Z) ?_))))))))
    rw [if_neg]
    intro hq
    have h3:=(hF.1 hq).2 k (by omega)
    rw [←ha,←hee] at h3
    omega
   ·have h2:=A1 (or_pick.symm.trans ht)
    have h3:e≤a∧a≤4096:=by omega
    refine k5 (k1 (A2 (A3 Z Z (A3 Z Z (A6 (F7 Z Z Z (by omega) (by (rw [hlen];omega))) Z ?_)))));refine A6 (Q2 Z Z hget Z) Z (A3 Z Z (C7 Z Z Z (A6 (F7 Z Z Z (by omega) (by (rw [hlen];omega))) Z ?_)));refine E2 (I9 TySz.out Z Z (by (rw [hlen];omega)) Z Z) ?_;refine A4 ?_;refine k4 (k1 (A2 (C7 Z Z Z (A3 Z Z (A4 ?_)))));refine k1 ?_;refine ⟨k+1,⟨by omega,fun j hj=>?_⟩,by omega,?_⟩
    ·by_cases e1:j=k
     ·subst e1;rw [←ha,←hee];exact h3
     ·exact hp j (by omega)
    ·rw [←hset]
     exact J58 ⟨le1 rfl,le1 rfl,le1 rfl,le1 rfl,le1 rfl,trivial⟩ ⟨rfl,trivial⟩
  ·have hkl:k=n+1:=by have:=A1 ht;omega
   subst hkl
   rw [H25]
   have hq:m7 n ends h=true:=hF.2 ⟨⟨hal,hne⟩,hp⟩
   refine G4 (Sees.freeze (k:=720) Z) ?_
   refine k6 (k2 (A2 (A3 Z Z (A7 Z Z (A7 Z Z (A4 ?_))))));refine k1 (k10 ?_)
   exact B4 (rs:=[M1 (Y3 n h),I8 true]) (U7 rfl rfl rfl rfl rfl) (by rw [if_pos hq])
theorem I23 (l:List Int) (hl:0 < l.length):FnOk Tryz.prog 112 [M1 l] (fun rs=>∃m,rs=[E5 m]∧∀b,m≤b↔∀e∈l,e≤b):=by
 refine FnOk.intro Tryz.func112 (by decide) Z Z Z Z ?_
 refine A49 (t:=0) rfl (.pure _ _ _ _) fun hb=>?_
 refine k2 (A2 (A7 Z Z (A4 ?_)));refine k1 (k2 (k2 (A2 (A3 Z Z (D9 Z Z (E1 Z Z Z (A4 ?_)))))));refine k1 ?_;refine B3 rfl (fun ht=>?_) (fun ht=>?_)
 ·exact absurd (A0 ht) (by omega)
 refine k5 (k1 (k2 (A2 (A3 Z Z (A6 (A8 Z (.pure _ _ _ _) Z (by omega) (F43 (l:=l) (i:=0) hl)) Z (A6 (B1 Z Z) Z (A7 Z Z (A4 ?_))))))));refine k1 (k2 (k2 (A2 (A7 Z Z (A4 ?_)))));refine k1 (k3 ?_);refine D1 (X:=Nat × Int) (fun x=>([(0,C4 Int 1 H4 l),(3,B8 x.2),(4,B8 x.1)],[])) (fun x=>(1≤x.1∧x.1≤l.length)∧∀b,x.2≤b↔∀e∈l.take x.1,e≤b) (fun x=>l.length - x.1) (1,l.getD 0 0) ⟨⟨Nat.le_refl _,hl⟩,?_⟩ (J58 ⟨le1 rfl,le1 rfl,le1 rfl,trivial⟩ trivial) ?_
 ·intro b
  have:l.take 1=[l.getD 0 0]:=by
   cases l with
   | nil=>cases hl
   | cons x r=>rfl
  dsimp only
  rw [this];simp
 rintro ⟨k,m⟩ ⟨⟨hk1,hk⟩,hp⟩
 dsimp only at hk1 hk hp ⊢
 refine k2 (k2 (A2 (A3 Z Z (A3 Z Z (D9 Z Z (E1 Z Z Z (A4 ?_)))))));refine k1 ?_;refine B3 rfl (fun ht=>?_) (fun ht=>?_)
 ·have hlt:k < l.length:=by have:=A0 ht;omega
  have hv:=F43 hlt
  refine k5 (k1 (k2 (k3 (A2 (A3 Z Z (A3 Z Z (A3 Z Z (A6 (A8 Z (.pure _ _ _ _) Z (by omega) hv) Z (A6 (B1 Z Z) Z (A6 (n_max Z Z) Z (A7 Z Z (A4 ?_))))))))))));refine k4 (k1 (A2 (A3 Z Z (C7 Z Z Z (A7 Z Z (A4 ?_))))));refine k1 ?_;refine ⟨(k+1,if m < l.getD k 0 then l.getD k 0 else m),⟨⟨by dsimp only;omega,by dsimp only;omega⟩,?_⟩,by dsimp only;omega,J58 ⟨le1 rfl,le1 rfl,le1 rfl,trivial⟩ trivial⟩
  intro b
  dsimp only
  have e:l.take (k+1)=l.take k++[l.getD k 0]:=by
   rw [J93 hlt,J91,J88 hlt];rfl
  have h1:=hp b
  rw [e]
  constructor
  ·intro h x hx
   rcases List.mem_append.1 hx with hx | hx
   ·exact h1.1 (by omega) x hx
   ·simp only [K28,K33,or_false] at hx
    rw [hx];omega
  ·intro h
   have h2:=h1.2 (fun x hx=>h x (List.mem_append.2 (.inl hx)))
   have h3:=h (l.getD k 0) (List.mem_append.2 (.inr (by simp)))
   omega
 ·have hkl:k=l.length:=by have:=A1 ht;omega
  subst hkl
  rw [J98] at hp
  refine k6 (k2 (A2 (A3 Z Z (A7 Z Z (A4 ?_)))));refine k1 (k10 ?_)
  exact B4 (F3 rfl rfl rfl) ⟨m,rfl,hp⟩
theorem J33 (c:Comb) (hn:1≤c.Parents∧c.Parents≤32) (hr:∀h∈c.Hunks,I2 h.Rows) (hz:szC c.Hunks≤268435456) :
  FnOk Tryz.prog 93 [S5 c] (fun rs=>rs=[I8 (A02 c.Parents.toNat (List.replicate (c.Parents.toNat+1) 0) false 0 c.Hunks)]):=by
 obtain ⟨n,hN⟩:∃n,n=c.Parents.toNat:=⟨_,rfl⟩
 have hNc:c.Parents=(n:Int):=by omega
 rw [←hN]
 have e0:(c.Parents+1).toNat=n+1:=by omega
 have hzl:=C27 c.Hunks
 obtain ⟨W,hW⟩:∃W,W=A02 n (List.replicate (n+1) 0) false 0 c.Hunks:=⟨_,rfl⟩
 rw [←hW]
 refine FnOk.intro Tryz.func93 (by decide) Z Z Z Z ?_
 refine k2 (A2 (C0 (M2 1 Z Z Z) Z (A7 Z Z (A4 ?_))));refine k1 (k2 (A2 (C0 (F4 3 Z) Z (A4 ?_))));refine k1 (k2 (A2 (A6 (A5 Z) Z (D3 Z Z Z Z (C7 Z Z Z (C0 (p7 720 Int H4 0 Z Z (by omega) (by omega) (fun _=>by first | exact ⟨⟨rfl,rfl⟩,trivial⟩ | exact ⟨Q5 _ _ _,trivial⟩) (by first | rfl | (simp [I1,J8,Ob.free,SV.free,S1.free,TC.free]<;>rfl))) Z ?_))))));refine A7 Z Z (A4 ?_)
 rw [e0]
 refine k1 (k2 (k2 (G4 (Sees.freeze (k:=720) Z) ?_)))
 refine A2 (A6 (A5 Z) Z (D3 Z Z Z Z (D9 Z Z (A3 Z Z (A4 ?_)))));refine k1 (k3 (D1 (X:=Nat × List Int × Bool × Int) (fun x=>([(1,.s (.one (.ref 1 0))),(3,.s (.one (.ref 3 0))),(4,C4 Int 1 H4 x.2.1),(15,C4 CHunk 2 S4 c.Hunks),(16,B8 c.Hunks.length),(17,B8 x.1)],[(1,C66 c),(3,.box [.p (.v (.bool x.2.2.1)),.p (.v (.int .u32 x.2.2.2))])])) (fun x=>x.1≤c.Hunks.length∧x.2.1.length=n+1∧(∀e∈x.2.1,0≤e)∧W=A02 n x.2.1 x.2.2.1 x.2.2.2 (c.Hunks.drop x.1)) (fun x=>c.Hunks.length - x.1) (0,List.replicate (n+1) 0,false,0) ⟨Nat.zero_le _,by simp,fun e he=>by have:=(List.mem_replicate.1 he).2;omega,hW⟩ (J58 ⟨le1 rfl,le1 rfl,le1 rfl,le1 rfl,le1 rfl,le1 rfl,trivial⟩ ⟨rfl,rfl,trivial⟩) ?_))
 rintro ⟨k,ends,res,par⟩ ⟨hk,hel,he0,hp⟩
 dsimp only at hk hel he0 hp ⊢
 refine k2 (A2 (E1 Z Z Z (A4 ?_)));refine k1 (k2 ?_);refine B3 rfl (fun ht=>?_) (fun ht=>?_)
 ·have hlt:k < c.Hunks.length:=by have:=A0 ht;omega
  have hv:c.Hunks[k]?=some c.Hunks[k]:=by simp [hlt]
  have hmem:=J96 hlt
  have hrw:=hr _ hmem
  have hzm:=C26 hmem
  rw [J92 hlt,A02] at hp
  obtain ⟨h,hx⟩:∃x,x=c.Hunks[k]:=⟨_,rfl⟩
  rw [←hx] at hv hrw hzm hp
  have hz1:=W3 h.Rows
  have hz2:=B56 h.Rows
  unfold A56 at hzm
  have hf:=G83 h n ends (by omega) hrw (by omega) hel he0
  rw [←hNc] at hf
  refine k5 (k1 (k2 (k3 (k2 (A2 (A6 (A8 Z (.pure _ _ _ _) Z (by omega) hv) Z (A6 (C8 Z Z) Z (C0 (F4 6 Z) Z (E2 (B6 TySz.out Z Z Z Z Z Z) (A4 ?_))))))))));refine k1 (k2 (A2 (A7 Z Z (A4 ?_))));refine k1 (k2 (k2 ?_))
  cases hfb:m7 n ends h with
  | false =>
   rw [hfb,if_neg (by decide)] at hf
   rw [hfb,Bool.false_and] at hp
   refine A2 (A6 (C6 Z Z Z) Z (A6 (A5 Z) Z (D3 Z Z Z Z (A3 Z Z (C2 (hf) Z Z Z ?_)))));rintro _ rfl;refine A3 Z Z (F5 Z Z Z (F5 Z Z Z (A7 Z Z (A7 Z Z (A4 ?_)))));refine k1 (k2 (A2 (A3 Z Z (L7 Z Z (A4 ?_)))));refine k1 ?_;refine B3 rfl (fun ht=>?_) (fun ht=>?_)
   ·refine k2 (A2 (A7 Z Z (A4 ?_)));refine k1 (k10 (k11 (k12 (k11 (k11 (k12 (k11 ?_)))))))
    exact B4 (F3 rfl rfl rfl) (by rw [hp])
   ·cases ht
  | true =>
   rw [hfb,if_pos rfl] at hf
   rw [hfb,Bool.true_and] at hp
   have hpos:∀e∈Y3 n h,0≤e:=by
    intro e hm
    obtain ⟨j,hj,rfl⟩:=List.mem_map.1 hm
    have hj:=List.mem_range.1 hj
    have h1:=((E05 n ends h).1 hfb).2 j hj
    have h2:=he0 _ (K02 (F43 (l:=ends) (i:=j) (by omega)))
    have h3:=C80 h.Rows n j
    omega
   refine A2 (A6 (C6 Z Z Z) Z (A6 (A5 Z) Z (D3 Z Z Z Z (A3 Z Z (C2 (hf) Z Z Z ?_)))));rintro _ rfl;refine A3 Z Z (F5 Z Z Z (F5 Z Z Z (A7 Z Z (A7 Z Z (A4 ?_)))));refine k1 (k2 (A2 (A3 Z Z (L7 Z Z (A4 ?_)))));refine k1 ?_;refine B3 rfl (fun ht=>?_) (fun ht=>?_)
   ·cases ht
   refine k5 (k1 (k2 (A2 (A6 (A5 Z) Z (D3 Z Z Z Z (D9 Z Z (A3 Z Z (A4 ?_))))))));refine k1 (k3 (D1 (X:=Nat × Bool × Int) (fun x=>([(1,.s (.one (.ref 1 0))),(3,.s (.one (.ref 3 0))),(4,C4 Int 1 H4 (Y3 n h)),(15,C4 CHunk 2 S4 c.Hunks),(16,B8 c.Hunks.length),(17,B8 k),(32,C4 Row 3 rowC h.Rows),(33,B8 h.Rows.length),(34,B8 x.1)],[(1,C66 c),(3,.box [.p (.v (.bool x.2.1)),.p (.v (.int .u32 x.2.2))])])) (fun x=>x.1≤h.Rows.length∧U4 res par h.Rows=U4 x.2.1 x.2.2 (h.Rows.drop x.1)∧A00 res h.Rows=A00 x.2.1 (h.Rows.drop x.1)∧A01 par h.Rows=A01 x.2.2 (h.Rows.drop x.1)) (fun x=>h.Rows.length - x.1) (0,res,par) ⟨Nat.zero_le _,rfl,rfl,rfl⟩ (J58 ⟨le1 rfl,le1 rfl,le1 rfl,le1 rfl,le1 rfl,le1 rfl,le1 rfl,le1 rfl,le1 rfl,trivial⟩ ⟨rfl,rfl,trivial⟩) ?_))
   rintro ⟨j,res',par'⟩ ⟨hj,q1,q2,q3⟩
   dsimp only at hj q1 q2 q3 ⊢
   refine k2 (A2 (E1 Z Z Z (A4 ?_)));refine k1 (k2 ?_);refine B3 rfl (fun ht=>?_) (fun ht=>?_)
   ·have hlt2:j < h.Rows.length:=by have:=A0 ht;omega
    have hv2:h.Rows[j]?=some h.Rows[j]:=by simp [hlt2]
    have htl:=D11 h.Rows _ (J96 hlt2)
    rw [J92 hlt2] at q1 q2 q3
    rw [U4] at q1
    obtain ⟨r,hy⟩:∃x,x=h.Rows[j]:=⟨_,rfl⟩
    rw [←hy] at hv2 htl q1 q2 q3
    refine k5 (k1 (k2 (k3 (k2 (A2 (A6 (A8 Z (.pure _ _ _ _) Z (by omega) hv2) Z (A6 (C8 Z Z) Z (C0 (F4 9 Z) Z (E2 (B6 TySz.out Z Z Z Z Z Z) (A4 ?_))))))))));refine k1 (k2 ?_)
    by_cases hs:I6 r.Text=true
    ·refine A2 (A6 (C6 Z Z Z) Z (C2 (B29 r (by omega)) Z Z Z ?_));rintro _ rfl;refine L7 Z Z (A3 Z Z (N0 Z Z Z (by rw [hs];rfl) ?_));refine A6 (C6 Z Z Z) Z (N0 Z Z Z (by rw [hs];rfl) ?_);refine G50 (I18 r res' par' (by omega)) Z Z Z Z Z Z ?_;rintro _ _ ⟨rfl,rfl⟩;refine B0 Z Z Z Z (fun hg=>by rw [hg];exact Y0 Z) ?_;refine F2 Z Z ?_;refine A4 ?_;refine k1 ?_;refine B3 rfl (fun ht=>?_) (fun ht=>?_)
     ·have h2:C44 res' par' r=false:=by rw [hs] at ht;simpa using ht
      rw [hs,h2,Bool.true_and,Bool.false_and] at q1
      rw [q1,Bool.false_and] at hp
      refine k2 (A2 (A7 Z Z (A4 ?_)));refine k1 (k10 (k12 (k11 (k11 (k12 (k12 (k11 (k11 (k12 (k11 ?_))))))))))
      exact B4 (F3 rfl rfl rfl) (by rw [hp])
     ·have h2:C44 res' par' r=true:=by rw [hs] at ht;simpa using ht
      rw [hs,h2,Bool.true_and,Bool.true_and] at q1
      refine k5 (k4 (k1 (A2 (C7 Z Z Z (A3 Z Z (A4 ?_))))));refine k1 ?_
      exact ⟨(j+1,_,_),⟨by dsimp only;omega,q1,q2,q3⟩,by dsimp only;omega,J58 ⟨le1 rfl,le1 rfl,le1 rfl,le1 rfl,le1 rfl,le1 rfl,le1 rfl,le1 rfl,le1 rfl,trivial⟩ ⟨rfl,rfl,trivial⟩⟩
    ·have hs':I6 r.Text=false:=by simpa using hs
     refine A2 (A6 (C6 Z Z Z) Z (C2 (B29 r (by omega)) Z Z Z ?_));rintro _ rfl;refine L7 Z Z (A3 Z Z (B0 Z Z Z Z (fun hg=>by rw [hg];exact C6 Z Z Z) ?_));refine N9 Z Z Z (by rw [hs'];decide) Z ?_;refine N9 Z Z Z (by rw [hs'];decide) Z ?_;refine A6 (G7 (q:=true) Z (fun h=>rfl) (fun h=>by rw [hs'] at h;cases h)) Z ?_;refine A4 ?_
     rw [hs',Bool.false_and,Bool.false_and] at q1
     rw [q1,Bool.false_and] at hp
     refine k1 ?_;refine B3 rfl (fun ht=>?_) (fun ht=>?_)
     ·refine k2 (A2 (A7 Z Z (A4 ?_)));refine k1 (k10 (k12 (k11 (k11 (k12 (k12 (k11 (k11 (k12 (k11 ?_))))))))))
      exact B4 (F3 rfl rfl rfl) (by rw [hp])
     ·rw [hs'] at ht;cases ht
   ·have hjl:j=h.Rows.length:=by have:=A1 ht;omega
    rw [hjl,J94 (Nat.le_refl _)] at q1 q2 q3
    have q1:U4 res par h.Rows=true:=q1
    have q2:A00 res h.Rows=res':=q2
    have q3:A01 par h.Rows=par':=q3
    rw [q1,q2,q3,Bool.true_and] at hp
    refine k6 (k7 (k7 (k8 Z (k4 (k1 (A2 (C7 Z Z Z (A3 Z Z (A4 ?_)))))))));refine k1 ?_
    exact ⟨(k+1,_,_,_),⟨by dsimp only;omega,B55 n h,hpos,hp⟩,by dsimp only;omega,J58 ⟨le1 rfl,le1 rfl,le1 rfl,le1 rfl,le1 rfl,le1 rfl,trivial⟩ ⟨rfl,rfl,trivial⟩⟩
 ·have hkl:k=c.Hunks.length:=by have:=A1 ht;omega
  rw [hkl,J94 (Nat.le_refl _)] at hp
  have hp:W=decide (∀e∈ends,e≤4096):=hp
  refine k6 (k2 (A2 (A3 Z Z (C2 (I23 ends (by omega)) Z Z Z ?_))));rintro _ ⟨m,rfl,hm⟩;refine A6 (t8 Z Z) Z (A7 Z Z (A4 ?_));refine k1 (k10 ?_)
  exact B4 (F3 rfl rfl rfl) (by rw [hp];simp only [hm 4096])
theorem I70 (s:Str):FnOk Tryz.prog 91 [L6 s] (fun rs=>rs=[I8 (J1 s)]):=by
 refine FnOk.intro Tryz.func91 (by decide) Z Z Z Z ?_
 refine k2 (A2 (A7 Z Z (A4 ?_)));refine k1 (k2 (A2 (A3 Z Z (A6 (K6 Z) Z (A6 (i8 Z Z) Z (A3 Z Z (B0 Z Z Z Z (fun hg=>by rw [hg];exact B5 Z Z) ?_)))))));refine B0 Z Z Z Z (fun hg=>by rw [hg];exact K6 Z) ?_;refine B0 Z Z Z Z (fun hg=>by rw [hg];exact t8 Z Z) ?_;refine F2 Z Z ?_;refine A7 Z Z (A4 ?_);refine k1 (k10 (B4 (F3 Z Z Z) ?_))
 rw [L5]
 unfold J1
 congr 4
 apply decide_eq_decide.2
 omega
theorem I71 (c:Comb) (hp:c.Path.length≤16777216):FnOk Tryz.prog 86 [S5 c] (fun rs=>rs=[L6 (C06 c)]):=by
 have hq:=C82 c.Path
 have hf:=G38 c.Parents
 refine FnOk.intro Tryz.func86 (by decide) Z Z Z Z ?_
 refine k2 (A2 (C0 (M2 1 Z Z Z) Z (A7 Z Z (A4 ?_))));refine k1 (k2 (A2 (A7 Z Z (A4 ?_))));refine k1 (k2 (k2 (A2 (A6 (A5 Z) Z (D3 Z Z Z Z (A4 ?_))))));refine k1 ?_;refine B3 rfl (fun ht=>?_) (fun ht=>?_)
 ·have hd:c.Dense=true:=ht
  skip
  refine A2 (A7 Z Z (A4 ?_));refine k1 (k2 (C5 (by kernel_rfl) (by kernel_rfl) (C3 Z Z (A9 (E9 Z Z (by (simp only [J86,J87,J89];omega))) Z Z (A9 (E9 Z Z (by (simp only [J86,J87,J89];omega))) Z Z (A9 (A5 Z) Z Z (A9 (B2 Z Z Z) Z Z (A9 (E3 (C16 c.Path (by omega)) Z Z) Z Z (A9 (E9 Z Z (by (simp only [J86,J87,J89];omega))) Z Z (A9 (E9 Z Z (by (simp only [J86,J87,J89];omega))) Z Z (A9 (A5 Z) Z Z (A9 (B2 Z Z Z) Z Z (A9 (E3 (A09 c.Parents) Z Z) Z Z (A9 (E9 Z Z (by (simp only [J86,J87,J89];omega))) Z Z (A9 (E9 Z Z (by (simp only [J86,J87,J89];omega))) Z Z (A9 (E0 Z Z) Z Z (G5 ?_)))))))))))))))));refine k1 (k10 ?_)
  exact B4 (F3 rfl rfl rfl) (by unfold C06 B63;rw [if_pos hd];simp [ccS,parS])
 ·have hd:c.Dense=false:=ht
  refine k5 (k1 (k2 (C5 (by kernel_rfl) (by kernel_rfl) (C3 Z Z (A9 (E9 Z Z (by (simp only [J86,J87,J89];omega))) Z Z (A9 (E9 Z Z (by (simp only [J86,J87,J89];omega))) Z Z (A9 (A5 Z) Z Z (A9 (B2 Z Z Z) Z Z (A9 (E3 (C16 c.Path (by omega)) Z Z) Z Z (A9 (E9 Z Z (by (simp only [J86,J87,J89];omega))) Z Z (A9 (E9 Z Z (by (simp only [J86,J87,J89];omega))) Z Z (A9 (A5 Z) Z Z (A9 (B2 Z Z Z) Z Z (A9 (E3 (A09 c.Parents) Z Z) Z Z (A9 (E9 Z Z (by (simp only [J86,J87,J89];omega))) Z Z (A9 (E9 Z Z (by (simp only [J86,J87,J89];omega))) Z Z (A9 (E0 Z Z) Z Z (G5 ?_))))))))))))))))));refine k1 (k10 ?_)
  exact B4 (F3 rfl rfl rfl) (by unfold C06 B63;rw [hd,if_neg (by decide)];simp [combS,parS])
theorem H64 (h:CHunk) (n:Nat) (hn:n≤32) (hr:I2 h.Rows) (hl:h.Rows.length≤268435456) (ha:h.At.length=n+1) (hb:∀a∈h.At,-4611686018427387904≤a∧a≤4611686018427387904) :
  FnOk Tryz.prog 87 [B54 h,E5 n] (fun rs=>rs=[L6 (C04 n h++[10])]):=by
 have hrep:FnOk Tryz.prog 150 [L6 [64],E5 ((n:Int)+1)] (fun rs=>rs=[L6 (atS (n+1))]):=by
  have:=I69 64 (n+1) (by omega)
  rwa [show ((n+1:Nat):Int)=(n:Int)+1 by omega] at this
 obtain ⟨A,hA⟩:∃A,A=atS (n+1):=⟨_,rfl⟩
 have hAl:A.length=n+1:=by rw [hA,E23]
 have hend:C04 n h++[10]=A++Y2 n h n++([32,43]++P5 (h.At.getD n 0) (U2 h.Rows n n)++[32]++A++[10]):=by
  unfold C04
  rw [A93,hA]
  unfold E02 G36
  rw [if_pos rfl];simp
 rw [hend]
 rw [←hA] at hrep
 have hsl:=fun k=>B57 n h k
 have hcnt:=fun k=>C80 h.Rows n k
 have hgA:∀k,k < n+1→h.At[k]?=some (h.At.getD k 0):=fun k hk=>F43 (by omega)
 have hgC:∀k,k < n+1→(j2 h.Rows n)[k]?=some (U2 h.Rows n k):=fun k hk=>H90 h.Rows n k hk
 have hrA:∀k,k < n+1 → -4611686018427387904≤h.At.getD k 0∧h.At.getD k 0≤4611686018427387904:=fun k hk=>hb _ (K02 (hgA k hk))
 refine FnOk.intro Tryz.func87 (by decide) Z Z Z Z ?_
 refine k2 (A2 (C0 (M2 2 Z Z Z) Z (A7 Z Z (A4 ?_))));refine k1 (k2 (A2 (A6 (A5 Z) Z (D3 Z Z Z Z (A3 Z Z (l_new (D77 h.Rows n hn hr hl) Z Z Z Z ?_))))));rintro _ _ ⟨rfl,rfl⟩;refine ⟨rfl,?_⟩;refine A7 Z Z (A4 ?_);refine k1 (k2 (G4 (Sees.freeze (k:=720) Z) ?_))
 refine A2 (A3 Z Z (C7 Z Z Z (C2 (hrep) Z Z Z ?_)));rintro _ rfl;refine A7 Z Z (A4 ?_);refine k1 (k2 (A2 (C0 (E37 700 Z) Z (A4 ?_))));refine k1 (k2 (G4 (J71 701 UInt8 1 u8C 5 (kb:=700) (o:=1) Z Z Z) ?_))
 refine A2 (A3 Z Z (A47 (Q3 (xs:=[]) (s:=A) ⟨⟨_,.inl rfl,rfl⟩,rfl⟩ (by simp only [J89];omega)) Z Z Z ?_));rintro _ _ ⟨rfl,rfl⟩;refine A4 ?_;refine k1 (k2 (k2 (A2 (A3 Z Z (A3 Z Z (A4 ?_))))));refine k1 (k3 ?_);refine D1 (X:=Nat) (fun p=>([(1,B8 n),(2,.s (.one (.ref 2 0))),(5,C4 Int 1 H4 (j2 h.Rows n)),(6,U3 A),(7,.s (.one (.ref 700 0))),(18,B8 n),(19,B8 p)],[(2,.box (B54 h).s1.cells),(700,.tbx 124 [.ref 700 0,.buf 701 UInt8 1 u8C (A++Y2 n h p)]),(701,.spare (A++Y2 n h p).length 1 5)])) (fun p=>p≤n) (fun p=>n - p) 0 (Nat.zero_le _) ?_ ?_
 ·rw [show Y2 n h 0=[] from rfl,K06]
  exact J58 ⟨le1 rfl,le1 rfl,le1 rfl,le1 rfl,le1 rfl,le1 rfl,le1 rfl,trivial⟩ ⟨rfl,rfl,rfl,trivial⟩
 intro p hp
 dsimp only at hp ⊢
 have hsp:=hsl p
 have hsucc:=A93 n h p
 refine k2 (A2 (E1 Z Z Z (A4 ?_)));refine k1 (k2 ?_);refine B3 rfl (fun ht=>?_) (fun ht=>?_)
 ·have hlt:p < n:=by have:=A0 ht;omega
  have hga:=hgA p (by omega)
  have hgc:=hgC p (by omega)
  have hra:=hrA p (by omega)
  have hcp:=hcnt p
  have hsw:E02 n h p=[32,45]++P5 (h.At.getD p 0) (U2 h.Rows n p):=by
   unfold E02 G36;rw [if_neg (by omega)]
  have hrl:=U6 (h.At.getD p 0) (U2 h.Rows n p)
  rw [hsw] at hsucc
  obtain ⟨a,haa⟩:∃a,a=h.At.getD p 0:=⟨_,rfl⟩
  obtain ⟨q,hqq⟩:∃q,q=U2 h.Rows n p:=⟨_,rfl⟩
  rw [←haa] at hga hra hrl hsucc
  rw [←hqq] at hgc hcp hrl hsucc
  have hlb:(A++Y2 n h p).length≤1000:=by rw [J86];omega
  obtain ⟨B,hB⟩:∃B,B=A++Y2 n h p:=⟨_,rfl⟩
  rw [←hB] at hlb ⊢
  refine k5 (k1 (k2 (k3 (k2 (A2 (A3 Z Z (A7 Z Z (A4 ?_))))))));refine k1 (M3 11 (by kernel_rfl) (by kernel_rfl) Z (A9 (A5 Z) Z Z (A9 (B2 Z Z Z) Z Z (C3 Z Z (A9 (A8 Z (.pure _ _ _ _) Z (by omega) hga) Z Z (A9 (B1 Z Z) Z Z (C3 Z Z (C3 Z Z (A9 (A8 Z (.pure _ _ _ _) Z (by omega) hgc) Z Z (A9 (B1 Z Z) Z Z (A9 (E3 (C15 a q hra (by omega)) Z Z) Z Z (A9 (E9 Z Z (by (simp only [J86,J87,J89];omega))) Z Z (G5 ?_)))))))))))));refine j9 (Q3 (xs:=B) (s:=[32,45]++P5 a q) ⟨⟨_,.inr rfl,rfl⟩,rfl⟩ (by simp only [J86,J87,J89];omega)) Z Z Z ?_;rintro _ _ ⟨rfl,rfl⟩;refine ⟨_,rfl,?_⟩;refine G5 ?_;refine k4 (k1 (A2 (C7 Z Z Z (A3 Z Z (A4 ?_)))));refine k1 ?_;refine ⟨p+1,by omega,by omega,?_⟩
  have hs2:A++Y2 n h (p+1)=B++([32,45]++P5 a q):=by rw [hsucc,hB,K01]
  rw [hs2]
  exact J58 ⟨le1 rfl,le1 rfl,le1 rfl,le1 rfl,le1 rfl,le1 rfl,le1 rfl,trivial⟩ ⟨rfl,rfl,rfl,trivial⟩
 ·have hpn:p=n:=by have:=A1 ht;omega
  subst hpn
  have hga:=hgA p (by omega)
  have hgc:=hgC p (by omega)
  have hra:=hrA p (by omega)
  have hcp:=hcnt p
  have hrl:=U6 (h.At.getD p 0) (U2 h.Rows p p)
  obtain ⟨a,haa⟩:∃a,a=h.At.getD p 0:=⟨_,rfl⟩
  obtain ⟨q,hqq⟩:∃q,q=U2 h.Rows p p:=⟨_,rfl⟩
  rw [←haa] at hga hra hrl ⊢
  rw [←hqq] at hgc hcp hrl ⊢
  have hlb:(A++Y2 p h p).length≤1000:=by rw [J86];omega
  obtain ⟨B,hB⟩:∃B,B=A++Y2 p h p:=⟨_,rfl⟩
  rw [←hB] at hlb ⊢
  refine k6 (k2 (M3 15 (by kernel_rfl) (by kernel_rfl) Z (A9 (A5 Z) Z Z (A9 (B2 Z Z Z) Z Z (C3 Z Z (A9 (A8 Z (.pure _ _ _ _) Z (by omega) hga) Z Z (A9 (B1 Z Z) Z Z (C3 Z Z (C3 Z Z (A9 (A8 Z (.pure _ _ _ _) Z (by omega) hgc) Z Z (A9 (B1 Z Z) Z Z (A9 (E3 (C15 a q hra (by omega)) Z Z) Z Z (A9 (E9 Z Z (by (simp only [J86,J87,J89];omega))) Z Z (A9 (E9 Z Z (by (simp only [J86,J87,J89];omega))) Z Z (C3 Z Z (A9 (E9 Z Z (by (simp only [J86,J87,J89];omega))) Z Z (A9 (E9 Z Z (by (simp only [J86,J87,J89];omega))) Z Z (G5 ?_))))))))))))))))));refine j9 (Q3 (xs:=B) (s:=[32,43]++P5 a q++[32]++A++[10]) ⟨⟨_,.inr rfl,rfl⟩,rfl⟩ (by simp only [J86,J87,J89];omega)) Z Z Z ?_;rintro _ _ ⟨rfl,rfl⟩;refine ⟨_,rfl,?_⟩;refine G5 ?_;refine k1 (k2 (A2 (D42 (k:=700) (k':=701) ⟨_,rfl,rfl,rfl⟩ A99 Z Z Z Z Z (.inr Z) Z (A7 Z Z (A4 ?_)))));refine k1 (k10 ?_)
  exact B4 (F3 rfl rfl rfl) rfl
structure CFit (c:Comb):Prop where
 par:0≤c.Parents∧c.Parents≤32
 path:c.Path.length≤4194304
 sz:szC c.Hunks≤268435456
 rows:∀h∈c.Hunks,I2 h.Rows
 ats:∀h∈c.Hunks,h.At.length=c.Parents.toNat+1∧∀a∈h.At,-4611686018427387904≤a∧a≤4611686018427387904
theorem J34 (c:Comb) (hc:CFit c):FnOk Tryz.prog 94 [S5 c] (fun rs=>rs=[E5 (C79 c).length]):=by
 obtain ⟨h1,h2,h3,h4,h5⟩:=hc
 have hzl:=C27 c.Hunks
 have hm29:markS.length=29:=rfl
 obtain ⟨n,hN⟩:∃n,n=c.Parents.toNat:=⟨_,rfl⟩
 have hNc:c.Parents=(n:Int):=by omega
 have hn:n≤32:=by omega
 have hct:=fun k=>I31 c (by omega) k
 have hcs:=fun k h=>J49 c k h
 rw [←hN] at h5 hcs
 refine FnOk.intro Tryz.func94 (by decide) Z Z Z Z ?_
 refine k2 (A2 (C0 (M2 1 Z Z Z) Z (A7 Z Z (A4 ?_))));refine k1 (k2 (A2 (A6 (C6 Z Z Z) Z (C2 (I71 c (by omega)) Z Z Z ?_))));rintro _ rfl;refine A6 (K6 Z) Z (A7 Z Z (A4 ?_));refine k1 (k2 (k2 (A2 (A6 (A5 Z) Z (D3 Z Z Z Z (D9 Z Z (A3 Z Z (A4 ?_))))))));refine k1 (k3 (D1 (X:=Nat) (fun k=>([(1,.s (.one (.ref 1 0))),(3,B8 (cTo c k).length),(12,C4 CHunk 2 S4 c.Hunks),(13,B8 c.Hunks.length),(14,B8 k)],[(1,C66 c)])) (fun k=>k≤c.Hunks.length) (fun k=>c.Hunks.length - k) 0 (Nat.zero_le _) (by rw [J48];exact J58 ⟨le1 rfl,le1 rfl,le1 rfl,le1 rfl,le1 rfl,trivial⟩ ⟨rfl,trivial⟩) ?_))
 intro k hk
 dsimp only at hk ⊢
 have hck:=hct k
 refine k2 (A2 (E1 Z Z Z (A4 ?_)));refine k1 (k2 ?_);refine B3 rfl (fun ht=>?_) (fun ht=>?_)
 ·have hlt:k < c.Hunks.length:=by have:=A0 ht;omega
  have hv:c.Hunks[k]?=some c.Hunks[k]:=by simp [hlt]
  have hmem:=J96 hlt
  have hrw:=h4 _ hmem
  have hat:=h5 _ hmem
  have hzm:=C26 hmem
  have hsucc:=hcs k hlt
  obtain ⟨h,hx⟩:∃x,x=c.Hunks[k]:=⟨_,rfl⟩
  rw [←hx] at hv hrw hat hzm hsucc
  have hz1:=W3 h.Rows
  have hz2:=B56 h.Rows
  unfold A56 at hzm
  have hh:=H64 h n hn hrw (by omega) hat.1 hat.2
  rw [←hNc] at hh
  have hhl:=D60 hn h
  obtain ⟨base,hbase⟩:∃base,base=(cTo c k).length:=⟨_,rfl⟩
  have hcl:=congrArg List.length hsucc
  rw [J86,J06,J86,←hbase] at hcl
  rw [←hbase] at hck ⊢
  obtain ⟨hd,hhd⟩:∃hd,hd=C04 n h++[10]:=⟨_,rfl⟩
  have hdl:hd.length≤926:=by rw [hhd,J86];simp only [J87,J89];omega
  rw [←hhd] at hh hcl
  refine k5 (k1 (k2 (k3 (k2 (A2 (A6 (A8 Z (.pure _ _ _ _) Z (by omega) hv) Z (A6 (C8 Z Z) Z (C0 (F4 5 Z) Z (E2 (B6 TySz.out Z Z Z Z Z Z) (A4 ?_))))))))));refine k1 (k2 (A2 (A3 Z Z (A6 (C6 Z Z Z) Z (A6 (A5 Z) Z (D3 Z Z Z Z (C2 (hh) Z Z Z ?_)))))));rintro _ rfl;refine A6 (K6 Z) Z (C7 Z Z Z (A7 Z Z (A4 ?_)));refine k1 (k2 (A2 (A6 (A5 Z) Z (D3 Z Z Z Z (D9 Z Z (A3 Z Z (A4 ?_)))))));refine k1 (k3 ?_);refine D1 (X:=Nat) (fun j=>([(1,.s (.one (.ref 1 0))),(3,B8 (base+hd.length+(rTo n h.Rows j).length:Nat)),(12,C4 CHunk 2 S4 c.Hunks),(13,B8 c.Hunks.length),(14,B8 k),(26,C4 Row 3 rowC h.Rows),(27,B8 h.Rows.length),(28,B8 j)],[(1,C66 c)])) (fun j=>j≤h.Rows.length) (fun j=>h.Rows.length - j) 0 (Nat.zero_le _) ?_ ?_
  ·have e:((base+hd.length+(rTo n h.Rows 0).length:Nat):Int)=(base:Int)+(hd.length:Int):=by rw [J50];simp
   rw [e]
   exact J58 ⟨le1 rfl,le1 rfl,le1 rfl,le1 rfl,le1 rfl,le1 rfl,le1 rfl,le1 rfl,trivial⟩ ⟨rfl,trivial⟩
  intro j hj
  dsimp only at hj ⊢
  have hrl:=rTo_len hn h.Rows j
  refine k2 (A2 (E1 Z Z Z (A4 ?_)));refine k1 (k2 ?_);refine B3 rfl (fun ht=>?_) (fun ht=>?_)
  ·have hlt2:j < h.Rows.length:=by have:=A0 ht;omega
   have hv2:h.Rows[j]?=some h.Rows[j]:=by simp [hlt2]
   have hrm:=F88 (J96 hlt2)
   have hsucc2:=J51 n h.Rows j hlt2
   obtain ⟨r,hy⟩:∃x,x=h.Rows[j]:=⟨_,rfl⟩
   rw [←hy] at hv2 hrm hsucc2
   have hrm:r.Text.length+96≤(h.Rows.map T5).sum:=hrm
   have hl2:=congrArg List.length hsucc2
   have hml:=C25 n r
   rw [J86,H95,J86,J86,hml] at hl2
   refine k5 (k1 (k2 (k3 (k2 (A2 (A6 (A8 Z (.pure _ _ _ _) Z (by omega) hv2) Z (A6 (C8 Z Z) Z (C0 (F4 7 Z) Z (E2 (B6 TySz.out Z Z Z Z Z Z) (A4 ?_))))))))));refine k1 (k2 (A2 (A3 Z Z (A6 (A5 Z) Z (D3 Z Z Z Z (A6 (A5 Z) Z (D3 Z Z Z Z (A6 (K6 Z) Z (C7 Z Z Z (C7 Z Z Z (A7 Z Z (A4 ?_))))))))))));refine k1 (k2 (A2 (A6 (A5 Z) Z (D3 Z Z Z Z (C2 (B13 r.Text (by omega)) Z Z Z ?_)))));rintro _ rfl;refine L7 Z Z (A4 ?_);refine k1 ?_;refine B3 rfl (fun ht=>?_) (fun ht=>?_)
   ·have h2:ended r.Text=false:=by simpa using ht
    rw [h2,if_neg (by decide),hm29] at hl2
    have e:((base+hd.length+(rTo n h.Rows (j+1)).length:Nat):Int)=((base+hd.length+(rTo n h.Rows j).length:Nat):Int)+(c.Parents+(r.Text.length:Int))+29:=by omega
    skip
    refine A2 (A3 Z Z (C7 Z Z Z (A7 Z Z (A4 ?_))));refine k4 (k1 (A2 (C7 Z Z Z (A3 Z Z (A4 ?_)))));refine k1 ?_;refine ⟨j+1,by omega,by omega,?_⟩
    rw [e]
    exact J58 ⟨le1 rfl,le1 rfl,le1 rfl,le1 rfl,le1 rfl,le1 rfl,le1 rfl,le1 rfl,trivial⟩ ⟨rfl,trivial⟩
   ·have h2:ended r.Text=true:=by simpa using ht
    rw [if_pos h2,J89] at hl2
    have e:((base+hd.length+(rTo n h.Rows (j+1)).length:Nat):Int)=((base+hd.length+(rTo n h.Rows j).length:Nat):Int)+(c.Parents+(r.Text.length:Int)):=by omega
    refine k5 (k4 (k1 (A2 (C7 Z Z Z (A3 Z Z (A4 ?_))))));refine k1 ?_;refine ⟨j+1,by omega,by omega,?_⟩
    rw [e]
    exact J58 ⟨le1 rfl,le1 rfl,le1 rfl,le1 rfl,le1 rfl,le1 rfl,le1 rfl,le1 rfl,trivial⟩ ⟨rfl,trivial⟩
  ·have hjl:j=h.Rows.length:=by have:=A1 ht;omega
   subst hjl
   have e:base+hd.length+(rTo n h.Rows h.Rows.length).length=(cTo c (k+1)).length:=by omega
   rw [e]
   refine k6 (k7 (k7 (k8 Z (k4 (k1 (A2 (C7 Z Z Z (A3 Z Z (A4 ?_)))))))));refine k1 ?_
   exact ⟨k+1,by omega,by omega,J58 ⟨le1 rfl,le1 rfl,le1 rfl,le1 rfl,le1 rfl,trivial⟩ ⟨rfl,trivial⟩⟩
 ·have hkl:k=c.Hunks.length:=by have:=A1 ht;omega
  subst hkl
  rw [H27]
  refine k6 (k2 (A2 (A3 Z Z (A7 Z Z (A4 ?_)))));refine k1 (k10 ?_)
  exact B4 (F3 rfl rfl rfl) rfl
theorem F69 {c:Comb} (hp:c.Path.length≤4194304) (hn:1≤c.Parents∧c.Parents≤32) (hz:szC c.Hunks≤268435456) (hr:∀h∈c.Hunks,I2 h.Rows) (hg:X1 c.Parents.toNat c.Hunks=true):CFit c:=by
 refine ⟨by omega,hp,hz,hr,fun h hm=>?_⟩
 unfold X1 at hg
 rw [J90] at hg
 obtain ⟨a1,a2,a3⟩:=D59 c.Hunks _ (fun k hk=>by rw [J91,List.getElem?_replicate_of_lt hk];exact Int.le_refl _) hg.1 h hm
 refine ⟨a1,fun a ha=>?_⟩
 obtain ⟨k,hk,rfl⟩:=List.getElem_of_mem ha
 have h1:=a3 k (by omega)
 have h2:=C80 h.Rows c.Parents.toNat k
 have e:h.At.getD k 0=h.At[k]:=by rw [J91,J88 hk];rfl
 rw [e] at h1
 omega
theorem I72 (c:Comb) (hz:szC c.Hunks≤268435456) (hr:∀h∈c.Hunks,I2 h.Rows):FnOk Tryz.prog 40 [S5 c] (fun rs=>rs=[E5 (J2 c)]):=by
 refine FnOk.intro Tryz.func40 (by decide) Z Z Z Z ?_
 refine k2 (A2 (C0 (M2 1 Z Z Z) Z (A7 Z Z (A4 ?_))));refine k1 (k2 (k3 (k2 (A2 (A6 (A5 Z) Z (D3 Z Z Z Z (C2 (I70 c.Path) Z Z Z ?_)))))));rintro _ rfl;refine L7 Z Z (A7 Z Z (A4 ?_));refine k1 ?_;refine B3 rfl (fun ht=>?_) (fun ht=>?_)
 ·have h:J1 c.Path=false:=by simpa using ht
  refine k2 (A2 (A7 Z Z (A4 ?_)));refine k1 (k10 (k12 (k11 ?_)))
  exact B4 (F3 rfl rfl rfl) (by unfold J2;rw [if_pos h])
 have h:J1 c.Path=true:=by simpa using ht
 have hpl:=A0 h
 refine k2 (A2 (A6 (A5 Z) Z (D3 Z Z Z Z (E1 Z Z Z (A3 Z Z (B0 Z Z Z Z (fun hg=>by rw [hg];exact A5 Z) ?_))))));refine B0 Z Z Z Z (fun hg=>by rw [hg];exact B2 Z Z Z) ?_;refine B0 Z Z Z Z (fun hg=>by rw [hg];exact K9 Z Z) ?_;refine F2 Z Z ?_;refine A7 Z Z (A4 ?_);refine k1 ?_;refine B3 rfl (fun ht=>?_) (fun ht=>?_)
 ·have h1:=A0 (or_pick.symm.trans ht)
  refine k2 (A2 (A7 Z Z (A4 ?_)));refine k1 (k10 (k12 (k11 ?_)))
  exact B4 (F3 rfl rfl rfl) (by unfold J2;rw [if_neg (by rw [h];decide),if_pos (by omega)])
 have h1:=A1 (or_pick.symm.trans ht)
 have hn:1≤c.Parents∧c.Parents≤32:=by omega
 refine k2 (A2 (A6 (C6 Z Z Z) Z (C2 (H63 c hn hr hz) Z Z Z ?_)));rintro _ rfl;refine L7 Z Z (A7 Z Z (A4 ?_));refine k1 ?_;refine B3 rfl (fun ht=>?_) (fun ht=>?_)
 ·have h2:Z6 c.Parents.toNat c.Hunks=false:=by simpa using ht
  refine k2 (A2 (A7 Z Z (A4 ?_)));refine k1 (k10 (k12 (k11 ?_)))
  exact B4 (F3 rfl rfl rfl) (by unfold J2;rw [if_neg (by rw [h];decide),if_neg (by omega),if_pos h2])
 have h2:Z6 c.Parents.toNat c.Hunks=true:=by simpa using ht
 have hw:=J33 c hn hr hz
 rw [H23 (by omega) h2] at hw
 refine k2 (A2 (A6 (C6 Z Z Z) Z (C2 (hw) Z Z Z ?_)));rintro _ rfl;refine L7 Z Z (A7 Z Z (A4 ?_));refine k1 ?_;refine B3 rfl (fun ht=>?_) (fun ht=>?_)
 ·have h3:X1 c.Parents.toNat c.Hunks=false:=by simpa using ht
  refine k2 (A2 (A7 Z Z (A4 ?_)));refine k1 (k10 (k12 (k11 ?_)))
  exact B4 (F3 rfl rfl rfl) (by unfold J2;rw [if_neg (by rw [h];decide),if_neg (by omega),if_neg (by rw [h2];decide),if_pos h3])
 have h3:X1 c.Parents.toNat c.Hunks=true:=by simpa using ht
 refine k2 (A2 (A6 (C6 Z Z Z) Z (C2 (J34 c (F69 (by omega) hn hz hr h3)) Z Z Z ?_)));rintro _ rfl;refine A6 (K9 Z Z) Z (A7 Z Z (A4 ?_));refine k1 ?_;refine B3 rfl (fun ht=>?_) (fun ht=>?_)
 ·have h4:=A0 ht
  refine k2 (A2 (A7 Z Z (A4 ?_)));refine k1 (k10 (k12 (k11 ?_)))
  exact B4 (F3 rfl rfl rfl) (by unfold J2;rw [if_neg (by rw [h];decide),if_neg (by omega),if_neg (by rw [h2];decide),if_neg (by rw [h3];decide),if_pos (by omega)])
 have h4:=A1 ht
 refine k5 (k2 (A2 (A7 Z Z (A4 ?_))));refine k1 (k10 ?_)
 exact B4 (F3 rfl rfl rfl) (by unfold J2;rw [if_neg (by rw [h];decide),if_neg (by omega),if_neg (by rw [h2];decide),if_neg (by rw [h3];decide),if_neg (by omega)])
theorem I73 (l:List Row) (hl:0 < l.length∧l.length≤1073741824):FnOk Tryz.prog 113 [pRows l] (fun rs=>rs=[pRows l]):=by
 refine FnOk.intro Tryz.func113 (by decide) Z Z Z Z ?_
 refine k2 (A2 (A7 Z Z (A4 ?_)));refine k1 (k2 (k2 (A2 (A3 Z Z ?_))));(first | (refine D35 (C13 rfl (.pure _ _ _ _)) rfl ?_) | (refine D35 (C13 rfl (.buf _ _ _ _ _)) rfl ?_));rintro _ ⟨b1,rfl,hnil⟩;refine A4 ?_;refine k1 ?_;refine B3 rfl (fun ht=>?_) (fun ht=>?_)
 ·have:=hnil ht
  rw [this] at hl
  exact absurd hl.1 (by simp)
 refine k5 (k1 (k2 (A2 (A6 (B85 (c:=rowC) (ys:=[]) F1 Z Z Z) Z (A3 Z Z (A6 (A97 Z Z (.pure _ _ _ _) (by (simp;omega)) (hl.1)) Z (A7 Z Z (A4 ?_))))))))
 rw [K16]
 refine k1 (k10 ?_)
 exact B4 (F3 rfl rfl rfl) rfl
set_option maxHeartbeats 1000000
end Go.Proofs.YtbiadkkamhpdnaaGreatDoor
namespace Go.Proofs.YtbiadkkamhpdnaaGreatDoor
open Go Go.AL
set_option maxRecDepth 100000
theorem C67 (k n:Nat):FnOk Tryz.prog 146 [E5 k,E5 n] (fun rs=>rs=[E5 (V9 n k)]):=by
 refine FnOk.intro Tryz.func146 (by decide) Z Z Z Z ?_
 refine k2 (A2 (A7 Z Z (A4 ?_)));refine k1 (k2 (k2 (A2 (A3 Z Z (A3 Z Z (A6 (J7 Z Z) Z (A4 ?_)))))));refine k1 ?_;refine B3 rfl (fun ht=>?_) (fun ht=>?_)
 ·have h:=A0 ht
  refine k2 (A2 (A7 Z Z (A4 ?_)));refine k1 (k10 (k11 ?_))
  exact B4 (rs:=[E5 (-1)]) (F3 rfl rfl rfl) (by unfold V9;rw [if_pos (by omega)])
 ·have h:=A1 ht
  refine k5 (k1 (k2 (A2 (A3 Z Z (A7 Z Z (A4 ?_))))));refine k1 (k10 ?_)
  exact B4 (F3 rfl rfl rfl) (by unfold V9;rw [if_neg (by omega)])
theorem G84 (c:Comb) (hn:0≤c.Parents∧c.Parents≤32) (hr:∀h∈c.Hunks,I2 h.Rows) (hz:szC c.Hunks≤268435456):FnOk Tryz.prog 95 [S5 c] (fun rs=>rs=[I8 (Z6 c.Parents.toNat c.Hunks)]):=by
 obtain ⟨n,hN⟩:∃n,n=c.Parents.toNat:=⟨_,rfl⟩
 rw [←hN]
 have hzl:=C27 c.Hunks
 refine FnOk.intro Tryz.func95 (by decide) Z Z Z Z ?_
 refine k2 (A2 (C0 (M2 1 Z Z Z) Z (A7 Z Z (A4 ?_))));refine k1 (k2 (k2 (A2 (A7 Z Z (A4 ?_)))));refine k1 (k3 (D1 (X:=Nat) (fun k=>([(1,.s (.one (.ref 1 0))),(3,B8 k)],[(1,C66 c)])) (fun k=>k≤c.Hunks.length∧Z6 n c.Hunks=Z6 n (c.Hunks.drop k)) (fun k=>c.Hunks.length - k) 0 ⟨Nat.zero_le _,rfl⟩ (J58 ⟨le1 rfl,le1 rfl,trivial⟩ ⟨rfl,trivial⟩) ?_))
 rintro k ⟨hk,hp⟩
 dsimp only at hk hp ⊢
 refine k2 (k2 (A2 (A3 Z Z (A6 (A5 Z) Z (D3 Z Z Z Z (D9 Z Z (E1 Z Z Z (A4 ?_))))))));refine k1 ?_;refine B3 rfl (fun ht=>?_) (fun ht=>?_)
 ·have hlt:k < c.Hunks.length:=by have:=A0 ht;omega
  have hv:c.Hunks[k]?=some c.Hunks[k]:=by simp [hlt]
  have hrw:=hr _ (J96 hlt)
  rw [J92 hlt] at hp
  obtain ⟨h,hx⟩:∃x,x=c.Hunks[k]:=⟨_,rfl⟩
  rw [←hx] at hv hrw hp
  have hp:Z6 n c.Hunks=(N5 h.Rows n&&Z6 n (c.Hunks.drop (k+1))):=hp
  have hm:=E62 h.Rows c.Parents hn hrw
  rw [←hN] at hm
  refine k5 (k1 (k2 (k3 (k2 (C5 (by kernel_rfl) (by kernel_rfl) (A9 (A5 Z) Z Z (A9 (B2 Z Z Z) Z Z (C3 Z Z (A9 (A8 Z (.pure _ _ _ _) Z (by omega) hv) Z Z (A9 (C1 Z) Z Z (A9 (B1 Z Z) Z Z (A9 (A5 Z) Z Z (A9 (B2 Z Z Z) Z Z (A9 (E3 (hm) Z Z) Z Z (A9 (Y0 Z) Z Z (G5 ?_))))))))))))))));refine k1 ?_;refine B3 rfl (fun ht=>?_) (fun ht=>?_)
  ·have h2:N5 h.Rows n=false:=by simpa using ht
   rw [h2,Bool.false_and] at hp
   refine k2 (A2 (A7 Z Z (A4 ?_)));refine k1 (k10 (k12 (k11 (k11 (k12 (k11 ?_))))))
   exact B4 (F3 rfl rfl rfl) (by rw [hp])
  ·have h2:N5 h.Rows n=true:=by simpa using ht
   rw [h2,Bool.true_and] at hp
   refine k5 (k4 (k1 (A2 (A3 Z Z (C7 Z Z Z (A7 Z Z (A4 ?_)))))));refine k1 ?_
   exact ⟨k+1,⟨by omega,hp⟩,by omega,J58 ⟨le1 rfl,le1 rfl,trivial⟩ ⟨rfl,trivial⟩⟩
 ·have hkl:k=c.Hunks.length:=by have:=A1 ht;omega
  rw [hkl,J94 (Nat.le_refl _)] at hp
  refine k6 (k2 (A2 (A7 Z Z (A4 ?_))));refine k1 (k10 ?_)
  exact B4 (F3 rfl rfl rfl) (by rw [hp];rfl)
def Z2 (n:Nat) (ends:List Int) (h:CHunk) (k:Nat):List Int:=(List.range (n+1)).map fun j=>if j < k then h.At.getD j 0+U2 h.Rows n j else ends.getD j 0
theorem D78 (n:Nat) (ends:List Int) (h:CHunk) (k:Nat):(Z2 n ends h k).length=n+1:=by unfold Z2;simp
theorem G13 {n:Nat} {ends:List Int} (h:CHunk) (hl:ends.length=n+1):Z2 n ends h 0=ends:=by
 unfold Z2
 refine List.ext_getElem (by simp [hl]) fun k h1 h2=>?_
 rw [List.getElem_map,List.getElem_range,if_neg (by omega),J91,J88 h2];rfl
theorem G85 (n:Nat) (ends:List Int) (h:CHunk) (k:Nat) (hk:k < n+1):(Z2 n ends h k)[k]?=some (ends.getD k 0):=by
 unfold Z2
 rw [K15,K22 hk];simp
theorem G14 (n:Nat) (ends:List Int) (h:CHunk) (k:Nat) (hk:k < n+1):(Z2 n ends h (k+1))[k]?=some (h.At.getD k 0+U2 h.Rows n k):=by
 unfold Z2
 rw [K15,K22 hk];simp
theorem G86 (n:Nat) (ends:List Int) (h:CHunk) (k:Nat):(Z2 n ends h k).set k (h.At.getD k 0+U2 h.Rows n k)=Z2 n ends h (k+1):=by
 unfold Z2
 rw [C81]
 refine List.map_congr_left fun j hj=>?_
 by_cases e:j=k
 ·subst e;rw [if_pos rfl,if_pos (by omega)]
 ·rw [if_neg e]
  by_cases h3:j < k
  ·rw [if_pos h3,if_pos (by omega)]
  ·rw [if_neg h3,if_neg (by omega)]
theorem G15 (n:Nat) (ends:List Int) (h:CHunk):Z2 n ends h (n+1)=Y3 n h:=by
 unfold Z2 Y3
 refine List.map_congr_left fun k hk=>?_
 rw [if_pos (List.mem_range.1 hk)]
theorem H65 (n:Nat) (ends:List Int) (h:CHunk):B04 n ends h=true↔(h.At.length=n+1∧h.Rows≠[])∧∀k,k < n+1→(ends.getD k 0≤h.At.getD k 0∧h.At.getD k 0≤4096)∧h.At.getD k 0+U2 h.Rows n k≤4096:=by
 unfold B04
 simp only [J90,decide_eq_true_eq,List.all_eq_true,List.mem_range]
theorem C68:∀(hs:List CHunk),((G6 hs).map T5).sum≤szC hs
 | []=>by simp [G6,szC]
 | h::r=>by
  have ih:=C68 r
  have e1:G6 (h::r)=h.Rows++G6 r:=by simp [G6]
  have e2:szC (h::r)=A56 h+szC r:=by simp [szC]
  have e3:(h.Rows.map T5).sum≤A56 h:=by unfold A56;exact Nat.le_add_left _ _
  rw [e1,e2,K00,K31]
  exact Nat.add_le_add e3 ih
theorem G16 (hs:List CHunk) (k:Nat) (h:k < hs.length):G6 (hs.take (k+1))=G6 (hs.take k)++hs[k].Rows:=by
 unfold G6
 rw [J93 h,K00,K04];simp
theorem G87 (c:Comb) (hn:1≤c.Parents∧c.Parents≤32) (hr:∀h∈c.Hunks,I2 h.Rows) (hz:szC c.Hunks≤268435456) :
  FnOk Tryz.prog 96 [S5 c] (fun rs=>rs=[I8 (X1 c.Parents.toNat c.Hunks)]):=by
 obtain ⟨n,hN⟩:∃n,n=c.Parents.toNat:=⟨_,rfl⟩
 have hNc:c.Parents=(n:Int):=by omega
 rw [←hN]
 have e0:(c.Parents+1).toNat=n+1:=by omega
 have hzl:=C27 c.Hunks
 have hsa:=C68 c.Hunks
 have hfalse:∀{A B:Bool} {Y:Prop},A=false→[I8 false]=[I8 (A&&B)]:=fun h=>by rw [h];rfl
 refine FnOk.intro Tryz.func96 (by decide) Z Z Z Z ?_
 refine k2 (A2 (C0 (M2 1 Z Z Z) Z (A7 Z Z (A4 ?_))));refine k1 (k2 (A2 (C0 (R7 721 _ rowC Z) Z (A4 ?_))));refine k1 (k2 (A2 (A6 (A5 Z) Z (D3 Z Z Z Z (C7 Z Z Z (C0 (p7 720 Int H4 0 Z Z (by omega) (by omega) (fun _=>by first | exact ⟨⟨rfl,rfl⟩,trivial⟩ | exact ⟨Q5 _ _ _,trivial⟩) (by first | rfl | (simp [I1,J8,Ob.free,SV.free,S1.free,TC.free]<;>rfl))) Z ?_))))));refine A7 Z Z (A4 ?_)
 rw [e0]
 refine k1 (k2 (k2 (A2 (A7 Z Z (A4 ?_)))));refine k1 (k3 (D1 (X:=Nat × List Int) (fun x=>([(1,.s (.one (.ref 1 0))),(3,.s (.one (.buf 721 Row 3 rowC (G6 (c.Hunks.take x.1))))),(4,.s (.one (.mut 720))),(5,B8 x.1)],[(1,C66 c),(720,.arr Int 1 H4 x.2),(721,.spare (G6 (c.Hunks.take x.1)).length 3 69)])) (fun x=>x.1≤c.Hunks.length∧x.2.length=n+1∧(∀e∈x.2,0≤e)∧X0 n (List.replicate (n+1) 0) c.Hunks=X0 n x.2 (c.Hunks.drop x.1)) (fun x=>c.Hunks.length - x.1) (0,List.replicate (n+1) 0) ⟨Nat.zero_le _,by simp,fun e he=>by have:=(List.mem_replicate.1 he).2;omega,rfl⟩ (J58 ⟨le1 rfl,le1 rfl,le1 rfl,le1 rfl,trivial⟩ ⟨rfl,rfl,rfl,trivial⟩) ?_))
 rintro ⟨k,ends⟩ ⟨hk,hel,he0,hp⟩
 dsimp only at hk hel he0 hp ⊢
 refine k2 (k2 (A2 (A3 Z Z (A6 (A5 Z) Z (D3 Z Z Z Z (D9 Z Z (E1 Z Z Z (A4 ?_))))))));refine k1 ?_;refine B3 rfl (fun ht=>?_) (fun ht=>?_)
 ·have hlt:k < c.Hunks.length:=by have:=A0 ht;omega
  have hv:c.Hunks[k]?=some c.Hunks[k]:=by simp [hlt]
  have hmem:=J96 hlt
  have hrw:=hr _ hmem
  have hzm:=C26 hmem
  have hat:=G16 c.Hunks k hlt
  have hst:=C68 (c.Hunks.take k)
  have hst2:=F05 c.Hunks k
  have hst3:=W3 (G6 (c.Hunks.take k))
  rw [J92 hlt,X0] at hp
  obtain ⟨h,hx⟩:∃x,x=c.Hunks[k]:=⟨_,rfl⟩
  rw [←hx] at hv hrw hzm hp hat
  have hz1:=W3 h.Rows
  unfold A56 at hzm
  have hno:B04 n ends h=false→[I8 false]=[I8 (X1 n c.Hunks)]:=fun e=>by
   unfold X1;rw [hp,e];rfl
  have hiff:=H65 n ends h
  refine k5 (k1 (k2 (k3 (k2 (A2 (A6 (A5 Z) Z (D3 Z Z Z Z (A3 Z Z (A6 (A8 Z (.pure _ _ _ _) Z (by omega) hv) Z (A6 (C8 Z Z) Z (C0 (F4 6 Z) Z (E2 (B6 TySz.out Z Z Z Z Z Z) (A4 ?_)))))))))))));refine k1 (k2 (k2 (A2 (A6 (A5 Z) Z (D3 Z Z Z Z (D9 Z Z (A6 (A5 Z) Z (D3 Z Z Z Z (C7 Z Z Z (A6 (H9 Z Z) Z (A3 Z Z (B0 Z Z Z Z (fun hg=>by rw [hg];exact A5 Z) ?_))))))))))));refine B0 Z Z Z Z (fun hg=>by rw [hg];exact B2 Z Z Z) ?_;refine B0 Z Z Z Z (fun hg=>by rw [hg];exact O8 Z (.pure _ _ _ _)) ?_;refine B0 Z Z Z Z (fun hg=>by rw [hg];exact J7 Z Z) ?_;refine F2 Z Z ?_;refine A4 ?_;refine k1 ?_;refine B3 rfl (fun ht=>?_) (fun ht=>?_)
  ·have h1:=A0 (or_pick.symm.trans ht)
   refine k2 (A2 (A7 Z Z (A4 ?_)));refine k1 (k10 (k11 (k12 (k11 (k11 (k12 (k11 ?_)))))));refine B4 (F3 rfl rfl rfl) (hno ?_)
   rw [Bool.eq_false_iff]
   intro hq
   have h2:=(hiff.1 hq).1
   rcases h1 with h1 | h1
   ·omega
   ·exact h2.2 (List.length_eq_zero_iff.1 (by omega))
  have h1:=A1 (or_pick.symm.trans ht)
  simp only [not_or,Decidable.not_not] at h1
  have hal:h.At.length=n+1:=by omega
  have hne:h.Rows≠[]:=fun e=>h1.2 (by rw [e];rfl)
  refine O9 [(1,.s (.one (.ref 1 0))),(3,.s (.one (.buf 721 Row 3 rowC (G6 (c.Hunks.take k))))),(4,.s (.one (.mut 720))),(5,B8 k),(6,.s (.one (.ref 6 0)))] [(1,C66 c),(720,.arr Int 1 H4 ends),(721,.spare (G6 (c.Hunks.take k)).length 3 69),(6,.box (B54 h).s1.cells)] (J58 ⟨le1 rfl,le1 rfl,le1 rfl,le1 rfl,le1 rfl,trivial⟩ ⟨rfl,rfl,rfl,rfl,trivial⟩) ?_
  refine k5 (k1 (k2 (k2 (A2 (A7 Z Z (A4 ?_))))));refine k1 (k3 (D1 (X:=Nat) (fun j=>([(1,.s (.one (.ref 1 0))),(3,.s (.one (.buf 721 Row 3 rowC (G6 (c.Hunks.take k))))),(4,.s (.one (.mut 720))),(5,B8 k),(6,.s (.one (.ref 6 0))),(7,B8 j)],[(1,C66 c),(720,.arr Int 1 H4 (Z2 n ends h j)),(721,.spare (G6 (c.Hunks.take k)).length 3 69),(6,.box (B54 h).s1.cells)])) (fun j=>j≤n+1∧∀i,i < j→(ends.getD i 0≤h.At.getD i 0∧h.At.getD i 0≤4096)∧h.At.getD i 0+U2 h.Rows n i≤4096) (fun j=>n+1 - j) 0 ⟨Nat.zero_le _,fun i hi=>by omega⟩ (by rw [G13 h hel];exact J58 ⟨le1 rfl,le1 rfl,le1 rfl,le1 rfl,le1 rfl,le1 rfl,trivial⟩ ⟨rfl,rfl,rfl,rfl,trivial⟩) ?_))
  rintro j ⟨hj,hq⟩
  dsimp only at hj hq ⊢
  have hml:=D78 n ends h j
  refine k2 (k2 (A2 (A3 Z Z (A6 (A5 Z) Z (D3 Z Z Z Z (A6 (t8 Z Z) Z (A4 ?_)))))));refine k1 ?_;refine B3 rfl (fun ht=>?_) (fun ht=>?_)
  ·have hlt2:j < n+1:=by have:=A0 ht;omega
   have hva:=F43 (l:=h.At) (i:=j) (by omega)
   have hge:=G85 n ends h j hlt2
   have hge1:=G14 n ends h j hlt2
   have hset:=G86 n ends h j
   have hml1:=D78 n ends h (j+1)
   have hej:0≤ends.getD j 0:=he0 _ (K02 (F43 (l:=ends) (i:=j) (by omega)))
   have hcl:=C80 h.Rows n j
   have hcol:=A30 h.Rows (V9 n j) hrw (by omega)
   have hcn:=C67 j n
   rw [←hNc] at hcn
   have hcc:((H3 h.Rows (V9 n j)).length:Int)=U2 h.Rows n j:=rfl
   obtain ⟨a,ha⟩:∃a,a=h.At.getD j 0:=⟨_,rfl⟩
   obtain ⟨e,hee⟩:∃e,e=ends.getD j 0:=⟨_,rfl⟩
   obtain ⟨q,hqq⟩:∃q,q=U2 h.Rows n j:=⟨_,rfl⟩
   have hno2:¬((e≤a∧a≤4096)∧a+q≤4096)→B04 n ends h=false:=fun hc=>by
    rw [Bool.eq_false_iff]
    intro hqq2
    have:=(hiff.1 hqq2).2 j hlt2
    rw [←ha,←hee,←hqq] at this
    exact hc this
   rw [←ha] at hva hge1 hset
   rw [←hee] at hge hej
   rw [←hqq] at hge1 hset hcl hcc
   refine k5 (k1 (k2 (k3 (k2 (k2 (C5 (by kernel_rfl) (by kernel_rfl) (A9 (A5 Z) Z Z (A9 (B2 Z Z Z) Z Z (C3 Z Z (A9 (A8 Z (.pure _ _ _ _) Z (by omega) hva) Z Z (A9 (B1 Z Z) Z Z (C3 Z Z (C3 Z Z (A9 (F7 Z Z Z (by omega) (by (rw [hml];omega))) Z Z ?_))))))))))))));refine A9 (Q2 Z Z hge Z) Z Z (A9 (Y4 Z Z) Z Z (C3 Z Z (B9 Z Z (fun hg=>by rw [hg];exact A5 Z) Z Z ?_)));refine B9 Z Z (fun hg=>by rw [hg];exact B2 Z Z Z) Z Z ?_;refine B9 Z Z (fun hg=>by rw [hg];exact B5 Z Z) Z Z ?_;refine B9 Z Z (fun hg=>by have hq:=hg;(try simp at hq);rw [hg];exact A8 Z (.pure _ _ _ _) Z (by omega) hva) Z Z ?_;refine B9 Z Z (fun hg=>by rw [hg];exact B1 Z Z) Z Z ?_;refine B9 Z Z (fun hg=>by rw [hg];exact K9 Z Z) Z Z ?_;refine A9 (G7 Z (fun h=>by first | rfl | (rw [h];rfl)) (fun h=>by first | rfl | (rw [h];rfl))) Z Z ?_;refine G5 ?_;refine k1 ?_;refine B3 rfl (fun ht=>?_) (fun ht=>?_)
   ·have h2:=A0 (or_pick.symm.trans ht)
    refine k2 (A2 (A7 Z Z (A4 ?_)));refine k1 (k10 (k11 (k12 (k11 (k11 (k12 (k11 (k12 (k11 (k11 (k12 (k11 ?_))))))))))))
    exact B4 (F3 rfl rfl rfl) (hno (hno2 (by omega)))
   have h2:=A1 (or_pick.symm.trans ht)
   refine O9 [(1,.s (.one (.ref 1 0))),(3,.s (.one (.buf 721 Row 3 rowC (G6 (c.Hunks.take k))))),(4,.s (.one (.mut 720))),(5,B8 k),(6,.s (.one (.ref 6 0))),(7,B8 j)] [(1,C66 c),(720,.arr Int 1 H4 (Z2 n ends h j)),(721,.spare (G6 (c.Hunks.take k)).length 3 69),(6,.box (B54 h).s1.cells)] (J58 ⟨le1 rfl,le1 rfl,le1 rfl,le1 rfl,le1 rfl,le1 rfl,trivial⟩ ⟨rfl,rfl,rfl,rfl,trivial⟩) ?_
   refine k5 (k1 (k2 (C5 (by kernel_rfl) (by kernel_rfl) (C3 Z Z (C3 Z Z (A9 (A5 Z) Z Z (A9 (B2 Z Z Z) Z Z (C3 Z Z (A9 (A8 Z (.pure _ _ _ _) Z (by omega) hva) Z Z (A9 (B1 Z Z) Z Z (A9 (A5 Z) Z Z (A9 (B2 Z Z Z) Z Z (C3 Z Z (A9 (A5 Z) Z Z (A9 (B2 Z Z Z) Z Z (A9 (E3 (hcn) Z Z) Z Z (A9 (E3 (hcol) Z Z) Z Z (A9 (O8 Z (.pure _ _ _ _)) Z Z (A9 (L4 Z Z (by omega)) Z Z (A9 (F7 Z Z Z (by omega) (by (rw [hml];omega))) Z Z ?_))))))))))))))))))));refine o6 (I9 TySz.out Z Z (by (rw [hml];omega)) Z Z) Z ?_;refine G5 ?_
   rw [hcc,J97,hset]
   refine k1 (k2 (A2 (A3 Z Z (A3 Z Z (A6 (F7 Z Z Z (by omega) (by (rw [hml1];omega))) Z ?_)))));refine A6 (Q2 Z Z hge1 Z) Z (A6 (K9 Z Z) Z (A4 ?_));refine k1 ?_;refine B3 rfl (fun ht=>?_) (fun ht=>?_)
   ·have h3:=A0 ht
    refine k2 (A2 (A7 Z Z (A4 ?_)));refine k1 (k10 (k12 (k11 (k11 (k12 (k11 (k12 (k11 (k11 (k12 (k11 ?_)))))))))))
    exact B4 (F3 rfl rfl rfl) (hno (hno2 (by omega)))
   have h3:=A1 ht
   refine k5 (k4 (k1 (A2 (A3 Z Z (C7 Z Z Z (A7 Z Z (A4 ?_)))))));refine k1 ?_;refine ⟨j+1,⟨by omega,fun i hi=>?_⟩,by omega,J58 ⟨le1 rfl,le1 rfl,le1 rfl,le1 rfl,le1 rfl,le1 rfl,trivial⟩ ⟨rfl,rfl,rfl,rfl,trivial⟩⟩
   by_cases e1:i=j
   ·subst e1;rw [←ha,←hee,←hqq];omega
   ·exact hq i (by omega)
  ·have hjn:j=n+1:=by have:=A1 ht;omega
   subst hjn
   rw [G15]
   have hok:B04 n ends h=true:=hiff.2 ⟨⟨hal,hne⟩,hq⟩
   rw [hok,Bool.true_and] at hp
   refine k6 (k7 (k7 (k8 Z (k1 (A2 (A3 Z Z (A6 (A5 Z) Z (D3 Z Z Z Z (C0 (F8 Z Z Z (.pure _ _ _ _) (by omega) Z) Z (A7 Z Z (A4 ?_)))))))))));refine k4 (k1 (A2 (A3 Z Z (C7 Z Z Z (A7 Z Z (A4 ?_))))));refine k1 ?_;refine ⟨(k+1,Y3 n h),⟨by dsimp only;omega,B55 n h,?_,hp⟩,by dsimp only;omega,?_⟩
   ·intro e hm
    obtain ⟨i,hi,rfl⟩:=List.mem_map.1 hm
    have hi:=List.mem_range.1 hi
    have h4:=hq i hi
    have h5:=he0 _ (K02 (F43 (l:=ends) (i:=i) (by omega)))
    have h6:=C80 h.Rows n i
    omega
   ·dsimp only
    rw [hat]
    exact J58 ⟨le1 rfl,le1 rfl,le1 rfl,le1 rfl,trivial⟩ ⟨rfl,rfl,rfl,trivial⟩
 ·have hkl:k=c.Hunks.length:=by have:=A1 ht;omega
  rw [hkl,J94 (Nat.le_refl _)] at hp
  rw [hkl,J98]
  have hp:X0 n (List.replicate (n+1) 0) c.Hunks=true:=hp
  have hl1:=W3 (G6 c.Hunks)
  have hl2:=B56 (G6 c.Hunks)
  have hri:I2 (G6 c.Hunks):=by
   intro r hrm
   obtain ⟨l,h1,h2⟩:=List.mem_flatten.1 hrm
   obtain ⟨x,hx,rfl⟩:=List.mem_map.1 h1
   exact hr x hx r h2
  have htx:=E63 (G6 c.Hunks) c.Parents (by omega) hri (by omega) (by omega)
  rw [←hN] at htx
  refine k6 (k2 (A2 (A3 Z Z (A6 (A5 Z) Z (D3 Z Z Z Z (C2 (htx) Z Z Z ?_))))));rintro _ rfl;refine A7 Z Z (A4 ?_);refine k1 (k10 ?_)
  exact B4 (F3 rfl rfl rfl) (by unfold X1;rw [hp];rfl)
theorem rats_ok (n:Nat) (hn:n≤1048576):FnOk Tryz.prog 153 [E5 n] (fun rs=>rs=[L6 (atS n)]):=by
 refine FnOk.intro Tryz.func153 (by decide) Z Z Z Z ?_
 refine k2 (A2 (A7 Z Z (A4 ?_)));refine k1 (k2 (A2 (A7 Z Z (A4 ?_))));refine k1 (k2 (k2 (A2 (A7 Z Z (A4 ?_)))));refine k1 (k3 (D1 (X:=Nat) (fun i=>([(0,B8 n),(3,U3 (atS i)),(4,B8 i)],[])) (fun i=>i≤n) (fun i=>n - i) 0 (Nat.zero_le _) (J58 ⟨le1 rfl,le1 rfl,le1 rfl,trivial⟩ trivial) ?_))
 intro i hi
 dsimp only at hi ⊢
 have hl:=E23 i
 refine k2 (k2 (A2 (A3 Z Z (A3 Z Z (E1 Z Z Z (A4 ?_))))));refine k1 ?_;refine B3 rfl (fun ht=>?_) (fun ht=>?_)
 ·have hlt:i < n:=by have:=A0 ht;omega
  refine k5 (k1 (k2 (k3 (A2 (A3 Z Z (A6 (E9 Z Z (by (first | omega | (simp only [J86,J87,J89];omega)))) Z (A7 Z Z (A4 ?_))))))));refine k4 (k1 (A2 (A3 Z Z (C7 Z Z Z (A7 Z Z (A4 ?_))))));refine k1 ?_;refine ⟨i+1,by omega,by omega,?_⟩
  rw [show atS (i+1)=atS i++[64] by unfold atS;exact List.replicate_succ']
  exact J58 ⟨le1 rfl,le1 rfl,le1 rfl,trivial⟩ trivial
 ·have hin:i=n:=by have:=A1 ht;omega
  subst hin
  refine k6 (k2 (A2 (A3 Z Z (A7 Z Z (A4 ?_)))));refine k1 (k10 ?_)
  exact B4 (F3 rfl rfl rfl) rfl
theorem G17 (r:Row) (n:Nat) (hn:n≤32) (hm:0≤r.Marks∧r.Marks < 4294967296):FnOk Tryz.prog 154 [pRow r,E5 n] (fun rs=>rs=[L6 (A17 n r)]):=by
 refine FnOk.intro Tryz.func154 (by decide) Z Z Z Z ?_
 refine k2 (A2 (C0 (M2 2 Z Z Z) Z (A7 Z Z (A4 ?_))));refine k1 (k2 (A2 (C0 (R7 730 _ u8C Z) Z (A4 ?_))));refine k1 (k2 (k2 (A2 (A7 Z Z (A4 ?_)))));refine k1 (k3 (D1 (X:=Nat) (fun p=>([(1,B8 n),(2,.s (.one (.ref 2 0))),(5,.s (.one (.buf 730 UInt8 1 u8C (A17 p r)))),(6,B8 p)],[(2,.box (pRow r).s1.cells),(730,.spare (A17 p r).length 1 5)])) (fun p=>p≤n) (fun p=>n - p) 0 (Nat.zero_le _) (J58 ⟨le1 rfl,le1 rfl,le1 rfl,le1 rfl,trivial⟩ ⟨rfl,rfl,trivial⟩) ?_))
 intro p hp
 dsimp only at hp ⊢
 have hml:=C25 p r
 have hsucc:=H28 p r
 refine k2 (k2 (A2 (A3 Z Z (A3 Z Z (E1 Z Z Z (A4 ?_))))));refine k1 ?_;refine B3 rfl (fun ht=>?_) (fun ht=>?_)
 ·have hlt:p < n:=by have:=A0 ht;omega
  have hu:=C71 (n:=(p:Int)) (by omega)
  have h3:0≤r.Marks / 2 ^ p:=Int.ediv_nonneg hm.1 (Int.pow_nonneg (by decide))
  have h4:r.Marks / 2 ^ p≤r.Marks:=Int.ediv_le_self _ hm.1
  have e32:r.Marks.fdiv (2 ^ (min (p:Int).toNat IntKind.u32.bits))=r.Marks / 2 ^ p:=F77 r.Marks p (by omega)
  have e1:=D12 (r.Marks / 2 ^ p) (by omega)
  refine k5 (k1 (k2 (k3 (k3 (k2 (A2 (A6 (A5 Z) Z (D3 Z Z Z Z (A3 Z Z (A6 (O0 Z) Z (A6 (B59 Z Z (by (rw [hu];omega))) Z ?_)))))))))));refine A6 (r9 Z Z Z (fun _=>rfl)) Z (A6 (J7 Z Z) Z (A7 Z Z (A4 ?_)))
  rw [hu,e32,e1]
  refine k1 ?_;refine B3 rfl (fun ht=>?_) (fun ht=>?_)
  ·have ht:=A0 ht
   have hb:C41 r.Marks p=false:=by unfold C41;simp;omega
   have hmk:E03 r p=32:=by unfold E03;rw [if_pos hb]
   rw [hmk] at hsucc
   skip
   refine A2 (A3 Z Z (A6 (C9 (c:=u8C) (ys:=[32]) (D8 Z Z Z Z F1) Z Z Z) Z (C0 (F8 Z Z Z (.pure _ _ _ _) (by (simp only [J87,J89];omega)) Z) Z (A7 Z Z (A4 ?_)))));refine k4 (k4 (k1 (A2 (A3 Z Z (C7 Z Z Z (A7 Z Z (A4 ?_)))))));refine k1 ?_;refine ⟨p+1,by omega,by omega,?_⟩
   rw [hsucc]
   exact J58 ⟨le1 rfl,le1 rfl,le1 rfl,le1 rfl,trivial⟩ ⟨rfl,rfl,trivial⟩
  have ht:=A1 ht
  have hb:C41 r.Marks p=true:=by unfold C41;simp;omega
  refine k2 (A2 (A6 (A5 Z) Z (D3 Z Z Z Z (A7 Z Z (A4 ?_)))));refine k1 ?_;refine B3 rfl (fun ht=>?_) (fun ht=>?_)
  ·have hl:r.Lost=true:=ht
   have hmk:E03 r p=45:=by unfold E03;rw [hb,if_neg (by decide),if_pos hl]
   rw [hmk] at hsucc
   skip
   refine A2 (A3 Z Z (A6 (C9 (c:=u8C) (ys:=[45]) (D8 Z Z Z Z F1) Z Z Z) Z (C0 (F8 Z Z Z (.pure _ _ _ _) (by (simp only [J87,J89];omega)) Z) Z (A7 Z Z (A4 ?_)))));refine k4 (k4 (k1 (A2 (A3 Z Z (C7 Z Z Z (A7 Z Z (A4 ?_)))))));refine k1 ?_;refine ⟨p+1,by omega,by omega,?_⟩
   rw [hsucc]
   exact J58 ⟨le1 rfl,le1 rfl,le1 rfl,le1 rfl,trivial⟩ ⟨rfl,rfl,trivial⟩
  ·have hl:r.Lost=false:=ht
   have hmk:E03 r p=43:=by unfold E03;rw [hb,if_neg (by decide),hl,if_neg (by decide)]
   rw [hmk] at hsucc
   skip
   refine A2 (A3 Z Z (A6 (C9 (c:=u8C) (ys:=[43]) (D8 Z Z Z Z F1) Z Z Z) Z (C0 (F8 Z Z Z (.pure _ _ _ _) (by (simp only [J87,J89];omega)) Z) Z (A7 Z Z (A4 ?_)))));refine k4 (k4 (k1 (A2 (A3 Z Z (C7 Z Z Z (A7 Z Z (A4 ?_)))))));refine k1 ?_;refine ⟨p+1,by omega,by omega,?_⟩
   rw [hsucc]
   exact J58 ⟨le1 rfl,le1 rfl,le1 rfl,le1 rfl,trivial⟩ ⟨rfl,rfl,trivial⟩
 ·have hpn:p=n:=by have:=A1 ht;omega
  subst hpn
  refine k6 (k2 (A2 (A3 Z Z (A6 (w7 TyStr.out Z (.buf _ _ _ _ _)) Z (A7 Z Z (A4 ?_))))));refine k1 (k10 ?_)
  exact B4 (F3 rfl rfl rfl) rfl
def A50 (c:Comb):List Str:=[B63 c.Dense++Z3 c.Path++[10],parS++p5 c.Parents++[10]]
theorem I74 (n:Nat) (r:Row):(j3 n r).length≤2:=by unfold j3;split<;>simp
theorem E69 (n:Nat) (rs:List Row):(rs.map (j3 n)).flatten.length≤(rs.map T5).sum:=by
 induction rs with
 | nil=>simp
 | cons x r ih =>
  have h1:=I74 n x
  have h2:2≤T5 x:=by unfold T5;omega
  simp only [J95,J99,J86,K11];omega
theorem G18 (n:Nat) (hs:List CHunk):(hs.map (T4 n)).flatten.length≤szC hs:=by
 unfold szC
 induction hs with
 | nil=>simp
 | cons x r ih =>
  have h1:=E69 n x.Rows
  have h2:(T4 n x).length≤A56 x:=by unfold T4 A56;rw [J87];omega
  rw [J95,J99,J86,J95,K11]
  exact Nat.add_le_add h2 ih
set_option maxHeartbeats 1000000
theorem G88 (c:Comb) (hc:CFit c):FnOk Tryz.prog 90 [S5 c] (fun rs=>rs=[L6 (C79 c)]):=by
 obtain ⟨h1,h2,h3,h4,h5⟩:=hc
 have hzl:=C27 c.Hunks
 have hm29:markS.length=29:=rfl
 have hq:=C82 c.Path
 have hf:=G38 c.Parents
 have hkl:(B63 c.Dense).length≤16:=by cases c.Dense<;>decide
 have hpl:parS.length=8:=rfl
 obtain ⟨n,hN⟩:∃n,n=c.Parents.toNat:=⟨_,rfl⟩
 have hNc:c.Parents=(n:Int):=by omega
 have hn:n≤32:=by omega
 have hct:=I31 c (by omega) c.Hunks.length
 have hats:FnOk Tryz.prog 153 [E5 (c.Parents+1)] (fun rs=>rs=[L6 (atS (n+1))]):=by
  have:=rats_ok (n+1) (by omega)
  rwa [show ((n+1:Nat):Int)=c.Parents+1 by omega] at this
 have hal:=E23 (n+1)
 rw [←hN] at h5
 have htl:(A50 c).length=2:=rfl
 refine FnOk.intro Tryz.func90 (by decide) Z Z Z Z ?_
 refine k2 (A2 (C0 (M2 1 Z Z Z) Z (A7 Z Z (A4 ?_))));refine k1 (k2 (A2 (A7 Z Z (A4 ?_))));refine J3 ?_
 refine n9 [(1,.s (.one (.ref 1 0))),(3,U3 (B63 c.Dense))] [(1,C66 c)] ?_ ?_
 ·refine k2 (A2 (A6 (A5 Z) Z (D3 Z Z Z Z (A4 ?_))));refine k1 ?_;refine B3 rfl (fun ht=>?_) (fun ht=>?_)
  ·have h:c.Dense=true:=ht
   skip
   refine A2 (A7 Z Z (A4 ?_));refine k1 ?_
   rw [show B63 c.Dense=ccS by unfold B63;rw [if_pos h]]
   exact J58 ⟨le1 rfl,le1 rfl,trivial⟩ ⟨rfl,trivial⟩
  ·have h:c.Dense=false:=ht
   refine k5 (k1 ?_)
   rw [show B63 c.Dense=combS by unfold B63;rw [h,if_neg (by decide)]]
   exact J58 ⟨le1 rfl,le1 rfl,trivial⟩ ⟨rfl,trivial⟩
 refine k2 (M3 11 (by kernel_rfl) (by kernel_rfl) Z (C3 Z Z (A9 (A5 Z) Z Z (A9 (B2 Z Z Z) Z Z (A9 (E3 (D48 c.Path (by omega)) Z Z) Z Z (A9 (E9 Z Z (by (first | omega | (simp only [J86,J87,J89];omega)))) Z Z (A9 (E9 Z Z (by (first | omega | (simp only [J86,J87,J89];omega)))) Z Z (A9 (A5 Z) Z Z (A9 (B2 Z Z Z) Z Z (A9 (E3 (A70 c.Parents) Z Z) Z Z (A9 (E9 Z Z (by (first | omega | (simp only [J86,J87,J89];omega)))) Z Z (A9 (E9 Z Z (by (first | omega | (simp only [J86,J87,J89];omega)))) Z Z (G5 ?_)))))))))))));refine d_turn (s5 722 (c:=I0) (ys:=(A50 c)) (D8 Z Z Z Z (D8 Z Z Z Z F1)) Z Z Z (by first | rfl | (simp [I1,J8,Ob.free,SV.free,S1.free,TC.free]<;>rfl))) Z ?_;refine A9 (E0 Z Z) Z Z (G5 ?_);refine k1 (k2 (k2 (A2 (A7 Z Z (A4 ?_)))));refine k1 (k3 (D1 (X:=Nat) (fun k=>([(1,.s (.one (.ref 1 0))),(4,.s (.one (.buf 722 Str 1 I0 (A50 c++((c.Hunks.take k).map (T4 n)).flatten)))),(5,B8 k)],[(1,C66 c),(722,.spare (A50 c++((c.Hunks.take k).map (T4 n)).flatten).length 1 9)])) (fun k=>k≤c.Hunks.length) (fun k=>c.Hunks.length - k) 0 (Nat.zero_le _) (J58 ⟨le1 rfl,le1 rfl,le1 rfl,trivial⟩ ⟨rfl,rfl,trivial⟩) ?_))
 intro k hk
 dsimp only at hk ⊢
 have hcp:=G18 n (c.Hunks.take k)
 have hct2:=F05 c.Hunks k
 refine k2 (k2 (A2 (A3 Z Z (A6 (A5 Z) Z (D3 Z Z Z Z (D9 Z Z (E1 Z Z Z (A4 ?_))))))));refine k1 ?_;refine B3 rfl (fun ht=>?_) (fun ht=>?_)
 ·have hlt:k < c.Hunks.length:=by have:=A0 ht;omega
  have hv:c.Hunks[k]?=some c.Hunks[k]:=by simp [hlt]
  have hmem:=J96 hlt
  have hrw:=h4 _ hmem
  have hat:=h5 _ hmem
  have hzm:=C26 hmem
  have hsucc:((c.Hunks.take (k+1)).map (T4 n)).flatten=((c.Hunks.take k).map (T4 n)).flatten++T4 n c.Hunks[k]:=by
   rw [J93 hlt]
   simp only [K00,J95,K17,K04,J99,K24,K06]
  obtain ⟨h,hx⟩:∃x,x=c.Hunks[k]:=⟨_,rfl⟩
  rw [←hx] at hv hrw hat hzm hsucc
  have hz1:=W3 h.Rows
  unfold A56 at hzm
  have hhl:=D60 hn h
  have hgA:∀j,j < n+1→h.At[j]?=some (h.At.getD j 0):=fun j hj=>F43 (by omega)
  have hrA:∀j,j < n+1 → -4611686018427387904≤h.At.getD j 0∧h.At.getD j 0≤4611686018427387904:=fun j hj=>hat.2 _ (K02 (hgA j hj))
  obtain ⟨base,hbase⟩:∃base,base=A50 c++((c.Hunks.take k).map (T4 n)).flatten:=⟨_,rfl⟩
  have hbl:base.length≤2+268435456:=by rw [hbase,J86];omega
  rw [←hbase]
  refine k5 (k1 (k2 (k3 (k2 (A2 (A6 (A5 Z) Z (D3 Z Z Z Z (A3 Z Z (A6 (A8 Z (.pure _ _ _ _) Z (by omega) hv) Z (A6 (C8 Z Z) Z (C0 (F4 6 Z) Z (E2 (B6 TySz.out Z Z Z Z Z Z) (A4 ?_)))))))))))));refine k1 (k2 (A2 (A6 (A5 Z) Z (D3 Z Z Z Z (C7 Z Z Z (C2 (hats) Z Z Z ?_))))));rintro _ rfl;refine A7 Z Z (A4 ?_);refine k1 (k2 (k2 (A2 (A7 Z Z (A4 ?_)))));refine k1 (k3 ?_);refine D1 (X:=Nat) (fun j=>([(1,.s (.one (.ref 1 0))),(4,.s (.one (.buf 722 Str 1 I0 base))),(5,B8 k),(6,.s (.one (.ref 6 0))),(7,U3 (atS (n+1)++Y2 n h j)),(8,B8 j)],[(1,C66 c),(722,.spare base.length 1 9),(6,.box (B54 h).s1.cells)])) (fun j=>j≤n+1) (fun j=>n+1 - j) 0 (Nat.zero_le _) ?_ ?_
  ·rw [show Y2 n h 0=[] from rfl,K06]
   exact J58 ⟨le1 rfl,le1 rfl,le1 rfl,le1 rfl,le1 rfl,le1 rfl,trivial⟩ ⟨rfl,rfl,rfl,trivial⟩
  intro j hj
  dsimp only at hj ⊢
  have hsl:=B57 n h j
  have hss:=A93 n h j
  refine k2 (k2 (A2 (A3 Z Z (A6 (A5 Z) Z (D3 Z Z Z Z (A6 (t8 Z Z) Z (A4 ?_)))))));refine k1 ?_;refine B3 rfl (fun ht=>?_) (fun ht=>?_)
  ·have hlt2:j < n+1:=by have:=A0 ht;omega
   have hga:=hgA j hlt2
   have hra:=hrA j hlt2
   have hcl:=C21 h.Rows (V9 n j)
   have hrl:=U6 (h.At.getD j 0) (U2 h.Rows n j)
   have hcol:=A30 h.Rows (V9 n j) hrw (by omega)
   have hcn:=C67 j n
   rw [←hNc] at hcn
   have hrr:=D47 (h.At.getD j 0) ((H3 h.Rows (V9 n j)).length:Int) hra (by omega)
   have hsw:E02 n h j=[32,G36 n j]++P5 (h.At.getD j 0) ((H3 h.Rows (V9 n j)).length:Int):=rfl
   have hrl:(P5 (h.At.getD j 0) ((H3 h.Rows (V9 n j)).length:Int)).length≤21:=hrl
   obtain ⟨S,hS⟩:∃S,S=atS (n+1)++Y2 n h j:=⟨_,rfl⟩
   have hSl:S.length≤1000:=by rw [hS,J86];omega
   have hSs:atS (n+1)++Y2 n h (j+1)=S++[32,G36 n j]++P5 (h.At.getD j 0) ((H3 h.Rows (V9 n j)).length:Int):=by rw [hss,hS,hsw];simp
   rw [←hS]
   refine k5 (k1 (k2 (k3 (k2 (A2 (A7 Z Z (A4 ?_)))))));refine k1 (k2 (k2 (A2 (A3 Z Z (A6 (A5 Z) Z (D3 Z Z Z Z (A6 (J7 Z Z) Z (A4 ?_))))))));refine k1 ?_;refine B3 rfl (fun ht=>?_) (fun ht=>?_)
   ·have hjn:=A0 ht
    have hsg:G36 n j=43:=by unfold G36;rw [if_pos (by omega)]
    rw [hsg] at hSs
    skip
    refine A2 (A7 Z Z (A4 ?_));refine k1 (C5 (by kernel_rfl) (by kernel_rfl) (C3 Z Z (C3 Z Z (A9 (E9 Z Z (by (first | omega | (simp only [J86,J87,J89];omega)))) Z Z (A9 (A5 Z) Z Z (A9 (B2 Z Z Z) Z Z (C3 Z Z (A9 (A8 Z (.pure _ _ _ _) Z (by omega) hga) Z Z (A9 (B1 Z Z) Z Z (A9 (A5 Z) Z Z (A9 (B2 Z Z Z) Z Z (C3 Z Z (A9 (A5 Z) Z Z (A9 (B2 Z Z Z) Z Z (A9 (E3 (hcn) Z Z) Z Z (A9 (E3 (hcol) Z Z) Z Z (A9 (O8 Z (.pure _ _ _ _)) Z Z (A9 (E3 (hrr) Z Z) Z Z (A9 (E9 Z Z (by (first | omega | (simp only [J86,J87,J89];omega)))) Z Z (A9 (E0 Z Z) Z Z (G5 ?_)))))))))))))))))))));refine k4 (k1 (A2 (A3 Z Z (C7 Z Z Z (A7 Z Z (A4 ?_))))));refine k1 ?_;refine ⟨j+1,by omega,by omega,?_⟩
    rw [hSs]
    exact J58 ⟨le1 rfl,le1 rfl,le1 rfl,le1 rfl,le1 rfl,le1 rfl,trivial⟩ ⟨rfl,rfl,rfl,trivial⟩
   ·have hjn:=A1 ht
    have hsg:G36 n j=45:=by unfold G36;rw [if_neg (by omega)]
    rw [hsg] at hSs
    refine k5 (k1 (C5 (by kernel_rfl) (by kernel_rfl) (C3 Z Z (C3 Z Z (A9 (E9 Z Z (by (first | omega | (simp only [J86,J87,J89];omega)))) Z Z (A9 (A5 Z) Z Z (A9 (B2 Z Z Z) Z Z (C3 Z Z (A9 (A8 Z (.pure _ _ _ _) Z (by omega) hga) Z Z (A9 (B1 Z Z) Z Z (A9 (A5 Z) Z Z (A9 (B2 Z Z Z) Z Z (C3 Z Z (A9 (A5 Z) Z Z (A9 (B2 Z Z Z) Z Z (A9 (E3 (hcn) Z Z) Z Z (A9 (E3 (hcol) Z Z) Z Z (A9 (O8 Z (.pure _ _ _ _)) Z Z (A9 (E3 (hrr) Z Z) Z Z (A9 (E9 Z Z (by (first | omega | (simp only [J86,J87,J89];omega)))) Z Z (A9 (E0 Z Z) Z Z (G5 ?_))))))))))))))))))))));refine k4 (k1 (A2 (A3 Z Z (C7 Z Z Z (A7 Z Z (A4 ?_))))));refine k1 ?_;refine ⟨j+1,by omega,by omega,?_⟩
    rw [hSs]
    exact J58 ⟨le1 rfl,le1 rfl,le1 rfl,le1 rfl,le1 rfl,le1 rfl,trivial⟩ ⟨rfl,rfl,rfl,trivial⟩
  ·have hjn:j=n+1:=by have:=A1 ht;omega
   subst hjn
   obtain ⟨S,hS⟩:∃S,S=atS (n+1)++Y2 n h (n+1):=⟨_,rfl⟩
   have hSl:S.length≤1000:=by rw [hS,J86];omega
   have hhd:C04 n h++[10]=S++[32]++atS (n+1)++[10]:=by unfold C04;rw [hS]
   rw [←hS]
   refine k6 (k2 (A2 (A3 Z Z (A3 Z Z (A6 (E9 Z Z (by (first | omega | (simp only [J86,J87,J89];omega)))) Z (A6 (A5 Z) Z (D3 Z Z Z Z (C7 Z Z Z (C2 (hats) Z Z Z ?_)))))))));rintro _ rfl;refine A6 (E9 Z Z (by (first | omega | (simp only [J86,J87,J89];omega)))) Z (A6 (E9 Z Z (by (first | omega | (simp only [J86,J87,J89];omega)))) Z (A6 (C9 (c:=I0) (ys:=[_]) (D8 Z Z Z Z F1) Z Z Z) Z (C0 (F8 Z Z Z (.pure _ _ _ _) (by (simp only [J87,J89];omega)) Z) Z (A7 Z Z (A4 ?_)))))
   rw [←hhd]
   refine k1 (k2 (A2 (A7 Z Z (A4 ?_))));refine k1 (k3 ?_)
   obtain ⟨hd,hhd2⟩:∃hd,hd=C04 n h++[10]:=⟨_,rfl⟩
   rw [←hhd2]
   refine D1 (X:=Nat) (fun i=>([(1,.s (.one (.ref 1 0))),(4,.s (.one (.buf 722 Str 1 I0 (base++(hd::((h.Rows.take i).map (j3 n)).flatten))))),(5,B8 k),(6,.s (.one (.ref 6 0))),(10,B8 i)],[(1,C66 c),(722,.spare (base++(hd::((h.Rows.take i).map (j3 n)).flatten)).length 1 9),(6,.box (B54 h).s1.cells)])) (fun i=>i≤h.Rows.length) (fun i=>h.Rows.length - i) 0 (Nat.zero_le _) (J58 ⟨le1 rfl,le1 rfl,le1 rfl,le1 rfl,le1 rfl,trivial⟩ ⟨rfl,rfl,rfl,trivial⟩) ?_
   intro i hi
   dsimp only at hi ⊢
   have hrp:=E69 n (h.Rows.take i)
   have hrt:=F04 h.Rows i
   refine k2 (k2 (A2 (A3 Z Z (A6 (A5 Z) Z (D3 Z Z Z Z (D9 Z Z (E1 Z Z Z (A4 ?_))))))));refine k1 ?_;refine B3 rfl (fun ht=>?_) (fun ht=>?_)
   ·have hlt2:i < h.Rows.length:=by have:=A0 ht;omega
    have hv2:h.Rows[i]?=some h.Rows[i]:=by simp [hlt2]
    have hmem2:=J96 hlt2
    have hrm:=F88 hmem2
    have hmm:=hrw _ hmem2
    have hsucc2:((h.Rows.take (i+1)).map (j3 n)).flatten=((h.Rows.take i).map (j3 n)).flatten++j3 n h.Rows[i]:=by
     rw [J93 hlt2]
     simp only [K00,J95,K17,K04,J99,K24,K06]
    obtain ⟨r,hy⟩:∃x,x=h.Rows[i]:=⟨_,rfl⟩
    rw [←hy] at hv2 hrm hmm hsucc2
    have hrm:r.Text.length+96≤(h.Rows.map T5).sum:=hrm
    have hml:=C25 n r
    have hmk:=G17 r n hn hmm
    rw [←hNc] at hmk
    obtain ⟨bs,hbs⟩:∃bs,bs=base++(hd::((h.Rows.take i).map (j3 n)).flatten):=⟨_,rfl⟩
    have hbsl:bs.length≤2+268435456+1+268435456:=by rw [hbs,J86,J87];omega
    have hsucc3:base++(hd::((h.Rows.take (i+1)).map (j3 n)).flatten)=bs++j3 n r:=by rw [hsucc2,hbs];simp
    rw [←hbs]
    refine k5 (k1 (k2 (k3 (k2 (C5 (by kernel_rfl) (by kernel_rfl) (C3 Z Z (A9 (A5 Z) Z Z (A9 (B2 Z Z Z) Z Z (C3 Z Z (A9 (A8 Z (.pure _ _ _ _) Z (by omega) hv2) Z Z (A9 (C8 Z Z) Z Z (A9 (A5 Z) Z Z (A9 (B2 Z Z Z) Z Z (A9 (E3 (hmk) Z Z) Z Z (A9 (A5 Z) Z Z (A9 (B2 Z Z Z) Z Z (C3 Z Z (A9 (A8 Z (.pure _ _ _ _) Z (by omega) hv2) Z Z (A9 (C1 Z) Z Z (A9 (B1 Z Z) Z Z (A9 (E9 Z Z (by (first | omega | (simp only [J86,J87,J89];omega)))) Z Z (A9 (C9 (c:=I0) (ys:=[_]) (D8 Z Z Z Z F1) Z Z Z) Z Z (A96 (F8 Z Z Z (.pure _ _ _ _) (by (simp only [J87,J89];omega)) Z) Z Z ?_)))))))))))))))))))))));refine A9 (E0 Z Z) Z Z (G5 ?_);refine k1 (k2 (A2 (A6 (A5 Z) Z (D3 Z Z Z Z (A3 Z Z (A6 (A8 Z (.pure _ _ _ _) Z (by omega) hv2) Z (A6 (C1 Z) Z (A6 (B1 Z Z) Z (C2 (D01 r.Text (by omega)) Z Z Z ?_)))))))));rintro _ rfl;refine L7 Z Z (A4 ?_);refine k1 ?_;refine B3 rfl (fun ht=>?_) (fun ht=>?_)
    ·have he:ended r.Text=false:=by simpa using ht
     have e:j3 n r=[A17 n r++r.Text]++[markS]:=by unfold j3;rw [he,if_neg (by decide)];rfl
     skip
     refine A2 (A3 Z Z (A6 (C9 (c:=I0) (ys:=[markS]) (D8 Z Z Z Z F1) Z Z Z) Z (C0 (F8 Z Z Z (.pure _ _ _ _) (by (first | omega | (simp only [J86,J87,J89];omega))) Z) Z (A7 Z Z (A4 ?_)))));refine k4 (k1 (A2 (A3 Z Z (C7 Z Z Z (A7 Z Z (A4 ?_))))));refine k1 ?_;refine ⟨i+1,by omega,by omega,?_⟩
     rw [hsucc3,e,←K01]
     exact J58 ⟨le1 rfl,le1 rfl,le1 rfl,le1 rfl,le1 rfl,trivial⟩ ⟨rfl,rfl,rfl,trivial⟩
    ·have he:ended r.Text=true:=by simpa using ht
     have e:j3 n r=[A17 n r++r.Text]:=by unfold j3;rw [if_pos he]
     refine k5 (k4 (k1 (A2 (A3 Z Z (C7 Z Z Z (A7 Z Z (A4 ?_)))))));refine k1 ?_;refine ⟨i+1,by omega,by omega,?_⟩
     rw [hsucc3,e]
     exact J58 ⟨le1 rfl,le1 rfl,le1 rfl,le1 rfl,le1 rfl,trivial⟩ ⟨rfl,rfl,rfl,trivial⟩
   ·have hil:i=h.Rows.length:=by have:=A1 ht;omega
    subst hil
    rw [J98]
    have e:A50 c++((c.Hunks.take (k+1)).map (T4 n)).flatten=base++(hd::(h.Rows.map (j3 n)).flatten):=by
     rw [hsucc,←K01,←hbase,hhd2];rfl
    refine k6 (k7 (k7 (k8 Z (k4 (k1 (A2 (A3 Z Z (C7 Z Z Z (A7 Z Z (A4 ?_))))))))));refine k1 ?_;refine ⟨k+1,by omega,by omega,?_⟩
    rw [e]
    exact J58 ⟨le1 rfl,le1 rfl,le1 rfl,trivial⟩ ⟨rfl,rfl,trivial⟩
 ·have hkl:k=c.Hunks.length:=by have:=A1 ht;omega
  subst hkl
  have e:(A50 c++((c.Hunks.take c.Hunks.length).map (T4 n)).flatten).flatten=C79 c:=by
   rw [J98,hN];unfold C79 H84 A50;simp
  rw [H27] at hct
  have hao:=H50 (A50 c++((c.Hunks.take c.Hunks.length).map (T4 n)).flatten) (by rw [e];omega)
  rw [e] at hao
  refine k6 (k2 (A2 (A3 Z Z (C2 (hao) Z Z Z ?_))));rintro _ rfl;refine A7 Z Z (A4 ?_);refine k1 (k10 ?_)
  exact B4 (F3 rfl rfl rfl) rfl
theorem D79 (c:Comb) (hz:szC c.Hunks≤268435456) (hr:∀h∈c.Hunks,I2 h.Rows):FnOk Tryz.prog 41 [S5 c] (fun rs=>rs=[E5 (J2 c)]):=by
 refine FnOk.intro Tryz.func41 (by decide) Z Z Z Z ?_
 refine k2 (A2 (C0 (M2 1 Z Z Z) Z (A7 Z Z (A4 ?_))));refine k1 (k2 (k3 (k2 (A2 (A6 (A5 Z) Z (D3 Z Z Z Z (C2 (A31 c.Path) Z Z Z ?_)))))));rintro _ rfl;refine L7 Z Z (A7 Z Z (A4 ?_));refine k1 ?_;refine B3 rfl (fun ht=>?_) (fun ht=>?_)
 ·have h:J1 c.Path=false:=by simpa using ht
  refine k2 (A2 (A7 Z Z (A4 ?_)));refine k1 (k10 (k12 (k11 ?_)))
  exact B4 (F3 rfl rfl rfl) (by unfold J2;rw [if_pos h])
 have h:J1 c.Path=true:=by simpa using ht
 have hpl:=A0 h
 refine k2 (A2 (A6 (A5 Z) Z (D3 Z Z Z Z (E1 Z Z Z (A3 Z Z (B0 Z Z Z Z (fun hg=>by rw [hg];exact A5 Z) ?_))))));refine B0 Z Z Z Z (fun hg=>by rw [hg];exact B2 Z Z Z) ?_;refine B0 Z Z Z Z (fun hg=>by rw [hg];exact K9 Z Z) ?_;refine F2 Z Z ?_;refine A7 Z Z (A4 ?_);refine k1 ?_;refine B3 rfl (fun ht=>?_) (fun ht=>?_)
 ·have h1:=A0 (or_pick.symm.trans ht)
  refine k2 (A2 (A7 Z Z (A4 ?_)));refine k1 (k10 (k12 (k11 ?_)))
  exact B4 (F3 rfl rfl rfl) (by unfold J2;rw [if_neg (by rw [h];decide),if_pos (by omega)])
 have h1:=A1 (or_pick.symm.trans ht)
 have hn:1≤c.Parents∧c.Parents≤32:=by omega
 refine k2 (A2 (A6 (C6 Z Z Z) Z (C2 (G84 c (by omega) hr hz) Z Z Z ?_)));rintro _ rfl;refine L7 Z Z (A7 Z Z (A4 ?_));refine k1 ?_;refine B3 rfl (fun ht=>?_) (fun ht=>?_)
 ·have h2:Z6 c.Parents.toNat c.Hunks=false:=by simpa using ht
  refine k2 (A2 (A7 Z Z (A4 ?_)));refine k1 (k10 (k12 (k11 ?_)))
  exact B4 (F3 rfl rfl rfl) (by unfold J2;rw [if_neg (by rw [h];decide),if_neg (by omega),if_pos h2])
 have h2:Z6 c.Parents.toNat c.Hunks=true:=by simpa using ht
 refine k2 (A2 (A6 (C6 Z Z Z) Z (C2 (G87 c hn hr hz) Z Z Z ?_)));rintro _ rfl;refine L7 Z Z (A7 Z Z (A4 ?_));refine k1 ?_;refine B3 rfl (fun ht=>?_) (fun ht=>?_)
 ·have h3:X1 c.Parents.toNat c.Hunks=false:=by simpa using ht
  refine k2 (A2 (A7 Z Z (A4 ?_)));refine k1 (k10 (k12 (k11 ?_)))
  exact B4 (F3 rfl rfl rfl) (by unfold J2;rw [if_neg (by rw [h];decide),if_neg (by omega),if_neg (by rw [h2];decide),if_pos h3])
 have h3:X1 c.Parents.toNat c.Hunks=true:=by simpa using ht
 refine k2 (A2 (A6 (C6 Z Z Z) Z (C2 (G88 c (F69 (by omega) hn hz hr h3)) Z Z Z ?_)));rintro _ rfl;refine A6 (K6 Z) Z (A6 (K9 Z Z) Z (A7 Z Z (A4 ?_)));refine k1 ?_;refine B3 rfl (fun ht=>?_) (fun ht=>?_)
 ·have h4:=A0 ht
  refine k2 (A2 (A7 Z Z (A4 ?_)));refine k1 (k10 (k12 (k11 ?_)))
  exact B4 (F3 rfl rfl rfl) (by unfold J2;rw [if_neg (by rw [h];decide),if_neg (by omega),if_neg (by rw [h2];decide),if_neg (by rw [h3];decide),if_pos (by omega)])
 have h4:=A1 ht
 refine k5 (k2 (A2 (A7 Z Z (A4 ?_))));refine k1 (k10 ?_)
 exact B4 (F3 rfl rfl rfl) (by unfold J2;rw [if_neg (by rw [h];decide),if_neg (by omega),if_neg (by rw [h2];decide),if_neg (by rw [h3];decide),if_neg (by omega)])
abbrev pSpan (s:Span):PV:=.agg [.v (.int .i64 s.From),.v (.int .i64 s.To)]
theorem I75 (r:Row):FnOk Tryz.prog 215 [pRow r] (fun rs=>rs=[I8 (A18 r)]):=by
 refine FnOk.intro Tryz.func215 (by decide) Z Z Z Z ?_
 refine k2 (A2 (C0 (M2 1 Z Z Z) Z (A7 Z Z (A4 ?_))));refine k1 (k2 (A2 (A6 (A5 Z) Z (D3 Z Z Z Z (L7 Z Z (A3 Z Z (B0 Z Z Z Z (fun hg=>by rw [hg];exact A5 Z) ?_)))))));refine B0 Z Z Z Z (fun hg=>by rw [hg];exact B2 Z Z Z) ?_;refine B0 Z Z Z Z (fun hg=>by rw [hg];exact J7 Z Z) ?_;refine F2 Z Z ?_;refine A7 Z Z (A4 ?_);refine k1 (k10 (B4 (F3 Z Z Z) ?_))
 unfold A18
 cases r.Lost<;>simp
theorem F70 (l:List Bool) (hl:l.length≤536870912):FnOk Tryz.prog 106 [pBools l] (fun rs=>rs=[pSpans (C28 l)]):=by
 obtain ⟨W,hW⟩:∃W,W=C28 l:=⟨_,rfl⟩
 rw [←hW]
 refine FnOk.intro Tryz.func106 (by decide) Z Z Z Z ?_
 refine k2 (A2 (A7 Z Z (A4 ?_)));refine k1 (k2 (A2 (C0 (G52 750 _ spanC Z) Z (A4 ?_))));refine k1 (k2 (k2 (A2 (A7 Z Z (A4 ?_)))));refine k1 (k3 (D1 (X:=Nat × List Span) (fun x=>([(0,C4 Bool 1 E06 l),(3,.s (.one (.mut 750))),(4,B8 x.1)],[(750,.grow 88 Span 2 spanC x.2)])) (fun x=>x.1≤l.length∧C83 x.1 x.2∧(E08 l x.1=true→x.2≠[])∧W=spGo (l.drop x.1) x.1 (E08 l x.1) x.2) (fun x=>l.length - x.1) (0,[]) ⟨Nat.zero_le _,⟨Nat.le_refl _,(fun s hs=>by cases hs)⟩,(fun h=>by cases h),hW⟩ (J58 ⟨le1 rfl,le1 rfl,le1 rfl,trivial⟩ ⟨rfl,trivial⟩) ?_))
 rintro ⟨i,out⟩ ⟨hi,hin,hne,hp⟩
 dsimp only at hi hin hne hp ⊢
 refine k2 (k2 (A2 (A3 Z Z (A3 Z Z (D9 Z Z (E1 Z Z Z (A4 ?_)))))));refine k1 ?_;refine B3 rfl (fun ht=>?_) (fun ht=>?_)
 rotate_left
 ·have hil:i=l.length:=by have:=A1 ht;omega
  rw [hil,J94 (Nat.le_refl _)] at hp
  have hp:W=out:=hp
  refine G4 (Sees.freezeG (k:=750) Z Z) ?_
  refine k6 (k2 (A2 (A3 Z Z (A7 Z Z (A4 ?_)))));refine k1 (k10 ?_)
  exact B4 (F3 rfl rfl rfl) (by rw [hp])
 have hlt:i < l.length:=by have:=A0 ht;omega
 have hv:l[i]?=some (l.getD i false):=by simp [hlt]
 rw [J07 hlt] at hp
 have hpn:E08 l (i+1)=l.getD i false:=by unfold E08;rw [if_neg (by omega)];rfl
 have hst:=I33 (l.getD i false) (E08 l i) hin
 rw [←hpn] at hp hst
 obtain ⟨b,hb⟩:∃b,b=l.getD i false:=⟨_,rfl⟩
 rw [←hb] at hv hpn
 rw [hpn] at hp hst
 have hlen:=hin.1
 cases b with
 | false =>
  rw [if_neg (by decide)] at hp hst
  refine k5 (k1 (k2 (k3 (k2 (k2 (A2 (A3 Z Z (A3 Z Z (A6 (A8 Z (.pure _ _ _ _) Z (by omega) hv) Z (A6 (B1 Z Z) Z (A3 Z Z (N9 Z Z Z (by decide) Z (N9 Z Z Z (by decide) Z (N9 Z Z Z (by decide) Z (G2 (s:=.any) Z Z Z .un Z (fun h=>absurd h (by decide)) (G2 (s:=.any) Z Z Z .un Z (fun h=>absurd h (by decide)) (G2 (s:=.any) Z Z Z .un Z (fun h=>absurd h (by decide)) (G2 (s:=.any) Z Z Z .un Z (fun h=>absurd h (by decide)) (G2 (s:=.any) Z Z Z .un Z (fun h=>absurd h (by decide)) (G2 (s:=.any) Z Z Z .un Z (fun h=>absurd h (by decide)) (N9 Z Z Z (by decide) Z (A6 (B77 Z (rfl) Z) Z (A4 ?_)))))))))))))))))))))));refine k1 ?_;refine B3 rfl (fun ht=>?_) (fun ht=>?_)
  ·cases ht
  refine k5 (k1 (k2 (A2 (A3 Z Z (A3 Z Z (A6 (A8 Z (.pure _ _ _ _) Z (by omega) hv) Z (A6 (B1 Z Z) Z (A4 ?_))))))));refine k1 ?_;refine B3 rfl (fun ht=>?_) (fun ht=>?_)
  ·cases ht
  refine k5 (k4 (k1 (A2 (A3 Z Z (C7 Z Z Z (A7 Z Z (A4 ?_)))))));refine k1 ?_
  exact ⟨(i+1,out),⟨by dsimp only;omega,hst,(fun h=>by rw [hpn] at h;cases h),by rw [hpn];exact hp⟩,by dsimp only;omega,J58 ⟨le1 rfl,le1 rfl,le1 rfl,trivial⟩ ⟨rfl,trivial⟩⟩
 | true =>
  rw [if_pos rfl] at hp hst
  have hlast:∀(q:List Span) (s:Span),q.getLast?=some s→q[((q.length:Int) - 1).toNat]?=some s∧∀v:Int,q.set (((q.length:Int) - 1).toNat) ⟨s.From,v⟩=B64 q v:=by
   intro q s hq
   have hqne:q≠[]:=fun e=>by rw [e] at hq;cases hq
   have hq1:=List.length_pos_iff.2 hqne
   rw [show ((q.length:Int) - 1).toNat=q.length - 1 by omega]
   refine ⟨by rw [←List.getLast?_eq_getElem?];exact hq,fun v=>?_⟩
   unfold B64
   rw [hq]
   dsimp only
   have hd:=List.dropLast_concat_getLast hqne
   conv=>lhs;rw [←hd]
   rw [List.set_append_right _ _ (by rw [List.length_dropLast,J86,List.length_dropLast];simp)]
   simp
  by_cases hpv:E08 l i=true
  ·rw [if_pos hpv] at hp hst
   have hne:=hne hpv
   obtain ⟨s,hs⟩:∃s,out.getLast?=some s:=⟨_,List.getLast?_eq_some_getLast hne⟩
   obtain ⟨hv2,hset⟩:=hlast out s hs
   have hset:=hset ((i:Int)+1)
   have hi0:i≠0:=fun e=>by rw [e] at hpv;cases hpv
   have hvp:l[((i:Int) - 1).toNat]?=some true:=by
    unfold E08 at hpv
    rw [if_neg hi0] at hpv
    rw [show ((i:Int) - 1).toNat=i - 1 by omega,←hpv]
    simp [show i - 1 < l.length by omega]
   have h0:decide ((i:Int)=0)=false:=decide_eq_false (by omega)
   have hq1:=List.length_pos_iff.2 hne
   refine k5 (k1 (k2 (k3 (k2 (k2 (A2 (A3 Z Z (A3 Z Z (A6 (A8 Z (.pure _ _ _ _) Z (by omega) hv) Z (A6 (B1 Z Z) Z (A3 Z Z (N0 Z Z Z Z (A3 Z Z (N0 Z Z Z Z (A6 (J7 Z Z) Z (N0 Z Z Z Z (A3 Z Z (N0 Z Z Z h0 (A3 Z Z (N0 Z Z Z h0 (A3 Z Z (N0 Z Z Z h0 (A6 (I5 Z Z (by omega)) Z ?_)))))))))))))))))))))));refine N0 Z Z Z h0 (A6 (A8 Z (.pure _ _ _ _) Z (by omega) hvp) Z (N0 Z Z Z h0 (A6 (B1 Z Z) Z (N0 Z Z Z h0 (L7 Z Z (N0 Z Z Z Z (A6 (B77 Z (h0) Z) Z (A6 (A67 Z (rfl) Z) Z (A4 ?_)))))))));refine k1 ?_;refine B3 rfl (fun ht=>?_) (fun ht=>?_)
   ·cases ht
   refine k5 (k1 (k2 (A2 (A3 Z Z (A3 Z Z (A6 (A8 Z (.pure _ _ _ _) Z (by omega) hv) Z (A6 (B1 Z Z) Z (A4 ?_))))))));refine k1 ?_;refine B3 rfl (fun ht=>?_) (fun ht=>?_)
   rotate_left
   ·cases ht
   skip
   refine A2 (A3 Z Z (A3 Z Z (A6 (C95 Z Z) Z (A6 (I5 Z Z (by omega)) Z (A3 Z Z (C7 Z Z Z (A6 (I3 Z Z Z (by omega) (by omega)) Z (A6 (I7 Z) Z (E2 (d5 (⟨s.From,(i:Int)+1⟩) TySz.out Z Z hv2 Z Z Z Z (fun _ _ _ h=>l4 h) (by intro j h1 h2;rcases j with _ | _ | _ | _ | _ | _ | _ | j<;>first | rfl | omega)) ?_)))))))));refine A4 ?_
   rw [hset]
   refine k4 (k1 (A2 (A3 Z Z (C7 Z Z Z (A7 Z Z (A4 ?_))))));refine k1 ?_;refine ⟨(i+1,B64 out ((i:Int)+1)),⟨by dsimp only;omega,hst,(fun _ h=>?_),by rw [hpn];exact hp⟩,by dsimp only;omega,J58 ⟨le1 rfl,le1 rfl,le1 rfl,trivial⟩ ⟨rfl,trivial⟩⟩
   dsimp only at h
   unfold B64 at h
   rw [hs] at h
   simp at h
  ·rw [if_neg hpv] at hp hst
   obtain ⟨o2,ho2⟩:∃o2,o2=out++[(⟨i,i⟩:Span)]:=⟨_,rfl⟩
   obtain ⟨hv2,hset⟩:=hlast o2 ⟨i,i⟩ (by rw [ho2];simp)
   have hset:=hset ((i:Int)+1)
   have ho2l:o2.length=out.length+1:=by rw [ho2];simp
   rw [←ho2] at hp hst
   have hne2:B64 o2 ((i:Int)+1)≠[]:=by rw [←hset];intro h;have:=congrArg List.length h;rw [K38,J89] at this;omega
   by_cases hi0:i=0
   ·have h0:decide ((i:Int)=0)=true:=decide_eq_true (by omega)
    refine k5 (k1 (k2 (k3 (k2 (k2 (A2 (A3 Z Z (A3 Z Z (A6 (A8 Z (.pure _ _ _ _) Z (by omega) hv) Z (A6 (B1 Z Z) Z (A3 Z Z (N0 Z Z Z Z (A3 Z Z (N0 Z Z Z Z (A6 (J7 Z Z) Z (N0 Z Z Z Z (A3 Z Z (N9 Z Z Z (by rw [h0];decide) Z ?_))))))))))))))))));refine N9 Z Z Z (by rw [h0];decide) Z ?_;refine N9 Z Z Z (by rw [h0];decide) Z ?_;refine N9 Z Z Z (by rw [h0];decide) Z ?_;refine N9 Z Z Z (by rw [h0];decide) Z ?_;refine N9 Z Z Z (by rw [h0];decide) Z ?_;refine N0 Z Z Z Z (A6 (A67 Z (h0) Z) Z (A6 (A67 Z (rfl) Z) Z (A4 ?_)));refine k1 ?_;refine B3 rfl (fun ht=>?_) (fun ht=>?_)
    rotate_left
    ·cases ht
    skip
    refine A2 (A3 Z Z (A3 Z Z (A3 Z Z (A6 (E6 Z) Z (A6 (C9 (c:=spanC) (ys:=[⟨i,i⟩]) (D8 Z Z Z Z F1) Z Z Z) Z (C0 (A65 Z Z Z (.pure _ _ _ _) (by (simp;omega)) Z) Z (A7 Z Z (A4 ?_))))))))
    rw [←ho2]
    refine k1 (k2 (A2 (A3 Z Z (A3 Z Z (A6 (A8 Z (.pure _ _ _ _) Z (by omega) hv) Z (A6 (B1 Z Z) Z (A4 ?_)))))));refine k1 ?_;refine B3 rfl (fun ht=>?_) (fun ht=>?_)
    rotate_left
    ·cases ht
    skip
    refine A2 (A3 Z Z (A3 Z Z (A6 (C95 Z Z) Z (A6 (I5 Z Z (by omega)) Z (A3 Z Z (C7 Z Z Z (A6 (I3 Z Z Z (by omega) (by omega)) Z (A6 (I7 Z) Z (E2 (d5 (⟨i,(i:Int)+1⟩) TySz.out Z Z hv2 Z Z Z Z (fun _ _ _ h=>l4 h) (by intro j h1 h2;rcases j with _ | _ | _ | _ | _ | _ | _ | j<;>first | rfl | omega)) ?_)))))))));refine A4 ?_
    rw [hset]
    refine k4 (k1 (A2 (A3 Z Z (C7 Z Z Z (A7 Z Z (A4 ?_))))));refine k1 ?_
    exact ⟨(i+1,B64 o2 ((i:Int)+1)),⟨by dsimp only;omega,hst,(fun _=>hne2),by rw [hpn];exact hp⟩,by dsimp only;omega,J58 ⟨le1 rfl,le1 rfl,le1 rfl,trivial⟩ ⟨rfl,trivial⟩⟩
   ·have h0:decide ((i:Int)=0)=false:=decide_eq_false (by omega)
    have hvp:l[((i:Int) - 1).toNat]?=some false:=by
     unfold E08 at hpv
     rw [if_neg hi0] at hpv
     rw [show ((i:Int) - 1).toNat=i - 1 by omega]
     have hlt2:i - 1 < l.length:=by omega
     rw [J91,J88 hlt2] at hpv
     rw [J88 hlt2]
     simpa using hpv
    refine k5 (k1 (k2 (k3 (k2 (k2 (A2 (A3 Z Z (A3 Z Z (A6 (A8 Z (.pure _ _ _ _) Z (by omega) hv) Z (A6 (B1 Z Z) Z (A3 Z Z (N0 Z Z Z Z (A3 Z Z (N0 Z Z Z Z (A6 (J7 Z Z) Z (N0 Z Z Z Z (A3 Z Z (N0 Z Z Z h0 (A3 Z Z (N0 Z Z Z h0 (A3 Z Z (N0 Z Z Z h0 (A6 (I5 Z Z (by omega)) Z ?_)))))))))))))))))))))));refine N0 Z Z Z h0 (A6 (A8 Z (.pure _ _ _ _) Z (by omega) hvp) Z (N0 Z Z Z h0 (A6 (B1 Z Z) Z (N0 Z Z Z h0 (L7 Z Z (N0 Z Z Z Z (A6 (B77 Z (h0) Z) Z (A6 (A67 Z (rfl) Z) Z (A4 ?_)))))))));refine k1 ?_;refine B3 rfl (fun ht=>?_) (fun ht=>?_)
    rotate_left
    ·cases ht
    skip
    refine A2 (A3 Z Z (A3 Z Z (A3 Z Z (A6 (E6 Z) Z (A6 (C9 (c:=spanC) (ys:=[⟨i,i⟩]) (D8 Z Z Z Z F1) Z Z Z) Z (C0 (A65 Z Z Z (.pure _ _ _ _) (by (simp;omega)) Z) Z (A7 Z Z (A4 ?_))))))))
    rw [←ho2]
    refine k1 (k2 (A2 (A3 Z Z (A3 Z Z (A6 (A8 Z (.pure _ _ _ _) Z (by omega) hv) Z (A6 (B1 Z Z) Z (A4 ?_)))))));refine k1 ?_;refine B3 rfl (fun ht=>?_) (fun ht=>?_)
    rotate_left
    ·cases ht
    skip
    refine A2 (A3 Z Z (A3 Z Z (A6 (C95 Z Z) Z (A6 (I5 Z Z (by omega)) Z (A3 Z Z (C7 Z Z Z (A6 (I3 Z Z Z (by omega) (by omega)) Z (A6 (I7 Z) Z (E2 (d5 (⟨i,(i:Int)+1⟩) TySz.out Z Z hv2 Z Z Z Z (fun _ _ _ h=>l4 h) (by intro j h1 h2;rcases j with _ | _ | _ | _ | _ | _ | _ | j<;>first | rfl | omega)) ?_)))))))));refine A4 ?_
    rw [hset]
    refine k4 (k1 (A2 (A3 Z Z (C7 Z Z Z (A7 Z Z (A4 ?_))))));refine k1 ?_
    exact ⟨(i+1,B64 o2 ((i:Int)+1)),⟨by dsimp only;omega,hst,(fun _=>hne2),by rw [hpn];exact hp⟩,by dsimp only;omega,J58 ⟨le1 rfl,le1 rfl,le1 rfl,trivial⟩ ⟨rfl,trivial⟩⟩
theorem J35 (t:Table) (hr:I2 t.Rows) (hl:t.Rows.length≤268435456) (hx:N7 t.Rows≤536870912):FnOk Tryz.prog 171 [pTable t] (fun rs=>rs=[pSpans (s9 t).1,E5 (s9 t).2]):=by
 refine FnOk.intro Tryz.func171 (by decide) Z Z Z Z ?_
 refine k2 (A2 (C0 (M2 1 Z Z Z) Z (A7 Z Z (A7 Z Z (A4 ?_)))));refine k1 (k2 (k2 (A2 (A6 (C6 Z Z Z) Z (C2 (C64 t hr (by omega) hx) Z Z Z ?_)))));rintro _ rfl;refine A7 Z Z (A4 ?_);refine k1 (k2 (A2 (A3 Z Z (A6 (H9 Z Z) Z (A4 ?_)))));refine k1 ?_;refine B3 rfl (fun ht=>?_) (fun ht=>?_)
 ·have h:=A0 ht
  refine k2 (A2 (A3 Z Z (A6 (K5 _ 2 spanC) Z (A7 Z Z (A4 ?_)))));refine k1 (k10 (k11 ?_))
  exact B4 (U7 rfl rfl rfl rfl rfl) (by unfold s9;rw [if_pos h])
 have h:=A1 ht
 refine k5 (k1 (k2 (A2 (C0 (R7 751 _ E06 Z) Z (A4 ?_)))));refine k1 (k2 (k2 (A2 (A7 Z Z (A4 ?_)))));refine k1 (k3 (D1 (X:=Nat) (fun i=>([(1,.s (.one (.ref 1 0))),(5,.s (.one (.buf 751 Bool 1 E06 ((t.Rows.take i).map fun r=>!A18 r)))),(6,B8 i)],[(1,.box (pTable t).s1.cells),(751,.spare ((t.Rows.take i).map fun r=>!A18 r).length 1 4)])) (fun i=>i≤t.Rows.length) (fun i=>t.Rows.length - i) 0 (Nat.zero_le _) (J58 ⟨le1 rfl,le1 rfl,le1 rfl,trivial⟩ ⟨rfl,rfl,trivial⟩) ?_))
 intro i hi
 dsimp only at hi ⊢
 have hml:((t.Rows.take i).map fun r=>!A18 r).length=i:=by simp;omega
 refine k2 (k2 (A2 (A3 Z Z (A6 (A5 Z) Z (D3 Z Z Z Z (D9 Z Z (E1 Z Z Z (A4 ?_))))))));refine k1 ?_;refine B3 rfl (fun ht=>?_) (fun ht=>?_)
 ·have hlt:i < t.Rows.length:=by have:=A0 ht;omega
  have hv:t.Rows[i]?=some t.Rows[i]:=by simp [hlt]
  have hst:((t.Rows.take (i+1)).map fun r=>!A18 r)=((t.Rows.take i).map fun r=>!A18 r)++[!A18 t.Rows[i]]:=by
   rw [J93 hlt];simp only [K00,J95,K17]
  obtain ⟨r,hrr⟩:∃r,r=t.Rows[i]:=⟨_,rfl⟩
  rw [←hrr] at hv hst
  refine k5 (k1 (k2 (k3 (A2 (A3 Z Z (A6 (A5 Z) Z (D3 Z Z Z Z (A3 Z Z (A6 (A8 Z (.pure _ _ _ _) Z (by omega) hv) Z (A6 (C8 Z Z) Z (C2 (I75 r) Z Z Z ?_)))))))))));rintro _ rfl;refine L7 Z Z (A6 (C9 (c:=E06) (ys:=[!A18 r]) (D8 Z Z Z Z F1) Z Z Z) Z (C0 (F8 Z Z Z (.pure _ _ _ _) (by (rw [hml];simp only [J87,J89];omega)) Z) Z ?_));refine A7 Z Z (A4 ?_);refine k4 (k1 (A2 (A3 Z Z (C7 Z Z Z (A7 Z Z (A4 ?_))))));refine k1 ?_;refine ⟨i+1,by omega,by omega,?_⟩
  rw [hst]
  exact J58 ⟨le1 rfl,le1 rfl,le1 rfl,trivial⟩ ⟨rfl,rfl,trivial⟩
 ·have hil:i=t.Rows.length:=by have:=A1 ht;omega
  rw [hil,J98]
  have hml2:(t.Rows.map fun r=>!A18 r).length=t.Rows.length:=by simp
  refine k6 (k2 (A2 (A3 Z Z (C2 (F70 (t.Rows.map fun r=>!A18 r) (by omega)) Z Z Z ?_))));rintro _ rfl;refine A7 Z Z (A7 Z Z (A4 ?_));refine k1 (k10 ?_)
  exact B4 (U7 rfl rfl rfl rfl rfl) (by unfold s9;rw [if_neg h])
theorem I76 (t:Table) (s:Span) (hn:0≤t.Parents∧t.Parents≤64) (h1:0≤s.From∧s.From≤t.Rows.length) (h2:0≤s.To∧s.To≤t.Rows.length) (hl:t.Rows.length≤268435456) :
  FnOk Tryz.prog 172 [pTable t,pSpan s] (fun rs=>rs=[I8 (A94 t s)]):=by
 obtain ⟨F,hF⟩:∃F:Nat,s.From=F:=⟨s.From.toNat,by omega⟩
 obtain ⟨T,hT⟩:∃T:Nat,s.To=T:=⟨s.To.toNat,by omega⟩
 obtain ⟨R,hR⟩:∃R,R=(t.Rows.drop F).take (T - F):=⟨_,rfl⟩
 have hRl:R.length=T - F:=by rw [hR,K03,K08];omega
 have hD:A94 t s=(List.range t.Parents.toNat).all fun p=>!decide (D30 R / 2 ^ p % 2=0):=by unfold A94;rw [hF,hT,J97,J97,←hR]
 have hain:∀q:List Row,0≤D30 q∧D30 q < 4294967296:=by
  have key:∀(q:List Row) (a:Int),(0≤a∧a < 4294967296)→0≤q.foldl (fun a r=>l6 a r.Marks) a∧q.foldl (fun a r=>l6 a r.Marks) a < 4294967296:=by
   intro q
   induction q with
   | nil=>intro a h;exact h
   | cons x r ih=>intro a _;exact ih _ (E77 _)
  exact fun q=>key q 0 (by decide)
 refine FnOk.intro Tryz.func172 (by decide) Z Z Z Z ?_
 refine k2 (A2 (C0 (M2 2 Z Z Z) Z (C0 (M2 3 Z Z Z) Z (A7 Z Z (A4 ?_)))));refine k1 (k2 (A2 (A7 Z Z (A4 ?_))));refine k1 (k2 (k2 (A2 (A6 (A5 Z) Z (D3 Z Z Z Z (A7 Z Z (A4 ?_)))))));refine k1 (k3 ?_)
 rw [hF]
 refine D1 (X:=Nat) (fun k=>([(2,.s (.one (.ref 2 0))),(3,.s (.one (.ref 3 0))),(5,K4 (.int .u32 (D30 (R.take k)))),(6,B8 ((F+k:Nat):Int))],[(2,.box (pTable t).s1.cells),(3,.box (pSpan s).s1.cells)])) (fun k=>k≤R.length) (fun k=>R.length - k) 0 (Nat.zero_le _) (J58 ⟨le1 rfl,le1 rfl,le1 rfl,le1 rfl,trivial⟩ ⟨rfl,rfl,trivial⟩) ?_
 intro k hk
 dsimp only at hk ⊢
 refine k2 (k2 (A2 (A3 Z Z (A6 (A5 Z) Z (D3 Z Z Z Z (E1 Z Z Z (A4 ?_)))))));refine k1 ?_;refine B3 rfl (fun ht=>?_) (fun ht=>?_)
 ·have hlt:k < R.length:=by have:=A0 ht;omega
  have hv:t.Rows[((F+k:Nat):Int).toNat]?=some R[k]:=by
   have e1:R[k]?=some R[k]:=by simp
   have e2:R[k]?=t.Rows[F+k]?:=by rw [hR,K05 (by omega),K12]
   rw [J97,←e2]
   exact e1
  have hst:D30 (R.take (k+1))=l6 (D30 (R.take k)) R[k].Marks:=by
   unfold D30
   rw [J93 hlt,K26];rfl
  obtain ⟨r,hrr⟩:∃r,r=R[k]:=⟨_,rfl⟩
  rw [←hrr] at hv hst
  refine k5 (k1 (k2 (k3 (A2 (A3 Z Z (A6 (A5 Z) Z (D3 Z Z Z Z (A3 Z Z (A6 (A8 Z (.pure _ _ _ _) Z (by omega) hv) Z (A6 (C1 Z) Z (A6 (B1 Z Z) Z (A6 (r9 Z Z Z (fun _=>rfl)) Z (A7 Z Z (A4 ?_))))))))))))));refine k4 (k1 (A2 (A3 Z Z (C7 Z Z Z (A7 Z Z (A4 ?_))))));refine k1 ?_;refine ⟨k+1,by omega,by omega,?_⟩
  rw [hst,show ((F+(k+1):Nat):Int)=((F+k:Nat):Int)+1 by omega]
  exact J58 ⟨le1 rfl,le1 rfl,le1 rfl,le1 rfl,trivial⟩ ⟨rfl,rfl,trivial⟩
 have hkl:k=R.length∨True:=.inr trivial
 have hT2:(T:Int)≤((F+k:Nat):Int):=by have:=A1 ht;omega
 have hkR:R.take k=R:=K25 (by omega)
 rw [hkR]
 obtain ⟨A,hA⟩:∃A,A=D30 R:=⟨_,rfl⟩
 have hAin:=hain R
 rw [←hA] at hAin hD ⊢
 obtain ⟨n,hn2⟩:∃n:Nat,t.Parents=n:=⟨t.Parents.toNat,by omega⟩
 rw [hn2,J97] at hD
 refine k6 (k2 (k2 (A2 (A7 Z Z (A4 ?_)))));refine k1 (k3 (D1 (X:=Nat) (fun p=>([(2,.s (.one (.ref 2 0))),(5,K4 (.int .u32 A)),(7,B8 p)],[(2,.box (pTable t).s1.cells)])) (fun p=>p≤n∧∀q,q < p→¬A / 2 ^ q % 2=0) (fun p=>n - p) 0 ⟨Nat.zero_le _,fun q hq=>by omega⟩ (J58 ⟨le1 rfl,le1 rfl,le1 rfl,trivial⟩ ⟨rfl,trivial⟩) ?_))
 rintro p ⟨hp,hq⟩
 dsimp only at hp hq ⊢
 refine k2 (k2 (A2 (A3 Z Z (A6 (A5 Z) Z (D3 Z Z Z Z (E1 Z Z Z (A4 ?_)))))));refine k1 ?_;refine B3 rfl (fun ht=>?_) (fun ht=>?_)
 ·have hlt:p < n:=by have:=A0 ht;omega
  have hu:=C71 (n:=(p:Int)) (by omega)
  have h3:0≤A / 2 ^ p:=Int.ediv_nonneg hAin.1 (Int.pow_nonneg (by decide))
  have h4:A / 2 ^ p≤A:=Int.ediv_le_self _ hAin.1
  have e1:=D12 (A / 2 ^ p) (by omega)
  have e32:A.fdiv (2 ^ (min (p:Int).toNat IntKind.u32.bits))=A / 2 ^ p∨32 < p:=by
   by_cases h:p≤32
   ·exact .inl (F77 A p (by omega))
   ·exact .inr (by omega)
  have e33:A.fdiv (2 ^ (min (p:Int).toNat IntKind.u32.bits))=A / 2 ^ p:=by
   rcases e32 with h | h
   ·exact h
   ·have h5:min (p:Int).toNat IntKind.u32.bits=32:=by rw [J97];exact Nat.min_eq_right (by show 32≤p;omega)
    rw [h5,Int.fdiv_eq_ediv_of_nonneg _ (Int.pow_nonneg (by decide))]
    have h6:A / 2 ^ 32=0:=Int.ediv_eq_zero_of_lt hAin.1 (by have:(2:Int) ^ 32=4294967296:=rfl;omega)
    have h7:A / 2 ^ p=0:=Int.ediv_eq_zero_of_lt hAin.1 (by
     have h8:(2:Nat) ^ 32≤2 ^ p:=Nat.pow_le_pow_right (by decide) (by omega)
     have h9:((2 ^ p:Nat):Int)=2 ^ p:=by simp
     have h10:(2:Nat) ^ 32=4294967296:=rfl
     omega)
    rw [h6,h7]
  refine k5 (k1 (k2 (k3 (k2 (A2 (A3 Z Z (A3 Z Z (A6 (O0 Z) Z (A6 (B59 Z Z (by (rw [hu];omega))) Z ?_)))))))));refine A6 (r9 Z Z Z (fun _=>rfl)) Z (A6 (J7 Z Z) Z (A4 ?_))
  rw [hu,e33,e1]
  refine k1 ?_;refine B3 rfl (fun ht=>?_) (fun ht=>?_)
  ·have h:=A0 ht
   refine k2 (A2 (A7 Z Z (A4 ?_)));refine k1 (k10 (k12 (k11 (k11 (k12 (k11 (B4 (rs:=[I8 false]) (F3 Z Z Z) ?_)))))))
   rw [hD,Eq.comm]
   congr 3
   rw [Bool.eq_false_iff]
   intro hall
   have:=List.all_eq_true.1 hall p (List.mem_range.2 hlt)
   simp [h] at this
  ·have h:=A1 ht
   refine k5 (k4 (k1 (A2 (A3 Z Z (C7 Z Z Z (A7 Z Z (A4 ?_)))))));refine k1 ?_;refine ⟨p+1,⟨by omega,fun q hq2=>?_⟩,by omega,J58 ⟨le1 rfl,le1 rfl,le1 rfl,trivial⟩ ⟨rfl,trivial⟩⟩
   by_cases e:q=p
   ·subst e;exact h
   ·exact hq q (by omega)
 ·have hpn:p=n:=by have:=A1 ht;omega
  subst hpn
  refine k6 (k2 (A2 (A7 Z Z (A4 ?_))));refine k1 (k10 (B4 (rs:=[I8 true]) (F3 Z Z Z) ?_))
  rw [hD,Eq.comm]
  congr 3
  rw [List.all_eq_true]
  intro q hq2
  have:=hq q (List.mem_range.1 hq2)
  simp [this]
theorem J36 {t:Table} (h:(s9 t).2=0):M6 t=0∧(1≤t.Parents∧t.Parents≤32):=by
 unfold s9 at h
 by_cases hc:M6 t=0
 ·refine ⟨hc,?_⟩
  unfold M6 at hc
  split at hc
  ·cases hc
  ·omega
 ·rw [if_pos hc] at h;exact absurd h hc
theorem G89 {α:Type} (L:List α) (p:α→Bool) (k:Nat) (h:k < L.length):(L.take (k+1)).filter p=(L.take k).filter p++if p L[k]=true then [L[k]] else []:=by
 rw [J93 h,K34]
 congr 1
 rw [List.filter_cons];split<;>rfl
theorem E12 (t:Table) (d:Bool) (hr:I2 t.Rows) (hl:t.Rows.length≤134217728) (hx:N7 t.Rows≤536870912) :
  FnOk Tryz.prog 105 [pTable t,I8 d] (fun rs=>rs=[pSpans (M4 t d).1,E5 (M4 t d).2]):=by
 refine FnOk.intro Tryz.func105 (by decide) Z Z Z Z ?_
 refine k2 (A2 (C0 (M2 2 Z Z Z) Z (A7 Z Z (A7 Z Z (A4 ?_)))));refine k1 (k2 (A2 (A6 (C6 Z Z Z) Z (C2 (J35 t hr (by omega) hx) Z Z Z ?_))));rintro _ rfl;refine A3 Z Z (F5 Z Z Z (F5 Z Z Z (A7 Z Z (A7 Z Z (A4 ?_)))));refine k1 (k2 (k2 (A2 (A3 Z Z (A6 (H9 Z Z) Z (A4 ?_))))));refine k1 ?_;refine B3 rfl (fun ht=>?_) (fun ht=>?_)
 ·have h:=A0 ht
  refine k2 (A2 (A3 Z Z (A6 (K5 _ 2 spanC) Z (A7 Z Z (A4 ?_)))));refine k1 (k10 (k11 ?_))
  exact B4 (U7 rfl rfl rfl rfl rfl) (by unfold M4;rw [if_pos h])
 have h:=A1 ht
 have h0:(s9 t).2=0:=by omega
 have hres:M4 t d=((s9 t).1.filter fun s=>!d||A94 t s,0):=by unfold M4;rw [if_neg (by omega)]
 rw [hres]
 obtain ⟨_,hn1,hn2⟩:=J36 h0
 obtain ⟨L,hL⟩:∃L,L=(s9 t).1:=⟨_,rfl⟩
 have hin:=I35 t
 rw [←hL] at hin ⊢
 obtain ⟨hin1,hin2⟩:=hin
 obtain ⟨p,hp⟩:∃p:Span→Bool,p=fun s=>!d||A94 t s:=⟨_,rfl⟩
 rw [←hp]
 refine k5 (k1 (k2 (A2 (C0 (R7 752 _ spanC Z) Z (A4 ?_)))));refine k1 (k2 (k2 (A2 (A7 Z Z (A4 ?_)))));refine k1 (k3 (D1 (X:=Nat) (fun k=>([(1,S6 d),(2,.s (.one (.ref 2 0))),(6,C4 Span 2 spanC L),(8,.s (.one (.buf 752 Span 2 spanC ((L.take k).filter p)))),(9,B8 k)],[(2,.box (pTable t).s1.cells),(752,.spare ((L.take k).filter p).length 2 88)])) (fun k=>k≤L.length) (fun k=>L.length - k) 0 (Nat.zero_le _) (J58 ⟨le1 rfl,le1 rfl,le1 rfl,le1 rfl,le1 rfl,trivial⟩ ⟨rfl,rfl,trivial⟩) ?_))
 intro k hk
 dsimp only at hk ⊢
 have hfl:=List.length_filter_le p (L.take k)
 have htl:(L.take k).length=k:=by rw [K03];omega
 refine k2 (k2 (A2 (A3 Z Z (A3 Z Z (D9 Z Z (E1 Z Z Z (A4 ?_)))))));refine k1 ?_;refine B3 rfl (fun ht=>?_) (fun ht=>?_)
 rotate_left
 ·have hkl:k=L.length:=by have:=A1 ht;omega
  rw [hkl,J98]
  refine k6 (k2 (A2 (A3 Z Z (A7 Z Z (A7 Z Z (A4 ?_))))));refine k1 (k10 ?_)
  exact B4 (U7 rfl rfl rfl rfl rfl) rfl
 have hlt:k < L.length:=by have:=A0 ht;omega
 have hst:=G89 L p k hlt
 have hv:L[k]?=some L[k]:=by simp [hlt]
 have hs:=hin2 _ (J96 hlt)
 obtain ⟨s,hsd⟩:∃s,s=L[k]:=⟨_,rfl⟩
 rw [←hsd] at hst hv hs
 have hps:p s=(!d||A94 t s):=by rw [hp]
 refine k5 (k1 (k2 (k3 (k2 (C5 (by kernel_rfl) (by kernel_rfl) (C3 Z Z (A9 (Y0 Z) Z Z (C3 Z Z (B9 Z Z (fun hg=>by rw [hg];exact C6 Z Z Z) Z Z ?_)))))))));refine B9 Z Z (fun hg=>by rw [hg];exact B5 Z Z) Z Z ?_;refine B9 Z Z (fun hg=>by rw [hg];exact B5 Z Z) Z Z ?_;refine B9 Z Z (fun hg=>by have hq:=hg;(try simp at hq);rw [hg];exact A8 Z (.pure _ _ _ _) Z (by omega) hv) Z Z ?_;refine B9 Z Z (fun hg=>by rw [hg];exact C8 Z Z) Z Z ?_;refine B9 Z Z (fun hg=>by have hq:=hg;(try simp at hq);rw [hg];exact E3 (I76 t s (by omega) hs.1 hs.2 (by omega)) Z Z) Z Z ?_;refine A9 (G7 Z (fun h=>by first | rfl | (rw [h];rfl)) (fun h=>by first | rfl | (rw [h];rfl))) Z Z ?_;refine G5 ?_;refine k1 ?_;refine B3 rfl (fun ht=>?_) (fun ht=>?_)
 ·have hpt:p s=true:=by rw [hps];cases d<;>simp_all
  rw [if_pos hpt] at hst
  skip
  refine A2 (A3 Z Z (A3 Z Z (A3 Z Z (A6 (A8 Z (.pure _ _ _ _) Z (by omega) hv) Z (A6 (C8 Z Z) Z (A6 (C9 (c:=spanC) (ys:=[s]) (D8 Z Z Z Z F1) Z Z Z) Z (C0 (F8 Z Z Z (.pure _ _ _ _) (by (simp only [J87,J89];omega)) Z) Z (A7 Z Z (A4 ?_)))))))));refine k4 (k1 (A2 (A3 Z Z (C7 Z Z Z (A7 Z Z (A4 ?_))))));refine k1 ?_;refine ⟨k+1,by omega,by omega,?_⟩
  rw [hst]
  exact J58 ⟨le1 rfl,le1 rfl,le1 rfl,le1 rfl,le1 rfl,trivial⟩ ⟨rfl,rfl,trivial⟩
 ·have hpt:¬p s=true:=by rw [hps];cases d<;>simp_all
  rw [if_neg hpt,K06] at hst
  refine k5 (k4 (k1 (A2 (A3 Z Z (C7 Z Z Z (A7 Z Z (A4 ?_)))))));refine k1 ?_;refine ⟨k+1,by omega,by omega,?_⟩
  rw [hst]
  exact J58 ⟨le1 rfl,le1 rfl,le1 rfl,le1 rfl,le1 rfl,trivial⟩ ⟨rfl,rfl,trivial⟩
def C30 (L:List Span) (ctx:Int) (i k q:Nat):Bool:=if q < i then t6 L ctx q else if q=i then t6 (L.take k) ctx i else false
theorem I77 (L:List Span) (ctx:Int) (n:Nat):List.replicate n false=(List.range n).map (C30 L ctx 0 0):=by
 refine List.ext_getElem (by simp) fun q h1 h2=>?_
 simp only [List.getElem_replicate,List.getElem_map,List.getElem_range]
 unfold C30
 rw [if_neg (by omega)]
 split<;>simp [t6]
theorem I78 (L:List Span) (ctx:Int) (i n:Nat):(List.range n).map (C30 L ctx i L.length)=(List.range n).map (C30 L ctx (i+1) 0):=by
 refine List.map_congr_left fun q _=>?_
 unfold C30
 rw [J98]
 by_cases h1:q < i
 ·rw [if_pos h1,if_pos (by omega)]
 ·rw [if_neg h1]
  by_cases h2:q=i
  ·rw [if_pos h2,if_pos (by omega),h2]
  ·rw [if_neg h2,if_neg (by omega)]
   split<;>simp [t6]
theorem I79 (L:List Span) (ctx:Int) (n:Nat):(List.range n).map (C30 L ctx n 0)=(List.range n).map (t6 L ctx):=by
 refine List.map_congr_left fun q hq=>?_
 unfold C30
 rw [if_pos (by simpa using hq)]
theorem G90 (L:List Span) (ctx:Int) (i k:Nat) (h:k < L.length):t6 (L.take (k+1)) ctx i=(t6 (L.take k) ctx i||decide (L[k].From - ctx≤i∧(i:Int) < L[k].To+ctx)):=by
 unfold t6
 rw [J93 h,List.any_append];simp
theorem G91 (t:Table) (ctx:Int) (d:Bool) (hr:I2 t.Rows) (hl:t.Rows.length≤134217728) (hx:N7 t.Rows≤536870912) :
  FnOk Tryz.prog 49 [pTable t,E5 ctx,I8 d] (fun rs=>rs=[pSpans (Z7 t ctx d).1,E5 (Z7 t ctx d).2]):=by
 refine FnOk.intro Tryz.func49 (by decide) Z Z Z Z ?_
 refine k2 (A2 (C0 (M2 3 Z Z Z) Z (A7 Z Z (A7 Z Z (A4 ?_)))));refine k1 (k2 (A2 (A6 (C6 Z Z Z) Z (A3 Z Z (C2 (E12 t d hr hl hx) Z Z Z ?_)))));rintro _ rfl;refine A3 Z Z (F5 Z Z Z (F5 Z Z Z (A7 Z Z (A7 Z Z (A4 ?_)))));refine k1 (k2 (k2 (A2 (A3 Z Z (A6 (H9 Z Z) Z (A4 ?_))))));refine k1 ?_;refine B3 rfl (fun ht=>?_) (fun ht=>?_)
 ·have h:=A0 ht
  refine k2 (A2 (A3 Z Z (A6 (K5 _ 2 spanC) Z (A7 Z Z (A4 ?_)))));refine k1 (k10 (k11 ?_))
  exact B4 (U7 rfl rfl rfl rfl rfl) (by unfold Z7;rw [if_pos h])
 have h:=A1 ht
 refine k5 (k1 (k2 (k2 (A2 (A3 Z Z (E1 Z Z Z (A3 Z Z (B0 Z Z Z Z (fun hg=>by rw [hg];exact B5 Z Z) ?_))))))));refine B0 Z Z Z Z (fun hg=>by rw [hg];exact K9 Z Z) ?_;refine F2 Z Z ?_;refine A4 ?_;refine k1 ?_;refine B3 rfl (fun ht=>?_) (fun ht=>?_)
 ·have h1:=A0 (or_pick.symm.trans ht)
  refine k2 (A2 (A6 (K5 _ 2 spanC) Z (A7 Z Z (A4 ?_))));refine k1 (k10 (k11 ?_))
  exact B4 (U7 rfl rfl rfl rfl rfl) (by unfold Z7;rw [if_neg h,if_pos (by omega)])
 have h1:=A1 (or_pick.symm.trans ht)
 have hres:Z7 t ctx d=(C28 ((List.range t.Rows.length).map (t6 (M4 t d).1 ctx)),0):=by unfold Z7;rw [if_neg h,if_neg (by omega)]
 rw [hres]
 obtain ⟨L,hL⟩:∃L,L=(M4 t d).1:=⟨_,rfl⟩
 have hin:=F09 t d
 rw [←hL] at hin ⊢
 obtain ⟨hin1,hin2⟩:=hin
 obtain ⟨n,hn⟩:∃n,n=t.Rows.length:=⟨_,rfl⟩
 rw [←hn] at hin1 hin2 hl ⊢
 refine O9 [(1,B8 ctx),(3,.s (.one (.ref 3 0))),(8,C4 Span 2 spanC L)] [(3,.box (pTable t).s1.cells)] (J58 ⟨le1 rfl,le1 rfl,le1 rfl,trivial⟩ ⟨rfl,trivial⟩) ?_
 refine k5 (k1 (k2 (A2 (A6 (A5 Z) Z (D3 Z Z Z Z (D9 Z Z (C0 (p7 753 Bool E06 false Z Z (by omega) (by omega) (fun _=>by first | exact ⟨⟨rfl,rfl⟩,trivial⟩ | exact ⟨Q5 _ _ _,trivial⟩) (by first | rfl | (simp [I1,J8,Ob.free,SV.free,S1.free,TC.free]<;>rfl))) Z ?_)))))));refine A7 Z Z (A4 ?_)
 rw [←hn,J97,I77 L ctx n]
 refine k1 (k2 (k2 (A2 (A7 Z Z (A4 ?_)))));refine k1 (k3 (D1 (X:=Nat) (fun i=>([(1,B8 ctx),(8,C4 Span 2 spanC L),(10,.s (.one (.mut 753))),(11,B8 i)],[(753,.arr Bool 1 E06 ((List.range n).map (C30 L ctx i 0)))])) (fun i=>i≤n) (fun i=>n - i) 0 (Nat.zero_le _) (J58 ⟨le1 rfl,le1 rfl,le1 rfl,le1 rfl,trivial⟩ ⟨rfl,trivial⟩) ?_))
 intro i hi
 dsimp only at hi ⊢
 have hlen:∀k,((List.range n).map (C30 L ctx i k)).length=n:=fun k=>by simp
 have hlen0:=hlen 0
 refine k2 (k2 (A2 (A3 Z Z (A3 Z Z (A6 (I38 Z Z) Z (E1 Z Z Z (A4 ?_)))))));refine k1 ?_;refine B3 rfl (fun ht=>?_) (fun ht=>?_)
 rotate_left
 ·have hin:i=n:=by have:=A1 ht;omega
  rw [hin,I79]
  refine G4 (Sees.freeze (k:=753) Z) ?_
  refine k6 (k2 (A2 (A3 Z Z (C2 (F70 ((List.range n).map (t6 L ctx)) (by simp;omega)) Z Z Z ?_))));rintro _ rfl;refine A7 Z Z (A7 Z Z (A4 ?_));refine k1 (k10 ?_)
  exact B4 (U7 rfl rfl rfl rfl rfl) rfl
 have hlt:i < n:=by have:=A0 ht;omega
 refine k5 (k1 (k2 (k3 (k2 (A2 (A7 Z Z (A4 ?_)))))));refine k1 (k3 (D1 (X:=Nat) (fun k=>([(1,B8 ctx),(8,C4 Span 2 spanC L),(10,.s (.one (.mut 753))),(11,B8 i),(12,B8 k)],[(753,.arr Bool 1 E06 ((List.range n).map (C30 L ctx i k)))])) (fun k=>k≤L.length) (fun k=>L.length - k) 0 (Nat.zero_le _) (J58 ⟨le1 rfl,le1 rfl,le1 rfl,le1 rfl,le1 rfl,trivial⟩ ⟨rfl,trivial⟩) ?_))
 intro k hk
 dsimp only at hk ⊢
 have hlenk:=hlen k
 refine k2 (k2 (A2 (A3 Z Z (A3 Z Z (D9 Z Z (E1 Z Z Z (A4 ?_)))))));refine k1 ?_;refine B3 rfl (fun ht=>?_) (fun ht=>?_)
 rotate_left
 ·have hkl:k=L.length:=by have:=A1 ht;omega
  rw [hkl,I78]
  refine k6 (k7 (k7 (k8 Z (k4 (k1 (A2 (A3 Z Z (C7 Z Z Z (A7 Z Z (A4 ?_))))))))));refine k1 ?_
  exact ⟨i+1,by omega,by omega,J58 ⟨le1 rfl,le1 rfl,le1 rfl,le1 rfl,trivial⟩ ⟨rfl,trivial⟩⟩
 have hltk:k < L.length:=by have:=A0 ht;omega
 have hst:=G90 L ctx i k hltk
 have hv:L[k]?=some L[k]:=by simp [hltk]
 have hs:=hin2 _ (J96 hltk)
 obtain ⟨s,hsd⟩:∃s,s=L[k]:=⟨_,rfl⟩
 rw [←hsd] at hst hv hs
 have hg:((List.range n).map (C30 L ctx i k))[(i:Int).toNat]?=some (t6 (L.take k) ctx i):=by
  rw [J97,C19 n i _ hlt];unfold C30;rw [if_neg (by omega),if_pos rfl]
 have hset:((List.range n).map (C30 L ctx i k)).set (i:Int).toNat (if t6 (L.take k) ctx i=true then true else if decide ((i:Int)≥s.From - ctx)=true then decide ((i:Int) < s.To+ctx) else false)=(List.range n).map (C30 L ctx i (k+1)):=by
  rw [J97]
  refine B15 n i _ _ _ (fun _=>?_) (fun q _ hq=>?_)
  ·unfold C30
   rw [if_neg (by omega),if_pos rfl,hst]
   cases t6 (L.take k) ctx i
   ·by_cases h1:s.From - ctx≤(i:Int)
    ·by_cases h2:(i:Int) < s.To+ctx<;>simp [h1,h2]
    ·simp [h1]
   ·simp
  ·unfold C30
   by_cases h1:q < i
   ·rw [if_pos h1,if_pos h1]
   ·rw [if_neg h1,if_neg h1,if_neg hq,if_neg hq]
 refine k5 (k1 (k2 (k3 (A2 (A3 Z Z (A3 Z Z (A3 Z Z (A3 Z Z (A6 (F7 Z Z Z (by omega) (by (rw [hlenk];omega))) Z ?_)))))))));refine A6 (Q2 Z Z hg Z) Z (A3 Z Z (B0 Z Z Z Z (fun hg=>by rw [hg];exact B5 Z Z) ?_));refine B0 Z Z Z Z (fun hg=>by rw [hg];exact B5 Z Z) ?_;refine B0 Z Z Z Z (fun hg=>by rw [hg];exact B5 Z Z) ?_;refine B0 Z Z Z Z (fun hg=>by have hq:=hg;(try simp at hq);rw [hg];exact A8 Z (.pure _ _ _ _) Z (by omega) hv) ?_;refine B0 Z Z Z Z (fun hg=>by rw [hg];exact C1 Z) ?_;refine B0 Z Z Z Z (fun hg=>by rw [hg];exact B1 Z Z) ?_;refine B0 Z Z Z Z (fun hg=>by rw [hg];exact B5 Z Z) ?_;refine B0 Z Z Z Z (fun hg=>by have hq:=hg;(try simp at hq);rw [hg];exact I5 Z Z (by omega)) ?_;refine B0 Z Z Z Z (fun hg=>by rw [hg];exact i8 Z Z) ?_;refine B0 Z Z Z Z (fun hg=>by rw [hg];exact B5 Z Z) ?_;refine G2 Z Z Z (.gd (.val _)) Z (fun hg=>by obtain ⟨hg1,hg2⟩:=L2 hg;(try rw [hg1]);(try rw [hg2]);exact B5 Z Z) ?_;refine G2 Z Z Z (.gd (.val _)) Z (fun hg=>by obtain ⟨hg1,hg2⟩:=L2 hg;(try rw [hg1]);(try rw [hg2]);exact B5 Z Z) ?_;refine G2 Z Z Z (.gd (.val _)) Z (fun hg=>by obtain ⟨hg1,hg2⟩:=L2 hg;(try rw [hg1]);(try rw [hg2]);exact B5 Z Z) ?_;refine G2 Z Z Z (.gd (.val _)) Z (fun hg=>by have hq:=hg;(try simp at hq);obtain ⟨hg1,hg2⟩:=L2 hg;(try rw [hg1]);(try rw [hg2]);exact A8 Z (.pure _ _ _ _) Z (by omega) hv) ?_;refine G2 Z Z Z (.gd (.val _)) Z (fun hg=>by obtain ⟨hg1,hg2⟩:=L2 hg;(try rw [hg1]);(try rw [hg2]);exact C1 Z) ?_;refine G2 Z Z Z (.gd (.val _)) Z (fun hg=>by obtain ⟨hg1,hg2⟩:=L2 hg;(try rw [hg1]);(try rw [hg2]);exact B1 Z Z) ?_;refine G2 Z Z Z (.gd (.val _)) Z (fun hg=>by obtain ⟨hg1,hg2⟩:=L2 hg;(try rw [hg1]);(try rw [hg2]);exact B5 Z Z) ?_;refine G2 Z Z Z (.gd (.val _)) Z (fun hg=>by have hq:=hg;(try simp at hq);obtain ⟨hg1,hg2⟩:=L2 hg;(try rw [hg1]);(try rw [hg2]);exact L4 Z Z (by omega)) ?_;refine G2 Z Z Z (.gd (.val _)) Z (fun hg=>by obtain ⟨hg1,hg2⟩:=L2 hg;(try rw [hg1]);(try rw [hg2]);exact Y4 Z Z) ?_;refine B0 Z Z Z Z (fun hg=>by rw [hg];exact G7 Z (fun h=>by first | rfl | (rw [h];rfl)) (fun h=>by first | rfl | (rw [h];rfl))) ?_;refine F2 Z Z ?_
 refine A6 (F7 Z Z Z (by omega) (by (rw [hlenk];omega))) Z ?_;refine E2 (I9 TySz.out Z Z (by (rw [hlenk];omega)) Z Z) ?_;refine A4 ?_;refine k4 (k1 (A2 (A3 Z Z (C7 Z Z Z (A7 Z Z (A4 ?_))))));refine k1 ?_;refine ⟨k+1,by omega,by omega,?_⟩
 rw [←hset]
 exact J58 ⟨le1 rfl,le1 rfl,le1 rfl,le1 rfl,le1 rfl,trivial⟩ ⟨rfl,trivial⟩
end Go.Proofs.YtbiadkkamhpdnaaGreatDoor
