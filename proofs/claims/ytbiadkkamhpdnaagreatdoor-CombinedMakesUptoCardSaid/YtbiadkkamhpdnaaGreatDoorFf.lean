/- Walks of the program's functions. -/
import Derived.Test.YtbiadkkamhpdnaaGreatDoorFe
import Derived.Test.YtbiadkkamhpdnaaGreatDoorFs
import Derived.Test.YtbiadkkamhpdnaaGreatDoorFa
import Derived.Test.YtbiadkkamhpdnaaGreatDoorFb
import Derived.Test.YtbiadkkamhpdnaaGreatDoorFd
import Derived.Test.YtbiadkkamhpdnaaGreatDoorFc
namespace Go.Proofs.YtbiadkkamhpdnaaGreatDoor
open Go Go.AL
set_option maxRecDepth 100000
theorem C80 (c:UInt8):∀n:Nat,Lib.repeatL [c] n=List.replicate n c
 | 0=>rfl
 | n+1=>by rw [Lib.repeatL,C80 c n];rfl
theorem H56 (c:UInt8) (n:Nat) (hn:n≤1048576):FnOk Tryz.prog 150 [L5 [c],G1 n] (fun rs=>rs=[L5 (List.replicate n c)]) :=
 I59 (xs:=[.string ⟨#[c]⟩,.int .i64 n]) (r:=.string ⟨(List.replicate n c).toArray⟩) ⟨_,rfl,rfl,rfl⟩ rfl fun w _=>by
  have:=Tryz.strings_Repeat ⟨#[c]⟩ n w (by omega) (by show 1*n≤_;omega)
  have e:Lib.repeatL (⟨#[c]⟩:ByteArray).data.toList n=List.replicate n c:=C80 c n
  rw [e] at this
  exact this
abbrev A32 (c:Comb):Ob:=.box (O0 c).s1.cells
theorem B24 (rows:List Row) (n:Nat) (hn:n≤32) (hr:H8 rows) (hl:rows.length≤268435456) :
  AL.Met Tryz.prog 149 [(pRows rows).s1,(G1 n).s1] [] [] [] (fun rs ob'=>rs=[.one (.mut 720)]∧ob'=[(720,.arr Int 1 F9 (I5 rows n))]):=by
 have e0:((n:Int)+1).toNat=n+1:=by omega
 refine AL.Met.intro Tryz.func149 (by decide) Z Z Z ?_
 refine k2 ?_
 refine A3 (A2 (A5 Z Z) Z (A6 ?_))
 refine k1 (k2 ?_)
 refine A3 (A2 (A4 Z Z) Z (A2 (C0 Z Z (by omega)) Z (B9 (U0 720 Int F9 0 Z Z (by omega) (by omega) (fun _=>by first | exact ⟨⟨rfl,rfl⟩,trivial⟩ | exact ⟨N3 _ _ _,trivial⟩) (by first | rfl | (simp [H0,H3,Ob.free,SV.free,S1.free,TC.free]<;>rfl))) Z ?_)));refine A2 (A5 Z Z) Z (A6 ?_)
 rw [e0,←G82 rows n]
 refine k1 (k2 (k2 ?_))
 refine A3 (A2 (A4 Z Z) Z (A2 (D4 Z (.pure _ _ _ _)) Z (A2 (A4 Z Z) Z (A6 ?_))))
 refine k1 (k3 ?_)
 refine C9 (X:=Nat) (fun i=>([(1,B8 n),(5,.s (.one (.mut 720))),(12,C1 Row 3 rowC rows),(13,B8 rows.length),(14,B8 i)],[(720,.arr Int 1 F9 (m9 rows n i 0))])) (fun i=>i≤rows.length) (fun i=>rows.length - i) 0 (Nat.zero_le _) (I45 ⟨le1 rfl,le1 rfl,le1 rfl,le1 rfl,le1 rfl,trivial⟩ ⟨rfl,trivial⟩) ?_
 intro i hi
 dsimp only at hi ⊢
 refine k2 ?_
 refine A3 (A2 (D7 Z Z) Z (A6 ?_))
 refine k1 (k2 ?_)
 refine B3 rfl (fun ht=>?_) (fun ht=>?_)
 ·have hlt:i < rows.length:=by have:=A0 ht;omega
  have hv:rows[i]?=some rows[i]:=by simp [hlt]
  have hrow:=hr _ (I90 hlt)
  have hstep:=fun p=>G83 rows n i p hlt
  obtain ⟨r,hrr⟩:∃r,r=rows[i]:=⟨_,rfl⟩
  rw [←hrr] at hv hrow hstep
  have hcl:=fun k=>B91 (rows.take i) n k
  have htl:(rows.take i).length=i:=by rw [I93];omega
  rw [htl] at hcl
  refine k5 (k1 (k2 (k3 (k2 ?_))))
  refine A3 (A2 (B0 Z (.pure _ _ _ _) Z (by omega) hv) Z (A2 (E1 Z Z) Z (B9 (F5 7 Z) Z (E6 (B7 TySz.out Z Z Z Z Z Z) (A6 ?_)))))
  refine k1 (k2 (k2 ?_))
  refine A3 (A2 (A4 Z Z) Z (A2 (A4 Z Z) Z (A6 ?_)))
  refine k1 (k3 ?_)
  refine C9 (X:=Nat) (fun p=>([(1,B8 n),(5,.s (.one (.mut 720))),(7,.s (.one (.ref 7 0))),(12,C1 Row 3 rowC rows),(13,B8 rows.length),(14,B8 i),(18,B8 n),(19,B8 p)],[(7,.box (pRow r).s1.cells),(720,.arr Int 1 F9 (m9 rows n i p))])) (fun p=>p≤n) (fun p=>n - p) 0 (Nat.zero_le _) (I45 ⟨le1 rfl,le1 rfl,le1 rfl,le1 rfl,le1 rfl,le1 rfl,le1 rfl,le1 rfl,trivial⟩ ⟨rfl,rfl,trivial⟩) ?_
  intro p hp
  dsimp only at hp ⊢
  have hlen:=H87 rows n i p
  have hget:=H88 rows n i p (by omega)
  have hcp:=hcl p
  refine k2 ?_
  refine A3 (A2 (D7 Z Z) Z (A6 ?_))
  refine k1 (k2 ?_)
  refine B3 rfl (fun ht=>?_) (fun ht=>?_)
  ·have hlt2:p < n:=by have:=A0 ht;omega
   have hst:=hstep p (by omega)
   rw [show R7 n p=(p:Int) by unfold R7;rw [if_neg (by omega)]] at hst
   refine k5 (k1 (k2 (k3 (k2 ?_))))
   refine A3 (A2 (A4 Z Z) Z (A2 (A5 Z Z) Z (A6 ?_)))
   refine k1 (k2 ?_)
   refine A3 (A2 (C8 Z Z Z) Z (A2 (A4 Z Z) Z (C2 (F69 r p hrow) Z Z Z ?_)));rintro _ rfl;refine A6 ?_
   refine k1 ?_
   refine B3 rfl (fun ht=>?_) (fun ht=>?_)
   ·rw [if_pos ht] at hst
    skip
    refine A3 (A2 (A4 Z Z) Z (A2 (A4 Z Z) Z (A2 (D9 Z Z Z (by omega) (by (rw [hlen];omega))) Z ?_)));refine A2 (M6 Z Z hget Z) Z (A2 (C0 Z Z (by omega)) Z (A2 (D9 Z Z Z (by omega) (by (rw [hlen];omega))) Z ?_));refine E6 (G5 TySz.out Z Z (by (rw [hlen];omega)) Z Z) ?_;refine A6 ?_
    refine k4 (k1 ?_)
    refine A3 (A2 (C0 Z Z (by omega)) Z (A2 (A4 Z Z) Z (A6 ?_)))
    refine k1 ?_
    refine ⟨p+1,by omega,by omega,?_⟩
    rw [hst]
    exact I45 ⟨le1 rfl,le1 rfl,le1 rfl,le1 rfl,le1 rfl,le1 rfl,le1 rfl,le1 rfl,trivial⟩ ⟨rfl,rfl,trivial⟩
   ·rw [if_neg (by rw [ht];decide)] at hst
    refine k5 (k4 (k1 ?_))
    refine A3 (A2 (C0 Z Z (by omega)) Z (A2 (A4 Z Z) Z (A6 ?_)))
    refine k1 ?_
    refine ⟨p+1,by omega,by omega,?_⟩
    rw [hst]
    exact I45 ⟨le1 rfl,le1 rfl,le1 rfl,le1 rfl,le1 rfl,le1 rfl,le1 rfl,le1 rfl,trivial⟩ ⟨rfl,rfl,trivial⟩
  ·have hpn:p=n:=by have:=A1 ht;omega
   subst hpn
   have hst:=hstep p (by omega)
   have hvis:X3 r (R7 p p)=!r.Lost:=by unfold R7 X3;rw [if_pos rfl,if_pos rfl]
   rw [hvis,G84] at hst
   refine k6 (k2 ?_)
   refine A3 (A2 (A7 Z) Z (A2 (A8 Z Z Z) Z (A2 (J2 Z) Z (A6 ?_))))
   refine k1 ?_
   refine B3 rfl (fun ht=>?_) (fun ht=>?_)
   ·rw [if_pos ht] at hst
    skip
    refine A3 (A2 (A4 Z Z) Z (A2 (A4 Z Z) Z (A2 (D9 Z Z Z (by omega) (by (rw [hlen];omega))) Z ?_)));refine A2 (M6 Z Z hget Z) Z (A2 (C0 Z Z (by omega)) Z (A2 (D9 Z Z Z (by omega) (by (rw [hlen];omega))) Z ?_));refine E6 (G5 TySz.out Z Z (by (rw [hlen];omega)) Z Z) ?_;refine A6 ?_
    refine k4 (k1 ?_)
    refine A3 (A2 (C0 Z Z (by omega)) Z (A2 (A4 Z Z) Z (A6 ?_)))
    refine k1 ?_
    refine ⟨i+1,by omega,by omega,?_⟩
    rw [hst]
    exact I45 ⟨le1 rfl,le1 rfl,le1 rfl,le1 rfl,le1 rfl,trivial⟩ ⟨rfl,trivial⟩
   ·rw [if_neg (by rw [ht];decide)] at hst
    refine k5 (k4 (k1 ?_))
    refine A3 (A2 (C0 Z Z (by omega)) Z (A2 (A4 Z Z) Z (A6 ?_)))
    refine k1 ?_
    refine ⟨i+1,by omega,by omega,?_⟩
    rw [hst]
    exact I45 ⟨le1 rfl,le1 rfl,le1 rfl,le1 rfl,le1 rfl,trivial⟩ ⟨rfl,trivial⟩
 ·have hil:i=rows.length:=by have:=A1 ht;omega
  subst hil
  rw [G85]
  refine k6 (k2 ?_)
  refine A3 (A2 (A4 Z Z) Z (A2 (A5 Z Z) Z (A6 ?_)))
  refine k1 (k10 ?_)
  exact X8 (A91 rfl rfl) (by repeat (first | exact G3 | refine G4 rfl ?_ | refine M7 _ ?_)) (ObIn.spec (ob':=[(720,_)]) ⟨rfl,trivial⟩) ⟨rfl,rfl⟩
theorem G52 (c:Comb) (hn:1≤c.Parents∧c.Parents≤32) (hr:∀h∈c.Hunks,H8 h.Rows) (hz:szC c.Hunks≤268435456):FnOk Tryz.prog 92 [O0 c] (fun rs=>rs=[I3 (W3 c.Parents.toNat c.Hunks)]):=by
 obtain ⟨n,hN⟩:∃n,n=c.Parents.toNat:=⟨_,rfl⟩
 rw [←hN]
 have hzl:=A23 c.Hunks
 refine FnOk.intro Tryz.func92 (by decide) Z Z Z Z ?_
 refine k2 ?_
 refine A3 (B9 (N7 1 Z Z Z) Z (A2 (A5 Z Z) Z (A6 ?_)))
 refine k1 (k2 (k2 ?_))
 refine A3 (A2 (A7 Z) Z (A2 (A8 Z Z Z) Z (A2 (D4 Z (.pure _ _ _ _)) Z (A2 (A4 Z Z) Z (A6 ?_)))))
 refine k1 (k3 ?_)
 refine C9 (X:=Nat) (fun k=>([(1,.s (.one (.ref 1 0))),(8,C1 CHunk 2 K8 c.Hunks),(9,B8 c.Hunks.length),(10,B8 k)],[(1,A32 c)])) (fun k=>k≤c.Hunks.length∧W3 n c.Hunks=W3 n (c.Hunks.drop k)) (fun k=>c.Hunks.length - k) 0 ⟨Nat.zero_le _,rfl⟩ (I45 ⟨le1 rfl,le1 rfl,le1 rfl,le1 rfl,trivial⟩ ⟨rfl,trivial⟩) ?_
 rintro k ⟨hk,hp⟩
 dsimp only at hk hp ⊢
 refine k2 ?_
 refine A3 (A2 (D7 Z Z) Z (A6 ?_))
 refine k1 (k2 ?_)
 refine B3 rfl (fun ht=>?_) (fun ht=>?_)
 ·have hlt:k < c.Hunks.length:=by have:=A0 ht;omega
  have hv:c.Hunks[k]?=some c.Hunks[k]:=by simp [hlt]
  have hrw:=hr _ (I90 hlt)
  have hzm:=A86 (I90 hlt)
  rw [I84 hlt] at hp
  obtain ⟨h,hx⟩:∃x,x=c.Hunks[k]:=⟨_,rfl⟩
  rw [←hx] at hv hrw hp hzm
  have hz1:=S6 h.Rows
  unfold B05 at hzm
  have hp:W3 n c.Hunks=(L4 h.Rows n&&W3 n (c.Hunks.drop (k+1))):=hp
  refine k5 (k1 (k2 (k3 (k2 ?_))))
  refine A3 (A2 (B0 Z (.pure _ _ _ _) Z (by omega) hv) Z (A2 (E1 Z Z) Z (B9 (F5 4 Z) Z (E6 (B7 TySz.out Z Z Z Z Z Z) (A6 ?_)))))
  refine k1 (k2 ?_)
  refine A3 (A2 (A7 Z) Z (A2 (A8 Z Z Z) Z (A2 (D4 Z (.pure _ _ _ _)) Z (A2 (A4 Z Z) Z (A6 ?_)))))
  refine k1 (k3 ?_)
  refine C9 (X:=Nat) (fun j=>([(1,.s (.one (.ref 1 0))),(8,C1 CHunk 2 K8 c.Hunks),(9,B8 c.Hunks.length),(10,B8 k),(15,C1 Row 3 rowC h.Rows),(16,B8 h.Rows.length),(17,B8 j)],[(1,A32 c)])) (fun j=>j≤h.Rows.length∧L4 h.Rows n=L4 (h.Rows.drop j) n) (fun j=>h.Rows.length - j) 0 ⟨Nat.zero_le _,rfl⟩ (I45 ⟨le1 rfl,le1 rfl,le1 rfl,le1 rfl,le1 rfl,le1 rfl,le1 rfl,trivial⟩ ⟨rfl,trivial⟩) ?_
  rintro j ⟨hj,hq⟩
  dsimp only at hj hq ⊢
  refine k2 ?_
  refine A3 (A2 (D7 Z Z) Z (A6 ?_))
  refine k1 (k2 ?_)
  refine B3 rfl (fun ht=>?_) (fun ht=>?_)
  ·have hlt2:j < h.Rows.length:=by have:=A0 ht;omega
   have hv2:h.Rows[j]?=some h.Rows[j]:=by simp [hlt2]
   have hm:=hrw _ (I90 hlt2)
   rw [I84 hlt2,A69] at hq
   obtain ⟨r,hy⟩:∃x,x=h.Rows[j]:=⟨_,rfl⟩
   rw [←hy] at hv2 hm hq
   have hw:=D52 r c.Parents hn hm
   rw [←hN] at hw
   refine k5 (k1 (k2 (k3 (k2 ?_))))
   refine A3 (A2 (B0 Z (.pure _ _ _ _) Z (by omega) hv2) Z (A2 (E1 Z Z) Z (B9 (F5 6 Z) Z (E6 (B7 TySz.out Z Z Z Z Z Z) (A6 ?_)))))
   refine k1 (k2 ?_)
   refine A3 (A2 (C8 Z Z Z) Z (A2 (A7 Z) Z (A2 (A8 Z Z Z) Z (C2 (hw) Z Z Z ?_))));rintro _ rfl;refine A2 (J2 Z) Z (A6 ?_)
   refine k1 ?_
   refine B3 rfl (fun ht=>?_) (fun ht=>?_)
   ·have h2:V1 n r=false:=by simpa using ht
    rw [h2,Bool.false_and] at hq
    rw [hq,Bool.false_and] at hp
    refine k2 ?_
    refine A3 (A2 (A5 Z Z) Z (A6 ?_))
    refine k1 (k10 (k12 (k11 (k11 (k12 (k12 (k11 (k11 (k12 (k11 ?_))))))))))
    exact B5 (F1 rfl rfl rfl) (by rw [hp])
   ·have h2:V1 n r=true:=by simpa using ht
    rw [h2,Bool.true_and] at hq
    refine k5 (k4 (k1 ?_))
    refine A3 (A2 (C0 Z Z (by omega)) Z (A2 (A4 Z Z) Z (A6 ?_)))
    refine k1 ?_
    exact ⟨j+1,⟨by omega,hq⟩,by omega,I45 ⟨le1 rfl,le1 rfl,le1 rfl,le1 rfl,le1 rfl,le1 rfl,le1 rfl,trivial⟩ ⟨rfl,trivial⟩⟩
  ·have hjl:j=h.Rows.length:=by have:=A1 ht;omega
   rw [hjl,I87 (Nat.le_refl _)] at hq
   have hq:L4 h.Rows n=true:=hq
   rw [hq,Bool.true_and] at hp
   refine k6 (k7 (k7 (k8 Z (k4 (k1 ?_)))))
   refine A3 (A2 (C0 Z Z (by omega)) Z (A2 (A4 Z Z) Z (A6 ?_)))
   refine k1 ?_
   exact ⟨k+1,⟨by omega,hp⟩,by omega,I45 ⟨le1 rfl,le1 rfl,le1 rfl,le1 rfl,trivial⟩ ⟨rfl,trivial⟩⟩
 ·have hkl:k=c.Hunks.length:=by have:=A1 ht;omega
  rw [hkl,I87 (Nat.le_refl _)] at hp
  refine k6 (k2 ?_)
  refine A3 (A2 (A5 Z Z) Z (A6 ?_))
  refine k1 (k10 ?_)
  exact B5 (F1 rfl rfl rfl) (by rw [hp];rfl)
theorem F79 (h:CHunk) (n:Nat) (ends:List Int) (hn:n≤32) (hr:H8 h.Rows) (hl:h.Rows.length≤268435456) (he:ends.length=n+1) (he0:∀e∈ends,0≤e) :
  FnOk Tryz.prog 156 [A83 h,G1 n,N5 ends] (fun rs=>rs=if X6 n ends h=true then [N5 (U5 n h),I3 true] else [N5 [],I3 false]):=by
 have hnot:∀{Q:Prop},(X6 n ends h=true→False)→(if X6 n ends h=true then [N5 (U5 n h),I3 true] else [N5 [],I3 false])=[N5 [],I3 false]:=fun hq=>if_neg hq
 have hF:=C99 n ends h
 refine FnOk.intro Tryz.func156 (by decide) Z Z Z Z ?_
 refine k2 ?_
 refine A3 (B9 (N7 3 Z Z Z) Z (A2 (A5 Z Z) Z (A2 (A5 Z Z) Z (A6 ?_))))
 refine k1 (k2 (k2 ?_))
 refine A3 (A2 (A7 Z) Z (A2 (A8 Z Z Z) Z (A2 (D4 Z (.pure _ _ _ _)) Z (A2 (A4 Z Z) Z (A2 (C0 Z Z (by omega)) Z (A2 (M5 Z Z) Z (A2 (A4 Z Z) Z (B1 Z Z Z Z (fun hg=>by rw [hg];exact A7 Z) ?_))))))));refine B1 Z Z Z Z (fun hg=>by rw [hg];exact A8 Z Z Z) ?_;refine B1 Z Z Z Z (fun hg=>by rw [hg];exact D4 Z (.pure _ _ _ _)) ?_;refine B1 Z Z Z Z (fun hg=>by rw [hg];exact J6 Z Z) ?_;refine A2 (B6 Z (fun h=>by first | rfl | (rw [h];rfl)) (fun h=>by first | rfl | (rw [h];rfl))) Z ?_;refine A6 ?_
 refine k1 ?_
 refine B3 rfl (fun ht=>?_) (fun ht=>?_)
 ·have h1:=A0 (or_pick.symm.trans ht)
  refine k2 ?_
  refine A3 (A2 (J1 _ 1 F9) Z (A2 (A5 Z Z) Z (A6 ?_)))
  refine k1 (k10 (k11 ?_))
  refine B5 (rs:=[N5 [],I3 false]) (d7 Z Z Z Z Z) ?_
  rw [if_neg]
  intro hq
  have h2:=(hF.1 hq).1
  rcases h1 with h1 | h1
  ·omega
  ·exact h2.2 (List.length_eq_zero_iff.1 (by omega))
 ·have h1:=A1 (or_pick.symm.trans ht)
  simp only [not_or,Decidable.not_not] at h1
  have hal:h.At.length=n+1:=by omega
  have hne:h.Rows≠[]:=fun e=>h1.2 (by rw [e];rfl)
  refine L0 [(1,B8 n),(2,C1 Int 1 F9 ends),(3,.s (.one (.ref 3 0)))] [(3,.box (A83 h).s1.cells)] (I45 ⟨le1 rfl,le1 rfl,le1 rfl,trivial⟩ ⟨rfl,trivial⟩) ?_
  refine k5 (k1 (k2 ?_))
  refine A3 (A2 (A7 Z) Z (A2 (A8 Z Z Z) Z (A2 (A4 Z Z) Z (l_new (B24 h.Rows n hn hr hl) Z Z Z Z ?_))));rintro _ _ ⟨rfl,rfl⟩;refine ⟨rfl,?_⟩;refine A2 (A5 Z Z) Z (A6 ?_)
  refine k1 (k2 (k2 ?_))
  refine A3 (A2 (A7 Z) Z (A2 (A8 Z Z Z) Z (A2 (D4 Z (.pure _ _ _ _)) Z (A2 (A4 Z Z) Z (A6 ?_)))))
  refine k1 (k3 ?_)
  refine C9 (X:=Nat) (fun k=>([(2,C1 Int 1 F9 ends),(8,.s (.one (.mut 720))),(28,C1 Int 1 F9 h.At),(29,B8 h.At.length),(30,B8 k)],[(720,.arr Int 1 F9 (v7 n h k))])) (fun k=>k≤h.At.length∧∀j,j < k→ends.getD j 0≤h.At.getD j 0∧h.At.getD j 0≤4096) (fun k=>h.At.length - k) 0 ⟨Nat.zero_le _,fun j hj=>by omega⟩ (by rw [G21];exact I45 ⟨le1 rfl,le1 rfl,le1 rfl,le1 rfl,le1 rfl,trivial⟩ ⟨rfl,trivial⟩) ?_
  rintro k ⟨hk,hp⟩
  dsimp only at hk hp ⊢
  have hlen:=G88 n h k
  refine k2 ?_
  refine A3 (A2 (D7 Z Z) Z (A6 ?_))
  refine k1 (k2 ?_)
  refine B3 rfl (fun ht=>?_) (fun ht=>?_)
  ·have hlt:k < h.At.length:=by have:=A0 ht;omega
   have hv:=D93 hlt
   have hve:=D93 (l:=ends) (i:=k) (by omega)
   have hget:=G89 n h k (by omega)
   have hset:=G90 n h k
   have hek:0≤ends.getD k 0:=he0 _ (I98 hve)
   have hcl:=B91 h.Rows n k
   obtain ⟨a,ha⟩:∃a,a=h.At.getD k 0:=⟨_,rfl⟩
   obtain ⟨e,hee⟩:∃e,e=ends.getD k 0:=⟨_,rfl⟩
   obtain ⟨q,hqq⟩:∃q,q=N4 h.Rows n k:=⟨_,rfl⟩
   rw [←ha] at hv hset
   rw [←hee] at hve hek
   rw [←hqq] at hget hset hcl
   refine k5 (k1 (k2 (k3 (k2 ?_))))
   refine A3 (A2 (A4 Z Z) Z (A2 (B0 Z (.pure _ _ _ _) Z (by omega) hv) Z (A2 (B2 Z Z) Z (A2 (A5 Z Z) Z (A2 (A5 Z Z) Z (A6 ?_))))))
   refine k1 (k2 (k2 ?_))
   refine A3 (A2 (A4 Z Z) Z (A2 (A4 Z Z) Z (A2 (A4 Z Z) Z (A2 (B0 Z (.pure _ _ _ _) Z (by omega) hve) Z (A2 (B2 Z Z) Z (A2 (D7 Z Z) Z (A2 (A4 Z Z) Z (B1 Z Z Z Z (fun hg=>by rw [hg];exact A4 Z Z) ?_))))))));refine B1 Z Z Z Z (fun hg=>by rw [hg];exact M4 Z Z) ?_;refine A2 (B6 Z (fun h=>by first | rfl | (rw [h];rfl)) (fun h=>by first | rfl | (rw [h];rfl))) Z ?_;refine A6 ?_
   refine k1 ?_
   refine B3 rfl (fun ht=>?_) (fun ht=>?_)
   ·have h2:=A0 (or_pick.symm.trans ht)
    refine k2 ?_
    refine A3 (A2 (J1 _ 1 F9) Z (A2 (A5 Z Z) Z (A6 ?_)))
    refine k1 (k10 (k11 (k12 (k11 (k11 (k12 (k11 ?_)))))))
    refine B5 (rs:=[N5 [],I3 false]) (d7 Z Z Z Z Z) ?_
    rw [if_neg]
    intro hq
    have h3:=(hF.1 hq).2 k (by omega)
    rw [←ha,←hee] at h3
    omega
   ·have h2:=A1 (or_pick.symm.trans ht)
    have h3:e≤a∧a≤4096:=by omega
    refine k5 (k1 ?_)
    refine A3 (A2 (A4 Z Z) Z (A2 (A4 Z Z) Z (A2 (D9 Z Z Z (by omega) (by (rw [hlen];omega))) Z ?_)));refine A2 (M6 Z Z hget Z) Z (A2 (A4 Z Z) Z (A2 (C0 Z Z (by omega)) Z (A2 (D9 Z Z Z (by omega) (by (rw [hlen];omega))) Z ?_)));refine E6 (G5 TySz.out Z Z (by (rw [hlen];omega)) Z Z) ?_;refine A6 ?_
    refine k4 (k1 ?_)
    refine A3 (A2 (C0 Z Z (by omega)) Z (A2 (A4 Z Z) Z (A6 ?_)))
    refine k1 ?_
    refine ⟨k+1,⟨by omega,fun j hj=>?_⟩,by omega,?_⟩
    ·by_cases e1:j=k
     ·subst e1;rw [←ha,←hee];exact h3
     ·exact hp j (by omega)
    ·rw [←hset]
     exact I45 ⟨le1 rfl,le1 rfl,le1 rfl,le1 rfl,le1 rfl,trivial⟩ ⟨rfl,trivial⟩
  ·have hkl:k=n+1:=by have:=A1 ht;omega
   subst hkl
   rw [G22]
   have hq:X6 n ends h=true:=hF.2 ⟨⟨hal,hne⟩,hp⟩
   refine F8 (Sees.freeze (k:=720) Z) ?_
   refine k6 (k2 ?_)
   refine A3 (A2 (A4 Z Z) Z (A2 (A5 Z Z) Z (A2 (A5 Z Z) Z (A6 ?_))))
   refine k1 (k10 ?_)
   exact B5 (rs:=[N5 (U5 n h),I3 true]) (d7 rfl rfl rfl rfl rfl) (by rw [if_pos hq])
theorem smax_ok (l:List Int) (hl:0 < l.length):FnOk Tryz.prog 112 [N5 l] (fun rs=>∃m,rs=[G1 m]∧∀b,m≤b↔∀e∈l,e≤b):=by
 refine FnOk.intro Tryz.func112 (by decide) Z Z Z Z ?_
 refine A07 (t:=0) rfl (.pure _ _ _ _) fun hb=>?_
 refine k2 ?_
 refine A3 (A2 (A5 Z Z) Z (A6 ?_))
 refine k1 (k2 (k2 ?_))
 refine A3 (A2 (A4 Z Z) Z (A2 (D4 Z (.pure _ _ _ _)) Z (A2 (D7 Z Z) Z (A6 ?_))))
 refine k1 ?_
 refine B3 rfl (fun ht=>?_) (fun ht=>?_)
 ·exact absurd (A0 ht) (by omega)
 refine k5 (k1 (k2 ?_))
 refine A3 (A2 (A4 Z Z) Z (A2 (B0 Z (.pure _ _ _ _) Z (by omega) (D93 (l:=l) (i:=0) hl)) Z (A2 (B2 Z Z) Z (A2 (A5 Z Z) Z (A6 ?_)))))
 refine k1 (k2 (k2 ?_))
 refine A3 (A2 (A5 Z Z) Z (A6 ?_))
 refine k1 (k3 ?_)
 refine C9 (X:=Nat × Int) (fun x=>([(0,C1 Int 1 F9 l),(3,B8 x.2),(4,B8 x.1)],[])) (fun x=>(1≤x.1∧x.1≤l.length)∧∀b,x.2≤b↔∀e∈l.take x.1,e≤b) (fun x=>l.length - x.1) (1,l.getD 0 0) ⟨⟨Nat.le_refl _,hl⟩,?_⟩ (I45 ⟨le1 rfl,le1 rfl,le1 rfl,trivial⟩ trivial) ?_
 ·intro b
  have:l.take 1=[l.getD 0 0]:=by
   cases l with
   | nil=>cases hl
   | cons x r=>rfl
  dsimp only
  rw [this];simp
 rintro ⟨k,m⟩ ⟨⟨hk1,hk⟩,hp⟩
 dsimp only at hk1 hk hp ⊢
 refine k2 (k2 ?_)
 refine A3 (A2 (A4 Z Z) Z (A2 (A4 Z Z) Z (A2 (D4 Z (.pure _ _ _ _)) Z (A2 (D7 Z Z) Z (A6 ?_)))))
 refine k1 ?_
 refine B3 rfl (fun ht=>?_) (fun ht=>?_)
 ·have hlt:k < l.length:=by have:=A0 ht;omega
  have hv:=D93 hlt
  refine k5 (k1 (k2 (k3 ?_)))
  refine A3 (A2 (A4 Z Z) Z (A2 (A4 Z Z) Z (A2 (A4 Z Z) Z (A2 (B0 Z (.pure _ _ _ _) Z (by omega) hv) Z (A2 (B2 Z Z) Z (A2 (n_max Z Z) Z (A2 (A5 Z Z) Z (A6 ?_))))))))
  refine k4 (k1 ?_)
  refine A3 (A2 (A4 Z Z) Z (A2 (C0 Z Z (by omega)) Z (A2 (A5 Z Z) Z (A6 ?_))))
  refine k1 ?_
  refine ⟨(k+1,if m < l.getD k 0 then l.getD k 0 else m),⟨⟨by dsimp only;omega,by dsimp only;omega⟩,?_⟩,by dsimp only;omega,I45 ⟨le1 rfl,le1 rfl,le1 rfl,trivial⟩ trivial⟩
  intro b
  dsimp only
  have e:l.take (k+1)=l.take k++[l.getD k 0]:=by
   rw [I86 hlt,I82,I80 hlt];rfl
  have h1:=hp b
  rw [e]
  constructor
  ·intro h x hx
   rcases List.mem_append.1 hx with hx | hx
   ·exact h1.1 (by omega) x hx
   ·simp only [J16,J13,or_false] at hx
    rw [hx];omega
  ·intro h
   have h2:=h1.2 (fun x hx=>h x (List.mem_append.2 (.inl hx)))
   have h3:=h (l.getD k 0) (List.mem_append.2 (.inr (by simp)))
   omega
 ·have hkl:k=l.length:=by have:=A1 ht;omega
  subst hkl
  rw [I94] at hp
  refine k6 (k2 ?_)
  refine A3 (A2 (A4 Z Z) Z (A2 (A5 Z Z) Z (A6 ?_)))
  refine k1 (k10 ?_)
  exact B5 (F1 rfl rfl rfl) ⟨m,rfl,hp⟩
theorem I15 (c:Comb) (hn:1≤c.Parents∧c.Parents≤32) (hr:∀h∈c.Hunks,H8 h.Rows) (hz:szC c.Hunks≤268435456) :
  FnOk Tryz.prog 93 [O0 c] (fun rs=>rs=[I3 (m8 c.Parents.toNat (List.replicate (c.Parents.toNat+1) 0) false 0 c.Hunks)]):=by
 obtain ⟨n,hN⟩:∃n,n=c.Parents.toNat:=⟨_,rfl⟩
 have hNc:c.Parents=(n:Int):=by omega
 rw [←hN]
 have e0:(c.Parents+1).toNat=n+1:=by omega
 have hzl:=A23 c.Hunks
 obtain ⟨W,hW⟩:∃W,W=m8 n (List.replicate (n+1) 0) false 0 c.Hunks:=⟨_,rfl⟩
 rw [←hW]
 refine FnOk.intro Tryz.func93 (by decide) Z Z Z Z ?_
 refine k2 ?_
 refine A3 (B9 (N7 1 Z Z Z) Z (A2 (A5 Z Z) Z (A6 ?_)))
 refine k1 (k2 ?_)
 refine A3 (B9 (F5 3 Z) Z (A6 ?_))
 refine k1 (k2 ?_)
 refine A3 (A2 (A7 Z) Z (A2 (A8 Z Z Z) Z (A2 (C0 Z Z (by omega)) Z (B9 (U0 720 Int F9 0 Z Z (by omega) (by omega) (fun _=>by first | exact ⟨⟨rfl,rfl⟩,trivial⟩ | exact ⟨N3 _ _ _,trivial⟩) (by first | rfl | (simp [H0,H3,Ob.free,SV.free,S1.free,TC.free]<;>rfl))) Z ?_))));refine A2 (A5 Z Z) Z (A6 ?_)
 rw [e0]
 refine k1 (k2 (k2 ?_))
 refine F8 (Sees.freeze (k:=720) Z) ?_
 refine A3 (A2 (A7 Z) Z (A2 (A8 Z Z Z) Z (A2 (D4 Z (.pure _ _ _ _)) Z (A2 (A4 Z Z) Z (A6 ?_)))))
 refine k1 (k3 ?_)
 refine C9 (X:=Nat × List Int × Bool × Int) (fun x=>([(1,.s (.one (.ref 1 0))),(3,.s (.one (.ref 3 0))),(4,C1 Int 1 F9 x.2.1),(15,C1 CHunk 2 K8 c.Hunks),(16,B8 c.Hunks.length),(17,B8 x.1)],[(1,A32 c),(3,.box [.p (.v (.bool x.2.2.1)),.p (.v (.int .u32 x.2.2.2))])])) (fun x=>x.1≤c.Hunks.length∧x.2.1.length=n+1∧(∀e∈x.2.1,0≤e)∧W=m8 n x.2.1 x.2.2.1 x.2.2.2 (c.Hunks.drop x.1)) (fun x=>c.Hunks.length - x.1) (0,List.replicate (n+1) 0,false,0) ⟨Nat.zero_le _,by simp,fun e he=>by have:=(List.mem_replicate.1 he).2;omega,hW⟩ (I45 ⟨le1 rfl,le1 rfl,le1 rfl,le1 rfl,le1 rfl,le1 rfl,trivial⟩ ⟨rfl,rfl,trivial⟩) ?_
 rintro ⟨k,ends,res,par⟩ ⟨hk,hel,he0,hp⟩
 dsimp only at hk hel he0 hp ⊢
 refine k2 ?_
 refine A3 (A2 (D7 Z Z) Z (A6 ?_))
 refine k1 (k2 ?_)
 refine B3 rfl (fun ht=>?_) (fun ht=>?_)
 ·have hlt:k < c.Hunks.length:=by have:=A0 ht;omega
  have hv:c.Hunks[k]?=some c.Hunks[k]:=by simp [hlt]
  have hmem:=I90 hlt
  have hrw:=hr _ hmem
  have hzm:=A86 hmem
  rw [I84 hlt,m8] at hp
  obtain ⟨h,hx⟩:∃x,x=c.Hunks[k]:=⟨_,rfl⟩
  rw [←hx] at hv hrw hzm hp
  have hz1:=S6 h.Rows
  have hz2:=A85 h.Rows
  unfold B05 at hzm
  have hf:=F79 h n ends (by omega) hrw (by omega) hel he0
  rw [←hNc] at hf
  refine k5 (k1 (k2 (k3 (k2 ?_))))
  refine A3 (A2 (B0 Z (.pure _ _ _ _) Z (by omega) hv) Z (A2 (E1 Z Z) Z (B9 (F5 6 Z) Z (E6 (B7 TySz.out Z Z Z Z Z Z) (A6 ?_)))))
  refine k1 (k2 ?_)
  refine A3 (A2 (A5 Z Z) Z (A6 ?_))
  refine k1 (k2 (k2 ?_))
  cases hfb:X6 n ends h with
  | false =>
   rw [hfb,if_neg (by decide)] at hf
   rw [hfb,Bool.false_and] at hp
   refine A3 (A2 (C8 Z Z Z) Z (A2 (A7 Z) Z (A2 (A8 Z Z Z) Z (A2 (A4 Z Z) Z (C2 (hf) Z Z Z ?_)))));rintro _ rfl;refine A2 (A4 Z Z) Z (A2 (C5 Z Z) Z (A2 (C5 Z Z) Z (A2 (A5 Z Z) Z (A2 (A5 Z Z) Z (A6 ?_)))))
   refine k1 (k2 ?_)
   refine A3 (A2 (A4 Z Z) Z (A2 (J2 Z) Z (A6 ?_)))
   refine k1 ?_
   refine B3 rfl (fun ht=>?_) (fun ht=>?_)
   ·refine k2 ?_
    refine A3 (A2 (A5 Z Z) Z (A6 ?_))
    refine k1 (k10 (k11 (k12 (k11 (k11 (k12 (k11 ?_)))))))
    exact B5 (F1 rfl rfl rfl) (by rw [hp])
   ·cases ht
  | true =>
   rw [hfb,if_pos rfl] at hf
   rw [hfb,Bool.true_and] at hp
   have hpos:∀e∈U5 n h,0≤e:=by
    intro e hm
    obtain ⟨j,hj,rfl⟩:=List.mem_map.1 hm
    have hj:=List.mem_range.1 hj
    have h1:=((C99 n ends h).1 hfb).2 j hj
    have h2:=he0 _ (I98 (D93 (l:=ends) (i:=j) (by omega)))
    have h3:=B91 h.Rows n j
    omega
   refine A3 (A2 (C8 Z Z Z) Z (A2 (A7 Z) Z (A2 (A8 Z Z Z) Z (A2 (A4 Z Z) Z (C2 (hf) Z Z Z ?_)))));rintro _ rfl;refine A2 (A4 Z Z) Z (A2 (C5 Z Z) Z (A2 (C5 Z Z) Z (A2 (A5 Z Z) Z (A2 (A5 Z Z) Z (A6 ?_)))))
   refine k1 (k2 ?_)
   refine A3 (A2 (A4 Z Z) Z (A2 (J2 Z) Z (A6 ?_)))
   refine k1 ?_
   refine B3 rfl (fun ht=>?_) (fun ht=>?_)
   ·cases ht
   refine k5 (k1 (k2 ?_))
   refine A3 (A2 (A7 Z) Z (A2 (A8 Z Z Z) Z (A2 (D4 Z (.pure _ _ _ _)) Z (A2 (A4 Z Z) Z (A6 ?_)))))
   refine k1 (k3 ?_)
   refine C9 (X:=Nat × Bool × Int) (fun x=>([(1,.s (.one (.ref 1 0))),(3,.s (.one (.ref 3 0))),(4,C1 Int 1 F9 (U5 n h)),(15,C1 CHunk 2 K8 c.Hunks),(16,B8 c.Hunks.length),(17,B8 k),(32,C1 Row 3 rowC h.Rows),(33,B8 h.Rows.length),(34,B8 x.1)],[(1,A32 c),(3,.box [.p (.v (.bool x.2.1)),.p (.v (.int .u32 x.2.2))])])) (fun x=>x.1≤h.Rows.length∧R0 res par h.Rows=R0 x.2.1 x.2.2 (h.Rows.drop x.1)∧m6 res h.Rows=m6 x.2.1 (h.Rows.drop x.1)∧m7 par h.Rows=m7 x.2.2 (h.Rows.drop x.1)) (fun x=>h.Rows.length - x.1) (0,res,par) ⟨Nat.zero_le _,rfl,rfl,rfl⟩ (I45 ⟨le1 rfl,le1 rfl,le1 rfl,le1 rfl,le1 rfl,le1 rfl,le1 rfl,le1 rfl,le1 rfl,trivial⟩ ⟨rfl,rfl,trivial⟩) ?_
   rintro ⟨j,res',par'⟩ ⟨hj,q1,q2,q3⟩
   dsimp only at hj q1 q2 q3 ⊢
   refine k2 ?_
   refine A3 (A2 (D7 Z Z) Z (A6 ?_))
   refine k1 (k2 ?_)
   refine B3 rfl (fun ht=>?_) (fun ht=>?_)
   ·have hlt2:j < h.Rows.length:=by have:=A0 ht;omega
    have hv2:h.Rows[j]?=some h.Rows[j]:=by simp [hlt2]
    have htl:=C22 h.Rows _ (I90 hlt2)
    rw [I84 hlt2] at q1 q2 q3
    rw [R0] at q1
    obtain ⟨r,hy⟩:∃x,x=h.Rows[j]:=⟨_,rfl⟩
    rw [←hy] at hv2 htl q1 q2 q3
    refine k5 (k1 (k2 (k3 (k2 ?_))))
    refine A3 (A2 (B0 Z (.pure _ _ _ _) Z (by omega) hv2) Z (A2 (E1 Z Z) Z (B9 (F5 9 Z) Z (E6 (B7 TySz.out Z Z Z Z Z Z) (A6 ?_)))))
    refine k1 (k2 ?_)
    by_cases hs:K0 r.Text=true
    ·refine A3 (A2 (C8 Z Z Z) Z (C2 (A62 r (by omega)) Z Z Z ?_));rintro _ rfl;refine A2 (J2 Z) Z (A2 (A4 Z Z) Z (L2 Z Z Z (by rw [hs];rfl) ?_));refine A2 (C8 Z Z Z) Z (L2 Z Z Z (by rw [hs];rfl) ?_);refine F47 (H06 r res' par' (by omega)) Z Z Z Z Z Z ?_;rintro _ _ ⟨rfl,rfl⟩;refine B1 Z Z Z Z (fun hg=>by rw [hg];exact J2 Z) ?_;refine A2 (B6 Z (fun h=>by first | rfl | (rw [h];rfl)) (fun h=>by first | rfl | (rw [h];rfl))) Z ?_;refine A6 ?_
     refine k1 ?_
     refine B3 rfl (fun ht=>?_) (fun ht=>?_)
     ·have h2:B71 res' par' r=false:=by rw [hs] at ht;simpa using ht
      rw [hs,h2,Bool.true_and,Bool.false_and] at q1
      rw [q1,Bool.false_and] at hp
      refine k2 ?_
      refine A3 (A2 (A5 Z Z) Z (A6 ?_))
      refine k1 (k10 (k12 (k11 (k11 (k12 (k12 (k11 (k11 (k12 (k11 ?_))))))))))
      exact B5 (F1 rfl rfl rfl) (by rw [hp])
     ·have h2:B71 res' par' r=true:=by rw [hs] at ht;simpa using ht
      rw [hs,h2,Bool.true_and,Bool.true_and] at q1
      refine k5 (k4 (k1 ?_))
      refine A3 (A2 (C0 Z Z (by omega)) Z (A2 (A4 Z Z) Z (A6 ?_)))
      refine k1 ?_
      exact ⟨(j+1,_,_),⟨by dsimp only;omega,q1,q2,q3⟩,by dsimp only;omega,I45 ⟨le1 rfl,le1 rfl,le1 rfl,le1 rfl,le1 rfl,le1 rfl,le1 rfl,le1 rfl,le1 rfl,trivial⟩ ⟨rfl,rfl,trivial⟩⟩
    ·have hs':K0 r.Text=false:=by simpa using hs
     refine A3 (A2 (C8 Z Z Z) Z (C2 (A62 r (by omega)) Z Z Z ?_));rintro _ rfl;refine A2 (J2 Z) Z (A2 (A4 Z Z) Z (B1 Z Z Z Z (fun hg=>by rw [hg];exact C8 Z Z Z) ?_));refine O3 Z Z Z (by rw [hs'];decide) Z ?_;refine O3 Z Z Z (by rw [hs'];decide) Z ?_;refine A2 (B6 (q:=true) Z (fun h=>rfl) (fun h=>by rw [hs'] at h;cases h)) Z ?_;refine A6 ?_
     rw [hs',Bool.false_and,Bool.false_and] at q1
     rw [q1,Bool.false_and] at hp
     refine k1 ?_
     refine B3 rfl (fun ht=>?_) (fun ht=>?_)
     ·refine k2 ?_
      refine A3 (A2 (A5 Z Z) Z (A6 ?_))
      refine k1 (k10 (k12 (k11 (k11 (k12 (k12 (k11 (k11 (k12 (k11 ?_))))))))))
      exact B5 (F1 rfl rfl rfl) (by rw [hp])
     ·rw [hs'] at ht;cases ht
   ·have hjl:j=h.Rows.length:=by have:=A1 ht;omega
    rw [hjl,I87 (Nat.le_refl _)] at q1 q2 q3
    have q1:R0 res par h.Rows=true:=q1
    have q2:m6 res h.Rows=res':=q2
    have q3:m7 par h.Rows=par':=q3
    rw [q1,q2,q3,Bool.true_and] at hp
    refine k6 (k7 (k7 (k8 Z (k4 (k1 ?_)))))
    refine A3 (A2 (C0 Z Z (by omega)) Z (A2 (A4 Z Z) Z (A6 ?_)))
    refine k1 ?_
    exact ⟨(k+1,_,_,_),⟨by dsimp only;omega,A84 n h,hpos,hp⟩,by dsimp only;omega,I45 ⟨le1 rfl,le1 rfl,le1 rfl,le1 rfl,le1 rfl,le1 rfl,trivial⟩ ⟨rfl,rfl,trivial⟩⟩
 ·have hkl:k=c.Hunks.length:=by have:=A1 ht;omega
  rw [hkl,I87 (Nat.le_refl _)] at hp
  have hp:W=decide (∀e∈ends,e≤4096):=hp
  refine k6 (k2 ?_)
  refine A3 (A2 (A4 Z Z) Z (C2 (smax_ok ends (by omega)) Z Z Z ?_));rintro _ ⟨m,rfl,hm⟩;refine A2 (i6 Z Z) Z (A2 (A5 Z Z) Z (A6 ?_))
  refine k1 (k10 ?_)
  exact B5 (F1 rfl rfl rfl) (by rw [hp];simp only [hm 4096])
theorem B48 (s:Str):FnOk Tryz.prog 91 [L5 s] (fun rs=>rs=[I3 (N6 s)]):=by
 refine FnOk.intro Tryz.func91 (by decide) Z Z Z Z ?_
 refine k2 ?_
 refine A3 (A2 (A5 Z Z) Z (A6 ?_))
 refine k1 (k2 ?_)
 refine A3 (A2 (A4 Z Z) Z (A2 (M1 Z) Z (A2 (A05 Z Z) Z (A2 (A4 Z Z) Z (B1 Z Z Z Z (fun hg=>by rw [hg];exact A4 Z Z) ?_)))));refine B1 Z Z Z Z (fun hg=>by rw [hg];exact M1 Z) ?_;refine B1 Z Z Z Z (fun hg=>by rw [hg];exact i6 Z Z) ?_;refine A2 (B6 Z (fun h=>by first | rfl | (rw [h];rfl)) (fun h=>by first | rfl | (rw [h];rfl))) Z ?_;refine A2 (A5 Z Z) Z (A6 ?_)
 refine k1 (k10 ?_)
 refine B5 (F1 Z Z Z) ?_
 rw [P4]
 unfold N6
 congr 4
 apply decide_eq_decide.2
 omega
theorem E58 (c:Comb) (hp:c.Path.length≤16777216):FnOk Tryz.prog 86 [O0 c] (fun rs=>rs=[L5 (A88 c)]):=by
 have hq:=B93 c.Path
 have hf:=F36 c.Parents
 refine FnOk.intro Tryz.func86 (by decide) Z Z Z Z ?_
 refine k2 ?_
 refine A3 (B9 (N7 1 Z Z Z) Z (A2 (A5 Z Z) Z (A6 ?_)))
 refine k1 (k2 ?_)
 refine A3 (A2 (A5 Z Z) Z (A6 ?_))
 refine k1 (k2 (k2 ?_))
 refine A3 (A2 (A7 Z) Z (A2 (A8 Z Z Z) Z (A6 ?_)))
 refine k1 ?_
 refine B3 rfl (fun ht=>?_) (fun ht=>?_)
 ·have hd:c.Dense=true:=ht
  skip
  refine A3 (A2 (A5 Z Z) Z (A6 ?_))
  refine k1 (k2 ?_)
  refine D2 (by kernel_rfl) (by kernel_rfl) (A9 (A4 Z Z) Z Z (A9 (F4 Z Z (by (simp only [I78,I79,I81];omega))) Z Z (A9 (F4 Z Z (by (simp only [I78,I79,I81];omega))) Z Z (A9 (A7 Z) Z Z (A9 (A8 Z Z Z) Z Z (A9 (H6 (E54 c.Path (by omega)) Z Z) Z Z (A9 (F4 Z Z (by (simp only [I78,I79,I81];omega))) Z Z (A9 (F4 Z Z (by (simp only [I78,I79,I81];omega))) Z Z (A9 (A7 Z) Z Z (A9 (A8 Z Z Z) Z Z (A9 (H6 (n7 c.Parents) Z Z) Z Z (A9 (F4 Z Z (by (simp only [I78,I79,I81];omega))) Z Z (A9 (F4 Z Z (by (simp only [I78,I79,I81];omega))) Z Z (A9 (A5 Z Z) Z Z (K7 ?_)))))))))))))))
  refine k1 (k10 ?_)
  exact B5 (F1 rfl rfl rfl) (by unfold A88 A99;rw [if_pos hd];simp [ccS,parS])
 ·have hd:c.Dense=false:=ht
  refine k5 (k1 (k2 ?_))
  refine D2 (by kernel_rfl) (by kernel_rfl) (A9 (A4 Z Z) Z Z (A9 (F4 Z Z (by (simp only [I78,I79,I81];omega))) Z Z (A9 (F4 Z Z (by (simp only [I78,I79,I81];omega))) Z Z (A9 (A7 Z) Z Z (A9 (A8 Z Z Z) Z Z (A9 (H6 (E54 c.Path (by omega)) Z Z) Z Z (A9 (F4 Z Z (by (simp only [I78,I79,I81];omega))) Z Z (A9 (F4 Z Z (by (simp only [I78,I79,I81];omega))) Z Z (A9 (A7 Z) Z Z (A9 (A8 Z Z Z) Z Z (A9 (H6 (n7 c.Parents) Z Z) Z Z (A9 (F4 Z Z (by (simp only [I78,I79,I81];omega))) Z Z (A9 (F4 Z Z (by (simp only [I78,I79,I81];omega))) Z Z (A9 (A5 Z Z) Z Z (K7 ?_)))))))))))))))
  refine k1 (k10 ?_)
  exact B5 (F1 rfl rfl rfl) (by unfold A88 A99;rw [hd,if_neg (by decide)];simp [combS,parS])
theorem D58 (h:CHunk) (n:Nat) (hn:n≤32) (hr:H8 h.Rows) (hl:h.Rows.length≤268435456) (ha:h.At.length=n+1) (hb:∀a∈h.At,-4611686018427387904≤a∧a≤4611686018427387904) :
  FnOk Tryz.prog 87 [A83 h,G1 n] (fun rs=>rs=[L5 (A97 n h++[10])]):=by
 have hrep:FnOk Tryz.prog 150 [L5 [64],G1 ((n:Int)+1)] (fun rs=>rs=[L5 (atS (n+1))]):=by
  have:=H56 64 (n+1) (by omega)
  rwa [show ((n+1:Nat):Int)=(n:Int)+1 by omega] at this
 obtain ⟨A,hA⟩:∃A,A=atS (n+1):=⟨_,rfl⟩
 have hAl:A.length=n+1:=by rw [hA,D19]
 have hend:A97 n h++[10]=A++U4 n h n++([32,43]++O7 (h.At.getD n 0) (N4 h.Rows n n)++[32]++A++[10]):=by
  unfold A97
  rw [A24,hA]
  unfold C97 F34
  rw [if_pos rfl];simp
 rw [hend]
 rw [←hA] at hrep
 have hsl:=fun k=>A87 n h k
 have hcnt:=fun k=>B91 h.Rows n k
 have hgA:∀k,k < n+1→h.At[k]?=some (h.At.getD k 0):=fun k hk=>D93 (by omega)
 have hgC:∀k,k < n+1→(I5 h.Rows n)[k]?=some (N4 h.Rows n k):=fun k hk=>G87 h.Rows n k hk
 have hrA:∀k,k < n+1 → -4611686018427387904≤h.At.getD k 0∧h.At.getD k 0≤4611686018427387904:=fun k hk=>hb _ (I98 (hgA k hk))
 refine FnOk.intro Tryz.func87 (by decide) Z Z Z Z ?_
 refine k2 ?_
 refine A3 (B9 (N7 2 Z Z Z) Z (A2 (A5 Z Z) Z (A6 ?_)))
 refine k1 (k2 ?_)
 refine A3 (A2 (A7 Z) Z (A2 (A8 Z Z Z) Z (A2 (A4 Z Z) Z (l_new (B24 h.Rows n hn hr hl) Z Z Z Z ?_))));rintro _ _ ⟨rfl,rfl⟩;refine ⟨rfl,?_⟩;refine A2 (A5 Z Z) Z (A6 ?_)
 refine k1 (k2 ?_)
 refine F8 (Sees.freeze (k:=720) Z) ?_
 refine A3 (A2 (A4 Z Z) Z (A2 (C0 Z Z (by omega)) Z (C2 (hrep) Z Z Z ?_)));rintro _ rfl;refine A2 (A5 Z Z) Z (A6 ?_)
 refine k1 (k2 ?_)
 refine A3 (B9 (D28 700 Z) Z (A6 ?_))
 refine k1 (k2 ?_)
 refine F8 (I58 701 UInt8 1 u8C 5 (kb:=700) (o:=1) Z Z Z) ?_
 refine A3 (A2 (A4 Z Z) Z (A11 (Q3 (xs:=[]) (s:=A) ⟨⟨_,.inl rfl,rfl⟩,rfl⟩ (by simp only [I81];omega)) Z Z Z ?_));rintro _ _ ⟨rfl,rfl⟩;refine A6 ?_
 refine k1 (k2 (k2 ?_))
 refine A3 (A2 (A4 Z Z) Z (A2 (A4 Z Z) Z (A6 ?_)))
 refine k1 (k3 ?_)
 refine C9 (X:=Nat) (fun p=>([(1,B8 n),(2,.s (.one (.ref 2 0))),(5,C1 Int 1 F9 (I5 h.Rows n)),(6,S7 A),(7,.s (.one (.ref 700 0))),(18,B8 n),(19,B8 p)],[(2,.box (A83 h).s1.cells),(700,.tbx 124 [.ref 700 0,.buf 701 UInt8 1 u8C (A++U4 n h p)]),(701,.spare (A++U4 n h p).length 1 5)])) (fun p=>p≤n) (fun p=>n - p) 0 (Nat.zero_le _) ?_ ?_
 ·rw [show U4 n h 0=[] from rfl,I97]
  exact I45 ⟨le1 rfl,le1 rfl,le1 rfl,le1 rfl,le1 rfl,le1 rfl,le1 rfl,trivial⟩ ⟨rfl,rfl,rfl,trivial⟩
 intro p hp
 dsimp only at hp ⊢
 have hsp:=hsl p
 have hsucc:=A24 n h p
 refine k2 ?_
 refine A3 (A2 (D7 Z Z) Z (A6 ?_))
 refine k1 (k2 ?_)
 refine B3 rfl (fun ht=>?_) (fun ht=>?_)
 ·have hlt:p < n:=by have:=A0 ht;omega
  have hga:=hgA p (by omega)
  have hgc:=hgC p (by omega)
  have hra:=hrA p (by omega)
  have hcp:=hcnt p
  have hsw:C97 n h p=[32,45]++O7 (h.At.getD p 0) (N4 h.Rows n p):=by
   unfold C97 F34;rw [if_neg (by omega)]
  have hrl:=A19 (h.At.getD p 0) (N4 h.Rows n p)
  rw [hsw] at hsucc
  obtain ⟨a,haa⟩:∃a,a=h.At.getD p 0:=⟨_,rfl⟩
  obtain ⟨q,hqq⟩:∃q,q=N4 h.Rows n p:=⟨_,rfl⟩
  rw [←haa] at hga hra hrl hsucc
  rw [←hqq] at hgc hcp hrl hsucc
  have hlb:(A++U4 n h p).length≤1000:=by rw [I78];omega
  obtain ⟨B,hB⟩:∃B,B=A++U4 n h p:=⟨_,rfl⟩
  rw [←hB] at hlb ⊢
  refine k5 (k1 (k2 (k3 (k2 ?_))))
  refine A3 (A2 (A4 Z Z) Z (A2 (A5 Z Z) Z (A6 ?_)))
  refine k1 ?_
  refine A27 11 (by kernel_rfl) (by kernel_rfl) Z (A9 (A7 Z) Z Z (A9 (A8 Z Z Z) Z Z (A9 (A4 Z Z) Z Z (A9 (B0 Z (.pure _ _ _ _) Z (by omega) hga) Z Z (A9 (B2 Z Z) Z Z (A9 (A4 Z Z) Z Z (A9 (A4 Z Z) Z Z (A9 (B0 Z (.pure _ _ _ _) Z (by omega) hgc) Z Z (A9 (B2 Z Z) Z Z (A9 (H6 (E53 a q hra (by omega)) Z Z) Z Z (A9 (F4 Z Z (by (simp only [I78,I79,I81];omega))) Z Z (K7 (F54 (Q3 (xs:=B) (s:=[32,45]++O7 a q) ⟨⟨_,.inr rfl,rfl⟩,rfl⟩ (by simp only [I78,I79,I81];omega)) Z Z Z ?_)))))))))))));rintro _ _ ⟨rfl,rfl⟩;refine ⟨_,rfl,?_⟩;refine K7 ?_
  refine k4 (k1 ?_)
  refine A3 (A2 (C0 Z Z (by omega)) Z (A2 (A4 Z Z) Z (A6 ?_)))
  refine k1 ?_
  refine ⟨p+1,by omega,by omega,?_⟩
  have hs2:A++U4 n h (p+1)=B++([32,45]++O7 a q):=by rw [hsucc,hB,I88]
  rw [hs2]
  exact I45 ⟨le1 rfl,le1 rfl,le1 rfl,le1 rfl,le1 rfl,le1 rfl,le1 rfl,trivial⟩ ⟨rfl,rfl,rfl,trivial⟩
 ·have hpn:p=n:=by have:=A1 ht;omega
  subst hpn
  have hga:=hgA p (by omega)
  have hgc:=hgC p (by omega)
  have hra:=hrA p (by omega)
  have hcp:=hcnt p
  have hrl:=A19 (h.At.getD p 0) (N4 h.Rows p p)
  obtain ⟨a,haa⟩:∃a,a=h.At.getD p 0:=⟨_,rfl⟩
  obtain ⟨q,hqq⟩:∃q,q=N4 h.Rows p p:=⟨_,rfl⟩
  rw [←haa] at hga hra hrl ⊢
  rw [←hqq] at hgc hcp hrl ⊢
  have hlb:(A++U4 p h p).length≤1000:=by rw [I78];omega
  obtain ⟨B,hB⟩:∃B,B=A++U4 p h p:=⟨_,rfl⟩
  rw [←hB] at hlb ⊢
  refine k6 (k2 ?_)
  refine A27 15 (by kernel_rfl) (by kernel_rfl) Z (A9 (A7 Z) Z Z (A9 (A8 Z Z Z) Z Z (A9 (A4 Z Z) Z Z (A9 (B0 Z (.pure _ _ _ _) Z (by omega) hga) Z Z (A9 (B2 Z Z) Z Z (A9 (A4 Z Z) Z Z (A9 (A4 Z Z) Z Z (A9 (B0 Z (.pure _ _ _ _) Z (by omega) hgc) Z Z (A9 (B2 Z Z) Z Z (A9 (H6 (E53 a q hra (by omega)) Z Z) Z Z (A9 (F4 Z Z (by (simp only [I78,I79,I81];omega))) Z Z (A9 (F4 Z Z (by (simp only [I78,I79,I81];omega))) Z Z (A9 (A4 Z Z) Z Z (A9 (F4 Z Z (by (simp only [I78,I79,I81];omega))) Z Z (A9 (F4 Z Z (by (simp only [I78,I79,I81];omega))) Z Z (K7 (F54 (Q3 (xs:=B) (s:=[32,43]++O7 a q++[32]++A++[10]) ⟨⟨_,.inr rfl,rfl⟩,rfl⟩ (by simp only [I78,I79,I81];omega)) Z Z Z ?_)))))))))))))))));rintro _ _ ⟨rfl,rfl⟩;refine ⟨_,rfl,?_⟩;refine K7 ?_
  refine k1 (k2 ?_)
  refine A3 (C45 (k:=700) (k':=701) ⟨_,rfl,rfl,rfl⟩ A31 Z Z Z Z Z (.inr Z) Z (A2 (A5 Z Z) Z (A6 ?_)))
  refine k1 (k10 ?_)
  exact B5 (F1 rfl rfl rfl) rfl
def C20 (r:Row):UInt8:=if r.Lost then 45 else 43
theorem crow_ok (r:Row) (n:Nat) (hn:n≤32) (hm:0≤r.Marks∧r.Marks < 4294967296) (hx:r.Text.length≤268435456) :
  FnOk Tryz.prog 88 [pRow r,G1 n] (fun rs=>rs=[L5 (U8 n r).flatten]):=by
 rw [D97]
 refine FnOk.intro Tryz.func88 (by decide) Z Z Z Z ?_
 refine k2 ?_
 refine A3 (B9 (N7 2 Z Z Z) Z (A2 (A5 Z Z) Z (A6 ?_)))
 refine k1 (k2 ?_)
 refine A3 (A2 (A5 Z Z) Z (A6 ?_))
 refine J7 ?_
 refine n4 [(1,B8 n),(2,.s (.one (.ref 2 0))),(5,I9 (.int .u8 (C20 r).toNat))] [(2,.box (pRow r).s1.cells)] ?_ ?_
 ·refine k2 ?_
  refine A3 (A2 (A7 Z) Z (A2 (A8 Z Z Z) Z (A6 ?_)))
  refine k1 ?_
  refine B3 rfl (fun ht=>?_) (fun ht=>?_)
  ·have h:r.Lost=true:=ht
   skip
   refine A3 (A2 (A5 Z Z) Z (A6 ?_))
   refine k1 ?_
   rw [show C20 r=45 by unfold C20;rw [h];rfl]
   exact I45 ⟨le1 rfl,le1 rfl,le1 rfl,trivial⟩ ⟨rfl,trivial⟩
  ·have h:r.Lost=false:=ht
   refine k5 (k1 ?_)
   rw [show C20 r=43 by unfold C20;rw [h];rfl]
   exact I45 ⟨le1 rfl,le1 rfl,le1 rfl,trivial⟩ ⟨rfl,trivial⟩
 refine k2 ?_
 refine A3 (A2 (A4 Z Z) Z (A2 (A7 Z) Z (A2 (A8 Z Z Z) Z (A2 (M1 Z) Z (A2 (C0 Z Z (by omega)) Z (A2 (C0 Z Z (by omega)) Z (B9 (H38 730 UInt8 u8C Z Z (by omega) (by omega) (by first | rfl | (simp [H0,H3,Ob.free,SV.free,S1.free,TC.free]<;>rfl))) Z ?_)))))));refine A2 (A5 Z Z) Z (A6 ?_)
 refine k1 (k2 (k2 ?_))
 refine A3 (A2 (A4 Z Z) Z (A2 (A4 Z Z) Z (A6 ?_)))
 refine k1 (k3 ?_)
 refine C9 (X:=Nat) (fun p=>([(1,B8 n),(2,.s (.one (.ref 2 0))),(5,I9 (.int .u8 (C20 r).toNat)),(6,.s (.one (.buf 730 UInt8 1 u8C (c5 p r)))),(17,B8 n),(18,B8 p)],[(2,.box (pRow r).s1.cells),(730,.spare (c5 p r).length 1 5)])) (fun p=>p≤n) (fun p=>n - p) 0 (Nat.zero_le _) (I45 ⟨le1 rfl,le1 rfl,le1 rfl,le1 rfl,le1 rfl,le1 rfl,trivial⟩ ⟨rfl,rfl,trivial⟩) ?_
 intro p hp
 dsimp only at hp ⊢
 have hml:=A46 p r
 have hsucc:=D00 p r
 refine k2 ?_
 refine A3 (A2 (D7 Z Z) Z (A6 ?_))
 refine k1 (k2 ?_)
 refine B3 rfl (fun ht=>?_) (fun ht=>?_)
 ·have hlt:p < n:=by have:=A0 ht;omega
  refine k5 (k1 (k2 (k3 (k2 ?_))))
  refine A3 (A2 (A4 Z Z) Z (A2 (A5 Z Z) Z (A6 ?_)))
  refine k1 (k2 ?_)
  refine A3 (A2 (A7 Z) Z (A2 (A8 Z Z Z) Z (A2 (A4 Z Z) Z (A2 (A04 Z Z (by omega)) Z (A2 (U9 Z Z Z (fun _=>rfl)) Z (A2 (J6 Z Z) Z (A6 ?_)))))))
  refine k1 ?_
  have h3:0≤r.Marks / 2 ^ p:=Int.ediv_nonneg hm.1 (Int.pow_nonneg (by decide))
  have h4:r.Marks / 2 ^ p≤r.Marks:=Int.ediv_le_self _ hm.1
  have e32:r.Marks.fdiv (2 ^ (min (p:Int).toNat IntKind.u32.bits))=r.Marks / 2 ^ p:=D71 r.Marks p (by omega)
  have e1:=B27 (r.Marks / 2 ^ p) (by omega)
  refine B3 rfl (fun ht=>?_) (fun ht=>?_)
  ·rw [e32,e1] at ht
   have hb:A16 r.Marks p=true:=by unfold A16;simpa using ht
   have hmk:A98 r p=C20 r:=by unfold A98 C20;rw [hb,if_neg (by decide)]
   rw [hmk] at hsucc
   skip
   refine A3 (A2 (A4 Z Z) Z (A2 (A4 Z Z) Z (A2 (C4 (c:=u8C) (ys:=[C20 r]) (D5 Z Z Z Z E7) Z Z Z) Z (B9 (F0 Z Z Z (.pure _ _ _ _) (by (simp only [I79,I81];omega)) Z) Z (A2 (A5 Z Z) Z (A6 ?_))))))
   refine k4 (k1 ?_)
   refine A3 (A2 (C0 Z Z (by omega)) Z (A2 (A4 Z Z) Z (A6 ?_)))
   refine k1 ?_
   refine ⟨p+1,by omega,by omega,?_⟩
   rw [hsucc]
   exact I45 ⟨le1 rfl,le1 rfl,le1 rfl,le1 rfl,le1 rfl,le1 rfl,trivial⟩ ⟨rfl,rfl,trivial⟩
  ·rw [e32,e1] at ht
   have hb:A16 r.Marks p=false:=by unfold A16;simpa using ht
   have hmk:A98 r p=32:=by unfold A98;rw [if_pos hb]
   rw [hmk] at hsucc
   skip
   refine A3 (A2 (A4 Z Z) Z (A2 (C4 (c:=u8C) (ys:=[32]) (D5 Z Z Z Z E7) Z Z Z) Z (B9 (F0 Z Z Z (.pure _ _ _ _) (by (simp only [I79,I81];omega)) Z) Z (A2 (A5 Z Z) Z (A6 ?_)))))
   refine k4 (k1 ?_)
   refine A3 (A2 (C0 Z Z (by omega)) Z (A2 (A4 Z Z) Z (A6 ?_)))
   refine k1 ?_
   refine ⟨p+1,by omega,by omega,?_⟩
   rw [hsucc]
   exact I45 ⟨le1 rfl,le1 rfl,le1 rfl,le1 rfl,le1 rfl,le1 rfl,trivial⟩ ⟨rfl,rfl,trivial⟩
 ·have hpn:p=n:=by have:=A1 ht;omega
  subst hpn
  refine k6 (k2 ?_)
  refine A3 (A2 (A4 Z Z) Z (A2 (A7 Z) Z (A2 (A8 Z Z Z) Z (B9 (A50 TyStr.out Z Z Z (by omega) Z) Z (A2 (A5 Z Z) Z (A6 ?_))))))
  refine k1 (k2 (k2 ?_))
  refine A3 (A2 (A7 Z) Z (A2 (A8 Z Z Z) Z (C2 (B47 r.Text (by omega)) Z Z Z ?_)));rintro _ rfl;refine A2 (J2 Z) Z (A6 ?_)
  refine k1 ?_
  refine B3 rfl (fun ht=>?_) (fun ht=>?_)
  ·have h:ended r.Text=false:=by simpa using ht
   skip
   refine A3 (A2 (A4 Z Z) Z (B9 (A50 TyStr.out Z Z Z (by (simp only [I78,I79,I81];omega)) Z) Z (A2 (A5 Z Z) Z (A6 ?_))))
   refine k1 (k2 ?_)
   refine A3 (A2 (A4 Z Z) Z (A2 (X0 TyStr.out Z (.buf _ _ _ _ _)) Z (A2 (A5 Z Z) Z (A6 ?_))))
   refine k1 (k10 ?_)
   exact B5 (F1 rfl rfl rfl) (by rw [h,if_neg (by decide)];rfl)
  ·have h:ended r.Text=true:=by simpa using ht
   refine k5 (k1 (k2 ?_))
   refine A3 (A2 (A4 Z Z) Z (A2 (X0 TyStr.out Z (.buf _ _ _ _ _)) Z (A2 (A5 Z Z) Z (A6 ?_))))
   refine k1 (k10 ?_)
   exact B5 (F1 rfl rfl rfl) (by rw [if_pos h,I97])
structure CFit (c:Comb):Prop where
 par:0≤c.Parents∧c.Parents≤32
 path:c.Path.length≤4194304
 sz:szC c.Hunks≤268435456
 rows:∀h∈c.Hunks,H8 h.Rows
 ats:∀h∈c.Hunks,h.At.length=c.Parents.toNat+1∧∀a∈h.At,-4611686018427387904≤a∧a≤4611686018427387904
theorem I16 (c:Comb) (hc:CFit c):FnOk Tryz.prog 94 [O0 c] (fun rs=>rs=[G1 (A37 c).length]):=by
 obtain ⟨h1,h2,h3,h4,h5⟩:=hc
 have hzl:=A23 c.Hunks
 have hm29:markS.length=29:=rfl
 obtain ⟨n,hN⟩:∃n,n=c.Parents.toNat:=⟨_,rfl⟩
 have hNc:c.Parents=(n:Int):=by omega
 have hn:n≤32:=by omega
 have hct:=fun k=>F37 c (by omega) k
 have hcs:=fun k h=>G24 c k h
 rw [←hN] at h5 hcs
 refine FnOk.intro Tryz.func94 (by decide) Z Z Z Z ?_
 refine k2 ?_
 refine A3 (B9 (N7 1 Z Z Z) Z (A2 (A5 Z Z) Z (A6 ?_)))
 refine k1 (k2 ?_)
 refine A3 (A2 (C8 Z Z Z) Z (C2 (E58 c (by omega)) Z Z Z ?_));rintro _ rfl;refine A2 (M1 Z) Z (A2 (A5 Z Z) Z (A6 ?_))
 refine k1 (k2 (k2 ?_))
 refine A3 (A2 (A7 Z) Z (A2 (A8 Z Z Z) Z (A2 (D4 Z (.pure _ _ _ _)) Z (A2 (A4 Z Z) Z (A6 ?_)))))
 refine k1 (k3 ?_)
 refine C9 (X:=Nat) (fun k=>([(1,.s (.one (.ref 1 0))),(3,B8 (cTo c k).length),(12,C1 CHunk 2 K8 c.Hunks),(13,B8 c.Hunks.length),(14,B8 k)],[(1,A32 c)])) (fun k=>k≤c.Hunks.length) (fun k=>c.Hunks.length - k) 0 (Nat.zero_le _) (by rw [D95];exact I45 ⟨le1 rfl,le1 rfl,le1 rfl,le1 rfl,le1 rfl,trivial⟩ ⟨rfl,trivial⟩) ?_
 intro k hk
 dsimp only at hk ⊢
 have hck:=hct k
 refine k2 ?_
 refine A3 (A2 (D7 Z Z) Z (A6 ?_))
 refine k1 (k2 ?_)
 refine B3 rfl (fun ht=>?_) (fun ht=>?_)
 ·have hlt:k < c.Hunks.length:=by have:=A0 ht;omega
  have hv:c.Hunks[k]?=some c.Hunks[k]:=by simp [hlt]
  have hmem:=I90 hlt
  have hrw:=h4 _ hmem
  have hat:=h5 _ hmem
  have hzm:=A86 hmem
  have hsucc:=hcs k hlt
  obtain ⟨h,hx⟩:∃x,x=c.Hunks[k]:=⟨_,rfl⟩
  rw [←hx] at hv hrw hat hzm hsucc
  have hz1:=S6 h.Rows
  have hz2:=A85 h.Rows
  unfold B05 at hzm
  have hh:=D58 h n hn hrw (by omega) hat.1 hat.2
  rw [←hNc] at hh
  have hhl:=B56 hn h
  obtain ⟨base,hbase⟩:∃base,base=(cTo c k).length:=⟨_,rfl⟩
  have hcl:=congrArg List.length hsucc
  rw [I78,E77,I78,←hbase] at hcl
  rw [←hbase] at hck ⊢
  obtain ⟨hd,hhd⟩:∃hd,hd=A97 n h++[10]:=⟨_,rfl⟩
  have hdl:hd.length≤926:=by rw [hhd,I78];simp only [I79,I81];omega
  rw [←hhd] at hh hcl
  refine k5 (k1 (k2 (k3 (k2 ?_))))
  refine A3 (A2 (B0 Z (.pure _ _ _ _) Z (by omega) hv) Z (A2 (E1 Z Z) Z (B9 (F5 5 Z) Z (E6 (B7 TySz.out Z Z Z Z Z Z) (A6 ?_)))))
  refine k1 (k2 ?_)
  refine A3 (A2 (A4 Z Z) Z (A2 (C8 Z Z Z) Z (A2 (A7 Z) Z (A2 (A8 Z Z Z) Z (C2 (hh) Z Z Z ?_)))));rintro _ rfl;refine A2 (M1 Z) Z (A2 (C0 Z Z (by omega)) Z (A2 (A5 Z Z) Z (A6 ?_)))
  refine k1 (k2 ?_)
  refine A3 (A2 (A7 Z) Z (A2 (A8 Z Z Z) Z (A2 (D4 Z (.pure _ _ _ _)) Z (A2 (A4 Z Z) Z (A6 ?_)))))
  refine k1 (k3 ?_)
  refine C9 (X:=Nat) (fun j=>([(1,.s (.one (.ref 1 0))),(3,B8 (base+hd.length+(rTo n h.Rows j).length:Nat)),(12,C1 CHunk 2 K8 c.Hunks),(13,B8 c.Hunks.length),(14,B8 k),(26,C1 Row 3 rowC h.Rows),(27,B8 h.Rows.length),(28,B8 j)],[(1,A32 c)])) (fun j=>j≤h.Rows.length) (fun j=>h.Rows.length - j) 0 (Nat.zero_le _) ?_ ?_
  ·have e:((base+hd.length+(rTo n h.Rows 0).length:Nat):Int)=(base:Int)+(hd.length:Int):=by rw [G25];simp
   rw [e]
   exact I45 ⟨le1 rfl,le1 rfl,le1 rfl,le1 rfl,le1 rfl,le1 rfl,le1 rfl,le1 rfl,trivial⟩ ⟨rfl,trivial⟩
  intro j hj
  dsimp only at hj ⊢
  have hrl:=H26 hn h.Rows j
  refine k2 ?_
  refine A3 (A2 (D7 Z Z) Z (A6 ?_))
  refine k1 (k2 ?_)
  refine B3 rfl (fun ht=>?_) (fun ht=>?_)
  ·have hlt2:j < h.Rows.length:=by have:=A0 ht;omega
   have hv2:h.Rows[j]?=some h.Rows[j]:=by simp [hlt2]
   have hrm:=C65 (I90 hlt2)
   have hsucc2:=G26 n h.Rows j hlt2
   obtain ⟨r,hy⟩:∃x,x=h.Rows[j]:=⟨_,rfl⟩
   rw [←hy] at hv2 hrm hsucc2
   have hrm:r.Text.length+96≤(h.Rows.map R8).sum:=hrm
   have hl2:=congrArg List.length hsucc2
   have hml:=A46 n r
   rw [I78,D97,I78,I78,hml] at hl2
   refine k5 (k1 (k2 (k3 (k2 ?_))))
   refine A3 (A2 (B0 Z (.pure _ _ _ _) Z (by omega) hv2) Z (A2 (E1 Z Z) Z (B9 (F5 7 Z) Z (E6 (B7 TySz.out Z Z Z Z Z Z) (A6 ?_)))))
   refine k1 (k2 ?_)
   refine A3 (A2 (A4 Z Z) Z (A2 (A7 Z) Z (A2 (A8 Z Z Z) Z (A2 (A7 Z) Z (A2 (A8 Z Z Z) Z (A2 (M1 Z) Z (A2 (C0 Z Z (by omega)) Z (A2 (C0 Z Z (by omega)) Z (A2 (A5 Z Z) Z (A6 ?_))))))))))
   refine k1 (k2 ?_)
   refine A3 (A2 (A7 Z) Z (A2 (A8 Z Z Z) Z (C2 (B47 r.Text (by omega)) Z Z Z ?_)));rintro _ rfl;refine A2 (J2 Z) Z (A6 ?_)
   refine k1 ?_
   refine B3 rfl (fun ht=>?_) (fun ht=>?_)
   ·have h2:ended r.Text=false:=by simpa using ht
    rw [h2,if_neg (by decide),hm29] at hl2
    have e:((base+hd.length+(rTo n h.Rows (j+1)).length:Nat):Int)=((base+hd.length+(rTo n h.Rows j).length:Nat):Int)+(c.Parents+(r.Text.length:Int))+29:=by omega
    skip
    refine A3 (A2 (A4 Z Z) Z (A2 (C0 Z Z (by omega)) Z (A2 (A5 Z Z) Z (A6 ?_))))
    refine k4 (k1 ?_)
    refine A3 (A2 (C0 Z Z (by omega)) Z (A2 (A4 Z Z) Z (A6 ?_)))
    refine k1 ?_
    refine ⟨j+1,by omega,by omega,?_⟩
    rw [e]
    exact I45 ⟨le1 rfl,le1 rfl,le1 rfl,le1 rfl,le1 rfl,le1 rfl,le1 rfl,le1 rfl,trivial⟩ ⟨rfl,trivial⟩
   ·have h2:ended r.Text=true:=by simpa using ht
    rw [if_pos h2,I81] at hl2
    have e:((base+hd.length+(rTo n h.Rows (j+1)).length:Nat):Int)=((base+hd.length+(rTo n h.Rows j).length:Nat):Int)+(c.Parents+(r.Text.length:Int)):=by omega
    refine k5 (k4 (k1 ?_))
    refine A3 (A2 (C0 Z Z (by omega)) Z (A2 (A4 Z Z) Z (A6 ?_)))
    refine k1 ?_
    refine ⟨j+1,by omega,by omega,?_⟩
    rw [e]
    exact I45 ⟨le1 rfl,le1 rfl,le1 rfl,le1 rfl,le1 rfl,le1 rfl,le1 rfl,le1 rfl,trivial⟩ ⟨rfl,trivial⟩
  ·have hjl:j=h.Rows.length:=by have:=A1 ht;omega
   subst hjl
   have e:base+hd.length+(rTo n h.Rows h.Rows.length).length=(cTo c (k+1)).length:=by omega
   rw [e]
   refine k6 (k7 (k7 (k8 Z (k4 (k1 ?_)))))
   refine A3 (A2 (C0 Z Z (by omega)) Z (A2 (A4 Z Z) Z (A6 ?_)))
   refine k1 ?_
   exact ⟨k+1,by omega,by omega,I45 ⟨le1 rfl,le1 rfl,le1 rfl,le1 rfl,le1 rfl,trivial⟩ ⟨rfl,trivial⟩⟩
 ·have hkl:k=c.Hunks.length:=by have:=A1 ht;omega
  subst hkl
  rw [D96]
  refine k6 (k2 ?_)
  refine A3 (A2 (A4 Z Z) Z (A2 (A5 Z Z) Z (A6 ?_)))
  refine k1 (k10 ?_)
  exact B5 (F1 rfl rfl rfl) rfl
theorem C51 {c:Comb} (hp:c.Path.length≤4194304) (hn:1≤c.Parents∧c.Parents≤32) (hz:szC c.Hunks≤268435456) (hr:∀h∈c.Hunks,H8 h.Rows) (hg:Q6 c.Parents.toNat c.Hunks=true):CFit c:=by
 refine ⟨by omega,hp,hz,hr,fun h hm=>?_⟩
 unfold Q6 at hg
 rw [I83] at hg
 obtain ⟨a1,a2,a3⟩:=C64 c.Hunks _ (fun k hk=>by rw [I82,List.getElem?_replicate_of_lt hk];exact Int.le_refl _) hg.1 h hm
 refine ⟨a1,fun a ha=>?_⟩
 obtain ⟨k,hk,rfl⟩:=List.getElem_of_mem ha
 have h1:=a3 k (by omega)
 have h2:=B91 h.Rows c.Parents.toNat k
 have e:h.At.getD k 0=h.At[k]:=by rw [I82,I80 hk];rfl
 rw [e] at h1
 omega
theorem C52 (c:Comb) (hz:szC c.Hunks≤268435456) (hr:∀h∈c.Hunks,H8 h.Rows):FnOk Tryz.prog 40 [O0 c] (fun rs=>rs=[G1 (J4 c)]):=by
 refine FnOk.intro Tryz.func40 (by decide) Z Z Z Z ?_
 refine k2 ?_
 refine A3 (B9 (N7 1 Z Z Z) Z (A2 (A5 Z Z) Z (A6 ?_)))
 refine k1 (k2 (k3 (k2 ?_)))
 refine A3 (A2 (A7 Z) Z (A2 (A8 Z Z Z) Z (C2 (B48 c.Path) Z Z Z ?_)));rintro _ rfl;refine A2 (J2 Z) Z (A2 (A5 Z Z) Z (A6 ?_))
 refine k1 ?_
 refine B3 rfl (fun ht=>?_) (fun ht=>?_)
 ·have h:N6 c.Path=false:=by simpa using ht
  refine k2 ?_
  refine A3 (A2 (A5 Z Z) Z (A6 ?_))
  refine k1 (k10 (k12 (k11 ?_)))
  exact B5 (F1 rfl rfl rfl) (by unfold J4;rw [if_pos h])
 have h:N6 c.Path=true:=by simpa using ht
 have hpl:=A0 h
 refine k2 ?_
 refine A3 (A2 (A7 Z) Z (A2 (A8 Z Z Z) Z (A2 (D7 Z Z) Z (A2 (A4 Z Z) Z (B1 Z Z Z Z (fun hg=>by rw [hg];exact A7 Z) ?_)))));refine B1 Z Z Z Z (fun hg=>by rw [hg];exact A8 Z Z Z) ?_;refine B1 Z Z Z Z (fun hg=>by rw [hg];exact M4 Z Z) ?_;refine A2 (B6 Z (fun h=>by first | rfl | (rw [h];rfl)) (fun h=>by first | rfl | (rw [h];rfl))) Z ?_;refine A2 (A5 Z Z) Z (A6 ?_)
 refine k1 ?_
 refine B3 rfl (fun ht=>?_) (fun ht=>?_)
 ·have h1:=A0 (or_pick.symm.trans ht)
  refine k2 ?_
  refine A3 (A2 (A5 Z Z) Z (A6 ?_))
  refine k1 (k10 (k12 (k11 ?_)))
  exact B5 (F1 rfl rfl rfl) (by unfold J4;rw [if_neg (by rw [h];decide),if_pos (by omega)])
 have h1:=A1 (or_pick.symm.trans ht)
 have hn:1≤c.Parents∧c.Parents≤32:=by omega
 refine k2 ?_
 refine A3 (A2 (C8 Z Z Z) Z (C2 (G52 c hn hr hz) Z Z Z ?_));rintro _ rfl;refine A2 (J2 Z) Z (A2 (A5 Z Z) Z (A6 ?_))
 refine k1 ?_
 refine B3 rfl (fun ht=>?_) (fun ht=>?_)
 ·have h2:W3 c.Parents.toNat c.Hunks=false:=by simpa using ht
  refine k2 ?_
  refine A3 (A2 (A5 Z Z) Z (A6 ?_))
  refine k1 (k10 (k12 (k11 ?_)))
  exact B5 (F1 rfl rfl rfl) (by unfold J4;rw [if_neg (by rw [h];decide),if_neg (by omega),if_pos h2])
 have h2:W3 c.Parents.toNat c.Hunks=true:=by simpa using ht
 have hw:=I15 c hn hr hz
 rw [G20 (by omega) h2] at hw
 refine k2 ?_
 refine A3 (A2 (C8 Z Z Z) Z (C2 (hw) Z Z Z ?_));rintro _ rfl;refine A2 (J2 Z) Z (A2 (A5 Z Z) Z (A6 ?_))
 refine k1 ?_
 refine B3 rfl (fun ht=>?_) (fun ht=>?_)
 ·have h3:Q6 c.Parents.toNat c.Hunks=false:=by simpa using ht
  refine k2 ?_
  refine A3 (A2 (A5 Z Z) Z (A6 ?_))
  refine k1 (k10 (k12 (k11 ?_)))
  exact B5 (F1 rfl rfl rfl) (by unfold J4;rw [if_neg (by rw [h];decide),if_neg (by omega),if_neg (by rw [h2];decide),if_pos h3])
 have h3:Q6 c.Parents.toNat c.Hunks=true:=by simpa using ht
 refine k2 ?_
 refine A3 (A2 (C8 Z Z Z) Z (C2 (I16 c (C51 (by omega) hn hz hr h3)) Z Z Z ?_));rintro _ rfl;refine A2 (M4 Z Z) Z (A2 (A5 Z Z) Z (A6 ?_))
 refine k1 ?_
 refine B3 rfl (fun ht=>?_) (fun ht=>?_)
 ·have h4:=A0 ht
  refine k2 ?_
  refine A3 (A2 (A5 Z Z) Z (A6 ?_))
  refine k1 (k10 (k12 (k11 ?_)))
  exact B5 (F1 rfl rfl rfl) (by unfold J4;rw [if_neg (by rw [h];decide),if_neg (by omega),if_neg (by rw [h2];decide),if_neg (by rw [h3];decide),if_pos (by omega)])
 have h4:=A1 ht
 refine k5 (k2 ?_)
 refine A3 (A2 (A5 Z Z) Z (A6 ?_))
 refine k1 (k10 ?_)
 exact B5 (F1 rfl rfl rfl) (by unfold J4;rw [if_neg (by rw [h];decide),if_neg (by omega),if_neg (by rw [h2];decide),if_neg (by rw [h3];decide),if_neg (by omega)])
theorem G53 {c:Comb} (h:J4 c=0) (hz:szC c.Hunks≤268435456) (hr:∀h∈c.Hunks,H8 h.Rows):CFit c:=by
 obtain ⟨h1,h2,h3,h4,h5⟩:=G81 h
 have hp:=A0 h5
 have hg:Q6 c.Parents.toNat c.Hunks=true:=by
  cases hb:Q6 c.Parents.toNat c.Hunks with
  | true=>rfl
  | false =>
   exfalso
   unfold J4 at h
   rw [hb] at h
   rw [if_neg (by rw [h5];decide),if_neg (by omega)] at h
   split at h
   ·cases h
   ·cases h
 exact C51 (by omega) (by omega) hz hr hg
theorem G54 (c:Comb) (hz:szC c.Hunks≤268435456) (hr:∀h∈c.Hunks,H8 h.Rows):FnOk Tryz.prog 38 [O0 c] (fun rs=>rs=if J4 c=0 then [L5 (A37 c),G1 0] else [L5 [],G1 (J4 c)]):=by
 by_cases hck:J4 c=0
 rotate_left
 ·rw [if_neg hck]
  refine FnOk.intro Tryz.func38 (by decide) Z Z Z Z ?_
  refine k2 ?_
  refine A3 (B9 (N7 1 Z Z Z) Z (A2 (A5 Z Z) Z (A2 (A5 Z Z) Z (A6 ?_))))
  refine k1 (k2 (k2 ?_))
  refine A3 (A2 (C8 Z Z Z) Z (C2 (C52 c hz hr) Z Z Z ?_));rintro _ rfl;refine A2 (A5 Z Z) Z (A6 ?_)
  refine k1 (k2 ?_)
  refine A3 (A2 (A4 Z Z) Z (A2 (M5 Z Z) Z (A6 ?_)))
  refine k1 ?_
  refine B3 rfl (fun ht=>?_) (fun ht=>?_)
  rotate_left
  ·exact absurd (Decidable.not_not.1 (A1 ht)) hck
  refine k2 ?_
  refine A3 (A2 (A4 Z Z) Z (A2 (A5 Z Z) Z (A2 (A5 Z Z) Z (A6 ?_))))
  refine k1 (k10 (k11 ?_))
  exact B5 (d7 rfl rfl rfl rfl rfl) rfl
 rw [if_pos hck]
 have hcc:=C52 c hz hr
 rw [hck] at hcc
 obtain ⟨h1,h2,_,h4,h5⟩:=G53 hck hz hr
 have hzl:=A23 c.Hunks
 obtain ⟨n,hN⟩:∃n,n=c.Parents.toNat:=⟨_,rfl⟩
 have hNc:c.Parents=(n:Int):=by omega
 have hn:n≤32:=by omega
 have hct:=fun k=>F37 c (by omega) k
 have hcs:=fun k h=>G24 c k h
 rw [←hN] at h5 hcs
 refine FnOk.intro Tryz.func38 (by decide) Z Z Z Z ?_
 refine k2 ?_
 refine A3 (B9 (N7 1 Z Z Z) Z (A2 (A5 Z Z) Z (A2 (A5 Z Z) Z (A6 ?_))))
 refine k1 (k2 (k2 ?_))
 refine A3 (A2 (C8 Z Z Z) Z (C2 (hcc) Z Z Z ?_));rintro _ rfl;refine A2 (A5 Z Z) Z (A6 ?_)
 refine k1 (k2 ?_)
 refine A3 (A2 (A4 Z Z) Z (A2 (M5 Z Z) Z (A6 ?_)))
 refine k1 ?_
 refine B3 rfl (fun ht=>?_) (fun ht=>?_)
 ·cases ht
 refine k5 (k1 (k2 ?_))
 refine A3 (B9 (D28 700 Z) Z (A6 ?_))
 refine k1 (k2 ?_)
 refine F8 (I58 701 UInt8 1 u8C 5 (kb:=700) (o:=1) Z Z Z) ?_
 have hct0:=hct 0
 rw [D95] at hct0
 refine A3 (A2 (C8 Z Z Z) Z (C2 (E58 c (by omega)) Z Z Z ?_));rintro _ rfl;refine A11 (Q3 (xs:=[]) (s:=A88 c) ⟨⟨_,.inl rfl,rfl⟩,rfl⟩ (by simp only [I81];omega)) Z Z Z ?_;rintro _ _ ⟨rfl,rfl⟩;refine A6 ?_
 refine k1 (k2 (k2 ?_))
 refine A3 (A2 (A7 Z) Z (A2 (A8 Z Z Z) Z (A2 (D4 Z (.pure _ _ _ _)) Z (A2 (A4 Z Z) Z (A6 ?_)))))
 refine k1 (k3 ?_)
 refine C9 (X:=Nat) (fun k=>([(1,.s (.one (.ref 1 0))),(5,.s (.one (.ref 700 0))),(19,C1 CHunk 2 K8 c.Hunks),(20,B8 c.Hunks.length),(21,B8 k)],[(1,A32 c),(700,.tbx 124 [.ref 700 0,.buf 701 UInt8 1 u8C (cTo c k)]),(701,.spare (cTo c k).length 1 5)])) (fun k=>k≤c.Hunks.length) (fun k=>c.Hunks.length - k) 0 (Nat.zero_le _) (by rw [D95];exact I45 ⟨le1 rfl,le1 rfl,le1 rfl,le1 rfl,le1 rfl,trivial⟩ ⟨rfl,rfl,rfl,trivial⟩) ?_
 intro k hk
 dsimp only at hk ⊢
 have hck:=hct k
 refine k2 ?_
 refine A3 (A2 (D7 Z Z) Z (A6 ?_))
 refine k1 (k2 ?_)
 refine B3 rfl (fun ht=>?_) (fun ht=>?_)
 ·have hlt:k < c.Hunks.length:=by have:=A0 ht;omega
  have hv:c.Hunks[k]?=some c.Hunks[k]:=by simp [hlt]
  have hmem:=I90 hlt
  have hrw:=h4 _ hmem
  have hat:=h5 _ hmem
  have hzm:=A86 hmem
  have hsucc:=hcs k hlt
  obtain ⟨h,hx⟩:∃x,x=c.Hunks[k]:=⟨_,rfl⟩
  rw [←hx] at hv hrw hat hzm hsucc
  have hz1:=S6 h.Rows
  have hz2:=A85 h.Rows
  unfold B05 at hzm
  have hh:=D58 h n hn hrw (by omega) hat.1 hat.2
  rw [←hNc] at hh
  have hhl:=B56 hn h
  obtain ⟨base,hbase⟩:∃base,base=cTo c k:=⟨_,rfl⟩
  rw [E77,←hbase] at hsucc
  rw [←hbase] at hck ⊢
  obtain ⟨hd,hhd⟩:∃hd,hd=A97 n h++[10]:=⟨_,rfl⟩
  have hdl:hd.length≤926:=by rw [hhd,I78];simp only [I79,I81];omega
  rw [←hhd] at hh hsucc
  refine k5 (k1 (k2 (k3 (k2 ?_))))
  refine A3 (A2 (B0 Z (.pure _ _ _ _) Z (by omega) hv) Z (A2 (E1 Z Z) Z (B9 (F5 7 Z) Z (E6 (B7 TySz.out Z Z Z Z Z Z) (A6 ?_)))))
  refine k1 (k2 ?_)
  refine A3 (A2 (C8 Z Z Z) Z (A2 (A7 Z) Z (A2 (A8 Z Z Z) Z (C2 (hh) Z Z Z ?_))));rintro _ rfl;refine A11 (Q3 (xs:=base) (s:=hd) ⟨⟨_,.inr rfl,rfl⟩,rfl⟩ (by omega)) Z Z Z ?_;rintro _ _ ⟨rfl,rfl⟩;refine A6 ?_
  refine k1 (k2 ?_)
  refine A3 (A2 (A7 Z) Z (A2 (A8 Z Z Z) Z (A2 (D4 Z (.pure _ _ _ _)) Z (A2 (A4 Z Z) Z (A6 ?_)))))
  refine k1 (k3 ?_)
  refine C9 (X:=Nat) (fun j=>([(1,.s (.one (.ref 1 0))),(5,.s (.one (.ref 700 0))),(19,C1 CHunk 2 K8 c.Hunks),(20,B8 c.Hunks.length),(21,B8 k),(31,C1 Row 3 rowC h.Rows),(32,B8 h.Rows.length),(33,B8 j)],[(1,A32 c),(700,.tbx 124 [.ref 700 0,.buf 701 UInt8 1 u8C (base++hd++rTo n h.Rows j)]),(701,.spare (base++hd++rTo n h.Rows j).length 1 5)])) (fun j=>j≤h.Rows.length) (fun j=>h.Rows.length - j) 0 (Nat.zero_le _) ?_ ?_
  ·rw [G25,I97]
   exact I45 ⟨le1 rfl,le1 rfl,le1 rfl,le1 rfl,le1 rfl,le1 rfl,le1 rfl,le1 rfl,trivial⟩ ⟨rfl,rfl,rfl,trivial⟩
  intro j hj
  dsimp only at hj ⊢
  have hrl:=H26 hn h.Rows j
  refine k2 ?_
  refine A3 (A2 (D7 Z Z) Z (A6 ?_))
  refine k1 (k2 ?_)
  refine B3 rfl (fun ht=>?_) (fun ht=>?_)
  ·have hlt2:j < h.Rows.length:=by have:=A0 ht;omega
   have hv2:h.Rows[j]?=some h.Rows[j]:=by simp [hlt2]
   have hmem2:=I90 hlt2
   have hrm:=C65 hmem2
   have hmm:=hrw _ hmem2
   have hsucc2:=G26 n h.Rows j hlt2
   obtain ⟨r,hy⟩:∃x,x=h.Rows[j]:=⟨_,rfl⟩
   rw [←hy] at hv2 hrm hsucc2 hmm
   have hrp:=E76 hn r
   have hrk:=crow_ok r n hn hmm (by have hrm:r.Text.length+96≤(h.Rows.map R8).sum:=hrm;omega)
   rw [←hNc] at hrk
   obtain ⟨bs,hbs⟩:∃bs,bs=base++hd++rTo n h.Rows j:=⟨_,rfl⟩
   have hbl:bs.length≤16777216+48+268435456+926+268435456:=by rw [hbs,I78,I78];omega
   rw [←hbs]
   refine k5 (k1 (k2 (k3 (k2 ?_))))
   refine A3 (A2 (B0 Z (.pure _ _ _ _) Z (by omega) hv2) Z (A2 (E1 Z Z) Z (B9 (F5 9 Z) Z (E6 (B7 TySz.out Z Z Z Z Z Z) (A6 ?_)))))
   refine k1 ?_
   refine A3 (A2 (C8 Z Z Z) Z (A2 (A7 Z) Z (A2 (A8 Z Z Z) Z (C2 (hrk) Z Z Z ?_))));rintro _ rfl;refine A11 (Q3 (xs:=bs) (s:=(U8 n r).flatten) ⟨⟨_,.inr rfl,rfl⟩,rfl⟩ (by omega)) Z Z Z ?_;rintro _ _ ⟨rfl,rfl⟩;refine A6 ?_
   refine k4 (k1 ?_)
   refine A3 (A2 (C0 Z Z (by omega)) Z (A2 (A4 Z Z) Z (A6 ?_)))
   refine k1 ?_
   refine ⟨j+1,by omega,by omega,?_⟩
   rw [hsucc2,←I88,←hbs]
   exact I45 ⟨le1 rfl,le1 rfl,le1 rfl,le1 rfl,le1 rfl,le1 rfl,le1 rfl,le1 rfl,trivial⟩ ⟨rfl,rfl,rfl,trivial⟩
  ·have hjl:j=h.Rows.length:=by have:=A1 ht;omega
   subst hjl
   have e:base++hd++rTo n h.Rows h.Rows.length=cTo c (k+1):=by rw [hsucc,I88]
   rw [e]
   refine k6 (k7 (k7 (k8 Z (k4 (k1 ?_)))))
   refine A3 (A2 (C0 Z Z (by omega)) Z (A2 (A4 Z Z) Z (A6 ?_)))
   refine k1 ?_
   exact ⟨k+1,by omega,by omega,I45 ⟨le1 rfl,le1 rfl,le1 rfl,le1 rfl,le1 rfl,trivial⟩ ⟨rfl,rfl,rfl,trivial⟩⟩
 ·have hkl:k=c.Hunks.length:=by have:=A1 ht;omega
  subst hkl
  rw [D96]
  refine k6 (k2 ?_)
  refine A3 (C45 (k:=700) (k':=701) ⟨_,rfl,rfl,rfl⟩ A31 Z Z Z Z Z (.inr Z) Z (A2 (A5 Z Z) Z (A2 (A5 Z Z) Z (A6 ?_))))
  refine k1 (k10 ?_)
  exact B5 (d7 rfl rfl rfl rfl rfl) rfl
theorem G55 (rows:List Row) (n:Nat) (hn:n≤32) (hr:H8 rows) (hl:rows.length≤268435456):FnOk Tryz.prog 149 [pRows rows,G1 n] (fun rs=>rs=[N5 (I5 rows n)]) :=
 I74 (k:=720) rfl (B24 rows n hn hr hl)
theorem G56 {gf:Fr} {ob:Obs} (l:List Int) (hl:0 < l.length∧l.length≤1073741824) (h:C3 ob 720=some (.arr Int 1 F9 l)) :
  AL.Met Tryz.prog 166 [.one (.mut 720)] gf ob [] (fun rs ob'=>rs=[.one (.p (.list Int 1 F9 l))]∧ob'=ob):=by
 refine AL.Met.intro Tryz.func166 (by decide) Z Z Z ?_
 refine k2 ?_
 refine A3 (A2 (A5 Z Z) Z (A6 ?_))
 refine k1 (k2 (k2 ?_))
 refine A3 (A2 (A4 Z Z) Z (A2 (E14 Z h) Z (A6 ?_)))
 refine k1 ?_
 refine B3 rfl (fun ht=>?_) (fun ht=>?_)
 ·cases ht
 refine k5 (k1 (k2 ?_))
 refine A3 (A2 (s6 (c:=F9) (ys:=[]) E7 Z Z Z) Z (A2 (A4 Z Z) Z (A2 (C14 Z Z h (by (simp;omega)) (hl.1)) Z (A2 (A5 Z Z) Z (A6 ?_)))))
 rw [J11]
 refine k1 (k10 ?_)
 exact X8 (A91 rfl rfl) (by repeat (first | exact G3 | refine G4 rfl ?_ | refine M7 _ ?_)) (fun _ _ h=>h) ⟨rfl,rfl⟩
theorem H57 (l:List Row) (hl:0 < l.length∧l.length≤1073741824):FnOk Tryz.prog 113 [pRows l] (fun rs=>rs=[pRows l]):=by
 refine FnOk.intro Tryz.func113 (by decide) Z Z Z Z ?_
 refine k2 ?_
 refine A3 (A2 (A5 Z Z) Z (A6 ?_))
 refine k1 (k2 (k2 ?_))
 refine A3 (A2 (A4 Z Z) Z ?_);(first | (refine E85 (E41 rfl (.pure _ _ _ _)) rfl ?_) | (refine E85 (E41 rfl (.buf _ _ _ _ _)) rfl ?_));rintro _ ⟨b1,rfl,hnil⟩;refine A6 ?_
 refine k1 ?_
 refine B3 rfl (fun ht=>?_) (fun ht=>?_)
 ·have:=hnil ht
  rw [this] at hl
  exact absurd hl.1 (by simp)
 refine k5 (k1 (k2 ?_))
 refine A3 (A2 (s6 (c:=rowC) (ys:=[]) E7 Z Z Z) Z (A2 (A4 Z Z) Z (A2 (p8 Z Z (.pure _ _ _ _) (by (simp;omega)) (hl.1)) Z (A2 (A5 Z Z) Z (A6 ?_)))))
 rw [J11]
 refine k1 (k10 ?_)
 exact B5 (F1 rfl rfl rfl) rfl
theorem G57 (rows:List Row) (n k:Nat) {e t:Nat} (h:e≤t):N4 (rows.take t) n k=N4 (rows.take e) n k+N4 ((rows.drop e).take (t - e)) n k:=by
 have h1:rows.take t=rows.take e++(rows.drop e).take (t - e):=by
  have:=List.take_add (l:=rows) (i:=e) (j:=t - e)
  rwa [show e+(t - e)=t by omega] at this
 unfold N4
 rw [h1]
 unfold M8
 rw [J28,I92,I78,Int.natCast_add]
def A94 (rows:List Row) (n e t i:Nat):List Int:=(List.range (n+1)).map fun k=>if k < i then N4 (rows.take t) n k else N4 (rows.take e) n k
theorem H58 (rows:List Row) (n e t i:Nat):(A94 rows n e t i).length=n+1:=by simp [A94]
theorem G58 (rows:List Row) (n e t:Nat):A94 rows n e t 0=I5 (rows.take e) n:=by
 unfold A94 I5
 exact List.map_congr_left fun k _=>if_neg (by omega)
theorem G59 (rows:List Row) (n e t:Nat):A94 rows n e t (n+1)=I5 (rows.take t) n:=by
 unfold A94 I5
 exact List.map_congr_left fun k hk=>if_pos (by simpa using hk)
theorem H59 (rows:List Row) (n e t i:Nat) (hi:i < n+1):(A94 rows n e t i)[i]?=some (N4 (rows.take e) n i):=by
 unfold A94
 rw [y1 (n+1) i _ hi,if_neg (by omega)]
theorem H60 (rows:List Row) (n e t i:Nat):(A94 rows n e t i).set i (N4 (rows.take t) n i)=A94 rows n e t (i+1):=by
 refine n9 (n+1) i _ _ _ (fun _=>if_pos (by omega)) (fun q _ hq=>?_)
 by_cases h:q < i
 ·rw [if_pos h,if_pos (by omega)]
 ·rw [if_neg h,if_neg (by omega)]
theorem H12 (rows:List Row) (n k:Nat):0≤N4 rows n k∧N4 rows n k≤rows.length:=by
 unfold N4
 have:=B51 rows (R7 n k)
 omega
set_option maxHeartbeats 1000000
theorem D59 {gf:Fr} {ob:Obs} (t:Table) (n e z:Nat) (hn:t.Parents=n) (hn2:n≤32) (hr:H8 t.Rows) (hl:t.Rows.length≤8388608) (h1:e≤z) (h2:z≤t.Rows.length)
  (h5:C3 ob 5=some (.box (pTable t).s1.cells)) (h13:C3 ob 13=some (l0 e)) (h12:C3 ob 12=some (.box [.mut 720])) (h720:C3 ob 720=some (.arr Int 1 F9 (I5 (t.Rows.take e) n))) :
  AL.Met Tryz.prog 165 [iS z,.one (.ref 5 0),.one (.ref 13 0),.one (.ref 12 0)] gf ob []
   (fun rs ob'=>rs=[]∧ob'=(13,l0 z)::(720,.arr Int 1 F9 (I5 (t.Rows.take z) n))::(5,.box (pTable t).s1.cells)::(12,.box [.mut 720])::ob):=by
 obtain ⟨tp,rows⟩:=t
 have hn:tp=(n:Int):=hn
 subst hn
 dsimp only at hr hl h2 h720 ⊢
 have hsl:((rows.drop e).take (z - e)).length=z - e:=by rw [I93,I95];omega
 have hC:=G55 ((rows.drop e).take (z - e)) n hn2 (fun r hm=>hr r (List.mem_of_mem_drop (List.mem_of_mem_take hm))) (by omega)
 obtain ⟨cs,hcs⟩:∃cs,cs=I5 ((rows.drop e).take (z - e)) n:=⟨_,rfl⟩
 have hcl:cs.length=n+1:=by rw [hcs];simp [I5]
 rw [←hcs] at hC
 refine AL.Met.introH Tryz.func165 (by decide) rfl rfl rfl (fun hH=>?_)
 refine k2 (k2 ?_)
 refine D2 (by kernel_rfl) (by kernel_rfl) (A9 (A7 Z) Z Z (A9 (A8 Z h5 Z) Z Z (A9 (A8 Z h13 Z) Z Z (A9 (A4 Z Z) Z Z (A9 (T5 Z (.pure _ _ _ _) Z Z (by (first | omega | (dsimp only;omega))) (by (first | omega | (dsimp only;omega))) (by (first | omega | (dsimp only;omega)))) Z Z (A9 (A7 Z) Z Z (A9 (A8 Z h5 Z) Z Z (A9 (H6 (hC) Z Z) Z Z (A9 (D4 Z (.pure _ _ _ _)) Z Z (A9 (A4 Z Z) Z Z (K7 ?_)))))))))))
 refine k1 (k3 ?_)
 refine C9 (X:=Nat) (fun i=>([(0,B8 z),(1,.s (.one (.ref 5 0))),(2,.s (.one (.ref 13 0))),(3,.s (.one (.ref 12 0))),(14,C1 Int 1 F9 cs),(15,B8 cs.length),(16,B8 i)]++gf,(13,l0 e)::(720,.arr Int 1 F9 (A94 rows n e z i))::(5,.box (pTable ⟨n,rows⟩).s1.cells)::(12,.box [.mut 720])::ob)) (fun i=>i≤n+1) (fun i=>n+1 - i) 0 (Nat.zero_le _) ?_ ?_
 ·dsimp only
  rw [G58]
  exact I46 ⟨le1 rfl,le1 rfl,le1 rfl,le1 rfl,le1 rfl,le1 rfl,le1 rfl,trivial⟩ hH (by repeat (first | exact G3 | refine G4 rfl ?_)) (B46 (L:=[(13,_),(720,_),(5,_),(12,_)]) ⟨h13,h720,h5,h12,trivial⟩ B18)
 intro i hi
 dsimp only at hi ⊢
 have hal:=H58 rows n e z i
 refine k2 ?_
 refine A3 (A2 (D7 Z Z) Z (A6 ?_))
 refine k1 (k2 ?_)
 refine B3 rfl (fun ht=>?_) (fun ht=>?_)
 ·have hlt:i < n+1:=by have:=A0 ht;omega
  have hv:cs[i]?=some (N4 ((rows.drop e).take (z - e)) n i):=by rw [hcs];unfold I5;exact y1 (n+1) i _ hlt
  have hg:=H59 rows n e z i hlt
  have hst:=H60 rows n e z i
  have hsp:=G57 rows n i h1
  have b1:=H12 (rows.take e) n i
  have b2:=H12 ((rows.drop e).take (z - e)) n i
  have hte:(rows.take e).length=e:=by rw [I93];omega
  have hv2:(A94 rows n e z i)[((i:Nat):Int).toNat]?=some (N4 (rows.take e) n i):=by rw [I85];exact hg
  refine k5 (k1 (k2 (k3 (k2 ?_))))
  refine A3 (A2 (A4 Z Z) Z (A2 (B0 Z (.pure _ _ _ _) Z (by omega) hv) Z (A2 (B2 Z Z) Z (A2 (A5 Z Z) Z (A2 (A5 Z Z) Z (A6 ?_))))))
  refine k1 ?_
  refine A3 (A2 (A8 Z Z Z) Z (A2 (A4 Z Z) Z (A2 (D9 Z Z Z (by omega) (by (rw [hal];omega))) Z ?_)));refine A2 (M6 Z Z hv2 Z) Z (A2 (A4 Z Z) Z (A2 (C0 Z Z (by omega)) Z (A2 (D9 Z Z Z (by omega) (by (rw [hal];omega))) Z ?_)));refine E6 (G5 TySz.out Z Z (by (rw [hal];omega)) Z Z) ?_;refine A6 ?_
  rw [I85,←hsp,hst]
  refine k4 (k1 ?_)
  refine A3 (A2 (C0 Z Z (by omega)) Z (A2 (A4 Z Z) Z (A6 ?_)))
  refine k1 ?_
  refine ⟨i+1,by omega,by omega,?_⟩
  exact I46 ⟨le1 rfl,le1 rfl,le1 rfl,le1 rfl,le1 rfl,le1 rfl,le1 rfl,trivial⟩ hH (by repeat (first | exact G3 | refine G4 rfl ?_)) (B46 (L:=[(13,_),(720,_),(5,_),(12,_)]) ⟨rfl,rfl,rfl,rfl,trivial⟩ (by repeat (first | exact B18 | refine B19 rfl ?_)))
 have hin:i=n+1:=by have:=A1 ht;omega
 rw [hin,G59]
 refine k6 (k7 (k7 (k8 Z (k1 ?_))))
 refine A3 (A2 (A4 Z Z) Z (E6 (B7 TySz.out Z Z Z Z Z Z) (A6 ?_)))
 skip
 exact D30 (rets0 rfl) (by repeat (first | exact G3 | refine G4 rfl ?_)) (B46 (L:=[(13,_),(720,_),(5,_),(12,_)]) ⟨rfl,rfl,rfl,rfl,trivial⟩ (by repeat (first | exact B18 | refine B19 rfl ?_))) ⟨rfl,rfl⟩
def D60 (n:Int):Int→List Span→Bool
 | _,[]=>true
 | e,s::r=>if s.From < e∨s.To≤s.From∨n < s.To then false else D60 n s.To r
theorem F80 (sp:List Span) (n:Int) (hl:sp.length≤536870912):FnOk Tryz.prog 164 [pSpans sp,G1 n] (fun rs=>rs=[I3 (D60 n 0 sp)]):=by
 obtain ⟨W,hW⟩:∃W,W=D60 n 0 sp:=⟨_,rfl⟩
 rw [←hW]
 refine FnOk.intro Tryz.func164 (by decide) Z Z Z Z ?_
 refine k2 ?_
 refine A3 (A2 (A5 Z Z) Z (A6 ?_))
 refine k1 (k2 ?_)
 refine A3 (A2 (A5 Z Z) Z (A6 ?_))
 refine k1 (k2 (k2 ?_))
 refine A3 (A2 (A4 Z Z) Z (A2 (D4 Z (.pure _ _ _ _)) Z (A2 (A4 Z Z) Z (A6 ?_))))
 refine k1 (k3 ?_)
 refine C9 (X:=Nat × Int) (fun x=>([(1,B8 n),(5,B8 x.2),(8,C1 Span 2 spanC sp),(9,B8 sp.length),(10,B8 x.1)],[])) (fun x=>x.1≤sp.length∧W=D60 n x.2 (sp.drop x.1)) (fun x=>sp.length - x.1) (0,0) ⟨Nat.zero_le _,hW⟩ (I45 ⟨le1 rfl,le1 rfl,le1 rfl,le1 rfl,le1 rfl,trivial⟩ trivial) ?_
 rintro ⟨k,e⟩ ⟨hk,hp⟩
 dsimp only at hk hp ⊢
 refine k2 ?_
 refine A3 (A2 (D7 Z Z) Z (A6 ?_))
 refine k1 (k2 ?_)
 refine B3 rfl (fun ht=>?_) (fun ht=>?_)
 rotate_left
 ·have hkl:k=sp.length:=by have:=A1 ht;omega
  rw [hkl,I87 (Nat.le_refl _)] at hp
  have hp:W=true:=hp
  refine k6 (k2 ?_)
  refine A3 (A2 (A5 Z Z) Z (A6 ?_))
  refine k1 (k10 ?_)
  exact B5 (F1 rfl rfl rfl) (by rw [hp])
 have hlt:k < sp.length:=by have:=A0 ht;omega
 have hv:sp[k]?=some sp[k]:=by simp [hlt]
 rw [I84 hlt,D60] at hp
 obtain ⟨s,hsd⟩:∃s,s=sp[k]:=⟨_,rfl⟩
 rw [←hsd] at hp hv
 refine k5 (k1 (k2 (k3 (k2 ?_))))
 refine A3 (A2 (B0 Z (.pure _ _ _ _) Z (by omega) hv) Z (A2 (E1 Z Z) Z (B9 (F5 757 Z) Z (E6 (B7 TySz.out Z Z Z Z Z Z) (A6 ?_)))))
 refine k1 (k2 (k2 ?_))
 refine A3 (A2 (A7 Z) Z (A2 (A8 Z Z Z) Z (A2 (A4 Z Z) Z (A2 (D7 Z Z) Z (A2 (A4 Z Z) Z (B1 Z Z Z Z (fun hg=>by rw [hg];exact A7 Z) ?_))))));refine B1 Z Z Z Z (fun hg=>by rw [hg];exact A8 Z Z Z) ?_;refine B1 Z Z Z Z (fun hg=>by rw [hg];exact A7 Z) ?_;refine B1 Z Z Z Z (fun hg=>by rw [hg];exact A8 Z Z Z) ?_;refine B1 Z Z Z Z (fun hg=>by rw [hg];exact i6 Z Z) ?_;refine A2 (B6 Z (fun h=>by first | rfl | (rw [h];rfl)) (fun h=>by first | rfl | (rw [h];rfl))) Z ?_;refine A2 (A4 Z Z) Z (B1 Z Z Z Z (fun hg=>by rw [hg];exact A7 Z) ?_);refine B1 Z Z Z Z (fun hg=>by rw [hg];exact A8 Z Z Z) ?_;refine B1 Z Z Z Z (fun hg=>by rw [hg];exact A4 Z Z) ?_;refine B1 Z Z Z Z (fun hg=>by rw [hg];exact M4 Z Z) ?_;refine A2 (B6 Z (fun h=>by first | rfl | (rw [h];rfl)) (fun h=>by first | rfl | (rw [h];rfl))) Z ?_;refine A6 ?_
 refine k1 ?_
 refine B3 rfl (fun ht=>?_) (fun ht=>?_)
 ·have hc:s.From < e∨s.To≤s.From∨n < s.To:=by
   by_cases q1:s.From < e
   ·exact .inl q1
   ·by_cases q2:s.To≤s.From
    ·exact .inr (.inl q2)
    ·simp [q1,q2] at ht
     exact .inr (.inr ht)
  rw [if_pos hc] at hp
  refine k2 ?_
  refine A3 (A2 (A5 Z Z) Z (A6 ?_))
  refine k1 (k10 (k11 (k12 (k11 (k11 (k12 (k11 ?_)))))))
  exact B5 (F1 rfl rfl rfl) (by rw [hp])
 have hc:¬(s.From < e∨s.To≤s.From∨n < s.To):=by
  rintro (q | q | q)
  ·simp [q] at ht
  ·simp [q] at ht
  ·simp [q] at ht
 rw [if_neg hc] at hp
 refine k5 (k1 ?_)
 refine A3 (A2 (A7 Z) Z (A2 (A8 Z Z Z) Z (A2 (A5 Z Z) Z (A6 ?_))))
 refine k4 (k1 ?_)
 refine A3 (A2 (C0 Z Z (by omega)) Z (A2 (A4 Z Z) Z (A6 ?_)))
 refine k1 ?_
 exact ⟨(k+1,s.To),⟨hlt,hp⟩,by dsimp only;omega,I45 ⟨le1 rfl,le1 rfl,le1 rfl,le1 rfl,le1 rfl,trivial⟩ trivial⟩
end Go.Proofs.YtbiadkkamhpdnaaGreatDoor
namespace Go.Proofs.YtbiadkkamhpdnaaGreatDoor
open Go Go.AL
set_option maxRecDepth 100000
theorem B85 (k n:Nat):FnOk Tryz.prog 146 [G1 k,G1 n] (fun rs=>rs=[G1 (R7 n k)]):=by
 refine FnOk.intro Tryz.func146 (by decide) Z Z Z Z ?_
 refine k2 ?_
 refine A3 (A2 (A5 Z Z) Z (A6 ?_))
 refine k1 (k2 (k2 ?_))
 refine A3 (A2 (A4 Z Z) Z (A2 (A4 Z Z) Z (A2 (J6 Z Z) Z (A6 ?_))))
 refine k1 ?_
 refine B3 rfl (fun ht=>?_) (fun ht=>?_)
 ·have h:=A0 ht
  refine k2 ?_
  refine A3 (A2 (A5 Z Z) Z (A6 ?_))
  refine k1 (k10 (k11 ?_))
  exact B5 (rs:=[G1 (-1)]) (F1 rfl rfl rfl) (by unfold R7;rw [if_pos (by omega)])
 ·have h:=A1 ht
  refine k5 (k1 (k2 ?_))
  refine A3 (A2 (A4 Z Z) Z (A2 (A5 Z Z) Z (A6 ?_)))
  refine k1 (k10 ?_)
  exact B5 (F1 rfl rfl rfl) (by unfold R7;rw [if_neg (by omega)])
theorem F81 (c:Comb) (hn:0≤c.Parents∧c.Parents≤32) (hr:∀h∈c.Hunks,H8 h.Rows) (hz:szC c.Hunks≤268435456):FnOk Tryz.prog 95 [O0 c] (fun rs=>rs=[I3 (W3 c.Parents.toNat c.Hunks)]):=by
 obtain ⟨n,hN⟩:∃n,n=c.Parents.toNat:=⟨_,rfl⟩
 rw [←hN]
 have hzl:=A23 c.Hunks
 refine FnOk.intro Tryz.func95 (by decide) Z Z Z Z ?_
 refine k2 ?_
 refine A3 (B9 (N7 1 Z Z Z) Z (A2 (A5 Z Z) Z (A6 ?_)))
 refine k1 (k2 (k2 ?_))
 refine A3 (A2 (A5 Z Z) Z (A6 ?_))
 refine k1 (k3 ?_)
 refine C9 (X:=Nat) (fun k=>([(1,.s (.one (.ref 1 0))),(3,B8 k)],[(1,A32 c)])) (fun k=>k≤c.Hunks.length∧W3 n c.Hunks=W3 n (c.Hunks.drop k)) (fun k=>c.Hunks.length - k) 0 ⟨Nat.zero_le _,rfl⟩ (I45 ⟨le1 rfl,le1 rfl,trivial⟩ ⟨rfl,trivial⟩) ?_
 rintro k ⟨hk,hp⟩
 dsimp only at hk hp ⊢
 refine k2 (k2 ?_)
 refine A3 (A2 (A4 Z Z) Z (A2 (A7 Z) Z (A2 (A8 Z Z Z) Z (A2 (D4 Z (.pure _ _ _ _)) Z (A2 (D7 Z Z) Z (A6 ?_))))))
 refine k1 ?_
 refine B3 rfl (fun ht=>?_) (fun ht=>?_)
 ·have hlt:k < c.Hunks.length:=by have:=A0 ht;omega
  have hv:c.Hunks[k]?=some c.Hunks[k]:=by simp [hlt]
  have hrw:=hr _ (I90 hlt)
  rw [I84 hlt] at hp
  obtain ⟨h,hx⟩:∃x,x=c.Hunks[k]:=⟨_,rfl⟩
  rw [←hx] at hv hrw hp
  have hp:W3 n c.Hunks=(L4 h.Rows n&&W3 n (c.Hunks.drop (k+1))):=hp
  have hm:=D49 h.Rows c.Parents hn hrw
  rw [←hN] at hm
  refine k5 (k1 (k2 (k3 (k2 ?_))))
  refine D2 (by kernel_rfl) (by kernel_rfl) (A9 (A7 Z) Z Z (A9 (A8 Z Z Z) Z Z (A9 (A4 Z Z) Z Z (A9 (B0 Z (.pure _ _ _ _) Z (by omega) hv) Z Z (A9 (D8 Z) Z Z (A9 (B2 Z Z) Z Z (A9 (A7 Z) Z Z (A9 (A8 Z Z Z) Z Z (A9 (H6 (hm) Z Z) Z Z (A9 (J2 Z) Z Z (K7 ?_)))))))))))
  refine k1 ?_
  refine B3 rfl (fun ht=>?_) (fun ht=>?_)
  ·have h2:L4 h.Rows n=false:=by simpa using ht
   rw [h2,Bool.false_and] at hp
   refine k2 ?_
   refine A3 (A2 (A5 Z Z) Z (A6 ?_))
   refine k1 (k10 (k12 (k11 (k11 (k12 (k11 ?_))))))
   exact B5 (F1 rfl rfl rfl) (by rw [hp])
  ·have h2:L4 h.Rows n=true:=by simpa using ht
   rw [h2,Bool.true_and] at hp
   refine k5 (k4 (k1 ?_))
   refine A3 (A2 (A4 Z Z) Z (A2 (C0 Z Z (by omega)) Z (A2 (A5 Z Z) Z (A6 ?_))))
   refine k1 ?_
   exact ⟨k+1,⟨by omega,hp⟩,by omega,I45 ⟨le1 rfl,le1 rfl,trivial⟩ ⟨rfl,trivial⟩⟩
 ·have hkl:k=c.Hunks.length:=by have:=A1 ht;omega
  rw [hkl,I87 (Nat.le_refl _)] at hp
  refine k6 (k2 ?_)
  refine A3 (A2 (A5 Z Z) Z (A6 ?_))
  refine k1 (k10 ?_)
  exact B5 (F1 rfl rfl rfl) (by rw [hp];rfl)
def V0 (n:Nat) (ends:List Int) (h:CHunk) (k:Nat):List Int:=(List.range (n+1)).map fun j=>if j < k then h.At.getD j 0+N4 h.Rows n j else ends.getD j 0
theorem C81 (n:Nat) (ends:List Int) (h:CHunk) (k:Nat):(V0 n ends h k).length=n+1:=by unfold V0;simp
theorem F09 {n:Nat} {ends:List Int} (h:CHunk) (hl:ends.length=n+1):V0 n ends h 0=ends:=by
 unfold V0
 refine List.ext_getElem (by simp [hl]) fun k h1 h2=>?_
 rw [List.getElem_map,List.getElem_range,if_neg (by omega),I82,I80 h2];rfl
theorem F82 (n:Nat) (ends:List Int) (h:CHunk) (k:Nat) (hk:k < n+1):(V0 n ends h k)[k]?=some (ends.getD k 0):=by
 unfold V0
 rw [J03,J06 hk];simp
theorem F10 (n:Nat) (ends:List Int) (h:CHunk) (k:Nat) (hk:k < n+1):(V0 n ends h (k+1))[k]?=some (h.At.getD k 0+N4 h.Rows n k):=by
 unfold V0
 rw [J03,J06 hk];simp
theorem F83 (n:Nat) (ends:List Int) (h:CHunk) (k:Nat):(V0 n ends h k).set k (h.At.getD k 0+N4 h.Rows n k)=V0 n ends h (k+1):=by
 unfold V0
 rw [B92]
 refine List.map_congr_left fun j hj=>?_
 by_cases e:j=k
 ·subst e;rw [if_pos rfl,if_pos (by omega)]
 ·rw [if_neg e]
  by_cases h3:j < k
  ·rw [if_pos h3,if_pos (by omega)]
  ·rw [if_neg h3,if_neg (by omega)]
theorem F11 (n:Nat) (ends:List Int) (h:CHunk):V0 n ends h (n+1)=U5 n h:=by
 unfold V0 U5
 refine List.map_congr_left fun k hk=>?_
 rw [if_pos (List.mem_range.1 hk)]
theorem G60 (n:Nat) (ends:List Int) (h:CHunk):A38 n ends h=true↔(h.At.length=n+1∧h.Rows≠[])∧∀k,k < n+1→(ends.getD k 0≤h.At.getD k 0∧h.At.getD k 0≤4096)∧h.At.getD k 0+N4 h.Rows n k≤4096:=by
 unfold A38
 simp only [I83,decide_eq_true_eq,List.all_eq_true,List.mem_range]
theorem B86:∀(hs:List CHunk),((K9 hs).map R8).sum≤szC hs
 | []=>by simp [K9,szC]
 | h::r=>by
  have ih:=B86 r
  have e1:K9 (h::r)=h.Rows++K9 r:=by simp [K9]
  have e2:szC (h::r)=B05 h+szC r:=by simp [szC]
  have e3:(h.Rows.map R8).sum≤B05 h:=by unfold B05;exact Nat.le_add_left _ _
  rw [e1,e2,I92,J26]
  exact Nat.add_le_add e3 ih
theorem F12 (hs:List CHunk) (k:Nat) (h:k < hs.length):K9 (hs.take (k+1))=K9 (hs.take k)++hs[k].Rows:=by
 unfold K9
 rw [I86 h,I92,J04];simp
theorem F84 (c:Comb) (hn:1≤c.Parents∧c.Parents≤32) (hr:∀h∈c.Hunks,H8 h.Rows) (hz:szC c.Hunks≤268435456) :
  FnOk Tryz.prog 96 [O0 c] (fun rs=>rs=[I3 (Q6 c.Parents.toNat c.Hunks)]):=by
 obtain ⟨n,hN⟩:∃n,n=c.Parents.toNat:=⟨_,rfl⟩
 have hNc:c.Parents=(n:Int):=by omega
 rw [←hN]
 have e0:(c.Parents+1).toNat=n+1:=by omega
 have hzl:=A23 c.Hunks
 have hsa:=B86 c.Hunks
 have hfalse:∀{A B:Bool} {Y:Prop},A=false→[I3 false]=[I3 (A&&B)]:=fun h=>by rw [h];rfl
 refine FnOk.intro Tryz.func96 (by decide) Z Z Z Z ?_
 refine k2 ?_
 refine A3 (B9 (N7 1 Z Z Z) Z (A2 (A5 Z Z) Z (A6 ?_)))
 refine k1 (k2 ?_)
 refine A3 (B9 (Q0 721 _ rowC Z) Z (A6 ?_))
 refine k1 (k2 ?_)
 refine A3 (A2 (A7 Z) Z (A2 (A8 Z Z Z) Z (A2 (C0 Z Z (by omega)) Z (B9 (U0 720 Int F9 0 Z Z (by omega) (by omega) (fun _=>by first | exact ⟨⟨rfl,rfl⟩,trivial⟩ | exact ⟨N3 _ _ _,trivial⟩) (by first | rfl | (simp [H0,H3,Ob.free,SV.free,S1.free,TC.free]<;>rfl))) Z ?_))));refine A2 (A5 Z Z) Z (A6 ?_)
 rw [e0]
 refine k1 (k2 (k2 ?_))
 refine A3 (A2 (A5 Z Z) Z (A6 ?_))
 refine k1 (k3 ?_)
 refine C9 (X:=Nat × List Int) (fun x=>([(1,.s (.one (.ref 1 0))),(3,.s (.one (.buf 721 Row 3 rowC (K9 (c.Hunks.take x.1))))),(4,.s (.one (.mut 720))),(5,B8 x.1)],[(1,A32 c),(720,.arr Int 1 F9 x.2),(721,.spare (K9 (c.Hunks.take x.1)).length 3 69)])) (fun x=>x.1≤c.Hunks.length∧x.2.length=n+1∧(∀e∈x.2,0≤e)∧V7 n (List.replicate (n+1) 0) c.Hunks=V7 n x.2 (c.Hunks.drop x.1)) (fun x=>c.Hunks.length - x.1) (0,List.replicate (n+1) 0) ⟨Nat.zero_le _,by simp,fun e he=>by have:=(List.mem_replicate.1 he).2;omega,rfl⟩ (I45 ⟨le1 rfl,le1 rfl,le1 rfl,le1 rfl,trivial⟩ ⟨rfl,rfl,rfl,trivial⟩) ?_
 rintro ⟨k,ends⟩ ⟨hk,hel,he0,hp⟩
 dsimp only at hk hel he0 hp ⊢
 refine k2 (k2 ?_)
 refine A3 (A2 (A4 Z Z) Z (A2 (A7 Z) Z (A2 (A8 Z Z Z) Z (A2 (D4 Z (.pure _ _ _ _)) Z (A2 (D7 Z Z) Z (A6 ?_))))))
 refine k1 ?_
 refine B3 rfl (fun ht=>?_) (fun ht=>?_)
 ·have hlt:k < c.Hunks.length:=by have:=A0 ht;omega
  have hv:c.Hunks[k]?=some c.Hunks[k]:=by simp [hlt]
  have hmem:=I90 hlt
  have hrw:=hr _ hmem
  have hzm:=A86 hmem
  have hat:=F12 c.Hunks k hlt
  have hst:=B86 (c.Hunks.take k)
  have hst2:=D92 c.Hunks k
  have hst3:=S6 (K9 (c.Hunks.take k))
  rw [I84 hlt,V7] at hp
  obtain ⟨h,hx⟩:∃x,x=c.Hunks[k]:=⟨_,rfl⟩
  rw [←hx] at hv hrw hzm hp hat
  have hz1:=S6 h.Rows
  unfold B05 at hzm
  have hno:A38 n ends h=false→[I3 false]=[I3 (Q6 n c.Hunks)]:=fun e=>by
   unfold Q6;rw [hp,e];rfl
  have hiff:=G60 n ends h
  refine k5 (k1 (k2 (k3 (k2 ?_))))
  refine A3 (A2 (A7 Z) Z (A2 (A8 Z Z Z) Z (A2 (A4 Z Z) Z (A2 (B0 Z (.pure _ _ _ _) Z (by omega) hv) Z (A2 (E1 Z Z) Z (B9 (F5 6 Z) Z (E6 (B7 TySz.out Z Z Z Z Z Z) (A6 ?_))))))))
  refine k1 (k2 (k2 ?_))
  refine A3 (A2 (A7 Z) Z (A2 (A8 Z Z Z) Z (A2 (D4 Z (.pure _ _ _ _)) Z (A2 (A7 Z) Z (A2 (A8 Z Z Z) Z (A2 (C0 Z Z (by omega)) Z (A2 (M5 Z Z) Z (A2 (A4 Z Z) Z (B1 Z Z Z Z (fun hg=>by rw [hg];exact A7 Z) ?_)))))))));refine B1 Z Z Z Z (fun hg=>by rw [hg];exact A8 Z Z Z) ?_;refine B1 Z Z Z Z (fun hg=>by rw [hg];exact D4 Z (.pure _ _ _ _)) ?_;refine B1 Z Z Z Z (fun hg=>by rw [hg];exact J6 Z Z) ?_;refine A2 (B6 Z (fun h=>by first | rfl | (rw [h];rfl)) (fun h=>by first | rfl | (rw [h];rfl))) Z ?_;refine A6 ?_
  refine k1 ?_
  refine B3 rfl (fun ht=>?_) (fun ht=>?_)
  ·have h1:=A0 (or_pick.symm.trans ht)
   refine k2 ?_
   refine A3 (A2 (A5 Z Z) Z (A6 ?_))
   refine k1 (k10 (k11 (k12 (k11 (k11 (k12 (k11 ?_)))))))
   refine B5 (F1 rfl rfl rfl) (hno ?_)
   rw [Bool.eq_false_iff]
   intro hq
   have h2:=(hiff.1 hq).1
   rcases h1 with h1 | h1
   ·omega
   ·exact h2.2 (List.length_eq_zero_iff.1 (by omega))
  have h1:=A1 (or_pick.symm.trans ht)
  simp only [not_or,Decidable.not_not] at h1
  have hal:h.At.length=n+1:=by omega
  have hne:h.Rows≠[]:=fun e=>h1.2 (by rw [e];rfl)
  refine L0 [(1,.s (.one (.ref 1 0))),(3,.s (.one (.buf 721 Row 3 rowC (K9 (c.Hunks.take k))))),(4,.s (.one (.mut 720))),(5,B8 k),(6,.s (.one (.ref 6 0)))] [(1,A32 c),(720,.arr Int 1 F9 ends),(721,.spare (K9 (c.Hunks.take k)).length 3 69),(6,.box (A83 h).s1.cells)] (I45 ⟨le1 rfl,le1 rfl,le1 rfl,le1 rfl,le1 rfl,trivial⟩ ⟨rfl,rfl,rfl,rfl,trivial⟩) ?_
  refine k5 (k1 (k2 (k2 ?_)))
  refine A3 (A2 (A5 Z Z) Z (A6 ?_))
  refine k1 (k3 ?_)
  refine C9 (X:=Nat) (fun j=>([(1,.s (.one (.ref 1 0))),(3,.s (.one (.buf 721 Row 3 rowC (K9 (c.Hunks.take k))))),(4,.s (.one (.mut 720))),(5,B8 k),(6,.s (.one (.ref 6 0))),(7,B8 j)],[(1,A32 c),(720,.arr Int 1 F9 (V0 n ends h j)),(721,.spare (K9 (c.Hunks.take k)).length 3 69),(6,.box (A83 h).s1.cells)])) (fun j=>j≤n+1∧∀i,i < j→(ends.getD i 0≤h.At.getD i 0∧h.At.getD i 0≤4096)∧h.At.getD i 0+N4 h.Rows n i≤4096) (fun j=>n+1 - j) 0 ⟨Nat.zero_le _,fun i hi=>by omega⟩ (by rw [F09 h hel];exact I45 ⟨le1 rfl,le1 rfl,le1 rfl,le1 rfl,le1 rfl,le1 rfl,trivial⟩ ⟨rfl,rfl,rfl,rfl,trivial⟩) ?_
  rintro j ⟨hj,hq⟩
  dsimp only at hj hq ⊢
  have hml:=C81 n ends h j
  refine k2 (k2 ?_)
  refine A3 (A2 (A4 Z Z) Z (A2 (A7 Z) Z (A2 (A8 Z Z Z) Z (A2 (i6 Z Z) Z (A6 ?_)))))
  refine k1 ?_
  refine B3 rfl (fun ht=>?_) (fun ht=>?_)
  ·have hlt2:j < n+1:=by have:=A0 ht;omega
   have hva:=D93 (l:=h.At) (i:=j) (by omega)
   have hge:=F82 n ends h j hlt2
   have hge1:=F10 n ends h j hlt2
   have hset:=F83 n ends h j
   have hml1:=C81 n ends h (j+1)
   have hej:0≤ends.getD j 0:=he0 _ (I98 (D93 (l:=ends) (i:=j) (by omega)))
   have hcl:=B91 h.Rows n j
   have hcol:=A14 h.Rows (R7 n j) hrw (by omega)
   have hcn:=B85 j n
   rw [←hNc] at hcn
   have hcc:((M8 h.Rows (R7 n j)).length:Int)=N4 h.Rows n j:=rfl
   obtain ⟨a,ha⟩:∃a,a=h.At.getD j 0:=⟨_,rfl⟩
   obtain ⟨e,hee⟩:∃e,e=ends.getD j 0:=⟨_,rfl⟩
   obtain ⟨q,hqq⟩:∃q,q=N4 h.Rows n j:=⟨_,rfl⟩
   have hno2:¬((e≤a∧a≤4096)∧a+q≤4096)→A38 n ends h=false:=fun hc=>by
    rw [Bool.eq_false_iff]
    intro hqq2
    have:=(hiff.1 hqq2).2 j hlt2
    rw [←ha,←hee,←hqq] at this
    exact hc this
   rw [←ha] at hva hge1 hset
   rw [←hee] at hge hej
   rw [←hqq] at hge1 hset hcl hcc
   refine k5 (k1 (k2 (k3 (k2 (k2 ?_)))))
   refine D2 (by kernel_rfl) (by kernel_rfl) (A9 (A7 Z) Z Z (A9 (A8 Z Z Z) Z Z (A9 (A4 Z Z) Z Z (A9 (B0 Z (.pure _ _ _ _) Z (by omega) hva) Z Z (A9 (B2 Z Z) Z Z (A9 (A4 Z Z) Z Z (A9 (A4 Z Z) Z Z (A9 (D9 Z Z Z (by omega) (by (rw [hml];omega))) Z Z ?_))))))));refine A9 (M6 Z Z hge Z) Z Z (A9 (D7 Z Z) Z Z (A9 (A4 Z Z) Z Z (C6 Z Z (fun hg=>by rw [hg];exact A7 Z) Z Z ?_)));refine C6 Z Z (fun hg=>by rw [hg];exact A8 Z Z Z) Z Z ?_;refine C6 Z Z (fun hg=>by rw [hg];exact A4 Z Z) Z Z ?_;refine C6 Z Z (fun hg=>by have hq:=hg;(try simp at hq);rw [hg];exact B0 Z (.pure _ _ _ _) Z (by omega) hva) Z Z ?_;refine C6 Z Z (fun hg=>by rw [hg];exact B2 Z Z) Z Z ?_;refine C6 Z Z (fun hg=>by rw [hg];exact M4 Z Z) Z Z ?_;refine A9 (B6 Z (fun h=>by first | rfl | (rw [h];rfl)) (fun h=>by first | rfl | (rw [h];rfl))) Z Z ?_;refine K7 ?_
   refine k1 ?_
   refine B3 rfl (fun ht=>?_) (fun ht=>?_)
   ·have h2:=A0 (or_pick.symm.trans ht)
    refine k2 ?_
    refine A3 (A2 (A5 Z Z) Z (A6 ?_))
    refine k1 (k10 (k11 (k12 (k11 (k11 (k12 (k11 (k12 (k11 (k11 (k12 (k11 ?_))))))))))))
    exact B5 (F1 rfl rfl rfl) (hno (hno2 (by omega)))
   have h2:=A1 (or_pick.symm.trans ht)
   refine L0 [(1,.s (.one (.ref 1 0))),(3,.s (.one (.buf 721 Row 3 rowC (K9 (c.Hunks.take k))))),(4,.s (.one (.mut 720))),(5,B8 k),(6,.s (.one (.ref 6 0))),(7,B8 j)] [(1,A32 c),(720,.arr Int 1 F9 (V0 n ends h j)),(721,.spare (K9 (c.Hunks.take k)).length 3 69),(6,.box (A83 h).s1.cells)] (I45 ⟨le1 rfl,le1 rfl,le1 rfl,le1 rfl,le1 rfl,le1 rfl,trivial⟩ ⟨rfl,rfl,rfl,rfl,trivial⟩) ?_
   refine k5 (k1 (k2 ?_))
   refine D2 (by kernel_rfl) (by kernel_rfl) (A9 (A4 Z Z) Z Z (A9 (A4 Z Z) Z Z (A9 (A7 Z) Z Z (A9 (A8 Z Z Z) Z Z (A9 (A4 Z Z) Z Z (A9 (B0 Z (.pure _ _ _ _) Z (by omega) hva) Z Z (A9 (B2 Z Z) Z Z (A9 (A7 Z) Z Z (A9 (A8 Z Z Z) Z Z (A9 (A4 Z Z) Z Z (A9 (A7 Z) Z Z (A9 (A8 Z Z Z) Z Z (A9 (H6 (hcn) Z Z) Z Z (A9 (H6 (hcol) Z Z) Z Z (A9 (D4 Z (.pure _ _ _ _)) Z Z (A9 (C0 Z Z (by omega)) Z Z (A9 (D9 Z Z Z (by omega) (by (rw [hml];omega))) Z Z ?_)))))))))))))))));refine A08 (G5 TySz.out Z Z (by (rw [hml];omega)) Z Z) Z ?_;refine K7 ?_
   rw [hcc,I85,hset]
   refine k1 (k2 ?_)
   refine A3 (A2 (A4 Z Z) Z (A2 (A4 Z Z) Z (A2 (D9 Z Z Z (by omega) (by (rw [hml1];omega))) Z ?_)));refine A2 (M6 Z Z hge1 Z) Z (A2 (M4 Z Z) Z (A6 ?_))
   refine k1 ?_
   refine B3 rfl (fun ht=>?_) (fun ht=>?_)
   ·have h3:=A0 ht
    refine k2 ?_
    refine A3 (A2 (A5 Z Z) Z (A6 ?_))
    refine k1 (k10 (k12 (k11 (k11 (k12 (k11 (k12 (k11 (k11 (k12 (k11 ?_)))))))))))
    exact B5 (F1 rfl rfl rfl) (hno (hno2 (by omega)))
   have h3:=A1 ht
   refine k5 (k4 (k1 ?_))
   refine A3 (A2 (A4 Z Z) Z (A2 (C0 Z Z (by omega)) Z (A2 (A5 Z Z) Z (A6 ?_))))
   refine k1 ?_
   refine ⟨j+1,⟨by omega,fun i hi=>?_⟩,by omega,I45 ⟨le1 rfl,le1 rfl,le1 rfl,le1 rfl,le1 rfl,le1 rfl,trivial⟩ ⟨rfl,rfl,rfl,rfl,trivial⟩⟩
   by_cases e1:i=j
   ·subst e1;rw [←ha,←hee,←hqq];omega
   ·exact hq i (by omega)
  ·have hjn:j=n+1:=by have:=A1 ht;omega
   subst hjn
   rw [F11]
   have hok:A38 n ends h=true:=hiff.2 ⟨⟨hal,hne⟩,hq⟩
   rw [hok,Bool.true_and] at hp
   refine k6 (k7 (k7 (k8 Z (k1 ?_))))
   refine A3 (A2 (A4 Z Z) Z (A2 (A7 Z) Z (A2 (A8 Z Z Z) Z (B9 (F0 Z Z Z (.pure _ _ _ _) (by omega) Z) Z (A2 (A5 Z Z) Z (A6 ?_))))))
   refine k4 (k1 ?_)
   refine A3 (A2 (A4 Z Z) Z (A2 (C0 Z Z (by omega)) Z (A2 (A5 Z Z) Z (A6 ?_))))
   refine k1 ?_
   refine ⟨(k+1,U5 n h),⟨by dsimp only;omega,A84 n h,?_,hp⟩,by dsimp only;omega,?_⟩
   ·intro e hm
    obtain ⟨i,hi,rfl⟩:=List.mem_map.1 hm
    have hi:=List.mem_range.1 hi
    have h4:=hq i hi
    have h5:=he0 _ (I98 (D93 (l:=ends) (i:=i) (by omega)))
    have h6:=B91 h.Rows n i
    omega
   ·dsimp only
    rw [hat]
    exact I45 ⟨le1 rfl,le1 rfl,le1 rfl,le1 rfl,trivial⟩ ⟨rfl,rfl,rfl,trivial⟩
 ·have hkl:k=c.Hunks.length:=by have:=A1 ht;omega
  rw [hkl,I87 (Nat.le_refl _)] at hp
  rw [hkl,I94]
  have hp:V7 n (List.replicate (n+1) 0) c.Hunks=true:=hp
  have hl1:=S6 (K9 c.Hunks)
  have hl2:=A85 (K9 c.Hunks)
  have hri:H8 (K9 c.Hunks):=by
   intro r hrm
   obtain ⟨l,h1,h2⟩:=List.mem_flatten.1 hrm
   obtain ⟨x,hx,rfl⟩:=List.mem_map.1 h1
   exact hr x hx r h2
  have htx:=D50 (K9 c.Hunks) c.Parents (by omega) hri (by omega) (by omega)
  rw [←hN] at htx
  refine k6 (k2 ?_)
  refine A3 (A2 (A4 Z Z) Z (A2 (A7 Z) Z (A2 (A8 Z Z Z) Z (C2 (htx) Z Z Z ?_))));rintro _ rfl;refine A2 (A5 Z Z) Z (A6 ?_)
  refine k1 (k10 ?_)
  exact B5 (F1 rfl rfl rfl) (by unfold Q6;rw [hp];rfl)
theorem rats_ok (n:Nat) (hn:n≤1048576):FnOk Tryz.prog 153 [G1 n] (fun rs=>rs=[L5 (atS n)]):=by
 refine FnOk.intro Tryz.func153 (by decide) Z Z Z Z ?_
 refine k2 ?_
 refine A3 (A2 (A5 Z Z) Z (A6 ?_))
 refine k1 (k2 ?_)
 refine A3 (A2 (A5 Z Z) Z (A6 ?_))
 refine k1 (k2 (k2 ?_))
 refine A3 (A2 (A5 Z Z) Z (A6 ?_))
 refine k1 (k3 ?_)
 refine C9 (X:=Nat) (fun i=>([(0,B8 n),(3,S7 (atS i)),(4,B8 i)],[])) (fun i=>i≤n) (fun i=>n - i) 0 (Nat.zero_le _) (I45 ⟨le1 rfl,le1 rfl,le1 rfl,trivial⟩ trivial) ?_
 intro i hi
 dsimp only at hi ⊢
 have hl:=D19 i
 refine k2 (k2 ?_)
 refine A3 (A2 (A4 Z Z) Z (A2 (A4 Z Z) Z (A2 (D7 Z Z) Z (A6 ?_))))
 refine k1 ?_
 refine B3 rfl (fun ht=>?_) (fun ht=>?_)
 ·have hlt:i < n:=by have:=A0 ht;omega
  refine k5 (k1 (k2 (k3 ?_)))
  refine A3 (A2 (A4 Z Z) Z (A2 (F4 Z Z (by (first | omega | (simp only [I78,I79,I81];omega)))) Z (A2 (A5 Z Z) Z (A6 ?_))))
  refine k4 (k1 ?_)
  refine A3 (A2 (A4 Z Z) Z (A2 (C0 Z Z (by omega)) Z (A2 (A5 Z Z) Z (A6 ?_))))
  refine k1 ?_
  refine ⟨i+1,by omega,by omega,?_⟩
  rw [show atS (i+1)=atS i++[64] by unfold atS;exact List.replicate_succ']
  exact I45 ⟨le1 rfl,le1 rfl,le1 rfl,trivial⟩ trivial
 ·have hin:i=n:=by have:=A1 ht;omega
  subst hin
  refine k6 (k2 ?_)
  refine A3 (A2 (A4 Z Z) Z (A2 (A5 Z Z) Z (A6 ?_)))
  refine k1 (k10 ?_)
  exact B5 (F1 rfl rfl rfl) rfl
theorem F13 (r:Row) (n:Nat) (hn:n≤32) (hm:0≤r.Marks∧r.Marks < 4294967296):FnOk Tryz.prog 154 [pRow r,G1 n] (fun rs=>rs=[L5 (c5 n r)]):=by
 refine FnOk.intro Tryz.func154 (by decide) Z Z Z Z ?_
 refine k2 ?_
 refine A3 (B9 (N7 2 Z Z Z) Z (A2 (A5 Z Z) Z (A6 ?_)))
 refine k1 (k2 ?_)
 refine A3 (B9 (Q0 730 _ u8C Z) Z (A6 ?_))
 refine k1 (k2 (k2 ?_))
 refine A3 (A2 (A5 Z Z) Z (A6 ?_))
 refine k1 (k3 ?_)
 refine C9 (X:=Nat) (fun p=>([(1,B8 n),(2,.s (.one (.ref 2 0))),(5,.s (.one (.buf 730 UInt8 1 u8C (c5 p r)))),(6,B8 p)],[(2,.box (pRow r).s1.cells),(730,.spare (c5 p r).length 1 5)])) (fun p=>p≤n) (fun p=>n - p) 0 (Nat.zero_le _) (I45 ⟨le1 rfl,le1 rfl,le1 rfl,le1 rfl,trivial⟩ ⟨rfl,rfl,trivial⟩) ?_
 intro p hp
 dsimp only at hp ⊢
 have hml:=A46 p r
 have hsucc:=D00 p r
 refine k2 (k2 ?_)
 refine A3 (A2 (A4 Z Z) Z (A2 (A4 Z Z) Z (A2 (D7 Z Z) Z (A6 ?_))))
 refine k1 ?_
 refine B3 rfl (fun ht=>?_) (fun ht=>?_)
 ·have hlt:p < n:=by have:=A0 ht;omega
  have hu:=A34 (n:=(p:Int)) (by omega)
  have h3:0≤r.Marks / 2 ^ p:=Int.ediv_nonneg hm.1 (Int.pow_nonneg (by decide))
  have h4:r.Marks / 2 ^ p≤r.Marks:=Int.ediv_le_self _ hm.1
  have e32:r.Marks.fdiv (2 ^ (min (p:Int).toNat IntKind.u32.bits))=r.Marks / 2 ^ p:=D71 r.Marks p (by omega)
  have e1:=B27 (r.Marks / 2 ^ p) (by omega)
  refine k5 (k1 (k2 (k3 (k3 (k2 ?_)))))
  refine A3 (A2 (A7 Z) Z (A2 (A8 Z Z Z) Z (A2 (A4 Z Z) Z (A2 (N0 Z) Z (A2 (A04 Z Z (by (rw [hu];omega))) Z ?_)))));refine A2 (U9 Z Z Z (fun _=>rfl)) Z (A2 (J6 Z Z) Z (A2 (A5 Z Z) Z (A6 ?_)))
  rw [hu,e32,e1]
  refine k1 ?_
  refine B3 rfl (fun ht=>?_) (fun ht=>?_)
  ·have ht:=A0 ht
   have hb:A16 r.Marks p=false:=by unfold A16;simp;omega
   have hmk:A98 r p=32:=by unfold A98;rw [if_pos hb]
   rw [hmk] at hsucc
   skip
   refine A3 (A2 (A4 Z Z) Z (A2 (C4 (c:=u8C) (ys:=[32]) (D5 Z Z Z Z E7) Z Z Z) Z (B9 (F0 Z Z Z (.pure _ _ _ _) (by (simp only [I79,I81];omega)) Z) Z (A2 (A5 Z Z) Z (A6 ?_)))))
   refine k4 (k4 (k1 ?_))
   refine A3 (A2 (A4 Z Z) Z (A2 (C0 Z Z (by omega)) Z (A2 (A5 Z Z) Z (A6 ?_))))
   refine k1 ?_
   refine ⟨p+1,by omega,by omega,?_⟩
   rw [hsucc]
   exact I45 ⟨le1 rfl,le1 rfl,le1 rfl,le1 rfl,trivial⟩ ⟨rfl,rfl,trivial⟩
  have ht:=A1 ht
  have hb:A16 r.Marks p=true:=by unfold A16;simp;omega
  refine k2 ?_
  refine A3 (A2 (A7 Z) Z (A2 (A8 Z Z Z) Z (A2 (A5 Z Z) Z (A6 ?_))))
  refine k1 ?_
  refine B3 rfl (fun ht=>?_) (fun ht=>?_)
  ·have hl:r.Lost=true:=ht
   have hmk:A98 r p=45:=by unfold A98;rw [hb,if_neg (by decide),if_pos hl]
   rw [hmk] at hsucc
   skip
   refine A3 (A2 (A4 Z Z) Z (A2 (C4 (c:=u8C) (ys:=[45]) (D5 Z Z Z Z E7) Z Z Z) Z (B9 (F0 Z Z Z (.pure _ _ _ _) (by (simp only [I79,I81];omega)) Z) Z (A2 (A5 Z Z) Z (A6 ?_)))))
   refine k4 (k4 (k1 ?_))
   refine A3 (A2 (A4 Z Z) Z (A2 (C0 Z Z (by omega)) Z (A2 (A5 Z Z) Z (A6 ?_))))
   refine k1 ?_
   refine ⟨p+1,by omega,by omega,?_⟩
   rw [hsucc]
   exact I45 ⟨le1 rfl,le1 rfl,le1 rfl,le1 rfl,trivial⟩ ⟨rfl,rfl,trivial⟩
  ·have hl:r.Lost=false:=ht
   have hmk:A98 r p=43:=by unfold A98;rw [hb,if_neg (by decide),hl,if_neg (by decide)]
   rw [hmk] at hsucc
   skip
   refine A3 (A2 (A4 Z Z) Z (A2 (C4 (c:=u8C) (ys:=[43]) (D5 Z Z Z Z E7) Z Z Z) Z (B9 (F0 Z Z Z (.pure _ _ _ _) (by (simp only [I79,I81];omega)) Z) Z (A2 (A5 Z Z) Z (A6 ?_)))))
   refine k4 (k4 (k1 ?_))
   refine A3 (A2 (A4 Z Z) Z (A2 (C0 Z Z (by omega)) Z (A2 (A5 Z Z) Z (A6 ?_))))
   refine k1 ?_
   refine ⟨p+1,by omega,by omega,?_⟩
   rw [hsucc]
   exact I45 ⟨le1 rfl,le1 rfl,le1 rfl,le1 rfl,trivial⟩ ⟨rfl,rfl,trivial⟩
 ·have hpn:p=n:=by have:=A1 ht;omega
  subst hpn
  refine k6 (k2 ?_)
  refine A3 (A2 (A4 Z Z) Z (A2 (X0 TyStr.out Z (.buf _ _ _ _ _)) Z (A2 (A5 Z Z) Z (A6 ?_))))
  refine k1 (k10 ?_)
  exact B5 (F1 rfl rfl rfl) rfl
def x6 (c:Comb):List Str:=[A99 c.Dense++Y3 c.Path++[10],parS++Z3 c.Parents++[10]]
theorem H61 (n:Nat) (r:Row):(U8 n r).length≤2:=by unfold U8;split<;>simp
theorem D61 (n:Nat) (rs:List Row):(rs.map (U8 n)).flatten.length≤(rs.map R8).sum:=by
 induction rs with
 | nil=>simp
 | cons x r ih =>
  have h1:=H61 n x
  have h2:2≤R8 x:=by unfold R8;omega
  simp only [I89,I96,I78,J10];omega
theorem F14 (n:Nat) (hs:List CHunk):(hs.map (Q2 n)).flatten.length≤szC hs:=by
 unfold szC
 induction hs with
 | nil=>simp
 | cons x r ih =>
  have h1:=D61 n x.Rows
  have h2:(Q2 n x).length≤B05 x:=by unfold Q2 B05;rw [I79];omega
  rw [I89,I96,I78,I89,J10]
  exact Nat.add_le_add h2 ih
set_option maxHeartbeats 1000000
theorem F85 (c:Comb) (hc:CFit c):FnOk Tryz.prog 90 [O0 c] (fun rs=>rs=[L5 (A37 c)]):=by
 obtain ⟨h1,h2,h3,h4,h5⟩:=hc
 have hzl:=A23 c.Hunks
 have hm29:markS.length=29:=rfl
 have hq:=B93 c.Path
 have hf:=F36 c.Parents
 have hkl:(A99 c.Dense).length≤16:=by cases c.Dense<;>decide
 have hpl:parS.length=8:=rfl
 obtain ⟨n,hN⟩:∃n,n=c.Parents.toNat:=⟨_,rfl⟩
 have hNc:c.Parents=(n:Int):=by omega
 have hn:n≤32:=by omega
 have hct:=F37 c (by omega) c.Hunks.length
 have hats:FnOk Tryz.prog 153 [G1 (c.Parents+1)] (fun rs=>rs=[L5 (atS (n+1))]):=by
  have:=rats_ok (n+1) (by omega)
  rwa [show ((n+1:Nat):Int)=c.Parents+1 by omega] at this
 have hal:=D19 (n+1)
 rw [←hN] at h5
 have htl:(x6 c).length=2:=rfl
 refine FnOk.intro Tryz.func90 (by decide) Z Z Z Z ?_
 refine k2 ?_
 refine A3 (B9 (N7 1 Z Z Z) Z (A2 (A5 Z Z) Z (A6 ?_)))
 refine k1 (k2 ?_)
 refine A3 (A2 (A5 Z Z) Z (A6 ?_))
 refine J7 ?_
 refine n4 [(1,.s (.one (.ref 1 0))),(3,S7 (A99 c.Dense))] [(1,A32 c)] ?_ ?_
 ·refine k2 ?_
  refine A3 (A2 (A7 Z) Z (A2 (A8 Z Z Z) Z (A6 ?_)))
  refine k1 ?_
  refine B3 rfl (fun ht=>?_) (fun ht=>?_)
  ·have h:c.Dense=true:=ht
   skip
   refine A3 (A2 (A5 Z Z) Z (A6 ?_))
   refine k1 ?_
   rw [show A99 c.Dense=ccS by unfold A99;rw [if_pos h]]
   exact I45 ⟨le1 rfl,le1 rfl,trivial⟩ ⟨rfl,trivial⟩
  ·have h:c.Dense=false:=ht
   refine k5 (k1 ?_)
   rw [show A99 c.Dense=combS by unfold A99;rw [h,if_neg (by decide)]]
   exact I45 ⟨le1 rfl,le1 rfl,trivial⟩ ⟨rfl,trivial⟩
 refine k2 ?_
 refine A27 11 (by kernel_rfl) (by kernel_rfl) Z (A9 (A4 Z Z) Z Z (A9 (A7 Z) Z Z (A9 (A8 Z Z Z) Z Z (A9 (H6 (H43 c.Path (by omega)) Z Z) Z Z (A9 (F4 Z Z (by (first | omega | (simp only [I78,I79,I81];omega)))) Z Z (A9 (F4 Z Z (by (first | omega | (simp only [I78,I79,I81];omega)))) Z Z (A9 (A7 Z) Z Z (A9 (A8 Z Z Z) Z Z (A9 (H6 (y5 c.Parents) Z Z) Z Z (A9 (F4 Z Z (by (first | omega | (simp only [I78,I79,I81];omega)))) Z Z (A9 (F4 Z Z (by (first | omega | (simp only [I78,I79,I81];omega)))) Z Z (K7 (d_turn (A54 722 (c:=K6) (ys:=(x6 c)) (D5 Z Z Z Z (D5 Z Z Z Z E7)) Z Z Z (by first | rfl | (simp [H0,H3,Ob.free,SV.free,S1.free,TC.free]<;>rfl))) Z ?_)))))))))))));refine A9 (A5 Z Z) Z Z (K7 ?_)
 refine k1 (k2 (k2 ?_))
 refine A3 (A2 (A5 Z Z) Z (A6 ?_))
 refine k1 (k3 ?_)
 refine C9 (X:=Nat) (fun k=>([(1,.s (.one (.ref 1 0))),(4,.s (.one (.buf 722 Str 1 K6 (x6 c++((c.Hunks.take k).map (Q2 n)).flatten)))),(5,B8 k)],[(1,A32 c),(722,.spare (x6 c++((c.Hunks.take k).map (Q2 n)).flatten).length 1 9)])) (fun k=>k≤c.Hunks.length) (fun k=>c.Hunks.length - k) 0 (Nat.zero_le _) (I45 ⟨le1 rfl,le1 rfl,le1 rfl,trivial⟩ ⟨rfl,rfl,trivial⟩) ?_
 intro k hk
 dsimp only at hk ⊢
 have hcp:=F14 n (c.Hunks.take k)
 have hct2:=D92 c.Hunks k
 refine k2 (k2 ?_)
 refine A3 (A2 (A4 Z Z) Z (A2 (A7 Z) Z (A2 (A8 Z Z Z) Z (A2 (D4 Z (.pure _ _ _ _)) Z (A2 (D7 Z Z) Z (A6 ?_))))))
 refine k1 ?_
 refine B3 rfl (fun ht=>?_) (fun ht=>?_)
 ·have hlt:k < c.Hunks.length:=by have:=A0 ht;omega
  have hv:c.Hunks[k]?=some c.Hunks[k]:=by simp [hlt]
  have hmem:=I90 hlt
  have hrw:=h4 _ hmem
  have hat:=h5 _ hmem
  have hzm:=A86 hmem
  have hsucc:((c.Hunks.take (k+1)).map (Q2 n)).flatten=((c.Hunks.take k).map (Q2 n)).flatten++Q2 n c.Hunks[k]:=by
   rw [I86 hlt]
   simp only [I92,I89,J09,J04,I96,J24,I97]
  obtain ⟨h,hx⟩:∃x,x=c.Hunks[k]:=⟨_,rfl⟩
  rw [←hx] at hv hrw hat hzm hsucc
  have hz1:=S6 h.Rows
  unfold B05 at hzm
  have hhl:=B56 hn h
  have hgA:∀j,j < n+1→h.At[j]?=some (h.At.getD j 0):=fun j hj=>D93 (by omega)
  have hrA:∀j,j < n+1 → -4611686018427387904≤h.At.getD j 0∧h.At.getD j 0≤4611686018427387904:=fun j hj=>hat.2 _ (I98 (hgA j hj))
  obtain ⟨base,hbase⟩:∃base,base=x6 c++((c.Hunks.take k).map (Q2 n)).flatten:=⟨_,rfl⟩
  have hbl:base.length≤2+268435456:=by rw [hbase,I78];omega
  rw [←hbase]
  refine k5 (k1 (k2 (k3 (k2 ?_))))
  refine A3 (A2 (A7 Z) Z (A2 (A8 Z Z Z) Z (A2 (A4 Z Z) Z (A2 (B0 Z (.pure _ _ _ _) Z (by omega) hv) Z (A2 (E1 Z Z) Z (B9 (F5 6 Z) Z (E6 (B7 TySz.out Z Z Z Z Z Z) (A6 ?_))))))))
  refine k1 (k2 ?_)
  refine A3 (A2 (A7 Z) Z (A2 (A8 Z Z Z) Z (A2 (C0 Z Z (by omega)) Z (C2 (hats) Z Z Z ?_))));rintro _ rfl;refine A2 (A5 Z Z) Z (A6 ?_)
  refine k1 (k2 (k2 ?_))
  refine A3 (A2 (A5 Z Z) Z (A6 ?_))
  refine k1 (k3 ?_)
  refine C9 (X:=Nat) (fun j=>([(1,.s (.one (.ref 1 0))),(4,.s (.one (.buf 722 Str 1 K6 base))),(5,B8 k),(6,.s (.one (.ref 6 0))),(7,S7 (atS (n+1)++U4 n h j)),(8,B8 j)],[(1,A32 c),(722,.spare base.length 1 9),(6,.box (A83 h).s1.cells)])) (fun j=>j≤n+1) (fun j=>n+1 - j) 0 (Nat.zero_le _) ?_ ?_
  ·rw [show U4 n h 0=[] from rfl,I97]
   exact I45 ⟨le1 rfl,le1 rfl,le1 rfl,le1 rfl,le1 rfl,le1 rfl,trivial⟩ ⟨rfl,rfl,rfl,trivial⟩
  intro j hj
  dsimp only at hj ⊢
  have hsl:=A87 n h j
  have hss:=A24 n h j
  refine k2 (k2 ?_)
  refine A3 (A2 (A4 Z Z) Z (A2 (A7 Z) Z (A2 (A8 Z Z Z) Z (A2 (i6 Z Z) Z (A6 ?_)))))
  refine k1 ?_
  refine B3 rfl (fun ht=>?_) (fun ht=>?_)
  ·have hlt2:j < n+1:=by have:=A0 ht;omega
   have hga:=hgA j hlt2
   have hra:=hrA j hlt2
   have hcl:=B51 h.Rows (R7 n j)
   have hrl:=A19 (h.At.getD j 0) (N4 h.Rows n j)
   have hcol:=A14 h.Rows (R7 n j) hrw (by omega)
   have hcn:=B85 j n
   rw [←hNc] at hcn
   have hrr:=H42 (h.At.getD j 0) ((M8 h.Rows (R7 n j)).length:Int) hra (by omega)
   have hsw:C97 n h j=[32,F34 n j]++O7 (h.At.getD j 0) ((M8 h.Rows (R7 n j)).length:Int):=rfl
   have hrl:(O7 (h.At.getD j 0) ((M8 h.Rows (R7 n j)).length:Int)).length≤21:=hrl
   obtain ⟨S,hS⟩:∃S,S=atS (n+1)++U4 n h j:=⟨_,rfl⟩
   have hSl:S.length≤1000:=by rw [hS,I78];omega
   have hSs:atS (n+1)++U4 n h (j+1)=S++[32,F34 n j]++O7 (h.At.getD j 0) ((M8 h.Rows (R7 n j)).length:Int):=by rw [hss,hS,hsw];simp
   rw [←hS]
   refine k5 (k1 (k2 (k3 (k2 ?_))))
   refine A3 (A2 (A5 Z Z) Z (A6 ?_))
   refine k1 (k2 (k2 ?_))
   refine A3 (A2 (A4 Z Z) Z (A2 (A7 Z) Z (A2 (A8 Z Z Z) Z (A2 (J6 Z Z) Z (A6 ?_)))))
   refine k1 ?_
   refine B3 rfl (fun ht=>?_) (fun ht=>?_)
   ·have hjn:=A0 ht
    have hsg:F34 n j=43:=by unfold F34;rw [if_pos (by omega)]
    rw [hsg] at hSs
    skip
    refine A3 (A2 (A5 Z Z) Z (A6 ?_))
    refine k1 ?_
    refine D2 (by kernel_rfl) (by kernel_rfl) (A9 (A4 Z Z) Z Z (A9 (A4 Z Z) Z Z (A9 (F4 Z Z (by (first | omega | (simp only [I78,I79,I81];omega)))) Z Z (A9 (A7 Z) Z Z (A9 (A8 Z Z Z) Z Z (A9 (A4 Z Z) Z Z (A9 (B0 Z (.pure _ _ _ _) Z (by omega) hga) Z Z (A9 (B2 Z Z) Z Z (A9 (A7 Z) Z Z (A9 (A8 Z Z Z) Z Z (A9 (A4 Z Z) Z Z (A9 (A7 Z) Z Z (A9 (A8 Z Z Z) Z Z (A9 (H6 (hcn) Z Z) Z Z (A9 (H6 (hcol) Z Z) Z Z (A9 (D4 Z (.pure _ _ _ _)) Z Z (A9 (H6 (hrr) Z Z) Z Z (A9 (F4 Z Z (by (first | omega | (simp only [I78,I79,I81];omega)))) Z Z (A9 (A5 Z Z) Z Z (K7 ?_))))))))))))))))))))
    refine k4 (k1 ?_)
    refine A3 (A2 (A4 Z Z) Z (A2 (C0 Z Z (by omega)) Z (A2 (A5 Z Z) Z (A6 ?_))))
    refine k1 ?_
    refine ⟨j+1,by omega,by omega,?_⟩
    rw [hSs]
    exact I45 ⟨le1 rfl,le1 rfl,le1 rfl,le1 rfl,le1 rfl,le1 rfl,trivial⟩ ⟨rfl,rfl,rfl,trivial⟩
   ·have hjn:=A1 ht
    have hsg:F34 n j=45:=by unfold F34;rw [if_neg (by omega)]
    rw [hsg] at hSs
    refine k5 (k1 ?_)
    refine D2 (by kernel_rfl) (by kernel_rfl) (A9 (A4 Z Z) Z Z (A9 (A4 Z Z) Z Z (A9 (F4 Z Z (by (first | omega | (simp only [I78,I79,I81];omega)))) Z Z (A9 (A7 Z) Z Z (A9 (A8 Z Z Z) Z Z (A9 (A4 Z Z) Z Z (A9 (B0 Z (.pure _ _ _ _) Z (by omega) hga) Z Z (A9 (B2 Z Z) Z Z (A9 (A7 Z) Z Z (A9 (A8 Z Z Z) Z Z (A9 (A4 Z Z) Z Z (A9 (A7 Z) Z Z (A9 (A8 Z Z Z) Z Z (A9 (H6 (hcn) Z Z) Z Z (A9 (H6 (hcol) Z Z) Z Z (A9 (D4 Z (.pure _ _ _ _)) Z Z (A9 (H6 (hrr) Z Z) Z Z (A9 (F4 Z Z (by (first | omega | (simp only [I78,I79,I81];omega)))) Z Z (A9 (A5 Z Z) Z Z (K7 ?_))))))))))))))))))))
    refine k4 (k1 ?_)
    refine A3 (A2 (A4 Z Z) Z (A2 (C0 Z Z (by omega)) Z (A2 (A5 Z Z) Z (A6 ?_))))
    refine k1 ?_
    refine ⟨j+1,by omega,by omega,?_⟩
    rw [hSs]
    exact I45 ⟨le1 rfl,le1 rfl,le1 rfl,le1 rfl,le1 rfl,le1 rfl,trivial⟩ ⟨rfl,rfl,rfl,trivial⟩
  ·have hjn:j=n+1:=by have:=A1 ht;omega
   subst hjn
   obtain ⟨S,hS⟩:∃S,S=atS (n+1)++U4 n h (n+1):=⟨_,rfl⟩
   have hSl:S.length≤1000:=by rw [hS,I78];omega
   have hhd:A97 n h++[10]=S++[32]++atS (n+1)++[10]:=by unfold A97;rw [hS]
   rw [←hS]
   refine k6 (k2 ?_)
   refine A3 (A2 (A4 Z Z) Z (A2 (A4 Z Z) Z (A2 (F4 Z Z (by (first | omega | (simp only [I78,I79,I81];omega)))) Z (A2 (A7 Z) Z (A2 (A8 Z Z Z) Z (A2 (C0 Z Z (by omega)) Z (C2 (hats) Z Z Z ?_)))))));rintro _ rfl;refine A2 (F4 Z Z (by (first | omega | (simp only [I78,I79,I81];omega)))) Z (A2 (F4 Z Z (by (first | omega | (simp only [I78,I79,I81];omega)))) Z (A2 (C4 (c:=K6) (ys:=[_]) (D5 Z Z Z Z E7) Z Z Z) Z (B9 (F0 Z Z Z (.pure _ _ _ _) (by (simp only [I79,I81];omega)) Z) Z (A2 (A5 Z Z) Z (A6 ?_)))))
   rw [←hhd]
   refine k1 (k2 ?_)
   refine A3 (A2 (A5 Z Z) Z (A6 ?_))
   refine k1 (k3 ?_)
   obtain ⟨hd,hhd2⟩:∃hd,hd=A97 n h++[10]:=⟨_,rfl⟩
   rw [←hhd2]
   refine C9 (X:=Nat) (fun i=>([(1,.s (.one (.ref 1 0))),(4,.s (.one (.buf 722 Str 1 K6 (base++(hd::((h.Rows.take i).map (U8 n)).flatten))))),(5,B8 k),(6,.s (.one (.ref 6 0))),(10,B8 i)],[(1,A32 c),(722,.spare (base++(hd::((h.Rows.take i).map (U8 n)).flatten)).length 1 9),(6,.box (A83 h).s1.cells)])) (fun i=>i≤h.Rows.length) (fun i=>h.Rows.length - i) 0 (Nat.zero_le _) (I45 ⟨le1 rfl,le1 rfl,le1 rfl,le1 rfl,le1 rfl,trivial⟩ ⟨rfl,rfl,rfl,trivial⟩) ?_
   intro i hi
   dsimp only at hi ⊢
   have hrp:=D61 n (h.Rows.take i)
   have hrt:=D91 h.Rows i
   refine k2 (k2 ?_)
   refine A3 (A2 (A4 Z Z) Z (A2 (A7 Z) Z (A2 (A8 Z Z Z) Z (A2 (D4 Z (.pure _ _ _ _)) Z (A2 (D7 Z Z) Z (A6 ?_))))))
   refine k1 ?_
   refine B3 rfl (fun ht=>?_) (fun ht=>?_)
   ·have hlt2:i < h.Rows.length:=by have:=A0 ht;omega
    have hv2:h.Rows[i]?=some h.Rows[i]:=by simp [hlt2]
    have hmem2:=I90 hlt2
    have hrm:=C65 hmem2
    have hmm:=hrw _ hmem2
    have hsucc2:((h.Rows.take (i+1)).map (U8 n)).flatten=((h.Rows.take i).map (U8 n)).flatten++U8 n h.Rows[i]:=by
     rw [I86 hlt2]
     simp only [I92,I89,J09,J04,I96,J24,I97]
    obtain ⟨r,hy⟩:∃x,x=h.Rows[i]:=⟨_,rfl⟩
    rw [←hy] at hv2 hrm hmm hsucc2
    have hrm:r.Text.length+96≤(h.Rows.map R8).sum:=hrm
    have hml:=A46 n r
    have hmk:=F13 r n hn hmm
    rw [←hNc] at hmk
    obtain ⟨bs,hbs⟩:∃bs,bs=base++(hd::((h.Rows.take i).map (U8 n)).flatten):=⟨_,rfl⟩
    have hbsl:bs.length≤2+268435456+1+268435456:=by rw [hbs,I78,I79];omega
    have hsucc3:base++(hd::((h.Rows.take (i+1)).map (U8 n)).flatten)=bs++U8 n r:=by rw [hsucc2,hbs];simp
    rw [←hbs]
    refine k5 (k1 (k2 (k3 (k2 ?_))))
    refine D2 (by kernel_rfl) (by kernel_rfl) (A9 (A4 Z Z) Z Z (A9 (A7 Z) Z Z (A9 (A8 Z Z Z) Z Z (A9 (A4 Z Z) Z Z (A9 (B0 Z (.pure _ _ _ _) Z (by omega) hv2) Z Z (A9 (E1 Z Z) Z Z (A9 (A7 Z) Z Z (A9 (A8 Z Z Z) Z Z (A9 (H6 (hmk) Z Z) Z Z (A9 (A7 Z) Z Z (A9 (A8 Z Z Z) Z Z (A9 (A4 Z Z) Z Z (A9 (B0 Z (.pure _ _ _ _) Z (by omega) hv2) Z Z (A9 (D8 Z) Z Z (A9 (B2 Z Z) Z Z (A9 (F4 Z Z (by (first | omega | (simp only [I78,I79,I81];omega)))) Z Z (A9 (C4 (c:=K6) (ys:=[_]) (D5 Z Z Z Z E7) Z Z Z) Z Z (B75 (F0 Z Z Z (.pure _ _ _ _) (by (simp only [I79,I81];omega)) Z) Z Z (A9 (A5 Z Z) Z Z (K7 ?_))))))))))))))))))))
    refine k1 (k2 ?_)
    refine A3 (A2 (A7 Z) Z (A2 (A8 Z Z Z) Z (A2 (A4 Z Z) Z (A2 (B0 Z (.pure _ _ _ _) Z (by omega) hv2) Z (A2 (D8 Z) Z (A2 (B2 Z Z) Z (C2 (F62 r.Text (by omega)) Z Z Z ?_)))))));rintro _ rfl;refine A2 (J2 Z) Z (A6 ?_)
    refine k1 ?_
    refine B3 rfl (fun ht=>?_) (fun ht=>?_)
    ·have he:ended r.Text=false:=by simpa using ht
     have e:U8 n r=[c5 n r++r.Text]++[markS]:=by unfold U8;rw [he,if_neg (by decide)];rfl
     skip
     refine A3 (A2 (A4 Z Z) Z (A2 (C4 (c:=K6) (ys:=[markS]) (D5 Z Z Z Z E7) Z Z Z) Z (B9 (F0 Z Z Z (.pure _ _ _ _) (by (first | omega | (simp only [I78,I79,I81];omega))) Z) Z (A2 (A5 Z Z) Z (A6 ?_)))))
     refine k4 (k1 ?_)
     refine A3 (A2 (A4 Z Z) Z (A2 (C0 Z Z (by omega)) Z (A2 (A5 Z Z) Z (A6 ?_))))
     refine k1 ?_
     refine ⟨i+1,by omega,by omega,?_⟩
     rw [hsucc3,e,←I88]
     exact I45 ⟨le1 rfl,le1 rfl,le1 rfl,le1 rfl,le1 rfl,trivial⟩ ⟨rfl,rfl,rfl,trivial⟩
    ·have he:ended r.Text=true:=by simpa using ht
     have e:U8 n r=[c5 n r++r.Text]:=by unfold U8;rw [if_pos he]
     refine k5 (k4 (k1 ?_))
     refine A3 (A2 (A4 Z Z) Z (A2 (C0 Z Z (by omega)) Z (A2 (A5 Z Z) Z (A6 ?_))))
     refine k1 ?_
     refine ⟨i+1,by omega,by omega,?_⟩
     rw [hsucc3,e]
     exact I45 ⟨le1 rfl,le1 rfl,le1 rfl,le1 rfl,le1 rfl,trivial⟩ ⟨rfl,rfl,rfl,trivial⟩
   ·have hil:i=h.Rows.length:=by have:=A1 ht;omega
    subst hil
    rw [I94]
    have e:x6 c++((c.Hunks.take (k+1)).map (Q2 n)).flatten=base++(hd::(h.Rows.map (U8 n)).flatten):=by
     rw [hsucc,←I88,←hbase,hhd2];rfl
    refine k6 (k7 (k7 (k8 Z (k4 (k1 ?_)))))
    refine A3 (A2 (A4 Z Z) Z (A2 (C0 Z Z (by omega)) Z (A2 (A5 Z Z) Z (A6 ?_))))
    refine k1 ?_
    refine ⟨k+1,by omega,by omega,?_⟩
    rw [e]
    exact I45 ⟨le1 rfl,le1 rfl,le1 rfl,trivial⟩ ⟨rfl,rfl,trivial⟩
 ·have hkl:k=c.Hunks.length:=by have:=A1 ht;omega
  subst hkl
  have e:(x6 c++((c.Hunks.take c.Hunks.length).map (Q2 n)).flatten).flatten=A37 c:=by
   rw [I94,hN];unfold A37 G80 x6;simp
  rw [D96] at hct
  have hao:=all_ok (x6 c++((c.Hunks.take c.Hunks.length).map (Q2 n)).flatten) (by rw [e];omega)
  rw [e] at hao
  refine k6 (k2 ?_)
  refine A3 (A2 (A4 Z Z) Z (C2 (hao) Z Z Z ?_));rintro _ rfl;refine A2 (A5 Z Z) Z (A6 ?_)
  refine k1 (k10 ?_)
  exact B5 (F1 rfl rfl rfl) rfl
theorem F86 (c:Comb) (hz:szC c.Hunks≤268435456) (hr:∀h∈c.Hunks,H8 h.Rows):FnOk Tryz.prog 41 [O0 c] (fun rs=>rs=[G1 (J4 c)]):=by
 refine FnOk.intro Tryz.func41 (by decide) Z Z Z Z ?_
 refine k2 ?_
 refine A3 (B9 (N7 1 Z Z Z) Z (A2 (A5 Z Z) Z (A6 ?_)))
 refine k1 (k2 (k3 (k2 ?_)))
 refine A3 (A2 (A7 Z) Z (A2 (A8 Z Z Z) Z (C2 (C17 c.Path) Z Z Z ?_)));rintro _ rfl;refine A2 (J2 Z) Z (A2 (A5 Z Z) Z (A6 ?_))
 refine k1 ?_
 refine B3 rfl (fun ht=>?_) (fun ht=>?_)
 ·have h:N6 c.Path=false:=by simpa using ht
  refine k2 ?_
  refine A3 (A2 (A5 Z Z) Z (A6 ?_))
  refine k1 (k10 (k12 (k11 ?_)))
  exact B5 (F1 rfl rfl rfl) (by unfold J4;rw [if_pos h])
 have h:N6 c.Path=true:=by simpa using ht
 have hpl:=A0 h
 refine k2 ?_
 refine A3 (A2 (A7 Z) Z (A2 (A8 Z Z Z) Z (A2 (D7 Z Z) Z (A2 (A4 Z Z) Z (B1 Z Z Z Z (fun hg=>by rw [hg];exact A7 Z) ?_)))));refine B1 Z Z Z Z (fun hg=>by rw [hg];exact A8 Z Z Z) ?_;refine B1 Z Z Z Z (fun hg=>by rw [hg];exact M4 Z Z) ?_;refine A2 (B6 Z (fun h=>by first | rfl | (rw [h];rfl)) (fun h=>by first | rfl | (rw [h];rfl))) Z ?_;refine A2 (A5 Z Z) Z (A6 ?_)
 refine k1 ?_
 refine B3 rfl (fun ht=>?_) (fun ht=>?_)
 ·have h1:=A0 (or_pick.symm.trans ht)
  refine k2 ?_
  refine A3 (A2 (A5 Z Z) Z (A6 ?_))
  refine k1 (k10 (k12 (k11 ?_)))
  exact B5 (F1 rfl rfl rfl) (by unfold J4;rw [if_neg (by rw [h];decide),if_pos (by omega)])
 have h1:=A1 (or_pick.symm.trans ht)
 have hn:1≤c.Parents∧c.Parents≤32:=by omega
 refine k2 ?_
 refine A3 (A2 (C8 Z Z Z) Z (C2 (F81 c (by omega) hr hz) Z Z Z ?_));rintro _ rfl;refine A2 (J2 Z) Z (A2 (A5 Z Z) Z (A6 ?_))
 refine k1 ?_
 refine B3 rfl (fun ht=>?_) (fun ht=>?_)
 ·have h2:W3 c.Parents.toNat c.Hunks=false:=by simpa using ht
  refine k2 ?_
  refine A3 (A2 (A5 Z Z) Z (A6 ?_))
  refine k1 (k10 (k12 (k11 ?_)))
  exact B5 (F1 rfl rfl rfl) (by unfold J4;rw [if_neg (by rw [h];decide),if_neg (by omega),if_pos h2])
 have h2:W3 c.Parents.toNat c.Hunks=true:=by simpa using ht
 refine k2 ?_
 refine A3 (A2 (C8 Z Z Z) Z (C2 (F84 c hn hr hz) Z Z Z ?_));rintro _ rfl;refine A2 (J2 Z) Z (A2 (A5 Z Z) Z (A6 ?_))
 refine k1 ?_
 refine B3 rfl (fun ht=>?_) (fun ht=>?_)
 ·have h3:Q6 c.Parents.toNat c.Hunks=false:=by simpa using ht
  refine k2 ?_
  refine A3 (A2 (A5 Z Z) Z (A6 ?_))
  refine k1 (k10 (k12 (k11 ?_)))
  exact B5 (F1 rfl rfl rfl) (by unfold J4;rw [if_neg (by rw [h];decide),if_neg (by omega),if_neg (by rw [h2];decide),if_pos h3])
 have h3:Q6 c.Parents.toNat c.Hunks=true:=by simpa using ht
 refine k2 ?_
 refine A3 (A2 (C8 Z Z Z) Z (C2 (F85 c (C51 (by omega) hn hz hr h3)) Z Z Z ?_));rintro _ rfl;refine A2 (M1 Z) Z (A2 (M4 Z Z) Z (A2 (A5 Z Z) Z (A6 ?_)))
 refine k1 ?_
 refine B3 rfl (fun ht=>?_) (fun ht=>?_)
 ·have h4:=A0 ht
  refine k2 ?_
  refine A3 (A2 (A5 Z Z) Z (A6 ?_))
  refine k1 (k10 (k12 (k11 ?_)))
  exact B5 (F1 rfl rfl rfl) (by unfold J4;rw [if_neg (by rw [h];decide),if_neg (by omega),if_neg (by rw [h2];decide),if_neg (by rw [h3];decide),if_pos (by omega)])
 have h4:=A1 ht
 refine k5 (k2 ?_)
 refine A3 (A2 (A5 Z Z) Z (A6 ?_))
 refine k1 (k10 ?_)
 exact B5 (F1 rfl rfl rfl) (by unfold J4;rw [if_neg (by rw [h];decide),if_neg (by omega),if_neg (by rw [h2];decide),if_neg (by rw [h3];decide),if_neg (by omega)])
abbrev pSpan (s:Span):PV:=.agg [.v (.int .i64 s.From),.v (.int .i64 s.To)]
theorem H62 (r:Row):FnOk Tryz.prog 215 [pRow r] (fun rs=>rs=[I3 (R2 r)]):=by
 refine FnOk.intro Tryz.func215 (by decide) Z Z Z Z ?_
 refine k2 ?_
 refine A3 (B9 (N7 1 Z Z Z) Z (A2 (A5 Z Z) Z (A6 ?_)))
 refine k1 (k2 ?_)
 refine A3 (A2 (A7 Z) Z (A2 (A8 Z Z Z) Z (A2 (J2 Z) Z (A2 (A4 Z Z) Z (B1 Z Z Z Z (fun hg=>by rw [hg];exact A7 Z) ?_)))));refine B1 Z Z Z Z (fun hg=>by rw [hg];exact A8 Z Z Z) ?_;refine B1 Z Z Z Z (fun hg=>by rw [hg];exact J6 Z Z) ?_;refine A2 (B6 Z (fun h=>by first | rfl | (rw [h];rfl)) (fun h=>by first | rfl | (rw [h];rfl))) Z ?_;refine A2 (A5 Z Z) Z (A6 ?_)
 refine k1 (k10 ?_)
 refine B5 (F1 Z Z Z) ?_
 unfold R2
 cases r.Lost<;>simp
theorem E59 (l:List Bool) (hl:l.length≤536870912):FnOk Tryz.prog 106 [pBools l] (fun rs=>rs=[pSpans (U1 l)]):=by
 obtain ⟨W,hW⟩:∃W,W=U1 l:=⟨_,rfl⟩
 rw [←hW]
 refine FnOk.intro Tryz.func106 (by decide) Z Z Z Z ?_
 refine k2 ?_
 refine A3 (A2 (A5 Z Z) Z (A6 ?_))
 refine k1 (k2 ?_)
 refine A3 (B9 (I00 750 _ spanC Z) Z (A6 ?_))
 refine k1 (k2 (k2 ?_))
 refine A3 (A2 (A5 Z Z) Z (A6 ?_))
 refine k1 (k3 ?_)
 refine C9 (X:=Nat × List Span) (fun x=>([(0,C1 Bool 1 u0 l),(3,.s (.one (.mut 750))),(4,B8 x.1)],[(750,.grow 88 Span 2 spanC x.2)])) (fun x=>x.1≤l.length∧B62 x.1 x.2∧(x2 l x.1=true→x.2≠[])∧W=C66 (l.drop x.1) x.1 (x2 l x.1) x.2) (fun x=>l.length - x.1) (0,[]) ⟨Nat.zero_le _,⟨Nat.le_refl _,(fun s hs=>by cases hs)⟩,(fun h=>by cases h),hW⟩ (I45 ⟨le1 rfl,le1 rfl,le1 rfl,trivial⟩ ⟨rfl,trivial⟩) ?_
 rintro ⟨i,out⟩ ⟨hi,hin,hne,hp⟩
 dsimp only at hi hin hne hp ⊢
 refine k2 (k2 ?_)
 refine A3 (A2 (A4 Z Z) Z (A2 (A4 Z Z) Z (A2 (D4 Z (.pure _ _ _ _)) Z (A2 (D7 Z Z) Z (A6 ?_)))))
 refine k1 ?_
 refine B3 rfl (fun ht=>?_) (fun ht=>?_)
 rotate_left
 ·have hil:i=l.length:=by have:=A1 ht;omega
  rw [hil,I87 (Nat.le_refl _)] at hp
  have hp:W=out:=hp
  refine F8 (Sees.freezeG (k:=750) Z Z) ?_
  refine k6 (k2 ?_)
  refine A3 (A2 (A4 Z Z) Z (A2 (A5 Z Z) Z (A6 ?_)))
  refine k1 (k10 ?_)
  exact B5 (F1 rfl rfl rfl) (by rw [hp])
 have hlt:i < l.length:=by have:=A0 ht;omega
 have hv:l[i]?=some (l.getD i false):=by simp [hlt]
 rw [E79 hlt] at hp
 have hpn:x2 l (i+1)=l.getD i false:=by unfold x2;rw [if_neg (by omega)];rfl
 have hst:=F38 (l.getD i false) (x2 l i) hin
 rw [←hpn] at hp hst
 obtain ⟨b,hb⟩:∃b,b=l.getD i false:=⟨_,rfl⟩
 rw [←hb] at hv hpn
 rw [hpn] at hp hst
 have hlen:=hin.1
 cases b with
 | false =>
  rw [if_neg (by decide)] at hp hst
  refine k5 (k1 (k2 (k3 (k2 (k2 ?_)))))
  refine A3 (A2 (A4 Z Z) Z (A2 (A4 Z Z) Z (A2 (B0 Z (.pure _ _ _ _) Z (by omega) hv) Z (A2 (B2 Z Z) Z (A2 (A4 Z Z) Z (O3 Z Z Z (by decide) Z (O3 Z Z Z (by decide) Z (O3 Z Z Z (by decide) Z (G8 (s:=.any) Z Z Z .un Z (fun h=>absurd h (by decide)) (G8 (s:=.any) Z Z Z .un Z (fun h=>absurd h (by decide)) (G8 (s:=.any) Z Z Z .un Z (fun h=>absurd h (by decide)) (G8 (s:=.any) Z Z Z .un Z (fun h=>absurd h (by decide)) (G8 (s:=.any) Z Z Z .un Z (fun h=>absurd h (by decide)) (G8 (s:=.any) Z Z Z .un Z (fun h=>absurd h (by decide)) (O3 Z Z Z (by decide) Z (A2 (B16 Z (rfl) Z) Z (A6 ?_)))))))))))))))))
  refine k1 ?_
  refine B3 rfl (fun ht=>?_) (fun ht=>?_)
  ·cases ht
  refine k5 (k1 (k2 ?_))
  refine A3 (A2 (A4 Z Z) Z (A2 (A4 Z Z) Z (A2 (B0 Z (.pure _ _ _ _) Z (by omega) hv) Z (A2 (B2 Z Z) Z (A6 ?_)))))
  refine k1 ?_
  refine B3 rfl (fun ht=>?_) (fun ht=>?_)
  ·cases ht
  refine k5 (k4 (k1 ?_))
  refine A3 (A2 (A4 Z Z) Z (A2 (C0 Z Z (by omega)) Z (A2 (A5 Z Z) Z (A6 ?_))))
  refine k1 ?_
  exact ⟨(i+1,out),⟨by dsimp only;omega,hst,(fun h=>by rw [hpn] at h;cases h),by rw [hpn];exact hp⟩,by dsimp only;omega,I45 ⟨le1 rfl,le1 rfl,le1 rfl,trivial⟩ ⟨rfl,trivial⟩⟩
 | true =>
  rw [if_pos rfl] at hp hst
  have hlast:∀(q:List Span) (s:Span),q.getLast?=some s→q[((q.length:Int) - 1).toNat]?=some s∧∀v:Int,q.set (((q.length:Int) - 1).toNat) ⟨s.From,v⟩=Y6 q v:=by
   intro q s hq
   have hqne:q≠[]:=fun e=>by rw [e] at hq;cases hq
   have hq1:=List.length_pos_iff.2 hqne
   rw [show ((q.length:Int) - 1).toNat=q.length - 1 by omega]
   refine ⟨by rw [←List.getLast?_eq_getElem?];exact hq,fun v=>?_⟩
   unfold Y6
   rw [hq]
   dsimp only
   have hd:=List.dropLast_concat_getLast hqne
   conv=>lhs;rw [←hd]
   rw [List.set_append_right _ _ (by rw [List.length_dropLast,I78,List.length_dropLast];simp)]
   simp
  by_cases hpv:x2 l i=true
  ·rw [if_pos hpv] at hp hst
   have hne:=hne hpv
   obtain ⟨s,hs⟩:∃s,out.getLast?=some s:=⟨_,List.getLast?_eq_some_getLast hne⟩
   obtain ⟨hv2,hset⟩:=hlast out s hs
   have hset:=hset ((i:Int)+1)
   have hi0:i≠0:=fun e=>by rw [e] at hpv;cases hpv
   have hvp:l[((i:Int) - 1).toNat]?=some true:=by
    unfold x2 at hpv
    rw [if_neg hi0] at hpv
    rw [show ((i:Int) - 1).toNat=i - 1 by omega,←hpv]
    simp [show i - 1 < l.length by omega]
   have h0:decide ((i:Int)=0)=false:=decide_eq_false (by omega)
   have hq1:=List.length_pos_iff.2 hne
   refine k5 (k1 (k2 (k3 (k2 (k2 ?_)))))
   refine A3 (A2 (A4 Z Z) Z (A2 (A4 Z Z) Z (A2 (B0 Z (.pure _ _ _ _) Z (by omega) hv) Z (A2 (B2 Z Z) Z (A2 (A4 Z Z) Z (L2 Z Z Z Z (A2 (A4 Z Z) Z (L2 Z Z Z Z (A2 (J6 Z Z) Z (L2 Z Z Z Z (A2 (A4 Z Z) Z (L2 Z Z Z h0 (A2 (A4 Z Z) Z (L2 Z Z Z h0 (A2 (A4 Z Z) Z (L2 Z Z Z h0 (A2 (P9 Z Z (by omega)) Z (L2 Z Z Z h0 (A2 (B0 Z (.pure _ _ _ _) Z (by omega) hvp) Z (L2 Z Z Z h0 (A2 (B2 Z Z) Z (L2 Z Z Z h0 (A2 (J2 Z) Z ?_)))))))))))))))))))))));refine L2 Z Z Z Z (A2 (B16 Z (h0) Z) Z (A2 (C07 Z (rfl) Z) Z (A6 ?_)))
   refine k1 ?_
   refine B3 rfl (fun ht=>?_) (fun ht=>?_)
   ·cases ht
   refine k5 (k1 (k2 ?_))
   refine A3 (A2 (A4 Z Z) Z (A2 (A4 Z Z) Z (A2 (B0 Z (.pure _ _ _ _) Z (by omega) hv) Z (A2 (B2 Z Z) Z (A6 ?_)))))
   refine k1 ?_
   refine B3 rfl (fun ht=>?_) (fun ht=>?_)
   rotate_left
   ·cases ht
   skip
   refine A3 (A2 (A4 Z Z) Z (A2 (A4 Z Z) Z (A2 (D12 Z Z) Z (A2 (P9 Z Z (by omega)) Z (A2 (A4 Z Z) Z (A2 (C0 Z Z (by omega)) Z (A2 (p7 Z Z Z (by omega) (by omega)) Z (A2 (x3 Z) Z (E6 (B44 (⟨s.From,(i:Int)+1⟩) TySz.out Z Z hv2 Z Z Z Z (fun _ _ _ h=>B15 h) (by intro j h1 h2;rcases j with _ | _ | _ | _ | _ | _ | _ | j<;>first | rfl | omega)) ?_)))))))));refine A6 ?_
   rw [hset]
   refine k4 (k1 ?_)
   refine A3 (A2 (A4 Z Z) Z (A2 (C0 Z Z (by omega)) Z (A2 (A5 Z Z) Z (A6 ?_))))
   refine k1 ?_
   refine ⟨(i+1,Y6 out ((i:Int)+1)),⟨by dsimp only;omega,hst,(fun _ h=>?_),by rw [hpn];exact hp⟩,by dsimp only;omega,I45 ⟨le1 rfl,le1 rfl,le1 rfl,trivial⟩ ⟨rfl,trivial⟩⟩
   dsimp only at h
   unfold Y6 at h
   rw [hs] at h
   simp at h
  ·rw [if_neg hpv] at hp hst
   obtain ⟨o2,ho2⟩:∃o2,o2=out++[(⟨i,i⟩:Span)]:=⟨_,rfl⟩
   obtain ⟨hv2,hset⟩:=hlast o2 ⟨i,i⟩ (by rw [ho2];simp)
   have hset:=hset ((i:Int)+1)
   have ho2l:o2.length=out.length+1:=by rw [ho2];simp
   rw [←ho2] at hp hst
   have hne2:Y6 o2 ((i:Int)+1)≠[]:=by rw [←hset];intro h;have:=congrArg List.length h;rw [J31,I81] at this;omega
   by_cases hi0:i=0
   ·have h0:decide ((i:Int)=0)=true:=decide_eq_true (by omega)
    refine k5 (k1 (k2 (k3 (k2 (k2 ?_)))))
    refine A3 (A2 (A4 Z Z) Z (A2 (A4 Z Z) Z (A2 (B0 Z (.pure _ _ _ _) Z (by omega) hv) Z (A2 (B2 Z Z) Z (A2 (A4 Z Z) Z (L2 Z Z Z Z (A2 (A4 Z Z) Z (L2 Z Z Z Z (A2 (J6 Z Z) Z (L2 Z Z Z Z (A2 (A4 Z Z) Z (O3 Z Z Z (by rw [h0];decide) Z ?_))))))))))));refine O3 Z Z Z (by rw [h0];decide) Z ?_;refine O3 Z Z Z (by rw [h0];decide) Z ?_;refine O3 Z Z Z (by rw [h0];decide) Z ?_;refine O3 Z Z Z (by rw [h0];decide) Z ?_;refine O3 Z Z Z (by rw [h0];decide) Z ?_;refine L2 Z Z Z Z (A2 (C07 Z (h0) Z) Z (A2 (C07 Z (rfl) Z) Z (A6 ?_)))
    refine k1 ?_
    refine B3 rfl (fun ht=>?_) (fun ht=>?_)
    rotate_left
    ·cases ht
    skip
    refine A3 (A2 (A4 Z Z) Z (A2 (A4 Z Z) Z (A2 (A4 Z Z) Z (A2 (F3 Z) Z (A2 (C4 (c:=spanC) (ys:=[⟨i,i⟩]) (D5 Z Z Z Z E7) Z Z Z) Z (B9 (A58 Z Z Z (.pure _ _ _ _) (by (simp;omega)) Z) Z (A2 (A5 Z Z) Z (A6 ?_))))))))
    rw [←ho2]
    refine k1 (k2 ?_)
    refine A3 (A2 (A4 Z Z) Z (A2 (A4 Z Z) Z (A2 (B0 Z (.pure _ _ _ _) Z (by omega) hv) Z (A2 (B2 Z Z) Z (A6 ?_)))))
    refine k1 ?_
    refine B3 rfl (fun ht=>?_) (fun ht=>?_)
    rotate_left
    ·cases ht
    skip
    refine A3 (A2 (A4 Z Z) Z (A2 (A4 Z Z) Z (A2 (D12 Z Z) Z (A2 (P9 Z Z (by omega)) Z (A2 (A4 Z Z) Z (A2 (C0 Z Z (by omega)) Z (A2 (p7 Z Z Z (by omega) (by omega)) Z (A2 (x3 Z) Z (E6 (B44 (⟨i,(i:Int)+1⟩) TySz.out Z Z hv2 Z Z Z Z (fun _ _ _ h=>B15 h) (by intro j h1 h2;rcases j with _ | _ | _ | _ | _ | _ | _ | j<;>first | rfl | omega)) ?_)))))))));refine A6 ?_
    rw [hset]
    refine k4 (k1 ?_)
    refine A3 (A2 (A4 Z Z) Z (A2 (C0 Z Z (by omega)) Z (A2 (A5 Z Z) Z (A6 ?_))))
    refine k1 ?_
    exact ⟨(i+1,Y6 o2 ((i:Int)+1)),⟨by dsimp only;omega,hst,(fun _=>hne2),by rw [hpn];exact hp⟩,by dsimp only;omega,I45 ⟨le1 rfl,le1 rfl,le1 rfl,trivial⟩ ⟨rfl,trivial⟩⟩
   ·have h0:decide ((i:Int)=0)=false:=decide_eq_false (by omega)
    have hvp:l[((i:Int) - 1).toNat]?=some false:=by
     unfold x2 at hpv
     rw [if_neg hi0] at hpv
     rw [show ((i:Int) - 1).toNat=i - 1 by omega]
     have hlt2:i - 1 < l.length:=by omega
     rw [I82,I80 hlt2] at hpv
     rw [I80 hlt2]
     simpa using hpv
    refine k5 (k1 (k2 (k3 (k2 (k2 ?_)))))
    refine A3 (A2 (A4 Z Z) Z (A2 (A4 Z Z) Z (A2 (B0 Z (.pure _ _ _ _) Z (by omega) hv) Z (A2 (B2 Z Z) Z (A2 (A4 Z Z) Z (L2 Z Z Z Z (A2 (A4 Z Z) Z (L2 Z Z Z Z (A2 (J6 Z Z) Z (L2 Z Z Z Z (A2 (A4 Z Z) Z (L2 Z Z Z h0 (A2 (A4 Z Z) Z (L2 Z Z Z h0 (A2 (A4 Z Z) Z (L2 Z Z Z h0 (A2 (P9 Z Z (by omega)) Z (L2 Z Z Z h0 (A2 (B0 Z (.pure _ _ _ _) Z (by omega) hvp) Z (L2 Z Z Z h0 (A2 (B2 Z Z) Z (L2 Z Z Z h0 (A2 (J2 Z) Z ?_)))))))))))))))))))))));refine L2 Z Z Z Z (A2 (B16 Z (h0) Z) Z (A2 (C07 Z (rfl) Z) Z (A6 ?_)))
    refine k1 ?_
    refine B3 rfl (fun ht=>?_) (fun ht=>?_)
    rotate_left
    ·cases ht
    skip
    refine A3 (A2 (A4 Z Z) Z (A2 (A4 Z Z) Z (A2 (A4 Z Z) Z (A2 (F3 Z) Z (A2 (C4 (c:=spanC) (ys:=[⟨i,i⟩]) (D5 Z Z Z Z E7) Z Z Z) Z (B9 (A58 Z Z Z (.pure _ _ _ _) (by (simp;omega)) Z) Z (A2 (A5 Z Z) Z (A6 ?_))))))))
    rw [←ho2]
    refine k1 (k2 ?_)
    refine A3 (A2 (A4 Z Z) Z (A2 (A4 Z Z) Z (A2 (B0 Z (.pure _ _ _ _) Z (by omega) hv) Z (A2 (B2 Z Z) Z (A6 ?_)))))
    refine k1 ?_
    refine B3 rfl (fun ht=>?_) (fun ht=>?_)
    rotate_left
    ·cases ht
    skip
    refine A3 (A2 (A4 Z Z) Z (A2 (A4 Z Z) Z (A2 (D12 Z Z) Z (A2 (P9 Z Z (by omega)) Z (A2 (A4 Z Z) Z (A2 (C0 Z Z (by omega)) Z (A2 (p7 Z Z Z (by omega) (by omega)) Z (A2 (x3 Z) Z (E6 (B44 (⟨i,(i:Int)+1⟩) TySz.out Z Z hv2 Z Z Z Z (fun _ _ _ h=>B15 h) (by intro j h1 h2;rcases j with _ | _ | _ | _ | _ | _ | _ | j<;>first | rfl | omega)) ?_)))))))));refine A6 ?_
    rw [hset]
    refine k4 (k1 ?_)
    refine A3 (A2 (A4 Z Z) Z (A2 (C0 Z Z (by omega)) Z (A2 (A5 Z Z) Z (A6 ?_))))
    refine k1 ?_
    exact ⟨(i+1,Y6 o2 ((i:Int)+1)),⟨by dsimp only;omega,hst,(fun _=>hne2),by rw [hpn];exact hp⟩,by dsimp only;omega,I45 ⟨le1 rfl,le1 rfl,le1 rfl,trivial⟩ ⟨rfl,trivial⟩⟩
theorem I17 (t:Table) (hr:H8 t.Rows) (hl:t.Rows.length≤268435456) (hx:N8 t.Rows≤536870912):FnOk Tryz.prog 171 [pTable t] (fun rs=>rs=[pSpans (U6 t).1,G1 (U6 t).2]):=by
 refine FnOk.intro Tryz.func171 (by decide) Z Z Z Z ?_
 refine k2 ?_
 refine A3 (B9 (N7 1 Z Z Z) Z (A2 (A5 Z Z) Z (A2 (A5 Z Z) Z (A6 ?_))))
 refine k1 (k2 (k2 ?_))
 refine A3 (A2 (C8 Z Z Z) Z (C2 (D51 t hr (by omega) hx) Z Z Z ?_));rintro _ rfl;refine A2 (A5 Z Z) Z (A6 ?_)
 refine k1 (k2 ?_)
 refine A3 (A2 (A4 Z Z) Z (A2 (M5 Z Z) Z (A6 ?_)))
 refine k1 ?_
 refine B3 rfl (fun ht=>?_) (fun ht=>?_)
 ·have h:=A0 ht
  refine k2 ?_
  refine A3 (A2 (A4 Z Z) Z (A2 (J1 _ 2 spanC) Z (A2 (A5 Z Z) Z (A6 ?_))))
  refine k1 (k10 (k11 ?_))
  exact B5 (d7 rfl rfl rfl rfl rfl) (by unfold U6;rw [if_pos h])
 have h:=A1 ht
 refine k5 (k1 (k2 ?_))
 refine A3 (B9 (Q0 751 _ u0 Z) Z (A6 ?_))
 refine k1 (k2 (k2 ?_))
 refine A3 (A2 (A5 Z Z) Z (A6 ?_))
 refine k1 (k3 ?_)
 refine C9 (X:=Nat) (fun i=>([(1,.s (.one (.ref 1 0))),(5,.s (.one (.buf 751 Bool 1 u0 ((t.Rows.take i).map fun r=>!R2 r)))),(6,B8 i)],[(1,.box (pTable t).s1.cells),(751,.spare ((t.Rows.take i).map fun r=>!R2 r).length 1 4)])) (fun i=>i≤t.Rows.length) (fun i=>t.Rows.length - i) 0 (Nat.zero_le _) (I45 ⟨le1 rfl,le1 rfl,le1 rfl,trivial⟩ ⟨rfl,rfl,trivial⟩) ?_
 intro i hi
 dsimp only at hi ⊢
 have hml:((t.Rows.take i).map fun r=>!R2 r).length=i:=by simp;omega
 refine k2 (k2 ?_)
 refine A3 (A2 (A4 Z Z) Z (A2 (A7 Z) Z (A2 (A8 Z Z Z) Z (A2 (D4 Z (.pure _ _ _ _)) Z (A2 (D7 Z Z) Z (A6 ?_))))))
 refine k1 ?_
 refine B3 rfl (fun ht=>?_) (fun ht=>?_)
 ·have hlt:i < t.Rows.length:=by have:=A0 ht;omega
  have hv:t.Rows[i]?=some t.Rows[i]:=by simp [hlt]
  have hst:((t.Rows.take (i+1)).map fun r=>!R2 r)=((t.Rows.take i).map fun r=>!R2 r)++[!R2 t.Rows[i]]:=by
   rw [I86 hlt];simp only [I92,I89,J09]
  obtain ⟨r,hrr⟩:∃r,r=t.Rows[i]:=⟨_,rfl⟩
  rw [←hrr] at hv hst
  refine k5 (k1 (k2 (k3 ?_)))
  refine A3 (A2 (A4 Z Z) Z (A2 (A7 Z) Z (A2 (A8 Z Z Z) Z (A2 (A4 Z Z) Z (A2 (B0 Z (.pure _ _ _ _) Z (by omega) hv) Z (A2 (E1 Z Z) Z (C2 (H62 r) Z Z Z ?_)))))));rintro _ rfl;refine A2 (J2 Z) Z (A2 (C4 (c:=u0) (ys:=[!R2 r]) (D5 Z Z Z Z E7) Z Z Z) Z (B9 (F0 Z Z Z (.pure _ _ _ _) (by (rw [hml];simp only [I79,I81];omega)) Z) Z ?_));refine A2 (A5 Z Z) Z (A6 ?_)
  refine k4 (k1 ?_)
  refine A3 (A2 (A4 Z Z) Z (A2 (C0 Z Z (by omega)) Z (A2 (A5 Z Z) Z (A6 ?_))))
  refine k1 ?_
  refine ⟨i+1,by omega,by omega,?_⟩
  rw [hst]
  exact I45 ⟨le1 rfl,le1 rfl,le1 rfl,trivial⟩ ⟨rfl,rfl,trivial⟩
 ·have hil:i=t.Rows.length:=by have:=A1 ht;omega
  rw [hil,I94]
  have hml2:(t.Rows.map fun r=>!R2 r).length=t.Rows.length:=by simp
  refine k6 (k2 ?_)
  refine A3 (A2 (A4 Z Z) Z (C2 (E59 (t.Rows.map fun r=>!R2 r) (by omega)) Z Z Z ?_));rintro _ rfl;refine A2 (A5 Z Z) Z (A2 (A5 Z Z) Z (A6 ?_))
  refine k1 (k10 ?_)
  exact B5 (d7 rfl rfl rfl rfl rfl) (by unfold U6;rw [if_neg h])
theorem H63 (t:Table) (s:Span) (hn:0≤t.Parents∧t.Parents≤64) (h1:0≤s.From∧s.From≤t.Rows.length) (h2:0≤s.To∧s.To≤t.Rows.length) (hl:t.Rows.length≤268435456) :
  FnOk Tryz.prog 172 [pTable t,pSpan s] (fun rs=>rs=[I3 (W6 t s)]):=by
 obtain ⟨F,hF⟩:∃F:Nat,s.From=F:=⟨s.From.toNat,by omega⟩
 obtain ⟨T,hT⟩:∃T:Nat,s.To=T:=⟨s.To.toNat,by omega⟩
 obtain ⟨R,hR⟩:∃R,R=(t.Rows.drop F).take (T - F):=⟨_,rfl⟩
 have hRl:R.length=T - F:=by rw [hR,I93,I95];omega
 have hD:W6 t s=(List.range t.Parents.toNat).all fun p=>!decide (x1 R / 2 ^ p % 2=0):=by unfold W6;rw [hF,hT,I85,I85,←hR]
 have hain:∀q:List Row,0≤x1 q∧x1 q < 4294967296:=by
  have key:∀(q:List Row) (a:Int),(0≤a∧a < 4294967296)→0≤q.foldl (fun a r=>K4 a r.Marks) a∧q.foldl (fun a r=>K4 a r.Marks) a < 4294967296:=by
   intro q
   induction q with
   | nil=>intro a h;exact h
   | cons x r ih=>intro a _;exact ih _ (D72 _)
  exact fun q=>key q 0 (by decide)
 refine FnOk.intro Tryz.func172 (by decide) Z Z Z Z ?_
 refine k2 ?_
 refine A3 (B9 (N7 2 Z Z Z) Z (B9 (N7 3 Z Z Z) Z (A2 (A5 Z Z) Z (A6 ?_))))
 refine k1 (k2 ?_)
 refine A3 (A2 (A5 Z Z) Z (A6 ?_))
 refine k1 (k2 (k2 ?_))
 refine A3 (A2 (A7 Z) Z (A2 (A8 Z Z Z) Z (A2 (A5 Z Z) Z (A6 ?_))))
 refine k1 (k3 ?_)
 rw [hF]
 refine C9 (X:=Nat) (fun k=>([(2,.s (.one (.ref 2 0))),(3,.s (.one (.ref 3 0))),(5,I9 (.int .u32 (x1 (R.take k)))),(6,B8 ((F+k:Nat):Int))],[(2,.box (pTable t).s1.cells),(3,.box (pSpan s).s1.cells)])) (fun k=>k≤R.length) (fun k=>R.length - k) 0 (Nat.zero_le _) (I45 ⟨le1 rfl,le1 rfl,le1 rfl,le1 rfl,trivial⟩ ⟨rfl,rfl,trivial⟩) ?_
 intro k hk
 dsimp only at hk ⊢
 refine k2 (k2 ?_)
 refine A3 (A2 (A4 Z Z) Z (A2 (A7 Z) Z (A2 (A8 Z Z Z) Z (A2 (D7 Z Z) Z (A6 ?_)))))
 refine k1 ?_
 refine B3 rfl (fun ht=>?_) (fun ht=>?_)
 ·have hlt:k < R.length:=by have:=A0 ht;omega
  have hv:t.Rows[((F+k:Nat):Int).toNat]?=some R[k]:=by
   have e1:R[k]?=some R[k]:=by simp
   have e2:R[k]?=t.Rows[F+k]?:=by rw [hR,J12 (by omega),J14]
   rw [I85,←e2]
   exact e1
  have hst:x1 (R.take (k+1))=K4 (x1 (R.take k)) R[k].Marks:=by
   unfold x1
   rw [I86 hlt,J07];rfl
  obtain ⟨r,hrr⟩:∃r,r=R[k]:=⟨_,rfl⟩
  rw [←hrr] at hv hst
  refine k5 (k1 (k2 (k3 ?_)))
  refine A3 (A2 (A4 Z Z) Z (A2 (A7 Z) Z (A2 (A8 Z Z Z) Z (A2 (A4 Z Z) Z (A2 (B0 Z (.pure _ _ _ _) Z (by omega) hv) Z (A2 (D8 Z) Z (A2 (B2 Z Z) Z (A2 (U9 Z Z Z (fun _=>rfl)) Z (A2 (A5 Z Z) Z (A6 ?_))))))))))
  refine k4 (k1 ?_)
  refine A3 (A2 (A4 Z Z) Z (A2 (C0 Z Z (by omega)) Z (A2 (A5 Z Z) Z (A6 ?_))))
  refine k1 ?_
  refine ⟨k+1,by omega,by omega,?_⟩
  rw [hst,show ((F+(k+1):Nat):Int)=((F+k:Nat):Int)+1 by omega]
  exact I45 ⟨le1 rfl,le1 rfl,le1 rfl,le1 rfl,trivial⟩ ⟨rfl,rfl,trivial⟩
 have hkl:k=R.length∨True:=.inr trivial
 have hT2:(T:Int)≤((F+k:Nat):Int):=by have:=A1 ht;omega
 have hkR:R.take k=R:=J17 (by omega)
 rw [hkR]
 obtain ⟨A,hA⟩:∃A,A=x1 R:=⟨_,rfl⟩
 have hAin:=hain R
 rw [←hA] at hAin hD ⊢
 obtain ⟨n,hn2⟩:∃n:Nat,t.Parents=n:=⟨t.Parents.toNat,by omega⟩
 rw [hn2,I85] at hD
 refine k6 (k2 (k2 ?_))
 refine A3 (A2 (A5 Z Z) Z (A6 ?_))
 refine k1 (k3 ?_)
 refine C9 (X:=Nat) (fun p=>([(2,.s (.one (.ref 2 0))),(5,I9 (.int .u32 A)),(7,B8 p)],[(2,.box (pTable t).s1.cells)])) (fun p=>p≤n∧∀q,q < p→¬A / 2 ^ q % 2=0) (fun p=>n - p) 0 ⟨Nat.zero_le _,fun q hq=>by omega⟩ (I45 ⟨le1 rfl,le1 rfl,le1 rfl,trivial⟩ ⟨rfl,trivial⟩) ?_
 rintro p ⟨hp,hq⟩
 dsimp only at hp hq ⊢
 refine k2 (k2 ?_)
 refine A3 (A2 (A4 Z Z) Z (A2 (A7 Z) Z (A2 (A8 Z Z Z) Z (A2 (D7 Z Z) Z (A6 ?_)))))
 refine k1 ?_
 refine B3 rfl (fun ht=>?_) (fun ht=>?_)
 ·have hlt:p < n:=by have:=A0 ht;omega
  have hu:=A34 (n:=(p:Int)) (by omega)
  have h3:0≤A / 2 ^ p:=Int.ediv_nonneg hAin.1 (Int.pow_nonneg (by decide))
  have h4:A / 2 ^ p≤A:=Int.ediv_le_self _ hAin.1
  have e1:=B27 (A / 2 ^ p) (by omega)
  have e32:A.fdiv (2 ^ (min (p:Int).toNat IntKind.u32.bits))=A / 2 ^ p∨32 < p:=by
   by_cases h:p≤32
   ·exact .inl (D71 A p (by omega))
   ·exact .inr (by omega)
  have e33:A.fdiv (2 ^ (min (p:Int).toNat IntKind.u32.bits))=A / 2 ^ p:=by
   rcases e32 with h | h
   ·exact h
   ·have h5:min (p:Int).toNat IntKind.u32.bits=32:=by rw [I85];exact Nat.min_eq_right (by show 32≤p;omega)
    rw [h5,Int.fdiv_eq_ediv_of_nonneg _ (Int.pow_nonneg (by decide))]
    have h6:A / 2 ^ 32=0:=Int.ediv_eq_zero_of_lt hAin.1 (by have:(2:Int) ^ 32=4294967296:=rfl;omega)
    have h7:A / 2 ^ p=0:=Int.ediv_eq_zero_of_lt hAin.1 (by
     have h8:(2:Nat) ^ 32≤2 ^ p:=Nat.pow_le_pow_right (by decide) (by omega)
     have h9:((2 ^ p:Nat):Int)=2 ^ p:=by simp
     have h10:(2:Nat) ^ 32=4294967296:=rfl
     omega)
    rw [h6,h7]
  refine k5 (k1 (k2 (k3 (k2 ?_))))
  refine A3 (A2 (A4 Z Z) Z (A2 (A4 Z Z) Z (A2 (N0 Z) Z (A2 (A04 Z Z (by (rw [hu];omega))) Z ?_))));refine A2 (U9 Z Z Z (fun _=>rfl)) Z (A2 (J6 Z Z) Z (A6 ?_))
  rw [hu,e33,e1]
  refine k1 ?_
  refine B3 rfl (fun ht=>?_) (fun ht=>?_)
  ·have h:=A0 ht
   refine k2 ?_
   refine A3 (A2 (A5 Z Z) Z (A6 ?_))
   refine k1 (k10 (k12 (k11 (k11 (k12 (k11 ?_))))))
   refine B5 (rs:=[I3 false]) (F1 Z Z Z) ?_
   rw [hD,Eq.comm]
   congr 3
   rw [Bool.eq_false_iff]
   intro hall
   have:=List.all_eq_true.1 hall p (List.mem_range.2 hlt)
   simp [h] at this
  ·have h:=A1 ht
   refine k5 (k4 (k1 ?_))
   refine A3 (A2 (A4 Z Z) Z (A2 (C0 Z Z (by omega)) Z (A2 (A5 Z Z) Z (A6 ?_))))
   refine k1 ?_
   refine ⟨p+1,⟨by omega,fun q hq2=>?_⟩,by omega,I45 ⟨le1 rfl,le1 rfl,le1 rfl,trivial⟩ ⟨rfl,trivial⟩⟩
   by_cases e:q=p
   ·subst e;exact h
   ·exact hq q (by omega)
 ·have hpn:p=n:=by have:=A1 ht;omega
  subst hpn
  refine k6 (k2 ?_)
  refine A3 (A2 (A5 Z Z) Z (A6 ?_))
  refine k1 (k10 ?_)
  refine B5 (rs:=[I3 true]) (F1 Z Z Z) ?_
  rw [hD,Eq.comm]
  congr 3
  rw [List.all_eq_true]
  intro q hq2
  have:=hq q (List.mem_range.1 hq2)
  simp [this]
theorem I18 {t:Table} (h:(U6 t).2=0):I7 t=0∧(1≤t.Parents∧t.Parents≤32):=by
 unfold U6 at h
 by_cases hc:I7 t=0
 ·refine ⟨hc,?_⟩
  unfold I7 at hc
  split at hc
  ·cases hc
  ·omega
 ·rw [if_pos hc] at h;exact absurd h hc
theorem F87 {α:Type} (L:List α) (p:α→Bool) (k:Nat) (h:k < L.length):(L.take (k+1)).filter p=(L.take k).filter p++if p L[k]=true then [L[k]] else []:=by
 rw [I86 h,J28]
 congr 1
 rw [J27];split<;>rfl
theorem D06 (t:Table) (d:Bool) (hr:H8 t.Rows) (hl:t.Rows.length≤134217728) (hx:N8 t.Rows≤536870912) :
  FnOk Tryz.prog 105 [pTable t,I3 d] (fun rs=>rs=[pSpans (G6 t d).1,G1 (G6 t d).2]):=by
 refine FnOk.intro Tryz.func105 (by decide) Z Z Z Z ?_
 refine k2 ?_
 refine A3 (B9 (N7 2 Z Z Z) Z (A2 (A5 Z Z) Z (A2 (A5 Z Z) Z (A6 ?_))))
 refine k1 (k2 ?_)
 refine A3 (A2 (C8 Z Z Z) Z (C2 (I17 t hr (by omega) hx) Z Z Z ?_));rintro _ rfl;refine A2 (A4 Z Z) Z (A2 (C5 Z Z) Z (A2 (C5 Z Z) Z (A2 (A5 Z Z) Z (A2 (A5 Z Z) Z (A6 ?_)))))
 refine k1 (k2 (k2 ?_))
 refine A3 (A2 (A4 Z Z) Z (A2 (M5 Z Z) Z (A6 ?_)))
 refine k1 ?_
 refine B3 rfl (fun ht=>?_) (fun ht=>?_)
 ·have h:=A0 ht
  refine k2 ?_
  refine A3 (A2 (A4 Z Z) Z (A2 (J1 _ 2 spanC) Z (A2 (A5 Z Z) Z (A6 ?_))))
  refine k1 (k10 (k11 ?_))
  exact B5 (d7 rfl rfl rfl rfl rfl) (by unfold G6;rw [if_pos h])
 have h:=A1 ht
 have h0:(U6 t).2=0:=by omega
 have hres:G6 t d=((U6 t).1.filter fun s=>!d||W6 t s,0):=by unfold G6;rw [if_neg (by omega)]
 rw [hres]
 obtain ⟨_,hn1,hn2⟩:=I18 h0
 obtain ⟨L,hL⟩:∃L,L=(U6 t).1:=⟨_,rfl⟩
 have hin:=H29 t
 rw [←hL] at hin ⊢
 obtain ⟨hin1,hin2⟩:=hin
 obtain ⟨p,hp⟩:∃p:Span→Bool,p=fun s=>!d||W6 t s:=⟨_,rfl⟩
 rw [←hp]
 refine k5 (k1 (k2 ?_))
 refine A3 (B9 (Q0 752 _ spanC Z) Z (A6 ?_))
 refine k1 (k2 (k2 ?_))
 refine A3 (A2 (A5 Z Z) Z (A6 ?_))
 refine k1 (k3 ?_)
 refine C9 (X:=Nat) (fun k=>([(1,P1 d),(2,.s (.one (.ref 2 0))),(6,C1 Span 2 spanC L),(8,.s (.one (.buf 752 Span 2 spanC ((L.take k).filter p)))),(9,B8 k)],[(2,.box (pTable t).s1.cells),(752,.spare ((L.take k).filter p).length 2 88)])) (fun k=>k≤L.length) (fun k=>L.length - k) 0 (Nat.zero_le _) (I45 ⟨le1 rfl,le1 rfl,le1 rfl,le1 rfl,le1 rfl,trivial⟩ ⟨rfl,rfl,trivial⟩) ?_
 intro k hk
 dsimp only at hk ⊢
 have hfl:=List.length_filter_le p (L.take k)
 have htl:(L.take k).length=k:=by rw [I93];omega
 refine k2 (k2 ?_)
 refine A3 (A2 (A4 Z Z) Z (A2 (A4 Z Z) Z (A2 (D4 Z (.pure _ _ _ _)) Z (A2 (D7 Z Z) Z (A6 ?_)))))
 refine k1 ?_
 refine B3 rfl (fun ht=>?_) (fun ht=>?_)
 rotate_left
 ·have hkl:k=L.length:=by have:=A1 ht;omega
  rw [hkl,I94]
  refine k6 (k2 ?_)
  refine A3 (A2 (A4 Z Z) Z (A2 (A5 Z Z) Z (A2 (A5 Z Z) Z (A6 ?_))))
  refine k1 (k10 ?_)
  exact B5 (d7 rfl rfl rfl rfl rfl) rfl
 have hlt:k < L.length:=by have:=A0 ht;omega
 have hst:=F87 L p k hlt
 have hv:L[k]?=some L[k]:=by simp [hlt]
 have hs:=hin2 _ (I90 hlt)
 obtain ⟨s,hsd⟩:∃s,s=L[k]:=⟨_,rfl⟩
 rw [←hsd] at hst hv hs
 have hps:p s=(!d||W6 t s):=by rw [hp]
 refine k5 (k1 (k2 (k3 (k2 ?_))))
 refine D2 (by kernel_rfl) (by kernel_rfl) (A9 (A4 Z Z) Z Z (A9 (J2 Z) Z Z (A9 (A4 Z Z) Z Z (C6 Z Z (fun hg=>by rw [hg];exact C8 Z Z Z) Z Z ?_))));refine C6 Z Z (fun hg=>by rw [hg];exact A4 Z Z) Z Z ?_;refine C6 Z Z (fun hg=>by rw [hg];exact A4 Z Z) Z Z ?_;refine C6 Z Z (fun hg=>by have hq:=hg;(try simp at hq);rw [hg];exact B0 Z (.pure _ _ _ _) Z (by omega) hv) Z Z ?_;refine C6 Z Z (fun hg=>by rw [hg];exact E1 Z Z) Z Z ?_;refine C6 Z Z (fun hg=>by have hq:=hg;(try simp at hq);rw [hg];exact H6 (H63 t s (by omega) hs.1 hs.2 (by omega)) Z Z) Z Z ?_;refine A9 (B6 Z (fun h=>by first | rfl | (rw [h];rfl)) (fun h=>by first | rfl | (rw [h];rfl))) Z Z ?_;refine K7 ?_
 refine k1 ?_
 refine B3 rfl (fun ht=>?_) (fun ht=>?_)
 ·have hpt:p s=true:=by rw [hps];cases d<;>simp_all
  rw [if_pos hpt] at hst
  skip
  refine A3 (A2 (A4 Z Z) Z (A2 (A4 Z Z) Z (A2 (A4 Z Z) Z (A2 (B0 Z (.pure _ _ _ _) Z (by omega) hv) Z (A2 (E1 Z Z) Z (A2 (C4 (c:=spanC) (ys:=[s]) (D5 Z Z Z Z E7) Z Z Z) Z (B9 (F0 Z Z Z (.pure _ _ _ _) (by (simp only [I79,I81];omega)) Z) Z (A2 (A5 Z Z) Z (A6 ?_)))))))))
  refine k4 (k1 ?_)
  refine A3 (A2 (A4 Z Z) Z (A2 (C0 Z Z (by omega)) Z (A2 (A5 Z Z) Z (A6 ?_))))
  refine k1 ?_
  refine ⟨k+1,by omega,by omega,?_⟩
  rw [hst]
  exact I45 ⟨le1 rfl,le1 rfl,le1 rfl,le1 rfl,le1 rfl,trivial⟩ ⟨rfl,rfl,trivial⟩
 ·have hpt:¬p s=true:=by rw [hps];cases d<;>simp_all
  rw [if_neg hpt,I97] at hst
  refine k5 (k4 (k1 ?_))
  refine A3 (A2 (A4 Z Z) Z (A2 (C0 Z Z (by omega)) Z (A2 (A5 Z Z) Z (A6 ?_))))
  refine k1 ?_
  refine ⟨k+1,by omega,by omega,?_⟩
  rw [hst]
  exact I45 ⟨le1 rfl,le1 rfl,le1 rfl,le1 rfl,le1 rfl,trivial⟩ ⟨rfl,rfl,trivial⟩
def B58 (L:List Span) (ctx:Int) (i k q:Nat):Bool:=if q < i then M3 L ctx q else if q=i then M3 (L.take k) ctx i else false
theorem H64 (L:List Span) (ctx:Int) (n:Nat):List.replicate n false=(List.range n).map (B58 L ctx 0 0):=by
 refine List.ext_getElem (by simp) fun q h1 h2=>?_
 simp only [List.getElem_replicate,List.getElem_map,List.getElem_range]
 unfold B58
 rw [if_neg (by omega)]
 split<;>simp [M3]
theorem H65 (L:List Span) (ctx:Int) (i n:Nat):(List.range n).map (B58 L ctx i L.length)=(List.range n).map (B58 L ctx (i+1) 0):=by
 refine List.map_congr_left fun q _=>?_
 unfold B58
 rw [I94]
 by_cases h1:q < i
 ·rw [if_pos h1,if_pos (by omega)]
 ·rw [if_neg h1]
  by_cases h2:q=i
  ·rw [if_pos h2,if_pos (by omega),h2]
  ·rw [if_neg h2,if_neg (by omega)]
   split<;>simp [M3]
theorem H66 (L:List Span) (ctx:Int) (n:Nat):(List.range n).map (B58 L ctx n 0)=(List.range n).map (M3 L ctx):=by
 refine List.map_congr_left fun q hq=>?_
 unfold B58
 rw [if_pos (by simpa using hq)]
theorem F88 (L:List Span) (ctx:Int) (i k:Nat) (h:k < L.length):M3 (L.take (k+1)) ctx i=(M3 (L.take k) ctx i||decide (L[k].From - ctx≤i∧(i:Int) < L[k].To+ctx)):=by
 unfold M3
 rw [I86 h,List.any_append];simp
theorem F89 (t:Table) (ctx:Int) (d:Bool) (hr:H8 t.Rows) (hl:t.Rows.length≤134217728) (hx:N8 t.Rows≤536870912) :
  FnOk Tryz.prog 49 [pTable t,G1 ctx,I3 d] (fun rs=>rs=[pSpans (O9 t ctx d).1,G1 (O9 t ctx d).2]):=by
 refine FnOk.intro Tryz.func49 (by decide) Z Z Z Z ?_
 refine k2 ?_
 refine A3 (B9 (N7 3 Z Z Z) Z (A2 (A5 Z Z) Z (A2 (A5 Z Z) Z (A6 ?_))))
 refine k1 (k2 ?_)
 refine A3 (A2 (C8 Z Z Z) Z (A2 (A4 Z Z) Z (C2 (D06 t d hr hl hx) Z Z Z ?_)));rintro _ rfl;refine A2 (A4 Z Z) Z (A2 (C5 Z Z) Z (A2 (C5 Z Z) Z (A2 (A5 Z Z) Z (A2 (A5 Z Z) Z (A6 ?_)))))
 refine k1 (k2 (k2 ?_))
 refine A3 (A2 (A4 Z Z) Z (A2 (M5 Z Z) Z (A6 ?_)))
 refine k1 ?_
 refine B3 rfl (fun ht=>?_) (fun ht=>?_)
 ·have h:=A0 ht
  refine k2 ?_
  refine A3 (A2 (A4 Z Z) Z (A2 (J1 _ 2 spanC) Z (A2 (A5 Z Z) Z (A6 ?_))))
  refine k1 (k10 (k11 ?_))
  exact B5 (d7 rfl rfl rfl rfl rfl) (by unfold O9;rw [if_pos h])
 have h:=A1 ht
 refine k5 (k1 (k2 (k2 ?_)))
 refine A3 (A2 (A4 Z Z) Z (A2 (D7 Z Z) Z (A2 (A4 Z Z) Z (B1 Z Z Z Z (fun hg=>by rw [hg];exact A4 Z Z) ?_))));refine B1 Z Z Z Z (fun hg=>by rw [hg];exact M4 Z Z) ?_;refine A2 (B6 Z (fun h=>by first | rfl | (rw [h];rfl)) (fun h=>by first | rfl | (rw [h];rfl))) Z ?_;refine A6 ?_
 refine k1 ?_
 refine B3 rfl (fun ht=>?_) (fun ht=>?_)
 ·have h1:=A0 (or_pick.symm.trans ht)
  refine k2 ?_
  refine A3 (A2 (J1 _ 2 spanC) Z (A2 (A5 Z Z) Z (A6 ?_)))
  refine k1 (k10 (k11 ?_))
  exact B5 (d7 rfl rfl rfl rfl rfl) (by unfold O9;rw [if_neg h,if_pos (by omega)])
 have h1:=A1 (or_pick.symm.trans ht)
 have hres:O9 t ctx d=(U1 ((List.range t.Rows.length).map (M3 (G6 t d).1 ctx)),0):=by unfold O9;rw [if_neg h,if_neg (by omega)]
 rw [hres]
 obtain ⟨L,hL⟩:∃L,L=(G6 t d).1:=⟨_,rfl⟩
 have hin:=B39 t d
 rw [←hL] at hin ⊢
 obtain ⟨hin1,hin2⟩:=hin
 obtain ⟨n,hn⟩:∃n,n=t.Rows.length:=⟨_,rfl⟩
 rw [←hn] at hin1 hin2 hl ⊢
 refine L0 [(1,B8 ctx),(3,.s (.one (.ref 3 0))),(8,C1 Span 2 spanC L)] [(3,.box (pTable t).s1.cells)] (I45 ⟨le1 rfl,le1 rfl,le1 rfl,trivial⟩ ⟨rfl,trivial⟩) ?_
 refine k5 (k1 (k2 ?_))
 refine A3 (A2 (A7 Z) Z (A2 (A8 Z Z Z) Z (A2 (D4 Z (.pure _ _ _ _)) Z (B9 (U0 753 Bool u0 false Z Z (by omega) (by omega) (fun _=>by first | exact ⟨⟨rfl,rfl⟩,trivial⟩ | exact ⟨N3 _ _ _,trivial⟩) (by first | rfl | (simp [H0,H3,Ob.free,SV.free,S1.free,TC.free]<;>rfl))) Z ?_))));refine A2 (A5 Z Z) Z (A6 ?_)
 rw [←hn,I85,H64 L ctx n]
 refine k1 (k2 (k2 ?_))
 refine A3 (A2 (A5 Z Z) Z (A6 ?_))
 refine k1 (k3 ?_)
 refine C9 (X:=Nat) (fun i=>([(1,B8 ctx),(8,C1 Span 2 spanC L),(10,.s (.one (.mut 753))),(11,B8 i)],[(753,.arr Bool 1 u0 ((List.range n).map (B58 L ctx i 0)))])) (fun i=>i≤n) (fun i=>n - i) 0 (Nat.zero_le _) (I45 ⟨le1 rfl,le1 rfl,le1 rfl,le1 rfl,trivial⟩ ⟨rfl,trivial⟩) ?_
 intro i hi
 dsimp only at hi ⊢
 have hlen:∀k,((List.range n).map (B58 L ctx i k)).length=n:=fun k=>by simp
 have hlen0:=hlen 0
 refine k2 (k2 ?_)
 refine A3 (A2 (A4 Z Z) Z (A2 (A4 Z Z) Z (A2 (E33 Z Z) Z (A2 (D7 Z Z) Z (A6 ?_)))))
 refine k1 ?_
 refine B3 rfl (fun ht=>?_) (fun ht=>?_)
 rotate_left
 ·have hin:i=n:=by have:=A1 ht;omega
  rw [hin,H66]
  refine F8 (Sees.freeze (k:=753) Z) ?_
  refine k6 (k2 ?_)
  refine A3 (A2 (A4 Z Z) Z (C2 (E59 ((List.range n).map (M3 L ctx)) (by simp;omega)) Z Z Z ?_));rintro _ rfl;refine A2 (A5 Z Z) Z (A2 (A5 Z Z) Z (A6 ?_))
  refine k1 (k10 ?_)
  exact B5 (d7 rfl rfl rfl rfl rfl) rfl
 have hlt:i < n:=by have:=A0 ht;omega
 refine k5 (k1 (k2 (k3 (k2 ?_))))
 refine A3 (A2 (A5 Z Z) Z (A6 ?_))
 refine k1 (k3 ?_)
 refine C9 (X:=Nat) (fun k=>([(1,B8 ctx),(8,C1 Span 2 spanC L),(10,.s (.one (.mut 753))),(11,B8 i),(12,B8 k)],[(753,.arr Bool 1 u0 ((List.range n).map (B58 L ctx i k)))])) (fun k=>k≤L.length) (fun k=>L.length - k) 0 (Nat.zero_le _) (I45 ⟨le1 rfl,le1 rfl,le1 rfl,le1 rfl,le1 rfl,trivial⟩ ⟨rfl,trivial⟩) ?_
 intro k hk
 dsimp only at hk ⊢
 have hlenk:=hlen k
 refine k2 (k2 ?_)
 refine A3 (A2 (A4 Z Z) Z (A2 (A4 Z Z) Z (A2 (D4 Z (.pure _ _ _ _)) Z (A2 (D7 Z Z) Z (A6 ?_)))))
 refine k1 ?_
 refine B3 rfl (fun ht=>?_) (fun ht=>?_)
 rotate_left
 ·have hkl:k=L.length:=by have:=A1 ht;omega
  rw [hkl,H65]
  refine k6 (k7 (k7 (k8 Z (k4 (k1 ?_)))))
  refine A3 (A2 (A4 Z Z) Z (A2 (C0 Z Z (by omega)) Z (A2 (A5 Z Z) Z (A6 ?_))))
  refine k1 ?_
  exact ⟨i+1,by omega,by omega,I45 ⟨le1 rfl,le1 rfl,le1 rfl,le1 rfl,trivial⟩ ⟨rfl,trivial⟩⟩
 have hltk:k < L.length:=by have:=A0 ht;omega
 have hst:=F88 L ctx i k hltk
 have hv:L[k]?=some L[k]:=by simp [hltk]
 have hs:=hin2 _ (I90 hltk)
 obtain ⟨s,hsd⟩:∃s,s=L[k]:=⟨_,rfl⟩
 rw [←hsd] at hst hv hs
 have hg:((List.range n).map (B58 L ctx i k))[(i:Int).toNat]?=some (M3 (L.take k) ctx i):=by
  rw [I85,y1 n i _ hlt];unfold B58;rw [if_neg (by omega),if_pos rfl]
 have hset:((List.range n).map (B58 L ctx i k)).set (i:Int).toNat (if M3 (L.take k) ctx i=true then true else if decide ((i:Int)≥s.From - ctx)=true then decide ((i:Int) < s.To+ctx) else false)=(List.range n).map (B58 L ctx i (k+1)):=by
  rw [I85]
  refine n9 n i _ _ _ (fun _=>?_) (fun q _ hq=>?_)
  ·unfold B58
   rw [if_neg (by omega),if_pos rfl,hst]
   cases M3 (L.take k) ctx i
   ·by_cases h1:s.From - ctx≤(i:Int)
    ·by_cases h2:(i:Int) < s.To+ctx<;>simp [h1,h2]
    ·simp [h1]
   ·simp
  ·unfold B58
   by_cases h1:q < i
   ·rw [if_pos h1,if_pos h1]
   ·rw [if_neg h1,if_neg h1,if_neg hq,if_neg hq]
 refine k5 (k1 (k2 (k3 ?_)))
 refine A3 (A2 (A4 Z Z) Z (A2 (A4 Z Z) Z (A2 (A4 Z Z) Z (A2 (A4 Z Z) Z (A2 (D9 Z Z Z (by omega) (by (rw [hlenk];omega))) Z ?_)))));refine A2 (M6 Z Z hg Z) Z (A2 (A4 Z Z) Z (B1 Z Z Z Z (fun hg=>by rw [hg];exact A4 Z Z) ?_));refine B1 Z Z Z Z (fun hg=>by rw [hg];exact A4 Z Z) ?_;refine B1 Z Z Z Z (fun hg=>by rw [hg];exact A4 Z Z) ?_;refine B1 Z Z Z Z (fun hg=>by have hq:=hg;(try simp at hq);rw [hg];exact B0 Z (.pure _ _ _ _) Z (by omega) hv) ?_;refine B1 Z Z Z Z (fun hg=>by rw [hg];exact D8 Z) ?_;refine B1 Z Z Z Z (fun hg=>by rw [hg];exact B2 Z Z) ?_;refine B1 Z Z Z Z (fun hg=>by rw [hg];exact A4 Z Z) ?_;refine B1 Z Z Z Z (fun hg=>by have hq:=hg;(try simp at hq);rw [hg];exact P9 Z Z (by omega)) ?_;refine B1 Z Z Z Z (fun hg=>by rw [hg];exact A05 Z Z) ?_;refine B1 Z Z Z Z (fun hg=>by rw [hg];exact A4 Z Z) ?_;refine G8 Z Z Z (.gd (.val _)) Z (fun hg=>by obtain ⟨hg1,hg2⟩:=M2 hg;(try rw [hg1]);(try rw [hg2]);exact A4 Z Z) ?_;refine G8 Z Z Z (.gd (.val _)) Z (fun hg=>by obtain ⟨hg1,hg2⟩:=M2 hg;(try rw [hg1]);(try rw [hg2]);exact A4 Z Z) ?_;refine G8 Z Z Z (.gd (.val _)) Z (fun hg=>by obtain ⟨hg1,hg2⟩:=M2 hg;(try rw [hg1]);(try rw [hg2]);exact A4 Z Z) ?_;refine G8 Z Z Z (.gd (.val _)) Z (fun hg=>by have hq:=hg;(try simp at hq);obtain ⟨hg1,hg2⟩:=M2 hg;(try rw [hg1]);(try rw [hg2]);exact B0 Z (.pure _ _ _ _) Z (by omega) hv) ?_;refine G8 Z Z Z (.gd (.val _)) Z (fun hg=>by obtain ⟨hg1,hg2⟩:=M2 hg;(try rw [hg1]);(try rw [hg2]);exact D8 Z) ?_;refine G8 Z Z Z (.gd (.val _)) Z (fun hg=>by obtain ⟨hg1,hg2⟩:=M2 hg;(try rw [hg1]);(try rw [hg2]);exact B2 Z Z) ?_;refine G8 Z Z Z (.gd (.val _)) Z (fun hg=>by obtain ⟨hg1,hg2⟩:=M2 hg;(try rw [hg1]);(try rw [hg2]);exact A4 Z Z) ?_;refine G8 Z Z Z (.gd (.val _)) Z (fun hg=>by have hq:=hg;(try simp at hq);obtain ⟨hg1,hg2⟩:=M2 hg;(try rw [hg1]);(try rw [hg2]);exact C0 Z Z (by omega)) ?_;refine G8 Z Z Z (.gd (.val _)) Z (fun hg=>by obtain ⟨hg1,hg2⟩:=M2 hg;(try rw [hg1]);(try rw [hg2]);exact D7 Z Z) ?_;refine B1 Z Z Z Z (fun hg=>by rw [hg];exact B6 Z (fun h=>by first | rfl | (rw [h];rfl)) (fun h=>by first | rfl | (rw [h];rfl))) ?_;refine A2 (B6 Z (fun h=>by first | rfl | (rw [h];rfl)) (fun h=>by first | rfl | (rw [h];rfl))) Z ?_
 refine A2 (D9 Z Z Z (by omega) (by (rw [hlenk];omega))) Z ?_;refine E6 (G5 TySz.out Z Z (by (rw [hlenk];omega)) Z Z) ?_;refine A6 ?_
 refine k4 (k1 ?_)
 refine A3 (A2 (A4 Z Z) Z (A2 (C0 Z Z (by omega)) Z (A2 (A5 Z Z) Z (A6 ?_))))
 refine k1 ?_
 refine ⟨k+1,by omega,by omega,?_⟩
 rw [←hset]
 exact I45 ⟨le1 rfl,le1 rfl,le1 rfl,le1 rfl,le1 rfl,trivial⟩ ⟨rfl,trivial⟩
end Go.Proofs.YtbiadkkamhpdnaaGreatDoor
