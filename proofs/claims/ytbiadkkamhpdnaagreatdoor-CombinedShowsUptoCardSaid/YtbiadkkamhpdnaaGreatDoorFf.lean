/- Walks of the program's functions. -/
import Derived.Test.YtbiadkkamhpdnaaGreatDoorFe
import Derived.Test.YtbiadkkamhpdnaaGreatDoorFs
import Derived.Test.YtbiadkkamhpdnaaGreatDoorFa
import Derived.Test.YtbiadkkamhpdnaaGreatDoorFb
import Derived.Test.YtbiadkkamhpdnaaGreatDoorFd
import Derived.Test.YtbiadkkamhpdnaaGreatDoorFc
set_option linter.unusedSimpArgs false
namespace Go.Proofs.YtbiadkkamhpdnaaGreatDoor
open Go Go.AL
set_option maxRecDepth 100000
theorem C83 (c:UInt8):∀n:Nat,Lib.repeatL [c] n=List.replicate n c
 | 0=>rfl
 | n+1=>by rw [Lib.repeatL,C83 c n];rfl
theorem H75 (c:UInt8) (n:Nat) (hn:n≤1048576):FnOk Tryz.prog 150 [P5 [c],I7 n] (fun rs=>rs=[P5 (List.replicate n c)]) :=
 I86 (xs:=[.string ⟨#[c]⟩,.int .i64 n]) (r:=.string ⟨(List.replicate n c).toArray⟩) ⟨_,rfl,rfl,rfl⟩ rfl fun w _=>by
  have:=Tryz.strings_Repeat ⟨#[c]⟩ n w (by omega) (by show 1*n≤_;omega)
  have e:Lib.repeatL (⟨#[c]⟩:ByteArray).data.toList n=List.replicate n c:=C83 c n
  rw [e] at this
  exact this
abbrev cBox (c:Comb):Ob:=.box (V1 c).s1.cells
theorem B13 (rows:List Row) (n:Nat) (hn:n≤32) (hr:K4 rows) (hl:rows.length≤268435456) :
  AL.Met Tryz.prog 149 [(pRows rows).s1,(I7 n).s1] [] [] [] (fun rs ob'=>rs=[.one (.mut 720)]∧ob'=[(720,.arr Int 1 G4 (F5 rows n))]):=by
 have e0:((n:Int)+1).toNat=n+1:=by omega
 refine AL.Met.intro Tryz.func149 (by decide) Z Z Z ?_
 refine k2 ?_
 refine A4 (A3 (A6 Z Z) Z (A7 ?_))
 refine k1 (k2 ?_)
 refine A4 (A3 (A5 Z Z) Z (A3 (C2 Z Z (by omega)) Z (C3 (U1 720 Int G4 0 Z Z (by omega) (by omega) (fun _=>by first | exact ⟨⟨rfl,rfl⟩,trivial⟩ | exact ⟨N1 _ _ _,trivial⟩) (by first | rfl | (simp [H4,I3,Ob.free,SV.free,S1.free,TC.free]<;>rfl))) Z ?_)));refine A3 (A6 Z Z) Z (A7 ?_)
 rw [e0,←H03 rows n]
 refine k1 (k2 (k2 ?_))
 refine A4 (A3 (A5 Z Z) Z (A3 (D5 Z (.pure _ _ _ _)) Z (A3 (A5 Z Z) Z (A7 ?_))))
 refine k1 (k3 ?_)
 refine C7 (X:=Nat) (fun i=>([(1,B7 n),(5,.s (.one (.mut 720))),(12,B9 Row 3 rowC rows),(13,B7 rows.length),(14,B7 i)],[(720,.arr Int 1 G4 (l6 rows n i 0))])) (fun i=>i≤rows.length) (fun i=>rows.length - i) 0 (Nat.zero_le _) (I72 ⟨le1 rfl,le1 rfl,le1 rfl,le1 rfl,le1 rfl,trivial⟩ ⟨rfl,trivial⟩) ?_
 intro i hi
 dsimp only at hi ⊢
 refine k2 ?_
 refine A4 (A3 (D9 Z Z) Z (A7 ?_))
 refine k1 (k2 ?_)
 refine B5 rfl (fun ht=>?_) (fun ht=>?_)
 ·have hlt:i < rows.length:=by have:=A0 ht;omega
  have hv:rows[i]?=some rows[i]:=by simp [hlt]
  have hrow:=hr _ (J15 hlt)
  have hstep:=fun p=>H04 rows n i p hlt
  obtain ⟨r,hrr⟩:∃r,r=rows[i]:=⟨_,rfl⟩
  rw [←hrr] at hv hrow hstep
  have hcl:=fun k=>D85 (rows.take i) n k
  have htl:(rows.take i).length=i:=by rw [J20];omega
  rw [htl] at hcl
  refine k5 (k1 (k2 (k3 (k2 ?_))))
  refine A4 (A3 (B1 Z (.pure _ _ _ _) Z (by omega) hv) Z (A3 (E5 Z Z) Z (C3 (H7 7 Z) Z (F8 (C0 TySz.out Z Z Z Z Z Z) (A7 ?_)))))
  refine k1 (k2 (k2 ?_))
  refine A4 (A3 (A5 Z Z) Z (A3 (A5 Z Z) Z (A7 ?_)))
  refine k1 (k3 ?_)
  refine C7 (X:=Nat) (fun p=>([(1,B7 n),(5,.s (.one (.mut 720))),(7,.s (.one (.ref 7 0))),(12,B9 Row 3 rowC rows),(13,B7 rows.length),(14,B7 i),(18,B7 n),(19,B7 p)],[(7,.box (pRow r).s1.cells),(720,.arr Int 1 G4 (l6 rows n i p))])) (fun p=>p≤n) (fun p=>n - p) 0 (Nat.zero_le _) (I72 ⟨le1 rfl,le1 rfl,le1 rfl,le1 rfl,le1 rfl,le1 rfl,le1 rfl,le1 rfl,trivial⟩ ⟨rfl,rfl,trivial⟩) ?_
  intro p hp
  dsimp only at hp ⊢
  have hlen:=I04 rows n i p
  have hget:=I05 rows n i p (by omega)
  have hcp:=hcl p
  refine k2 ?_
  refine A4 (A3 (D9 Z Z) Z (A7 ?_))
  refine k1 (k2 ?_)
  refine B5 rfl (fun ht=>?_) (fun ht=>?_)
  ·have hlt2:p < n:=by have:=A0 ht;omega
   have hst:=hstep p (by omega)
   rw [show X6 n p=(p:Int) by unfold X6;rw [if_neg (by omega)]] at hst
   refine k5 (k1 (k2 (k3 (k2 ?_))))
   refine A4 (A3 (A5 Z Z) Z (A3 (A6 Z Z) Z (A7 ?_)))
   refine k1 (k2 ?_)
   refine A4 (A3 (D7 Z Z Z) Z (A3 (A5 Z Z) Z (C5 (F81 r p hrow) Z Z Z ?_)));rintro _ rfl;refine A7 ?_
   refine k1 ?_
   refine B5 rfl (fun ht=>?_) (fun ht=>?_)
   ·rw [if_pos ht] at hst
    skip
    refine A4 (A3 (A5 Z Z) Z (A3 (A5 Z Z) Z (A3 (E1 Z Z Z (by omega) (by (rw [hlen];omega))) Z ?_)));refine A3 (O4 Z Z hget Z) Z (A3 (C2 Z Z (by omega)) Z (A3 (E1 Z Z Z (by omega) (by (rw [hlen];omega))) Z ?_));refine F8 (G8 TySz.out Z Z (by (rw [hlen];omega)) Z Z) ?_;refine A7 ?_
    refine k4 (k1 ?_)
    refine A4 (A3 (C2 Z Z (by omega)) Z (A3 (A5 Z Z) Z (A7 ?_)))
    refine k1 ?_
    refine ⟨p+1,by omega,by omega,?_⟩
    rw [hst]
    exact I72 ⟨le1 rfl,le1 rfl,le1 rfl,le1 rfl,le1 rfl,le1 rfl,le1 rfl,le1 rfl,trivial⟩ ⟨rfl,rfl,trivial⟩
   ·rw [if_neg (by rw [ht];decide)] at hst
    refine k5 (k4 (k1 ?_))
    refine A4 (A3 (C2 Z Z (by omega)) Z (A3 (A5 Z Z) Z (A7 ?_)))
    refine k1 ?_
    refine ⟨p+1,by omega,by omega,?_⟩
    rw [hst]
    exact I72 ⟨le1 rfl,le1 rfl,le1 rfl,le1 rfl,le1 rfl,le1 rfl,le1 rfl,le1 rfl,trivial⟩ ⟨rfl,rfl,trivial⟩
  ·have hpn:p=n:=by have:=A1 ht;omega
   subst hpn
   have hst:=hstep p (by omega)
   have hvis:U4 r (X6 p p)=!r.Lost:=by unfold X6 U4;rw [if_pos rfl,if_pos rfl]
   rw [hvis,H05] at hst
   refine k6 (k2 ?_)
   refine A4 (A3 (A8 Z) Z (A3 (A9 Z Z Z) Z (A3 (K5 Z) Z (A7 ?_))))
   refine k1 ?_
   refine B5 rfl (fun ht=>?_) (fun ht=>?_)
   ·rw [if_pos ht] at hst
    skip
    refine A4 (A3 (A5 Z Z) Z (A3 (A5 Z Z) Z (A3 (E1 Z Z Z (by omega) (by (rw [hlen];omega))) Z ?_)));refine A3 (O4 Z Z hget Z) Z (A3 (C2 Z Z (by omega)) Z (A3 (E1 Z Z Z (by omega) (by (rw [hlen];omega))) Z ?_));refine F8 (G8 TySz.out Z Z (by (rw [hlen];omega)) Z Z) ?_;refine A7 ?_
    refine k4 (k1 ?_)
    refine A4 (A3 (C2 Z Z (by omega)) Z (A3 (A5 Z Z) Z (A7 ?_)))
    refine k1 ?_
    refine ⟨i+1,by omega,by omega,?_⟩
    rw [hst]
    exact I72 ⟨le1 rfl,le1 rfl,le1 rfl,le1 rfl,le1 rfl,trivial⟩ ⟨rfl,trivial⟩
   ·rw [if_neg (by rw [ht];decide)] at hst
    refine k5 (k4 (k1 ?_))
    refine A4 (A3 (C2 Z Z (by omega)) Z (A3 (A5 Z Z) Z (A7 ?_)))
    refine k1 ?_
    refine ⟨i+1,by omega,by omega,?_⟩
    rw [hst]
    exact I72 ⟨le1 rfl,le1 rfl,le1 rfl,le1 rfl,le1 rfl,trivial⟩ ⟨rfl,trivial⟩
 ·have hil:i=rows.length:=by have:=A1 ht;omega
  subst hil
  rw [H06]
  refine k6 (k2 ?_)
  refine A4 (A3 (A5 Z Z) Z (A3 (A6 Z Z) Z (A7 ?_)))
  refine k1 (k10 ?_)
  exact X1 (A83 rfl rfl) (by repeat (first | exact F9 | refine G1 rfl ?_ | refine M2 _ ?_)) (ObIn.spec (ob':=[(720,_)]) ⟨rfl,trivial⟩) ⟨rfl,rfl⟩
theorem G74 (c:Comb) (hn:1≤c.Parents∧c.Parents≤32) (hr:∀h∈c.Hunks,K4 h.Rows) (hz:szC c.Hunks≤268435456):FnOk Tryz.prog 92 [V1 c] (fun rs=>rs=[K7 (n6 c.Parents.toNat c.Hunks)]):=by
 obtain ⟨n,hN⟩:∃n,n=c.Parents.toNat:=⟨_,rfl⟩
 rw [←hN]
 have hzl:=D20 c.Hunks
 refine FnOk.intro Tryz.func92 (by decide) Z Z Z Z ?_
 refine k2 ?_
 refine A4 (C3 (Q0 1 Z Z Z) Z (A3 (A6 Z Z) Z (A7 ?_)))
 refine k1 (k2 (k2 ?_))
 refine A4 (A3 (A8 Z) Z (A3 (A9 Z Z Z) Z (A3 (D5 Z (.pure _ _ _ _)) Z (A3 (A5 Z Z) Z (A7 ?_)))))
 refine k1 (k3 ?_)
 refine C7 (X:=Nat) (fun k=>([(1,.s (.one (.ref 1 0))),(8,B9 CHunk 2 Q6 c.Hunks),(9,B7 c.Hunks.length),(10,B7 k)],[(1,cBox c)])) (fun k=>k≤c.Hunks.length∧n6 n c.Hunks=n6 n (c.Hunks.drop k)) (fun k=>c.Hunks.length - k) 0 ⟨Nat.zero_le _,rfl⟩ (I72 ⟨le1 rfl,le1 rfl,le1 rfl,le1 rfl,trivial⟩ ⟨rfl,trivial⟩) ?_
 rintro k ⟨hk,hp⟩
 dsimp only at hk hp ⊢
 refine k2 ?_
 refine A4 (A3 (D9 Z Z) Z (A7 ?_))
 refine k1 (k2 ?_)
 refine B5 rfl (fun ht=>?_) (fun ht=>?_)
 ·have hlt:k < c.Hunks.length:=by have:=A0 ht;omega
  have hv:c.Hunks[k]?=some c.Hunks[k]:=by simp [hlt]
  have hrw:=hr _ (J15 hlt)
  have hzm:=D19 (J15 hlt)
  rw [J11 hlt] at hp
  obtain ⟨h,hx⟩:∃x,x=c.Hunks[k]:=⟨_,rfl⟩
  rw [←hx] at hv hrw hp hzm
  have hz1:=x8 h.Rows
  unfold E33 at hzm
  have hp:n6 n c.Hunks=(M3 h.Rows n&&n6 n (c.Hunks.drop (k+1))):=hp
  refine k5 (k1 (k2 (k3 (k2 ?_))))
  refine A4 (A3 (B1 Z (.pure _ _ _ _) Z (by omega) hv) Z (A3 (E5 Z Z) Z (C3 (H7 4 Z) Z (F8 (C0 TySz.out Z Z Z Z Z Z) (A7 ?_)))))
  refine k1 (k2 ?_)
  refine A4 (A3 (A8 Z) Z (A3 (A9 Z Z Z) Z (A3 (D5 Z (.pure _ _ _ _)) Z (A3 (A5 Z Z) Z (A7 ?_)))))
  refine k1 (k3 ?_)
  refine C7 (X:=Nat) (fun j=>([(1,.s (.one (.ref 1 0))),(8,B9 CHunk 2 Q6 c.Hunks),(9,B7 c.Hunks.length),(10,B7 k),(15,B9 Row 3 rowC h.Rows),(16,B7 h.Rows.length),(17,B7 j)],[(1,cBox c)])) (fun j=>j≤h.Rows.length∧M3 h.Rows n=M3 (h.Rows.drop j) n) (fun j=>h.Rows.length - j) 0 ⟨Nat.zero_le _,rfl⟩ (I72 ⟨le1 rfl,le1 rfl,le1 rfl,le1 rfl,le1 rfl,le1 rfl,le1 rfl,trivial⟩ ⟨rfl,trivial⟩) ?_
  rintro j ⟨hj,hq⟩
  dsimp only at hj hq ⊢
  refine k2 ?_
  refine A4 (A3 (D9 Z Z) Z (A7 ?_))
  refine k1 (k2 ?_)
  refine B5 rfl (fun ht=>?_) (fun ht=>?_)
  ·have hlt2:j < h.Rows.length:=by have:=A0 ht;omega
   have hv2:h.Rows[j]?=some h.Rows[j]:=by simp [hlt2]
   have hm:=hrw _ (J15 hlt2)
   rw [J11 hlt2,A60] at hq
   obtain ⟨r,hy⟩:∃x,x=h.Rows[j]:=⟨_,rfl⟩
   rw [←hy] at hv2 hm hq
   have hw:=D49 r c.Parents hn hm
   rw [←hN] at hw
   refine k5 (k1 (k2 (k3 (k2 ?_))))
   refine A4 (A3 (B1 Z (.pure _ _ _ _) Z (by omega) hv2) Z (A3 (E5 Z Z) Z (C3 (H7 6 Z) Z (F8 (C0 TySz.out Z Z Z Z Z Z) (A7 ?_)))))
   refine k1 (k2 ?_)
   refine A4 (A3 (D7 Z Z Z) Z (A3 (A8 Z) Z (A3 (A9 Z Z Z) Z (C5 (hw) Z Z Z ?_))));rintro _ rfl;refine A3 (K5 Z) Z (A7 ?_)
   refine k1 ?_
   refine B5 rfl (fun ht=>?_) (fun ht=>?_)
   ·have h2:R8 n r=false:=by simpa using ht
    rw [h2,Bool.false_and] at hq
    rw [hq,Bool.false_and] at hp
    refine k2 ?_
    refine A4 (A3 (A6 Z Z) Z (A7 ?_))
    refine k1 (k10 (k12 (k11 (k11 (k12 (k12 (k11 (k11 (k12 (k11 ?_))))))))))
    exact B6 (H2 rfl rfl rfl) (by rw [hp])
   ·have h2:R8 n r=true:=by simpa using ht
    rw [h2,Bool.true_and] at hq
    refine k5 (k4 (k1 ?_))
    refine A4 (A3 (C2 Z Z (by omega)) Z (A3 (A5 Z Z) Z (A7 ?_)))
    refine k1 ?_
    exact ⟨j+1,⟨by omega,hq⟩,by omega,I72 ⟨le1 rfl,le1 rfl,le1 rfl,le1 rfl,le1 rfl,le1 rfl,le1 rfl,trivial⟩ ⟨rfl,trivial⟩⟩
  ·have hjl:j=h.Rows.length:=by have:=A1 ht;omega
   rw [hjl,J14 (Nat.le_refl _)] at hq
   have hq:M3 h.Rows n=true:=hq
   rw [hq,Bool.true_and] at hp
   refine k6 (k7 (k7 (k8 Z (k4 (k1 ?_)))))
   refine A4 (A3 (C2 Z Z (by omega)) Z (A3 (A5 Z Z) Z (A7 ?_)))
   refine k1 ?_
   exact ⟨k+1,⟨by omega,hp⟩,by omega,I72 ⟨le1 rfl,le1 rfl,le1 rfl,le1 rfl,trivial⟩ ⟨rfl,trivial⟩⟩
 ·have hkl:k=c.Hunks.length:=by have:=A1 ht;omega
  rw [hkl,J14 (Nat.le_refl _)] at hp
  refine k6 (k2 ?_)
  refine A4 (A3 (A6 Z Z) Z (A7 ?_))
  refine k1 (k10 ?_)
  exact B6 (H2 rfl rfl rfl) (by rw [hp];rfl)
theorem F91 (h:CHunk) (n:Nat) (ends:List Int) (hn:n≤32) (hr:K4 h.Rows) (hl:h.Rows.length≤268435456) (he:ends.length=n+1) (he0:∀e∈ends,0≤e) :
  FnOk Tryz.prog 156 [F43 h,I7 n,N6 ends] (fun rs=>rs=if W8 n ends h=true then [N6 (T7 n h),K7 true] else [N6 [],K7 false]):=by
 have hnot:∀{Q:Prop},(W8 n ends h=true→False)→(if W8 n ends h=true then [N6 (T7 n h),K7 true] else [N6 [],K7 false])=[N6 [],K7 false]:=fun hq=>if_neg hq
 have hF:=C97 n ends h
 refine FnOk.intro Tryz.func156 (by decide) Z Z Z Z ?_
 refine k2 ?_
 refine A4 (C3 (Q0 3 Z Z Z) Z (A3 (A6 Z Z) Z (A3 (A6 Z Z) Z (A7 ?_))))
 refine k1 (k2 (k2 ?_))
 refine A4 (A3 (A8 Z) Z (A3 (A9 Z Z Z) Z (A3 (D5 Z (.pure _ _ _ _)) Z (A3 (A5 Z Z) Z (A3 (C2 Z Z (by omega)) Z (A3 (O3 Z Z) Z (A3 (A5 Z Z) Z (B4 Z Z Z Z (fun hg=>by rw [hg];exact A8 Z) ?_))))))));refine B4 Z Z Z Z (fun hg=>by rw [hg];exact A9 Z Z Z) ?_;refine B4 Z Z Z Z (fun hg=>by rw [hg];exact D5 Z (.pure _ _ _ _)) ?_;refine B4 Z Z Z Z (fun hg=>by rw [hg];exact M1 Z Z) ?_;refine A3 (B8 Z (fun h=>by first | rfl | (rw [h];rfl)) (fun h=>by first | rfl | (rw [h];rfl))) Z ?_;refine A7 ?_
 refine k1 ?_
 refine B5 rfl (fun ht=>?_) (fun ht=>?_)
 ·have h1:=A0 (or_pick.symm.trans ht)
  refine k2 ?_
  refine A4 (A3 (J6 _ 1 G4) Z (A3 (A6 Z Z) Z (A7 ?_)))
  refine k1 (k10 (k11 ?_))
  refine B6 (rs:=[N6 [],K7 false]) (Z9 Z Z Z Z Z) ?_
  rw [if_neg]
  intro hq
  have h2:=(hF.1 hq).1
  rcases h1 with h1 | h1
  ·omega
  ·exact h2.2 (List.length_eq_zero_iff.1 (by omega))
 ·have h1:=A1 (or_pick.symm.trans ht)
  simp only [not_or,Decidable.not_not] at h1
  have hal:h.At.length=n+1:=by omega
  have hne:h.Rows≠[]:=fun e=>h1.2 (by rw [e];rfl)
  refine L7 [(1,B7 n),(2,B9 Int 1 G4 ends),(3,.s (.one (.ref 3 0)))] [(3,.box (F43 h).s1.cells)] (I72 ⟨le1 rfl,le1 rfl,le1 rfl,trivial⟩ ⟨rfl,trivial⟩) ?_
  refine k5 (k1 (k2 ?_))
  refine A4 (A3 (A8 Z) Z (A3 (A9 Z Z Z) Z (A3 (A5 Z Z) Z (l_new (B13 h.Rows n hn hr hl) Z Z Z Z ?_))));rintro _ _ ⟨rfl,rfl⟩;refine ⟨rfl,?_⟩;refine A3 (A6 Z Z) Z (A7 ?_)
  refine k1 (k2 (k2 ?_))
  refine A4 (A3 (A8 Z) Z (A3 (A9 Z Z Z) Z (A3 (D5 Z (.pure _ _ _ _)) Z (A3 (A5 Z Z) Z (A7 ?_)))))
  refine k1 (k3 ?_)
  refine C7 (X:=Nat) (fun k=>([(2,B9 Int 1 G4 ends),(8,.s (.one (.mut 720))),(28,B9 Int 1 G4 h.At),(29,B7 h.At.length),(30,B7 k)],[(720,.arr Int 1 G4 (u7 n h k))])) (fun k=>k≤h.At.length∧∀j,j < k→ends.getD j 0≤h.At.getD j 0∧h.At.getD j 0≤4096) (fun k=>h.At.length - k) 0 ⟨Nat.zero_le _,fun j hj=>by omega⟩ (by rw [G29];exact I72 ⟨le1 rfl,le1 rfl,le1 rfl,le1 rfl,le1 rfl,trivial⟩ ⟨rfl,trivial⟩) ?_
  rintro k ⟨hk,hp⟩
  dsimp only at hk hp ⊢
  have hlen:=H08 n h k
  refine k2 ?_
  refine A4 (A3 (D9 Z Z) Z (A7 ?_))
  refine k1 (k2 ?_)
  refine B5 rfl (fun ht=>?_) (fun ht=>?_)
  ·have hlt:k < h.At.length:=by have:=A0 ht;omega
   have hv:=getI hlt
   have hve:=getI (l:=ends) (i:=k) (by omega)
   have hget:=H09 n h k (by omega)
   have hset:=H10 n h k
   have hek:0≤ends.getD k 0:=he0 _ (J26 hve)
   have hcl:=D85 h.Rows n k
   obtain ⟨a,ha⟩:∃a,a=h.At.getD k 0:=⟨_,rfl⟩
   obtain ⟨e,hee⟩:∃e,e=ends.getD k 0:=⟨_,rfl⟩
   obtain ⟨q,hqq⟩:∃q,q=N7 h.Rows n k:=⟨_,rfl⟩
   rw [←ha] at hv hset
   rw [←hee] at hve hek
   rw [←hqq] at hget hset hcl
   refine k5 (k1 (k2 (k3 (k2 ?_))))
   refine A4 (A3 (A5 Z Z) Z (A3 (B1 Z (.pure _ _ _ _) Z (by omega) hv) Z (A3 (B3 Z Z) Z (A3 (A6 Z Z) Z (A3 (A6 Z Z) Z (A7 ?_))))))
   refine k1 (k2 (k2 ?_))
   refine A4 (A3 (A5 Z Z) Z (A3 (A5 Z Z) Z (A3 (A5 Z Z) Z (A3 (B1 Z (.pure _ _ _ _) Z (by omega) hve) Z (A3 (B3 Z Z) Z (A3 (D9 Z Z) Z (A3 (A5 Z Z) Z (B4 Z Z Z Z (fun hg=>by rw [hg];exact A5 Z Z) ?_))))))));refine B4 Z Z Z Z (fun hg=>by rw [hg];exact P6 Z Z) ?_;refine A3 (B8 Z (fun h=>by first | rfl | (rw [h];rfl)) (fun h=>by first | rfl | (rw [h];rfl))) Z ?_;refine A7 ?_
   refine k1 ?_
   refine B5 rfl (fun ht=>?_) (fun ht=>?_)
   ·have h2:=A0 (or_pick.symm.trans ht)
    refine k2 ?_
    refine A4 (A3 (J6 _ 1 G4) Z (A3 (A6 Z Z) Z (A7 ?_)))
    refine k1 (k10 (k11 (k12 (k11 (k11 (k12 (k11 ?_)))))))
    refine B6 (rs:=[N6 [],K7 false]) (Z9 Z Z Z Z Z) ?_
    rw [if_neg]
    intro hq
    have h3:=(hF.1 hq).2 k (by omega)
    rw [←ha,←hee] at h3
    omega
   ·have h2:=A1 (or_pick.symm.trans ht)
    have h3:e≤a∧a≤4096:=by omega
    refine k5 (k1 ?_)
    refine A4 (A3 (A5 Z Z) Z (A3 (A5 Z Z) Z (A3 (E1 Z Z Z (by omega) (by (rw [hlen];omega))) Z ?_)));refine A3 (O4 Z Z hget Z) Z (A3 (A5 Z Z) Z (A3 (C2 Z Z (by omega)) Z (A3 (E1 Z Z Z (by omega) (by (rw [hlen];omega))) Z ?_)));refine F8 (G8 TySz.out Z Z (by (rw [hlen];omega)) Z Z) ?_;refine A7 ?_
    refine k4 (k1 ?_)
    refine A4 (A3 (C2 Z Z (by omega)) Z (A3 (A5 Z Z) Z (A7 ?_)))
    refine k1 ?_
    refine ⟨k+1,⟨by omega,fun j hj=>?_⟩,by omega,?_⟩
    ·by_cases e1:j=k
     ·subst e1;rw [←ha,←hee];exact h3
     ·exact hp j (by omega)
    ·rw [←hset]
     exact I72 ⟨le1 rfl,le1 rfl,le1 rfl,le1 rfl,le1 rfl,trivial⟩ ⟨rfl,trivial⟩
  ·have hkl:k=n+1:=by have:=A1 ht;omega
   subst hkl
   rw [G30]
   have hq:W8 n ends h=true:=hF.2 ⟨⟨hal,hne⟩,hp⟩
   refine H3 (Sees.freeze (k:=720) Z) ?_
   refine k6 (k2 ?_)
   refine A4 (A3 (A5 Z Z) Z (A3 (A6 Z Z) Z (A3 (A6 Z Z) Z (A7 ?_))))
   refine k1 (k10 ?_)
   exact B6 (rs:=[N6 (T7 n h),K7 true]) (Z9 rfl rfl rfl rfl rfl) (by rw [if_pos hq])
theorem smax_ok (l:List Int) (hl:0 < l.length):FnOk Tryz.prog 112 [N6 l] (fun rs=>∃m,rs=[I7 m]∧∀b,m≤b↔∀e∈l,e≤b):=by
 refine FnOk.intro Tryz.func112 (by decide) Z Z Z Z ?_
 refine A40 (t:=0) rfl (.pure _ _ _ _) fun hb=>?_
 refine k2 ?_
 refine A4 (A3 (A6 Z Z) Z (A7 ?_))
 refine k1 (k2 (k2 ?_))
 refine A4 (A3 (A5 Z Z) Z (A3 (D5 Z (.pure _ _ _ _)) Z (A3 (D9 Z Z) Z (A7 ?_))))
 refine k1 ?_
 refine B5 rfl (fun ht=>?_) (fun ht=>?_)
 ·exact absurd (A0 ht) (by omega)
 refine k5 (k1 (k2 ?_))
 refine A4 (A3 (A5 Z Z) Z (A3 (B1 Z (.pure _ _ _ _) Z (by omega) (getI (l:=l) (i:=0) hl)) Z (A3 (B3 Z Z) Z (A3 (A6 Z Z) Z (A7 ?_)))))
 refine k1 (k2 (k2 ?_))
 refine A4 (A3 (A6 Z Z) Z (A7 ?_))
 refine k1 (k3 ?_)
 refine C7 (X:=Nat × Int) (fun x=>([(0,B9 Int 1 G4 l),(3,B7 x.2),(4,B7 x.1)],[])) (fun x=>(1≤x.1∧x.1≤l.length)∧∀b,x.2≤b↔∀e∈l.take x.1,e≤b) (fun x=>l.length - x.1) (1,l.getD 0 0) ⟨⟨Nat.le_refl _,hl⟩,?_⟩ (I72 ⟨le1 rfl,le1 rfl,le1 rfl,trivial⟩ trivial) ?_
 ·intro b
  have:l.take 1=[l.getD 0 0]:=by
   cases l with
   | nil=>cases hl
   | cons x r=>rfl
  dsimp only
  rw [this];simp
 rintro ⟨k,m⟩ ⟨⟨hk1,hk⟩,hp⟩
 dsimp only at hk1 hk hp ⊢
 refine k2 (k2 ?_)
 refine A4 (A3 (A5 Z Z) Z (A3 (A5 Z Z) Z (A3 (D5 Z (.pure _ _ _ _)) Z (A3 (D9 Z Z) Z (A7 ?_)))))
 refine k1 ?_
 refine B5 rfl (fun ht=>?_) (fun ht=>?_)
 ·have hlt:k < l.length:=by have:=A0 ht;omega
  have hv:=getI hlt
  refine k5 (k1 (k2 (k3 ?_)))
  refine A4 (A3 (A5 Z Z) Z (A3 (A5 Z Z) Z (A3 (A5 Z Z) Z (A3 (B1 Z (.pure _ _ _ _) Z (by omega) hv) Z (A3 (B3 Z Z) Z (A3 (n_max Z Z) Z (A3 (A6 Z Z) Z (A7 ?_))))))))
  refine k4 (k1 ?_)
  refine A4 (A3 (A5 Z Z) Z (A3 (C2 Z Z (by omega)) Z (A3 (A6 Z Z) Z (A7 ?_))))
  refine k1 ?_
  refine ⟨(k+1,if m < l.getD k 0 then l.getD k 0 else m),⟨⟨by dsimp only;omega,by dsimp only;omega⟩,?_⟩,by dsimp only;omega,I72 ⟨le1 rfl,le1 rfl,le1 rfl,trivial⟩ trivial⟩
  intro b
  dsimp only
  have e:l.take (k+1)=l.take k++[l.getD k 0]:=by
   rw [J13 hlt,J08,J05 hlt];rfl
  have h1:=hp b
  rw [e]
  constructor
  ·intro h x hx
   rcases List.mem_append.1 hx with hx | hx
   ·exact h1.1 (by omega) x hx
   ·simp only [J46,J42,or_false] at hx
    rw [hx];omega
  ·intro h
   have h2:=h1.2 (fun x hx=>h x (List.mem_append.2 (.inl hx)))
   have h3:=h (l.getD k 0) (List.mem_append.2 (.inr (by simp)))
   omega
 ·have hkl:k=l.length:=by have:=A1 ht;omega
  subst hkl
  rw [J23] at hp
  refine k6 (k2 ?_)
  refine A4 (A3 (A5 Z Z) Z (A3 (A6 Z Z) Z (A7 ?_)))
  refine k1 (k10 ?_)
  exact B6 (H2 rfl rfl rfl) ⟨m,rfl,hp⟩
theorem I37 (c:Comb) (hn:1≤c.Parents∧c.Parents≤32) (hr:∀h∈c.Hunks,K4 h.Rows) (hz:szC c.Hunks≤268435456) :
  FnOk Tryz.prog 93 [V1 c] (fun rs=>rs=[K7 (j7 c.Parents.toNat (List.replicate (c.Parents.toNat+1) 0) false 0 c.Hunks)]):=by
 obtain ⟨n,hN⟩:∃n,n=c.Parents.toNat:=⟨_,rfl⟩
 have hNc:c.Parents=(n:Int):=by omega
 rw [←hN]
 have e0:(c.Parents+1).toNat=n+1:=by omega
 have hzl:=D20 c.Hunks
 obtain ⟨W,hW⟩:∃W,W=j7 n (List.replicate (n+1) 0) false 0 c.Hunks:=⟨_,rfl⟩
 rw [←hW]
 refine FnOk.intro Tryz.func93 (by decide) Z Z Z Z ?_
 refine k2 ?_
 refine A4 (C3 (Q0 1 Z Z Z) Z (A3 (A6 Z Z) Z (A7 ?_)))
 refine k1 (k2 ?_)
 refine A4 (C3 (H7 3 Z) Z (A7 ?_))
 refine k1 (k2 ?_)
 refine A4 (A3 (A8 Z) Z (A3 (A9 Z Z Z) Z (A3 (C2 Z Z (by omega)) Z (C3 (U1 720 Int G4 0 Z Z (by omega) (by omega) (fun _=>by first | exact ⟨⟨rfl,rfl⟩,trivial⟩ | exact ⟨N1 _ _ _,trivial⟩) (by first | rfl | (simp [H4,I3,Ob.free,SV.free,S1.free,TC.free]<;>rfl))) Z ?_))));refine A3 (A6 Z Z) Z (A7 ?_)
 rw [e0]
 refine k1 (k2 (k2 ?_))
 refine H3 (Sees.freeze (k:=720) Z) ?_
 refine A4 (A3 (A8 Z) Z (A3 (A9 Z Z Z) Z (A3 (D5 Z (.pure _ _ _ _)) Z (A3 (A5 Z Z) Z (A7 ?_)))))
 refine k1 (k3 ?_)
 refine C7 (X:=Nat × List Int × Bool × Int) (fun x=>([(1,.s (.one (.ref 1 0))),(3,.s (.one (.ref 3 0))),(4,B9 Int 1 G4 x.2.1),(15,B9 CHunk 2 Q6 c.Hunks),(16,B7 c.Hunks.length),(17,B7 x.1)],[(1,cBox c),(3,.box [.p (.v (.bool x.2.2.1)),.p (.v (.int .u32 x.2.2.2))])])) (fun x=>x.1≤c.Hunks.length∧x.2.1.length=n+1∧(∀e∈x.2.1,0≤e)∧W=j7 n x.2.1 x.2.2.1 x.2.2.2 (c.Hunks.drop x.1)) (fun x=>c.Hunks.length - x.1) (0,List.replicate (n+1) 0,false,0) ⟨Nat.zero_le _,by simp,fun e he=>by have:=(List.mem_replicate.1 he).2;omega,hW⟩ (I72 ⟨le1 rfl,le1 rfl,le1 rfl,le1 rfl,le1 rfl,le1 rfl,trivial⟩ ⟨rfl,rfl,trivial⟩) ?_
 rintro ⟨k,ends,res,par⟩ ⟨hk,hel,he0,hp⟩
 dsimp only at hk hel he0 hp ⊢
 refine k2 ?_
 refine A4 (A3 (D9 Z Z) Z (A7 ?_))
 refine k1 (k2 ?_)
 refine B5 rfl (fun ht=>?_) (fun ht=>?_)
 ·have hlt:k < c.Hunks.length:=by have:=A0 ht;omega
  have hv:c.Hunks[k]?=some c.Hunks[k]:=by simp [hlt]
  have hmem:=J15 hlt
  have hrw:=hr _ hmem
  have hzm:=D19 hmem
  rw [J11 hlt,j7] at hp
  obtain ⟨h,hx⟩:∃x,x=c.Hunks[k]:=⟨_,rfl⟩
  rw [←hx] at hv hrw hzm hp
  have hz1:=x8 h.Rows
  have hz2:=B91 h.Rows
  unfold E33 at hzm
  have hf:=F91 h n ends (by omega) hrw (by omega) hel he0
  rw [←hNc] at hf
  refine k5 (k1 (k2 (k3 (k2 ?_))))
  refine A4 (A3 (B1 Z (.pure _ _ _ _) Z (by omega) hv) Z (A3 (E5 Z Z) Z (C3 (H7 6 Z) Z (F8 (C0 TySz.out Z Z Z Z Z Z) (A7 ?_)))))
  refine k1 (k2 ?_)
  refine A4 (A3 (A6 Z Z) Z (A7 ?_))
  refine k1 (k2 (k2 ?_))
  cases hfb:W8 n ends h with
  | false =>
   rw [hfb,if_neg (by decide)] at hf
   rw [hfb,Bool.false_and] at hp
   refine A4 (A3 (D7 Z Z Z) Z (A3 (A8 Z) Z (A3 (A9 Z Z Z) Z (A3 (A5 Z Z) Z (C5 (hf) Z Z Z ?_)))));rintro _ rfl;refine A3 (A5 Z Z) Z (A3 (D2 Z Z) Z (A3 (D2 Z Z) Z (A3 (A6 Z Z) Z (A3 (A6 Z Z) Z (A7 ?_)))))
   refine k1 (k2 ?_)
   refine A4 (A3 (A5 Z Z) Z (A3 (K5 Z) Z (A7 ?_)))
   refine k1 ?_
   refine B5 rfl (fun ht=>?_) (fun ht=>?_)
   ·refine k2 ?_
    refine A4 (A3 (A6 Z Z) Z (A7 ?_))
    refine k1 (k10 (k11 (k12 (k11 (k11 (k12 (k11 ?_)))))))
    exact B6 (H2 rfl rfl rfl) (by rw [hp])
   ·cases ht
  | true =>
   rw [hfb,if_pos rfl] at hf
   rw [hfb,Bool.true_and] at hp
   have hpos:∀e∈T7 n h,0≤e:=by
    intro e hm
    obtain ⟨j,hj,rfl⟩:=List.mem_map.1 hm
    have hj:=List.mem_range.1 hj
    have h1:=((C97 n ends h).1 hfb).2 j hj
    have h2:=he0 _ (J26 (getI (l:=ends) (i:=j) (by omega)))
    have h3:=D85 h.Rows n j
    omega
   refine A4 (A3 (D7 Z Z Z) Z (A3 (A8 Z) Z (A3 (A9 Z Z Z) Z (A3 (A5 Z Z) Z (C5 (hf) Z Z Z ?_)))));rintro _ rfl;refine A3 (A5 Z Z) Z (A3 (D2 Z Z) Z (A3 (D2 Z Z) Z (A3 (A6 Z Z) Z (A3 (A6 Z Z) Z (A7 ?_)))))
   refine k1 (k2 ?_)
   refine A4 (A3 (A5 Z Z) Z (A3 (K5 Z) Z (A7 ?_)))
   refine k1 ?_
   refine B5 rfl (fun ht=>?_) (fun ht=>?_)
   ·cases ht
   refine k5 (k1 (k2 ?_))
   refine A4 (A3 (A8 Z) Z (A3 (A9 Z Z Z) Z (A3 (D5 Z (.pure _ _ _ _)) Z (A3 (A5 Z Z) Z (A7 ?_)))))
   refine k1 (k3 ?_)
   refine C7 (X:=Nat × Bool × Int) (fun x=>([(1,.s (.one (.ref 1 0))),(3,.s (.one (.ref 3 0))),(4,B9 Int 1 G4 (T7 n h)),(15,B9 CHunk 2 Q6 c.Hunks),(16,B7 c.Hunks.length),(17,B7 k),(32,B9 Row 3 rowC h.Rows),(33,B7 h.Rows.length),(34,B7 x.1)],[(1,cBox c),(3,.box [.p (.v (.bool x.2.1)),.p (.v (.int .u32 x.2.2))])])) (fun x=>x.1≤h.Rows.length∧Q4 res par h.Rows=Q4 x.2.1 x.2.2 (h.Rows.drop x.1)∧j5 res h.Rows=j5 x.2.1 (h.Rows.drop x.1)∧j6 par h.Rows=j6 x.2.2 (h.Rows.drop x.1)) (fun x=>h.Rows.length - x.1) (0,res,par) ⟨Nat.zero_le _,rfl,rfl,rfl⟩ (I72 ⟨le1 rfl,le1 rfl,le1 rfl,le1 rfl,le1 rfl,le1 rfl,le1 rfl,le1 rfl,le1 rfl,trivial⟩ ⟨rfl,rfl,trivial⟩) ?_
   rintro ⟨j,res',par'⟩ ⟨hj,q1,q2,q3⟩
   dsimp only at hj q1 q2 q3 ⊢
   refine k2 ?_
   refine A4 (A3 (D9 Z Z) Z (A7 ?_))
   refine k1 (k2 ?_)
   refine B5 rfl (fun ht=>?_) (fun ht=>?_)
   ·have hlt2:j < h.Rows.length:=by have:=A0 ht;omega
    have hv2:h.Rows[j]?=some h.Rows[j]:=by simp [hlt2]
    have htl:=C23 h.Rows _ (J15 hlt2)
    rw [J11 hlt2] at q1 q2 q3
    rw [Q4] at q1
    obtain ⟨r,hy⟩:∃x,x=h.Rows[j]:=⟨_,rfl⟩
    rw [←hy] at hv2 htl q1 q2 q3
    refine k5 (k1 (k2 (k3 (k2 ?_))))
    refine A4 (A3 (B1 Z (.pure _ _ _ _) Z (by omega) hv2) Z (A3 (E5 Z Z) Z (C3 (H7 9 Z) Z (F8 (C0 TySz.out Z Z Z Z Z Z) (A7 ?_)))))
    refine k1 (k2 ?_)
    by_cases hs:I5 r.Text=true
    ·refine A4 (A3 (D7 Z Z Z) Z (C5 (A51 r (by omega)) Z Z Z ?_));rintro _ rfl;refine A3 (K5 Z) Z (A3 (A5 Z Z) Z (K9 Z Z Z (by rw [hs];rfl) ?_));refine A3 (D7 Z Z Z) Z (K9 Z Z Z (by rw [hs];rfl) ?_);refine F60 (H27 r res' par' (by omega)) Z Z Z Z Z Z ?_;rintro _ _ ⟨rfl,rfl⟩;refine B4 Z Z Z Z (fun hg=>by rw [hg];exact K5 Z) ?_;refine A3 (B8 Z (fun h=>by first | rfl | (rw [h];rfl)) (fun h=>by first | rfl | (rw [h];rfl))) Z ?_;refine A7 ?_
     refine k1 ?_
     refine B5 rfl (fun ht=>?_) (fun ht=>?_)
     ·have h2:B69 res' par' r=false:=by rw [hs] at ht;simpa using ht
      rw [hs,h2,Bool.true_and,Bool.false_and] at q1
      rw [q1,Bool.false_and] at hp
      refine k2 ?_
      refine A4 (A3 (A6 Z Z) Z (A7 ?_))
      refine k1 (k10 (k12 (k11 (k11 (k12 (k12 (k11 (k11 (k12 (k11 ?_))))))))))
      exact B6 (H2 rfl rfl rfl) (by rw [hp])
     ·have h2:B69 res' par' r=true:=by rw [hs] at ht;simpa using ht
      rw [hs,h2,Bool.true_and,Bool.true_and] at q1
      refine k5 (k4 (k1 ?_))
      refine A4 (A3 (C2 Z Z (by omega)) Z (A3 (A5 Z Z) Z (A7 ?_)))
      refine k1 ?_
      exact ⟨(j+1,_,_),⟨by dsimp only;omega,q1,q2,q3⟩,by dsimp only;omega,I72 ⟨le1 rfl,le1 rfl,le1 rfl,le1 rfl,le1 rfl,le1 rfl,le1 rfl,le1 rfl,le1 rfl,trivial⟩ ⟨rfl,rfl,trivial⟩⟩
    ·have hs':I5 r.Text=false:=by simpa using hs
     refine A4 (A3 (D7 Z Z Z) Z (C5 (A51 r (by omega)) Z Z Z ?_));rintro _ rfl;refine A3 (K5 Z) Z (A3 (A5 Z Z) Z (B4 Z Z Z Z (fun hg=>by rw [hg];exact D7 Z Z Z) ?_));refine N4 Z Z Z (by rw [hs'];decide) Z ?_;refine N4 Z Z Z (by rw [hs'];decide) Z ?_;refine A3 (B8 (q:=true) Z (fun h=>rfl) (fun h=>by rw [hs'] at h;cases h)) Z ?_;refine A7 ?_
     rw [hs',Bool.false_and,Bool.false_and] at q1
     rw [q1,Bool.false_and] at hp
     refine k1 ?_
     refine B5 rfl (fun ht=>?_) (fun ht=>?_)
     ·refine k2 ?_
      refine A4 (A3 (A6 Z Z) Z (A7 ?_))
      refine k1 (k10 (k12 (k11 (k11 (k12 (k12 (k11 (k11 (k12 (k11 ?_))))))))))
      exact B6 (H2 rfl rfl rfl) (by rw [hp])
     ·rw [hs'] at ht;cases ht
   ·have hjl:j=h.Rows.length:=by have:=A1 ht;omega
    rw [hjl,J14 (Nat.le_refl _)] at q1 q2 q3
    have q1:Q4 res par h.Rows=true:=q1
    have q2:j5 res h.Rows=res':=q2
    have q3:j6 par h.Rows=par':=q3
    rw [q1,q2,q3,Bool.true_and] at hp
    refine k6 (k7 (k7 (k8 Z (k4 (k1 ?_)))))
    refine A4 (A3 (C2 Z Z (by omega)) Z (A3 (A5 Z Z) Z (A7 ?_)))
    refine k1 ?_
    exact ⟨(k+1,_,_,_),⟨by dsimp only;omega,B90 n h,hpos,hp⟩,by dsimp only;omega,I72 ⟨le1 rfl,le1 rfl,le1 rfl,le1 rfl,le1 rfl,le1 rfl,trivial⟩ ⟨rfl,rfl,trivial⟩⟩
 ·have hkl:k=c.Hunks.length:=by have:=A1 ht;omega
  rw [hkl,J14 (Nat.le_refl _)] at hp
  have hp:W=decide (∀e∈ends,e≤4096):=hp
  refine k6 (k2 ?_)
  refine A4 (A3 (A5 Z Z) Z (C5 (smax_ok ends (by omega)) Z Z Z ?_));rintro _ ⟨m,rfl,hm⟩;refine A3 (A04 Z Z) Z (A3 (A6 Z Z) Z (A7 ?_))
  refine k1 (k10 ?_)
  exact B6 (H2 rfl rfl rfl) (by rw [hp];simp only [hm 4096])
theorem B42 (s:Str):FnOk Tryz.prog 91 [P5 s] (fun rs=>rs=[K7 (S0 s)]):=by
 refine FnOk.intro Tryz.func91 (by decide) Z Z Z Z ?_
 refine k2 ?_
 refine A4 (A3 (A6 Z Z) Z (A7 ?_))
 refine k1 (k2 ?_)
 refine A4 (A3 (A5 Z Z) Z (A3 (O7 Z) Z (A3 (A80 Z Z) Z (A3 (A5 Z Z) Z (B4 Z Z Z Z (fun hg=>by rw [hg];exact A5 Z Z) ?_)))));refine B4 Z Z Z Z (fun hg=>by rw [hg];exact O7 Z) ?_;refine B4 Z Z Z Z (fun hg=>by rw [hg];exact A04 Z Z) ?_;refine A3 (B8 Z (fun h=>by first | rfl | (rw [h];rfl)) (fun h=>by first | rfl | (rw [h];rfl))) Z ?_;refine A3 (A6 Z Z) Z (A7 ?_)
 refine k1 (k10 ?_)
 refine B6 (H2 Z Z Z) ?_
 rw [Q2]
 unfold S0
 congr 4
 apply decide_eq_decide.2
 omega
theorem E66 (c:Comb) (hp:c.Path.length≤16777216):FnOk Tryz.prog 86 [V1 c] (fun rs=>rs=[P5 (A77 c)]):=by
 have hq:=D91 c.Path
 have hf:=H47 c.Parents
 refine FnOk.intro Tryz.func86 (by decide) Z Z Z Z ?_
 refine k2 ?_
 refine A4 (C3 (Q0 1 Z Z Z) Z (A3 (A6 Z Z) Z (A7 ?_)))
 refine k1 (k2 ?_)
 refine A4 (A3 (A6 Z Z) Z (A7 ?_))
 refine k1 (k2 (k2 ?_))
 refine A4 (A3 (A8 Z) Z (A3 (A9 Z Z Z) Z (A7 ?_)))
 refine k1 ?_
 refine B5 rfl (fun ht=>?_) (fun ht=>?_)
 ·have hd:c.Dense=true:=ht
  skip
  refine A4 (A3 (A6 Z Z) Z (A7 ?_))
  refine k1 (k2 ?_)
  refine D8 (by kernel_rfl) (by kernel_rfl) (B0 (A5 Z Z) Z Z (B0 (L0 Z Z (by (simp only [J06,J07,J10];omega))) Z Z (B0 (L0 Z Z (by (simp only [J06,J07,J10];omega))) Z Z (B0 (A8 Z) Z Z (B0 (A9 Z Z Z) Z Z (B0 (P1 (E62 c.Path (by omega)) Z Z) Z Z (B0 (L0 Z Z (by (simp only [J06,J07,J10];omega))) Z Z (B0 (L0 Z Z (by (simp only [J06,J07,J10];omega))) Z Z (B0 (A8 Z) Z Z (B0 (A9 Z Z Z) Z Z (B0 (P1 (m6 c.Parents) Z Z) Z Z (B0 (L0 Z Z (by (simp only [J06,J07,J10];omega))) Z Z (B0 (L0 Z Z (by (simp only [J06,J07,J10];omega))) Z Z (B0 (A6 Z Z) Z Z (O5 ?_)))))))))))))))
  refine k1 (k10 ?_)
  exact B6 (H2 rfl rfl rfl) (by unfold A77 G27;rw [if_pos hd];simp [ccS,parS])
 ·have hd:c.Dense=false:=ht
  refine k5 (k1 (k2 ?_))
  refine D8 (by kernel_rfl) (by kernel_rfl) (B0 (A5 Z Z) Z Z (B0 (L0 Z Z (by (simp only [J06,J07,J10];omega))) Z Z (B0 (L0 Z Z (by (simp only [J06,J07,J10];omega))) Z Z (B0 (A8 Z) Z Z (B0 (A9 Z Z Z) Z Z (B0 (P1 (E62 c.Path (by omega)) Z Z) Z Z (B0 (L0 Z Z (by (simp only [J06,J07,J10];omega))) Z Z (B0 (L0 Z Z (by (simp only [J06,J07,J10];omega))) Z Z (B0 (A8 Z) Z Z (B0 (A9 Z Z Z) Z Z (B0 (P1 (m6 c.Parents) Z Z) Z Z (B0 (L0 Z Z (by (simp only [J06,J07,J10];omega))) Z Z (B0 (L0 Z Z (by (simp only [J06,J07,J10];omega))) Z Z (B0 (A6 Z Z) Z Z (O5 ?_)))))))))))))))
  refine k1 (k10 ?_)
  exact B6 (H2 rfl rfl rfl) (by unfold A77 G27;rw [hd,if_neg (by decide)];simp [combS,parS])
theorem D55 (h:CHunk) (n:Nat) (hn:n≤32) (hr:K4 h.Rows) (hl:h.Rows.length≤268435456) (ha:h.At.length=n+1) (hb:∀a∈h.At,-4611686018427387904≤a∧a≤4611686018427387904) :
  FnOk Tryz.prog 87 [F43 h,I7 n] (fun rs=>rs=[P5 (B28 n h++[10])]):=by
 have hrep:FnOk Tryz.prog 150 [P5 [64],I7 ((n:Int)+1)] (fun rs=>rs=[P5 (atS (n+1))]):=by
  have:=H75 64 (n+1) (by omega)
  rwa [show ((n+1:Nat):Int)=(n:Int)+1 by omega] at this
 obtain ⟨A,hA⟩:∃A,A=atS (n+1):=⟨_,rfl⟩
 have hAl:A.length=n+1:=by rw [hA,F44]
 have hend:B28 n h++[10]=A++Z5 n h n++([32,43]++U5 (h.At.getD n 0) (N7 h.Rows n n)++[32]++A++[10]):=by
  unfold B28
  rw [B29,hA]
  unfold D82 sgnB
  rw [if_pos rfl];simp
 rw [hend]
 rw [←hA] at hrep
 have hsl:=fun k=>A76 n h k
 have hcnt:=fun k=>D85 h.Rows n k
 have hgA:∀k,k < n+1→h.At[k]?=some (h.At.getD k 0):=fun k hk=>getI (by omega)
 have hgC:∀k,k < n+1→(F5 h.Rows n)[k]?=some (N7 h.Rows n k):=fun k hk=>H07 h.Rows n k hk
 have hrA:∀k,k < n+1 → -4611686018427387904≤h.At.getD k 0∧h.At.getD k 0≤4611686018427387904:=fun k hk=>hb _ (J26 (hgA k hk))
 refine FnOk.intro Tryz.func87 (by decide) Z Z Z Z ?_
 refine k2 ?_
 refine A4 (C3 (Q0 2 Z Z Z) Z (A3 (A6 Z Z) Z (A7 ?_)))
 refine k1 (k2 ?_)
 refine A4 (A3 (A8 Z) Z (A3 (A9 Z Z Z) Z (A3 (A5 Z Z) Z (l_new (B13 h.Rows n hn hr hl) Z Z Z Z ?_))));rintro _ _ ⟨rfl,rfl⟩;refine ⟨rfl,?_⟩;refine A3 (A6 Z Z) Z (A7 ?_)
 refine k1 (k2 ?_)
 refine H3 (Sees.freeze (k:=720) Z) ?_
 refine A4 (A3 (A5 Z Z) Z (A3 (C2 Z Z (by omega)) Z (C5 (hrep) Z Z Z ?_)));rintro _ rfl;refine A3 (A6 Z Z) Z (A7 ?_)
 refine k1 (k2 ?_)
 refine A4 (C3 (D28 700 Z) Z (A7 ?_))
 refine k1 (k2 ?_)
 refine H3 (I85 701 UInt8 1 u8C 5 (kb:=700) (o:=1) Z Z Z) ?_
 refine A4 (A3 (A5 Z Z) Z (A08 (P8 (xs:=[]) (s:=A) ⟨⟨_,.inl rfl,rfl⟩,rfl⟩ (by simp only [J10];omega)) Z Z Z ?_));rintro _ _ ⟨rfl,rfl⟩;refine A7 ?_
 refine k1 (k2 (k2 ?_))
 refine A4 (A3 (A5 Z Z) Z (A3 (A5 Z Z) Z (A7 ?_)))
 refine k1 (k3 ?_)
 refine C7 (X:=Nat) (fun p=>([(1,B7 n),(2,.s (.one (.ref 2 0))),(5,B9 Int 1 G4 (F5 h.Rows n)),(6,W4 A),(7,.s (.one (.ref 700 0))),(18,B7 n),(19,B7 p)],[(2,.box (F43 h).s1.cells),(700,.tbx 124 [.ref 700 0,.buf 701 UInt8 1 u8C (A++Z5 n h p)]),(701,.spare (A++Z5 n h p).length 1 5)])) (fun p=>p≤n) (fun p=>n - p) 0 (Nat.zero_le _) ?_ ?_
 ·rw [show Z5 n h 0=[] from rfl,J25]
  exact I72 ⟨le1 rfl,le1 rfl,le1 rfl,le1 rfl,le1 rfl,le1 rfl,le1 rfl,trivial⟩ ⟨rfl,rfl,rfl,trivial⟩
 intro p hp
 dsimp only at hp ⊢
 have hsp:=hsl p
 have hsucc:=B29 n h p
 refine k2 ?_
 refine A4 (A3 (D9 Z Z) Z (A7 ?_))
 refine k1 (k2 ?_)
 refine B5 rfl (fun ht=>?_) (fun ht=>?_)
 ·have hlt:p < n:=by have:=A0 ht;omega
  have hga:=hgA p (by omega)
  have hgc:=hgC p (by omega)
  have hra:=hrA p (by omega)
  have hcp:=hcnt p
  have hsw:D82 n h p=[32,45]++U5 (h.At.getD p 0) (N7 h.Rows n p):=by
   unfold D82 sgnB;rw [if_neg (by omega)]
  have hrl:=B21 (h.At.getD p 0) (N7 h.Rows n p)
  rw [hsw] at hsucc
  obtain ⟨a,haa⟩:∃a,a=h.At.getD p 0:=⟨_,rfl⟩
  obtain ⟨q,hqq⟩:∃q,q=N7 h.Rows n p:=⟨_,rfl⟩
  rw [←haa] at hga hra hrl hsucc
  rw [←hqq] at hgc hcp hrl hsucc
  have hlb:(A++Z5 n h p).length≤1000:=by rw [J06];omega
  obtain ⟨B,hB⟩:∃B,B=A++Z5 n h p:=⟨_,rfl⟩
  rw [←hB] at hlb ⊢
  refine k5 (k1 (k2 (k3 (k2 ?_))))
  refine A4 (A3 (A5 Z Z) Z (A3 (A6 Z Z) Z (A7 ?_)))
  refine k1 ?_
  refine B59 11 (by kernel_rfl) (by kernel_rfl) Z (B0 (A8 Z) Z Z (B0 (A9 Z Z Z) Z Z (B0 (A5 Z Z) Z Z (B0 (B1 Z (.pure _ _ _ _) Z (by omega) hga) Z Z (B0 (B3 Z Z) Z Z (B0 (A5 Z Z) Z Z (B0 (A5 Z Z) Z Z (B0 (B1 Z (.pure _ _ _ _) Z (by omega) hgc) Z Z (B0 (B3 Z Z) Z Z (B0 (P1 (E61 a q hra (by omega)) Z Z) Z Z (B0 (L0 Z Z (by (simp only [J06,J07,J10];omega))) Z Z (O5 (F67 (P8 (xs:=B) (s:=[32,45]++U5 a q) ⟨⟨_,.inr rfl,rfl⟩,rfl⟩ (by simp only [J06,J07,J10];omega)) Z Z Z ?_)))))))))))));rintro _ _ ⟨rfl,rfl⟩;refine ⟨_,rfl,?_⟩;refine O5 ?_
  refine k4 (k1 ?_)
  refine A4 (A3 (C2 Z Z (by omega)) Z (A3 (A5 Z Z) Z (A7 ?_)))
  refine k1 ?_
  refine ⟨p+1,by omega,by omega,?_⟩
  have hs2:A++Z5 n h (p+1)=B++([32,45]++U5 a q):=by rw [hsucc,hB,J17]
  rw [hs2]
  exact I72 ⟨le1 rfl,le1 rfl,le1 rfl,le1 rfl,le1 rfl,le1 rfl,le1 rfl,trivial⟩ ⟨rfl,rfl,rfl,trivial⟩
 ·have hpn:p=n:=by have:=A1 ht;omega
  subst hpn
  have hga:=hgA p (by omega)
  have hgc:=hgC p (by omega)
  have hra:=hrA p (by omega)
  have hcp:=hcnt p
  have hrl:=B21 (h.At.getD p 0) (N7 h.Rows p p)
  obtain ⟨a,haa⟩:∃a,a=h.At.getD p 0:=⟨_,rfl⟩
  obtain ⟨q,hqq⟩:∃q,q=N7 h.Rows p p:=⟨_,rfl⟩
  rw [←haa] at hga hra hrl ⊢
  rw [←hqq] at hgc hcp hrl ⊢
  have hlb:(A++Z5 p h p).length≤1000:=by rw [J06];omega
  obtain ⟨B,hB⟩:∃B,B=A++Z5 p h p:=⟨_,rfl⟩
  rw [←hB] at hlb ⊢
  refine k6 (k2 ?_)
  refine B59 15 (by kernel_rfl) (by kernel_rfl) Z (B0 (A8 Z) Z Z (B0 (A9 Z Z Z) Z Z (B0 (A5 Z Z) Z Z (B0 (B1 Z (.pure _ _ _ _) Z (by omega) hga) Z Z (B0 (B3 Z Z) Z Z (B0 (A5 Z Z) Z Z (B0 (A5 Z Z) Z Z (B0 (B1 Z (.pure _ _ _ _) Z (by omega) hgc) Z Z (B0 (B3 Z Z) Z Z (B0 (P1 (E61 a q hra (by omega)) Z Z) Z Z (B0 (L0 Z Z (by (simp only [J06,J07,J10];omega))) Z Z (B0 (L0 Z Z (by (simp only [J06,J07,J10];omega))) Z Z (B0 (A5 Z Z) Z Z (B0 (L0 Z Z (by (simp only [J06,J07,J10];omega))) Z Z (B0 (L0 Z Z (by (simp only [J06,J07,J10];omega))) Z Z (O5 (F67 (P8 (xs:=B) (s:=[32,43]++U5 a q++[32]++A++[10]) ⟨⟨_,.inr rfl,rfl⟩,rfl⟩ (by simp only [J06,J07,J10];omega)) Z Z Z ?_)))))))))))))))));rintro _ _ ⟨rfl,rfl⟩;refine ⟨_,rfl,?_⟩;refine O5 ?_
  refine k1 (k2 ?_)
  refine A4 (C49 (k:=700) (k':=701) ⟨_,rfl,rfl,rfl⟩ A24 Z Z Z Z Z (.inr Z) Z (A3 (A6 Z Z) Z (A7 ?_)))
  refine k1 (k10 ?_)
  exact B6 (H2 rfl rfl rfl) rfl
def C20 (r:Row):UInt8:=if r.Lost then 45 else 43
theorem crow_ok (r:Row) (n:Nat) (hn:n≤32) (hm:0≤r.Marks∧r.Marks < 4294967296) (hx:r.Text.length≤268435456) :
  FnOk Tryz.prog 88 [pRow r,I7 n] (fun rs=>rs=[P5 (A37 n r).flatten]):=by
 rw [D93]
 refine FnOk.intro Tryz.func88 (by decide) Z Z Z Z ?_
 refine k2 ?_
 refine A4 (C3 (Q0 2 Z Z Z) Z (A3 (A6 Z Z) Z (A7 ?_)))
 refine k1 (k2 ?_)
 refine A4 (A3 (A6 Z Z) Z (A7 ?_))
 refine K2 ?_
 refine t7 [(1,B7 n),(2,.s (.one (.ref 2 0))),(5,J4 (.int .u8 (C20 r).toNat))] [(2,.box (pRow r).s1.cells)] ?_ ?_
 ·refine k2 ?_
  refine A4 (A3 (A8 Z) Z (A3 (A9 Z Z Z) Z (A7 ?_)))
  refine k1 ?_
  refine B5 rfl (fun ht=>?_) (fun ht=>?_)
  ·have h:r.Lost=true:=ht
   skip
   refine A4 (A3 (A6 Z Z) Z (A7 ?_))
   refine k1 ?_
   rw [show C20 r=45 by unfold C20;rw [h];rfl]
   exact I72 ⟨le1 rfl,le1 rfl,le1 rfl,trivial⟩ ⟨rfl,trivial⟩
  ·have h:r.Lost=false:=ht
   refine k5 (k1 ?_)
   rw [show C20 r=43 by unfold C20;rw [h];rfl]
   exact I72 ⟨le1 rfl,le1 rfl,le1 rfl,trivial⟩ ⟨rfl,trivial⟩
 refine k2 ?_
 refine A4 (A3 (A5 Z Z) Z (A3 (A8 Z) Z (A3 (A9 Z Z Z) Z (A3 (O7 Z) Z (A3 (C2 Z Z (by omega)) Z (A3 (C2 Z Z (by omega)) Z (C3 (H60 730 UInt8 u8C Z Z (by omega) (by omega) (by first | rfl | (simp [H4,I3,Ob.free,SV.free,S1.free,TC.free]<;>rfl))) Z ?_)))))));refine A3 (A6 Z Z) Z (A7 ?_)
 refine k1 (k2 (k2 ?_))
 refine A4 (A3 (A5 Z Z) Z (A3 (A5 Z Z) Z (A7 ?_)))
 refine k1 (k3 ?_)
 refine C7 (X:=Nat) (fun p=>([(1,B7 n),(2,.s (.one (.ref 2 0))),(5,J4 (.int .u8 (C20 r).toNat)),(6,.s (.one (.buf 730 UInt8 1 u8C (A26 p r)))),(17,B7 n),(18,B7 p)],[(2,.box (pRow r).s1.cells),(730,.spare (A26 p r).length 1 5)])) (fun p=>p≤n) (fun p=>n - p) 0 (Nat.zero_le _) (I72 ⟨le1 rfl,le1 rfl,le1 rfl,le1 rfl,le1 rfl,le1 rfl,trivial⟩ ⟨rfl,rfl,trivial⟩) ?_
 intro p hp
 dsimp only at hp ⊢
 have hml:=B51 p r
 have hsucc:=G35 p r
 refine k2 ?_
 refine A4 (A3 (D9 Z Z) Z (A7 ?_))
 refine k1 (k2 ?_)
 refine B5 rfl (fun ht=>?_) (fun ht=>?_)
 ·have hlt:p < n:=by have:=A0 ht;omega
  refine k5 (k1 (k2 (k3 (k2 ?_))))
  refine A4 (A3 (A5 Z Z) Z (A3 (A6 Z Z) Z (A7 ?_)))
  refine k1 (k2 ?_)
  refine A4 (A3 (A8 Z) Z (A3 (A9 Z Z Z) Z (A3 (A5 Z Z) Z (A3 (A28 Z Z (by omega)) Z (A3 (V7 Z Z Z (fun _=>rfl)) Z (A3 (M1 Z Z) Z (A7 ?_)))))))
  refine k1 ?_
  have h3:0≤r.Marks / 2 ^ p:=Int.ediv_nonneg hm.1 (Int.pow_nonneg (by decide))
  have h4:r.Marks / 2 ^ p≤r.Marks:=Int.ediv_le_self _ hm.1
  have e32:r.Marks.fdiv (2 ^ (min (p:Int).toNat IntKind.u32.bits))=r.Marks / 2 ^ p:=E73 r.Marks p (by omega)
  have e1:=C24 (r.Marks / 2 ^ p) (by omega)
  refine B5 rfl (fun ht=>?_) (fun ht=>?_)
  ·rw [e32,e1] at ht
   have hb:V0 r.Marks p=true:=by unfold V0;simpa using ht
   have hmk:E82 r p=C20 r:=by unfold E82 C20;rw [hb,if_neg (by decide)]
   rw [hmk] at hsucc
   skip
   refine A4 (A3 (A5 Z Z) Z (A3 (A5 Z Z) Z (A3 (C8 (c:=u8C) (ys:=[C20 r]) (E0 Z Z Z Z F6) Z Z Z) Z (C3 (G9 Z Z Z (.pure _ _ _ _) (by (simp only [J07,J10];omega)) Z) Z (A3 (A6 Z Z) Z (A7 ?_))))))
   refine k4 (k1 ?_)
   refine A4 (A3 (C2 Z Z (by omega)) Z (A3 (A5 Z Z) Z (A7 ?_)))
   refine k1 ?_
   refine ⟨p+1,by omega,by omega,?_⟩
   rw [hsucc]
   exact I72 ⟨le1 rfl,le1 rfl,le1 rfl,le1 rfl,le1 rfl,le1 rfl,trivial⟩ ⟨rfl,rfl,trivial⟩
  ·rw [e32,e1] at ht
   have hb:V0 r.Marks p=false:=by unfold V0;simpa using ht
   have hmk:E82 r p=32:=by unfold E82;rw [if_pos hb]
   rw [hmk] at hsucc
   skip
   refine A4 (A3 (A5 Z Z) Z (A3 (C8 (c:=u8C) (ys:=[32]) (E0 Z Z Z Z F6) Z Z Z) Z (C3 (G9 Z Z Z (.pure _ _ _ _) (by (simp only [J07,J10];omega)) Z) Z (A3 (A6 Z Z) Z (A7 ?_)))))
   refine k4 (k1 ?_)
   refine A4 (A3 (C2 Z Z (by omega)) Z (A3 (A5 Z Z) Z (A7 ?_)))
   refine k1 ?_
   refine ⟨p+1,by omega,by omega,?_⟩
   rw [hsucc]
   exact I72 ⟨le1 rfl,le1 rfl,le1 rfl,le1 rfl,le1 rfl,le1 rfl,trivial⟩ ⟨rfl,rfl,trivial⟩
 ·have hpn:p=n:=by have:=A1 ht;omega
  subst hpn
  refine k6 (k2 ?_)
  refine A4 (A3 (A5 Z Z) Z (A3 (A8 Z) Z (A3 (A9 Z Z Z) Z (C3 (B73 TyStr.out Z Z Z (by omega) Z) Z (A3 (A6 Z Z) Z (A7 ?_))))))
  refine k1 (k2 (k2 ?_))
  refine A4 (A3 (A8 Z) Z (A3 (A9 Z Z Z) Z (C5 (B41 r.Text (by omega)) Z Z Z ?_)));rintro _ rfl;refine A3 (K5 Z) Z (A7 ?_)
  refine k1 ?_
  refine B5 rfl (fun ht=>?_) (fun ht=>?_)
  ·have h:ended r.Text=false:=by simpa using ht
   skip
   refine A4 (A3 (A5 Z Z) Z (C3 (B73 TyStr.out Z Z Z (by (simp only [J06,J07,J10];omega)) Z) Z (A3 (A6 Z Z) Z (A7 ?_))))
   refine k1 (k2 ?_)
   refine A4 (A3 (A5 Z Z) Z (A3 (y2 TyStr.out Z (.buf _ _ _ _ _)) Z (A3 (A6 Z Z) Z (A7 ?_))))
   refine k1 (k10 ?_)
   exact B6 (H2 rfl rfl rfl) (by rw [h,if_neg (by decide)];rfl)
  ·have h:ended r.Text=true:=by simpa using ht
   refine k5 (k1 (k2 ?_))
   refine A4 (A3 (A5 Z Z) Z (A3 (y2 TyStr.out Z (.buf _ _ _ _ _)) Z (A3 (A6 Z Z) Z (A7 ?_))))
   refine k1 (k10 ?_)
   exact B6 (H2 rfl rfl rfl) (by rw [if_pos h,J25])
structure CFit (c:Comb):Prop where
 par:0≤c.Parents∧c.Parents≤32
 path:c.Path.length≤4194304
 sz:szC c.Hunks≤268435456
 rows:∀h∈c.Hunks,K4 h.Rows
 ats:∀h∈c.Hunks,h.At.length=c.Parents.toNat+1∧∀a∈h.At,-4611686018427387904≤a∧a≤4611686018427387904
theorem I38 (c:Comb) (hc:CFit c):FnOk Tryz.prog 94 [V1 c] (fun rs=>rs=[I7 (A27 c).length]):=by
 obtain ⟨h1,h2,h3,h4,h5⟩:=hc
 have hzl:=D20 c.Hunks
 have hm29:markS.length=29:=rfl
 obtain ⟨n,hN⟩:∃n,n=c.Parents.toNat:=⟨_,rfl⟩
 have hNc:c.Parents=(n:Int):=by omega
 have hn:n≤32:=by omega
 have hct:=fun k=>H48 c (by omega) k
 have hcs:=fun k h=>G32 c k h
 rw [←hN] at h5 hcs
 refine FnOk.intro Tryz.func94 (by decide) Z Z Z Z ?_
 refine k2 ?_
 refine A4 (C3 (Q0 1 Z Z Z) Z (A3 (A6 Z Z) Z (A7 ?_)))
 refine k1 (k2 ?_)
 refine A4 (A3 (D7 Z Z Z) Z (C5 (E66 c (by omega)) Z Z Z ?_));rintro _ rfl;refine A3 (O7 Z) Z (A3 (A6 Z Z) Z (A7 ?_))
 refine k1 (k2 (k2 ?_))
 refine A4 (A3 (A8 Z) Z (A3 (A9 Z Z Z) Z (A3 (D5 Z (.pure _ _ _ _)) Z (A3 (A5 Z Z) Z (A7 ?_)))))
 refine k1 (k3 ?_)
 refine C7 (X:=Nat) (fun k=>([(1,.s (.one (.ref 1 0))),(3,B7 (cTo c k).length),(12,B9 CHunk 2 Q6 c.Hunks),(13,B7 c.Hunks.length),(14,B7 k)],[(1,cBox c)])) (fun k=>k≤c.Hunks.length) (fun k=>c.Hunks.length - k) 0 (Nat.zero_le _) (by rw [D89];exact I72 ⟨le1 rfl,le1 rfl,le1 rfl,le1 rfl,le1 rfl,trivial⟩ ⟨rfl,trivial⟩) ?_
 intro k hk
 dsimp only at hk ⊢
 have hck:=hct k
 refine k2 ?_
 refine A4 (A3 (D9 Z Z) Z (A7 ?_))
 refine k1 (k2 ?_)
 refine B5 rfl (fun ht=>?_) (fun ht=>?_)
 ·have hlt:k < c.Hunks.length:=by have:=A0 ht;omega
  have hv:c.Hunks[k]?=some c.Hunks[k]:=by simp [hlt]
  have hmem:=J15 hlt
  have hrw:=h4 _ hmem
  have hat:=h5 _ hmem
  have hzm:=D19 hmem
  have hsucc:=hcs k hlt
  obtain ⟨h,hx⟩:∃x,x=c.Hunks[k]:=⟨_,rfl⟩
  rw [←hx] at hv hrw hat hzm hsucc
  have hz1:=x8 h.Rows
  have hz2:=B91 h.Rows
  unfold E33 at hzm
  have hh:=D55 h n hn hrw (by omega) hat.1 hat.2
  rw [←hNc] at hh
  have hhl:=C68 hn h
  obtain ⟨base,hbase⟩:∃base,base=(cTo c k).length:=⟨_,rfl⟩
  have hcl:=congrArg List.length hsucc
  rw [J06,E86,J06,←hbase] at hcl
  rw [←hbase] at hck ⊢
  obtain ⟨hd,hhd⟩:∃hd,hd=B28 n h++[10]:=⟨_,rfl⟩
  have hdl:hd.length≤926:=by rw [hhd,J06];simp only [J07,J10];omega
  rw [←hhd] at hh hcl
  refine k5 (k1 (k2 (k3 (k2 ?_))))
  refine A4 (A3 (B1 Z (.pure _ _ _ _) Z (by omega) hv) Z (A3 (E5 Z Z) Z (C3 (H7 5 Z) Z (F8 (C0 TySz.out Z Z Z Z Z Z) (A7 ?_)))))
  refine k1 (k2 ?_)
  refine A4 (A3 (A5 Z Z) Z (A3 (D7 Z Z Z) Z (A3 (A8 Z) Z (A3 (A9 Z Z Z) Z (C5 (hh) Z Z Z ?_)))));rintro _ rfl;refine A3 (O7 Z) Z (A3 (C2 Z Z (by omega)) Z (A3 (A6 Z Z) Z (A7 ?_)))
  refine k1 (k2 ?_)
  refine A4 (A3 (A8 Z) Z (A3 (A9 Z Z Z) Z (A3 (D5 Z (.pure _ _ _ _)) Z (A3 (A5 Z Z) Z (A7 ?_)))))
  refine k1 (k3 ?_)
  refine C7 (X:=Nat) (fun j=>([(1,.s (.one (.ref 1 0))),(3,B7 (base+hd.length+(rTo n h.Rows j).length:Nat)),(12,B9 CHunk 2 Q6 c.Hunks),(13,B7 c.Hunks.length),(14,B7 k),(26,B9 Row 3 rowC h.Rows),(27,B7 h.Rows.length),(28,B7 j)],[(1,cBox c)])) (fun j=>j≤h.Rows.length) (fun j=>h.Rows.length - j) 0 (Nat.zero_le _) ?_ ?_
  ·have e:((base+hd.length+(rTo n h.Rows 0).length:Nat):Int)=(base:Int)+(hd.length:Int):=by rw [G33];simp
   rw [e]
   exact I72 ⟨le1 rfl,le1 rfl,le1 rfl,le1 rfl,le1 rfl,le1 rfl,le1 rfl,le1 rfl,trivial⟩ ⟨rfl,trivial⟩
  intro j hj
  dsimp only at hj ⊢
  have hrl:=H46 hn h.Rows j
  refine k2 ?_
  refine A4 (A3 (D9 Z Z) Z (A7 ?_))
  refine k1 (k2 ?_)
  refine B5 rfl (fun ht=>?_) (fun ht=>?_)
  ·have hlt2:j < h.Rows.length:=by have:=A0 ht;omega
   have hv2:h.Rows[j]?=some h.Rows[j]:=by simp [hlt2]
   have hrm:=E84 (J15 hlt2)
   have hsucc2:=G34 n h.Rows j hlt2
   obtain ⟨r,hy⟩:∃x,x=h.Rows[j]:=⟨_,rfl⟩
   rw [←hy] at hv2 hrm hsucc2
   have hrm:r.Text.length+96≤(h.Rows.map W9).sum:=hrm
   have hl2:=congrArg List.length hsucc2
   have hml:=B51 n r
   rw [J06,D93,J06,J06,hml] at hl2
   refine k5 (k1 (k2 (k3 (k2 ?_))))
   refine A4 (A3 (B1 Z (.pure _ _ _ _) Z (by omega) hv2) Z (A3 (E5 Z Z) Z (C3 (H7 7 Z) Z (F8 (C0 TySz.out Z Z Z Z Z Z) (A7 ?_)))))
   refine k1 (k2 ?_)
   refine A4 (A3 (A5 Z Z) Z (A3 (A8 Z) Z (A3 (A9 Z Z Z) Z (A3 (A8 Z) Z (A3 (A9 Z Z Z) Z (A3 (O7 Z) Z (A3 (C2 Z Z (by omega)) Z (A3 (C2 Z Z (by omega)) Z (A3 (A6 Z Z) Z (A7 ?_))))))))))
   refine k1 (k2 ?_)
   refine A4 (A3 (A8 Z) Z (A3 (A9 Z Z Z) Z (C5 (B41 r.Text (by omega)) Z Z Z ?_)));rintro _ rfl;refine A3 (K5 Z) Z (A7 ?_)
   refine k1 ?_
   refine B5 rfl (fun ht=>?_) (fun ht=>?_)
   ·have h2:ended r.Text=false:=by simpa using ht
    rw [h2,if_neg (by decide),hm29] at hl2
    have e:((base+hd.length+(rTo n h.Rows (j+1)).length:Nat):Int)=((base+hd.length+(rTo n h.Rows j).length:Nat):Int)+(c.Parents+(r.Text.length:Int))+29:=by omega
    skip
    refine A4 (A3 (A5 Z Z) Z (A3 (C2 Z Z (by omega)) Z (A3 (A6 Z Z) Z (A7 ?_))))
    refine k4 (k1 ?_)
    refine A4 (A3 (C2 Z Z (by omega)) Z (A3 (A5 Z Z) Z (A7 ?_)))
    refine k1 ?_
    refine ⟨j+1,by omega,by omega,?_⟩
    rw [e]
    exact I72 ⟨le1 rfl,le1 rfl,le1 rfl,le1 rfl,le1 rfl,le1 rfl,le1 rfl,le1 rfl,trivial⟩ ⟨rfl,trivial⟩
   ·have h2:ended r.Text=true:=by simpa using ht
    rw [if_pos h2,J10] at hl2
    have e:((base+hd.length+(rTo n h.Rows (j+1)).length:Nat):Int)=((base+hd.length+(rTo n h.Rows j).length:Nat):Int)+(c.Parents+(r.Text.length:Int)):=by omega
    refine k5 (k4 (k1 ?_))
    refine A4 (A3 (C2 Z Z (by omega)) Z (A3 (A5 Z Z) Z (A7 ?_)))
    refine k1 ?_
    refine ⟨j+1,by omega,by omega,?_⟩
    rw [e]
    exact I72 ⟨le1 rfl,le1 rfl,le1 rfl,le1 rfl,le1 rfl,le1 rfl,le1 rfl,le1 rfl,trivial⟩ ⟨rfl,trivial⟩
  ·have hjl:j=h.Rows.length:=by have:=A1 ht;omega
   subst hjl
   have e:base+hd.length+(rTo n h.Rows h.Rows.length).length=(cTo c (k+1)).length:=by omega
   rw [e]
   refine k6 (k7 (k7 (k8 Z (k4 (k1 ?_)))))
   refine A4 (A3 (C2 Z Z (by omega)) Z (A3 (A5 Z Z) Z (A7 ?_)))
   refine k1 ?_
   exact ⟨k+1,by omega,by omega,I72 ⟨le1 rfl,le1 rfl,le1 rfl,le1 rfl,le1 rfl,trivial⟩ ⟨rfl,trivial⟩⟩
 ·have hkl:k=c.Hunks.length:=by have:=A1 ht;omega
  subst hkl
  rw [D90]
  refine k6 (k2 ?_)
  refine A4 (A3 (A5 Z Z) Z (A3 (A6 Z Z) Z (A7 ?_)))
  refine k1 (k10 ?_)
  exact B6 (H2 rfl rfl rfl) rfl
theorem E67 {c:Comb} (hp:c.Path.length≤4194304) (hn:1≤c.Parents∧c.Parents≤32) (hz:szC c.Hunks≤268435456) (hr:∀h∈c.Hunks,K4 h.Rows) (hg:V3 c.Parents.toNat c.Hunks=true):CFit c:=by
 refine ⟨by omega,hp,hz,hr,fun h hm=>?_⟩
 unfold V3 at hg
 rw [J09] at hg
 obtain ⟨a1,a2,a3⟩:=C67 c.Hunks _ (fun k hk=>by rw [J08,List.getElem?_replicate_of_lt hk];exact Int.le_refl _) hg.1 h hm
 refine ⟨a1,fun a ha=>?_⟩
 obtain ⟨k,hk,rfl⟩:=List.getElem_of_mem ha
 have h1:=a3 k (by omega)
 have h2:=D85 h.Rows c.Parents.toNat k
 have e:h.At.getD k 0=h.At[k]:=by rw [J08,J05 hk];rfl
 rw [e] at h1
 omega
theorem C54 (c:Comb) (hz:szC c.Hunks≤268435456) (hr:∀h∈c.Hunks,K4 h.Rows):FnOk Tryz.prog 40 [V1 c] (fun rs=>rs=[I7 (M4 c)]):=by
 refine FnOk.intro Tryz.func40 (by decide) Z Z Z Z ?_
 refine k2 ?_
 refine A4 (C3 (Q0 1 Z Z Z) Z (A3 (A6 Z Z) Z (A7 ?_)))
 refine k1 (k2 (k3 (k2 ?_)))
 refine A4 (A3 (A8 Z) Z (A3 (A9 Z Z Z) Z (C5 (B42 c.Path) Z Z Z ?_)));rintro _ rfl;refine A3 (K5 Z) Z (A3 (A6 Z Z) Z (A7 ?_))
 refine k1 ?_
 refine B5 rfl (fun ht=>?_) (fun ht=>?_)
 ·have h:S0 c.Path=false:=by simpa using ht
  refine k2 ?_
  refine A4 (A3 (A6 Z Z) Z (A7 ?_))
  refine k1 (k10 (k12 (k11 ?_)))
  exact B6 (H2 rfl rfl rfl) (by unfold M4;rw [if_pos h])
 have h:S0 c.Path=true:=by simpa using ht
 have hpl:=A0 h
 refine k2 ?_
 refine A4 (A3 (A8 Z) Z (A3 (A9 Z Z Z) Z (A3 (D9 Z Z) Z (A3 (A5 Z Z) Z (B4 Z Z Z Z (fun hg=>by rw [hg];exact A8 Z) ?_)))));refine B4 Z Z Z Z (fun hg=>by rw [hg];exact A9 Z Z Z) ?_;refine B4 Z Z Z Z (fun hg=>by rw [hg];exact P6 Z Z) ?_;refine A3 (B8 Z (fun h=>by first | rfl | (rw [h];rfl)) (fun h=>by first | rfl | (rw [h];rfl))) Z ?_;refine A3 (A6 Z Z) Z (A7 ?_)
 refine k1 ?_
 refine B5 rfl (fun ht=>?_) (fun ht=>?_)
 ·have h1:=A0 (or_pick.symm.trans ht)
  refine k2 ?_
  refine A4 (A3 (A6 Z Z) Z (A7 ?_))
  refine k1 (k10 (k12 (k11 ?_)))
  exact B6 (H2 rfl rfl rfl) (by unfold M4;rw [if_neg (by rw [h];decide),if_pos (by omega)])
 have h1:=A1 (or_pick.symm.trans ht)
 have hn:1≤c.Parents∧c.Parents≤32:=by omega
 refine k2 ?_
 refine A4 (A3 (D7 Z Z Z) Z (C5 (G74 c hn hr hz) Z Z Z ?_));rintro _ rfl;refine A3 (K5 Z) Z (A3 (A6 Z Z) Z (A7 ?_))
 refine k1 ?_
 refine B5 rfl (fun ht=>?_) (fun ht=>?_)
 ·have h2:n6 c.Parents.toNat c.Hunks=false:=by simpa using ht
  refine k2 ?_
  refine A4 (A3 (A6 Z Z) Z (A7 ?_))
  refine k1 (k10 (k12 (k11 ?_)))
  exact B6 (H2 rfl rfl rfl) (by unfold M4;rw [if_neg (by rw [h];decide),if_neg (by omega),if_pos h2])
 have h2:n6 c.Parents.toNat c.Hunks=true:=by simpa using ht
 have hw:=I37 c hn hr hz
 rw [G28 (by omega) h2] at hw
 refine k2 ?_
 refine A4 (A3 (D7 Z Z Z) Z (C5 (hw) Z Z Z ?_));rintro _ rfl;refine A3 (K5 Z) Z (A3 (A6 Z Z) Z (A7 ?_))
 refine k1 ?_
 refine B5 rfl (fun ht=>?_) (fun ht=>?_)
 ·have h3:V3 c.Parents.toNat c.Hunks=false:=by simpa using ht
  refine k2 ?_
  refine A4 (A3 (A6 Z Z) Z (A7 ?_))
  refine k1 (k10 (k12 (k11 ?_)))
  exact B6 (H2 rfl rfl rfl) (by unfold M4;rw [if_neg (by rw [h];decide),if_neg (by omega),if_neg (by rw [h2];decide),if_pos h3])
 have h3:V3 c.Parents.toNat c.Hunks=true:=by simpa using ht
 refine k2 ?_
 refine A4 (A3 (D7 Z Z Z) Z (C5 (I38 c (E67 (by omega) hn hz hr h3)) Z Z Z ?_));rintro _ rfl;refine A3 (P6 Z Z) Z (A3 (A6 Z Z) Z (A7 ?_))
 refine k1 ?_
 refine B5 rfl (fun ht=>?_) (fun ht=>?_)
 ·have h4:=A0 ht
  refine k2 ?_
  refine A4 (A3 (A6 Z Z) Z (A7 ?_))
  refine k1 (k10 (k12 (k11 ?_)))
  exact B6 (H2 rfl rfl rfl) (by unfold M4;rw [if_neg (by rw [h];decide),if_neg (by omega),if_neg (by rw [h2];decide),if_neg (by rw [h3];decide),if_pos (by omega)])
 have h4:=A1 ht
 refine k5 (k2 ?_)
 refine A4 (A3 (A6 Z Z) Z (A7 ?_))
 refine k1 (k10 ?_)
 exact B6 (H2 rfl rfl rfl) (by unfold M4;rw [if_neg (by rw [h];decide),if_neg (by omega),if_neg (by rw [h2];decide),if_neg (by rw [h3];decide),if_neg (by omega)])
theorem G75 {c:Comb} (h:M4 c=0) (hz:szC c.Hunks≤268435456) (hr:∀h∈c.Hunks,K4 h.Rows):CFit c:=by
 obtain ⟨h1,h2,h3,h4,h5⟩:=H01 h
 have hp:=A0 h5
 have hg:V3 c.Parents.toNat c.Hunks=true:=by
  cases hb:V3 c.Parents.toNat c.Hunks with
  | true=>rfl
  | false =>
   exfalso
   unfold M4 at h
   rw [hb] at h
   rw [if_neg (by rw [h5];decide),if_neg (by omega)] at h
   split at h
   ·cases h
   ·cases h
 exact E67 (by omega) (by omega) hz hr hg
theorem G76 (c:Comb) (hz:szC c.Hunks≤268435456) (hr:∀h∈c.Hunks,K4 h.Rows):FnOk Tryz.prog 38 [V1 c] (fun rs=>rs=if M4 c=0 then [P5 (A27 c),I7 0] else [P5 [],I7 (M4 c)]):=by
 by_cases hck:M4 c=0
 rotate_left
 ·rw [if_neg hck]
  refine FnOk.intro Tryz.func38 (by decide) Z Z Z Z ?_
  refine k2 ?_
  refine A4 (C3 (Q0 1 Z Z Z) Z (A3 (A6 Z Z) Z (A3 (A6 Z Z) Z (A7 ?_))))
  refine k1 (k2 (k2 ?_))
  refine A4 (A3 (D7 Z Z Z) Z (C5 (C54 c hz hr) Z Z Z ?_));rintro _ rfl;refine A3 (A6 Z Z) Z (A7 ?_)
  refine k1 (k2 ?_)
  refine A4 (A3 (A5 Z Z) Z (A3 (O3 Z Z) Z (A7 ?_)))
  refine k1 ?_
  refine B5 rfl (fun ht=>?_) (fun ht=>?_)
  rotate_left
  ·exact absurd (Decidable.not_not.1 (A1 ht)) hck
  refine k2 ?_
  refine A4 (A3 (A5 Z Z) Z (A3 (A6 Z Z) Z (A3 (A6 Z Z) Z (A7 ?_))))
  refine k1 (k10 (k11 ?_))
  exact B6 (Z9 rfl rfl rfl rfl rfl) rfl
 rw [if_pos hck]
 have hcc:=C54 c hz hr
 rw [hck] at hcc
 obtain ⟨h1,h2,_,h4,h5⟩:=G75 hck hz hr
 have hzl:=D20 c.Hunks
 obtain ⟨n,hN⟩:∃n,n=c.Parents.toNat:=⟨_,rfl⟩
 have hNc:c.Parents=(n:Int):=by omega
 have hn:n≤32:=by omega
 have hct:=fun k=>H48 c (by omega) k
 have hcs:=fun k h=>G32 c k h
 rw [←hN] at h5 hcs
 refine FnOk.intro Tryz.func38 (by decide) Z Z Z Z ?_
 refine k2 ?_
 refine A4 (C3 (Q0 1 Z Z Z) Z (A3 (A6 Z Z) Z (A3 (A6 Z Z) Z (A7 ?_))))
 refine k1 (k2 (k2 ?_))
 refine A4 (A3 (D7 Z Z Z) Z (C5 (hcc) Z Z Z ?_));rintro _ rfl;refine A3 (A6 Z Z) Z (A7 ?_)
 refine k1 (k2 ?_)
 refine A4 (A3 (A5 Z Z) Z (A3 (O3 Z Z) Z (A7 ?_)))
 refine k1 ?_
 refine B5 rfl (fun ht=>?_) (fun ht=>?_)
 ·cases ht
 refine k5 (k1 (k2 ?_))
 refine A4 (C3 (D28 700 Z) Z (A7 ?_))
 refine k1 (k2 ?_)
 refine H3 (I85 701 UInt8 1 u8C 5 (kb:=700) (o:=1) Z Z Z) ?_
 have hct0:=hct 0
 rw [D89] at hct0
 refine A4 (A3 (D7 Z Z Z) Z (C5 (E66 c (by omega)) Z Z Z ?_));rintro _ rfl;refine A08 (P8 (xs:=[]) (s:=A77 c) ⟨⟨_,.inl rfl,rfl⟩,rfl⟩ (by simp only [J10];omega)) Z Z Z ?_;rintro _ _ ⟨rfl,rfl⟩;refine A7 ?_
 refine k1 (k2 (k2 ?_))
 refine A4 (A3 (A8 Z) Z (A3 (A9 Z Z Z) Z (A3 (D5 Z (.pure _ _ _ _)) Z (A3 (A5 Z Z) Z (A7 ?_)))))
 refine k1 (k3 ?_)
 refine C7 (X:=Nat) (fun k=>([(1,.s (.one (.ref 1 0))),(5,.s (.one (.ref 700 0))),(19,B9 CHunk 2 Q6 c.Hunks),(20,B7 c.Hunks.length),(21,B7 k)],[(1,cBox c),(700,.tbx 124 [.ref 700 0,.buf 701 UInt8 1 u8C (cTo c k)]),(701,.spare (cTo c k).length 1 5)])) (fun k=>k≤c.Hunks.length) (fun k=>c.Hunks.length - k) 0 (Nat.zero_le _) (by rw [D89];exact I72 ⟨le1 rfl,le1 rfl,le1 rfl,le1 rfl,le1 rfl,trivial⟩ ⟨rfl,rfl,rfl,trivial⟩) ?_
 intro k hk
 dsimp only at hk ⊢
 have hck:=hct k
 refine k2 ?_
 refine A4 (A3 (D9 Z Z) Z (A7 ?_))
 refine k1 (k2 ?_)
 refine B5 rfl (fun ht=>?_) (fun ht=>?_)
 ·have hlt:k < c.Hunks.length:=by have:=A0 ht;omega
  have hv:c.Hunks[k]?=some c.Hunks[k]:=by simp [hlt]
  have hmem:=J15 hlt
  have hrw:=h4 _ hmem
  have hat:=h5 _ hmem
  have hzm:=D19 hmem
  have hsucc:=hcs k hlt
  obtain ⟨h,hx⟩:∃x,x=c.Hunks[k]:=⟨_,rfl⟩
  rw [←hx] at hv hrw hat hzm hsucc
  have hz1:=x8 h.Rows
  have hz2:=B91 h.Rows
  unfold E33 at hzm
  have hh:=D55 h n hn hrw (by omega) hat.1 hat.2
  rw [←hNc] at hh
  have hhl:=C68 hn h
  obtain ⟨base,hbase⟩:∃base,base=cTo c k:=⟨_,rfl⟩
  rw [E86,←hbase] at hsucc
  rw [←hbase] at hck ⊢
  obtain ⟨hd,hhd⟩:∃hd,hd=B28 n h++[10]:=⟨_,rfl⟩
  have hdl:hd.length≤926:=by rw [hhd,J06];simp only [J07,J10];omega
  rw [←hhd] at hh hsucc
  refine k5 (k1 (k2 (k3 (k2 ?_))))
  refine A4 (A3 (B1 Z (.pure _ _ _ _) Z (by omega) hv) Z (A3 (E5 Z Z) Z (C3 (H7 7 Z) Z (F8 (C0 TySz.out Z Z Z Z Z Z) (A7 ?_)))))
  refine k1 (k2 ?_)
  refine A4 (A3 (D7 Z Z Z) Z (A3 (A8 Z) Z (A3 (A9 Z Z Z) Z (C5 (hh) Z Z Z ?_))));rintro _ rfl;refine A08 (P8 (xs:=base) (s:=hd) ⟨⟨_,.inr rfl,rfl⟩,rfl⟩ (by omega)) Z Z Z ?_;rintro _ _ ⟨rfl,rfl⟩;refine A7 ?_
  refine k1 (k2 ?_)
  refine A4 (A3 (A8 Z) Z (A3 (A9 Z Z Z) Z (A3 (D5 Z (.pure _ _ _ _)) Z (A3 (A5 Z Z) Z (A7 ?_)))))
  refine k1 (k3 ?_)
  refine C7 (X:=Nat) (fun j=>([(1,.s (.one (.ref 1 0))),(5,.s (.one (.ref 700 0))),(19,B9 CHunk 2 Q6 c.Hunks),(20,B7 c.Hunks.length),(21,B7 k),(31,B9 Row 3 rowC h.Rows),(32,B7 h.Rows.length),(33,B7 j)],[(1,cBox c),(700,.tbx 124 [.ref 700 0,.buf 701 UInt8 1 u8C (base++hd++rTo n h.Rows j)]),(701,.spare (base++hd++rTo n h.Rows j).length 1 5)])) (fun j=>j≤h.Rows.length) (fun j=>h.Rows.length - j) 0 (Nat.zero_le _) ?_ ?_
  ·rw [G33,J25]
   exact I72 ⟨le1 rfl,le1 rfl,le1 rfl,le1 rfl,le1 rfl,le1 rfl,le1 rfl,le1 rfl,trivial⟩ ⟨rfl,rfl,rfl,trivial⟩
  intro j hj
  dsimp only at hj ⊢
  have hrl:=H46 hn h.Rows j
  refine k2 ?_
  refine A4 (A3 (D9 Z Z) Z (A7 ?_))
  refine k1 (k2 ?_)
  refine B5 rfl (fun ht=>?_) (fun ht=>?_)
  ·have hlt2:j < h.Rows.length:=by have:=A0 ht;omega
   have hv2:h.Rows[j]?=some h.Rows[j]:=by simp [hlt2]
   have hmem2:=J15 hlt2
   have hrm:=E84 hmem2
   have hmm:=hrw _ hmem2
   have hsucc2:=G34 n h.Rows j hlt2
   obtain ⟨r,hy⟩:∃x,x=h.Rows[j]:=⟨_,rfl⟩
   rw [←hy] at hv2 hrm hsucc2 hmm
   have hrp:=E85 hn r
   have hrk:=crow_ok r n hn hmm (by have hrm:r.Text.length+96≤(h.Rows.map W9).sum:=hrm;omega)
   rw [←hNc] at hrk
   obtain ⟨bs,hbs⟩:∃bs,bs=base++hd++rTo n h.Rows j:=⟨_,rfl⟩
   have hbl:bs.length≤16777216+48+268435456+926+268435456:=by rw [hbs,J06,J06];omega
   rw [←hbs]
   refine k5 (k1 (k2 (k3 (k2 ?_))))
   refine A4 (A3 (B1 Z (.pure _ _ _ _) Z (by omega) hv2) Z (A3 (E5 Z Z) Z (C3 (H7 9 Z) Z (F8 (C0 TySz.out Z Z Z Z Z Z) (A7 ?_)))))
   refine k1 ?_
   refine A4 (A3 (D7 Z Z Z) Z (A3 (A8 Z) Z (A3 (A9 Z Z Z) Z (C5 (hrk) Z Z Z ?_))));rintro _ rfl;refine A08 (P8 (xs:=bs) (s:=(A37 n r).flatten) ⟨⟨_,.inr rfl,rfl⟩,rfl⟩ (by omega)) Z Z Z ?_;rintro _ _ ⟨rfl,rfl⟩;refine A7 ?_
   refine k4 (k1 ?_)
   refine A4 (A3 (C2 Z Z (by omega)) Z (A3 (A5 Z Z) Z (A7 ?_)))
   refine k1 ?_
   refine ⟨j+1,by omega,by omega,?_⟩
   rw [hsucc2,←J17,←hbs]
   exact I72 ⟨le1 rfl,le1 rfl,le1 rfl,le1 rfl,le1 rfl,le1 rfl,le1 rfl,le1 rfl,trivial⟩ ⟨rfl,rfl,rfl,trivial⟩
  ·have hjl:j=h.Rows.length:=by have:=A1 ht;omega
   subst hjl
   have e:base++hd++rTo n h.Rows h.Rows.length=cTo c (k+1):=by rw [hsucc,J17]
   rw [e]
   refine k6 (k7 (k7 (k8 Z (k4 (k1 ?_)))))
   refine A4 (A3 (C2 Z Z (by omega)) Z (A3 (A5 Z Z) Z (A7 ?_)))
   refine k1 ?_
   exact ⟨k+1,by omega,by omega,I72 ⟨le1 rfl,le1 rfl,le1 rfl,le1 rfl,le1 rfl,trivial⟩ ⟨rfl,rfl,rfl,trivial⟩⟩
 ·have hkl:k=c.Hunks.length:=by have:=A1 ht;omega
  subst hkl
  rw [D90]
  refine k6 (k2 ?_)
  refine A4 (C49 (k:=700) (k':=701) ⟨_,rfl,rfl,rfl⟩ A24 Z Z Z Z Z (.inr Z) Z (A3 (A6 Z Z) Z (A3 (A6 Z Z) Z (A7 ?_))))
  refine k1 (k10 ?_)
  exact B6 (Z9 rfl rfl rfl rfl rfl) rfl
theorem G77 (rows:List Row) (n:Nat) (hn:n≤32) (hr:K4 rows) (hl:rows.length≤268435456):FnOk Tryz.prog 149 [pRows rows,I7 n] (fun rs=>rs=[N6 (F5 rows n)]) :=
 J01 (k:=720) rfl (B13 rows n hn hr hl)
theorem G78 {gf:Fr} {ob:Obs} (l:List Int) (hl:0 < l.length∧l.length≤1073741824) (h:C4 ob 720=some (.arr Int 1 G4 l)) :
  AL.Met Tryz.prog 166 [.one (.mut 720)] gf ob [] (fun rs ob'=>rs=[.one (.p (.list Int 1 G4 l))]∧ob'=ob):=by
 refine AL.Met.intro Tryz.func166 (by decide) Z Z Z ?_
 refine k2 ?_
 refine A4 (A3 (A6 Z Z) Z (A7 ?_))
 refine k1 (k2 (k2 ?_))
 refine A4 (A3 (A5 Z Z) Z (A3 (E16 Z h) Z (A7 ?_)))
 refine k1 ?_
 refine B5 rfl (fun ht=>?_) (fun ht=>?_)
 ·cases ht
 refine k5 (k1 (k2 ?_))
 refine A4 (A3 (B09 (c:=G4) (ys:=[]) F6 Z Z Z) Z (A3 (A5 Z Z) Z (A3 (C14 Z Z h (by (simp;omega)) (hl.1)) Z (A3 (A6 Z Z) Z (A7 ?_)))))
 rw [J38]
 refine k1 (k10 ?_)
 exact X1 (A83 rfl rfl) (by repeat (first | exact F9 | refine G1 rfl ?_ | refine M2 _ ?_)) (fun _ _ h=>h) ⟨rfl,rfl⟩
theorem H76 (l:List Row) (hl:0 < l.length∧l.length≤1073741824):FnOk Tryz.prog 113 [pRows l] (fun rs=>rs=[pRows l]):=by
 refine FnOk.intro Tryz.func113 (by decide) Z Z Z Z ?_
 refine k2 ?_
 refine A4 (A3 (A6 Z Z) Z (A7 ?_))
 refine k1 (k2 (k2 ?_))
 refine A4 (A3 (A5 Z Z) Z ?_);(first | (refine F02 (E47 rfl (.pure _ _ _ _)) rfl ?_) | (refine F02 (E47 rfl (.buf _ _ _ _ _)) rfl ?_));rintro _ ⟨b1,rfl,hnil⟩;refine A7 ?_
 refine k1 ?_
 refine B5 rfl (fun ht=>?_) (fun ht=>?_)
 ·have:=hnil ht
  rw [this] at hl
  exact absurd hl.1 (by simp)
 refine k5 (k1 (k2 ?_))
 refine A4 (A3 (B09 (c:=rowC) (ys:=[]) F6 Z Z Z) Z (A3 (A5 Z Z) Z (A3 (B63 Z Z (.pure _ _ _ _) (by (simp;omega)) (hl.1)) Z (A3 (A6 Z Z) Z (A7 ?_)))))
 rw [J38]
 refine k1 (k10 ?_)
 exact B6 (H2 rfl rfl rfl) rfl
theorem G79 (rows:List Row) (n k:Nat) {e t:Nat} (h:e≤t):N7 (rows.take t) n k=N7 (rows.take e) n k+N7 ((rows.drop e).take (t - e)) n k:=by
 have h1:rows.take t=rows.take e++(rows.drop e).take (t - e):=by
  have:=List.take_add (l:=rows) (i:=e) (j:=t - e)
  rwa [show e+(t - e)=t by omega] at this
 unfold N7
 rw [h1]
 unfold J0
 rw [J48,J19,J06,Int.natCast_add]
def A85 (rows:List Row) (n e t i:Nat):List Int:=(List.range (n+1)).map fun k=>if k < i then N7 (rows.take t) n k else N7 (rows.take e) n k
theorem H77 (rows:List Row) (n e t i:Nat):(A85 rows n e t i).length=n+1:=by simp [A85]
theorem G80 (rows:List Row) (n e t:Nat):A85 rows n e t 0=F5 (rows.take e) n:=by
 unfold A85 F5
 exact List.map_congr_left fun k _=>if_neg (by omega)
theorem G81 (rows:List Row) (n e t:Nat):A85 rows n e t (n+1)=F5 (rows.take t) n:=by
 unfold A85 F5
 exact List.map_congr_left fun k hk=>if_pos (by simpa using hk)
theorem H78 (rows:List Row) (n e t i:Nat) (hi:i < n+1):(A85 rows n e t i)[i]?=some (N7 (rows.take e) n i):=by
 unfold A85
 rw [x6 (n+1) i _ hi,if_neg (by omega)]
theorem H79 (rows:List Row) (n e t i:Nat):(A85 rows n e t i).set i (N7 (rows.take t) n i)=A85 rows n e t (i+1):=by
 refine m8 (n+1) i _ _ _ (fun _=>if_pos (by omega)) (fun q _ hq=>?_)
 by_cases h:q < i
 ·rw [if_pos h,if_pos (by omega)]
 ·rw [if_neg h,if_neg (by omega)]
theorem H33 (rows:List Row) (n k:Nat):0≤N7 rows n k∧N7 rows n k≤rows.length:=by
 unfold N7
 have:=B45 rows (X6 n k)
 omega
set_option maxHeartbeats 1000000
theorem D56 {gf:Fr} {ob:Obs} (t:Table) (n e z:Nat) (hn:t.Parents=n) (hn2:n≤32) (hr:K4 t.Rows) (hl:t.Rows.length≤8388608) (h1:e≤z) (h2:z≤t.Rows.length)
  (h5:C4 ob 5=some (.box (pTable t).s1.cells)) (h13:C4 ob 13=some (d7 e)) (h12:C4 ob 12=some (.box [.mut 720])) (h720:C4 ob 720=some (.arr Int 1 G4 (F5 (t.Rows.take e) n))) :
  AL.Met Tryz.prog 165 [iS z,.one (.ref 5 0),.one (.ref 13 0),.one (.ref 12 0)] gf ob []
   (fun rs ob'=>rs=[]∧ob'=(13,d7 z)::(720,.arr Int 1 G4 (F5 (t.Rows.take z) n))::(5,.box (pTable t).s1.cells)::(12,.box [.mut 720])::ob):=by
 obtain ⟨tp,rows⟩:=t
 have hn:tp=(n:Int):=hn
 subst hn
 dsimp only at hr hl h2 h720 ⊢
 have hsl:((rows.drop e).take (z - e)).length=z - e:=by rw [J20,J22];omega
 have hC:=G77 ((rows.drop e).take (z - e)) n hn2 (fun r hm=>hr r (List.mem_of_mem_drop (List.mem_of_mem_take hm))) (by omega)
 obtain ⟨cs,hcs⟩:∃cs,cs=F5 ((rows.drop e).take (z - e)) n:=⟨_,rfl⟩
 have hcl:cs.length=n+1:=by rw [hcs];simp [F5]
 rw [←hcs] at hC
 refine AL.Met.introH Tryz.func165 (by decide) rfl rfl rfl (fun hH=>?_)
 refine k2 (k2 ?_)
 refine D8 (by kernel_rfl) (by kernel_rfl) (B0 (A8 Z) Z Z (B0 (A9 Z h5 Z) Z Z (B0 (A9 Z h13 Z) Z Z (B0 (A5 Z Z) Z Z (B0 (U0 Z (.pure _ _ _ _) Z Z (by (first | omega | (dsimp only;omega))) (by (first | omega | (dsimp only;omega))) (by (first | omega | (dsimp only;omega)))) Z Z (B0 (A8 Z) Z Z (B0 (A9 Z h5 Z) Z Z (B0 (P1 (hC) Z Z) Z Z (B0 (D5 Z (.pure _ _ _ _)) Z Z (B0 (A5 Z Z) Z Z (O5 ?_)))))))))))
 refine k1 (k3 ?_)
 refine C7 (X:=Nat) (fun i=>([(0,B7 z),(1,.s (.one (.ref 5 0))),(2,.s (.one (.ref 13 0))),(3,.s (.one (.ref 12 0))),(14,B9 Int 1 G4 cs),(15,B7 cs.length),(16,B7 i)]++gf,(13,d7 e)::(720,.arr Int 1 G4 (A85 rows n e z i))::(5,.box (pTable ⟨n,rows⟩).s1.cells)::(12,.box [.mut 720])::ob)) (fun i=>i≤n+1) (fun i=>n+1 - i) 0 (Nat.zero_le _) ?_ ?_
 ·dsimp only
  rw [G80]
  exact I73 ⟨le1 rfl,le1 rfl,le1 rfl,le1 rfl,le1 rfl,le1 rfl,le1 rfl,trivial⟩ hH (by repeat (first | exact F9 | refine G1 rfl ?_)) (B40 (L:=[(13,_),(720,_),(5,_),(12,_)]) ⟨h13,h720,h5,h12,trivial⟩ B06)
 intro i hi
 dsimp only at hi ⊢
 have hal:=H77 rows n e z i
 refine k2 ?_
 refine A4 (A3 (D9 Z Z) Z (A7 ?_))
 refine k1 (k2 ?_)
 refine B5 rfl (fun ht=>?_) (fun ht=>?_)
 ·have hlt:i < n+1:=by have:=A0 ht;omega
  have hv:cs[i]?=some (N7 ((rows.drop e).take (z - e)) n i):=by rw [hcs];unfold F5;exact x6 (n+1) i _ hlt
  have hg:=H78 rows n e z i hlt
  have hst:=H79 rows n e z i
  have hsp:=G79 rows n i h1
  have b1:=H33 (rows.take e) n i
  have b2:=H33 ((rows.drop e).take (z - e)) n i
  have hte:(rows.take e).length=e:=by rw [J20];omega
  have hv2:(A85 rows n e z i)[((i:Nat):Int).toNat]?=some (N7 (rows.take e) n i):=by rw [J12];exact hg
  refine k5 (k1 (k2 (k3 (k2 ?_))))
  refine A4 (A3 (A5 Z Z) Z (A3 (B1 Z (.pure _ _ _ _) Z (by omega) hv) Z (A3 (B3 Z Z) Z (A3 (A6 Z Z) Z (A3 (A6 Z Z) Z (A7 ?_))))))
  refine k1 ?_
  refine A4 (A3 (A9 Z Z Z) Z (A3 (A5 Z Z) Z (A3 (E1 Z Z Z (by omega) (by (rw [hal];omega))) Z ?_)));refine A3 (O4 Z Z hv2 Z) Z (A3 (A5 Z Z) Z (A3 (C2 Z Z (by omega)) Z (A3 (E1 Z Z Z (by omega) (by (rw [hal];omega))) Z ?_)));refine F8 (G8 TySz.out Z Z (by (rw [hal];omega)) Z Z) ?_;refine A7 ?_
  rw [J12,←hsp,hst]
  refine k4 (k1 ?_)
  refine A4 (A3 (C2 Z Z (by omega)) Z (A3 (A5 Z Z) Z (A7 ?_)))
  refine k1 ?_
  refine ⟨i+1,by omega,by omega,?_⟩
  exact I73 ⟨le1 rfl,le1 rfl,le1 rfl,le1 rfl,le1 rfl,le1 rfl,le1 rfl,trivial⟩ hH (by repeat (first | exact F9 | refine G1 rfl ?_)) (B40 (L:=[(13,_),(720,_),(5,_),(12,_)]) ⟨rfl,rfl,rfl,rfl,trivial⟩ (by repeat (first | exact B06 | refine B07 rfl ?_)))
 have hin:i=n+1:=by have:=A1 ht;omega
 rw [hin,G81]
 refine k6 (k7 (k7 (k8 Z (k1 ?_))))
 refine A4 (A3 (A5 Z Z) Z (F8 (C0 TySz.out Z Z Z Z Z Z) (A7 ?_)))
 skip
 exact D30 (rets0 rfl) (by repeat (first | exact F9 | refine G1 rfl ?_)) (B40 (L:=[(13,_),(720,_),(5,_),(12,_)]) ⟨rfl,rfl,rfl,rfl,trivial⟩ (by repeat (first | exact B06 | refine B07 rfl ?_))) ⟨rfl,rfl⟩
def D57 (n:Int):Int→List Span→Bool
 | _,[]=>true
 | e,s::r=>if s.From < e∨s.To≤s.From∨n < s.To then false else D57 n s.To r
theorem F92 (sp:List Span) (n:Int) (hl:sp.length≤536870912):FnOk Tryz.prog 164 [pSpans sp,I7 n] (fun rs=>rs=[K7 (D57 n 0 sp)]):=by
 obtain ⟨W,hW⟩:∃W,W=D57 n 0 sp:=⟨_,rfl⟩
 rw [←hW]
 refine FnOk.intro Tryz.func164 (by decide) Z Z Z Z ?_
 refine k2 ?_
 refine A4 (A3 (A6 Z Z) Z (A7 ?_))
 refine k1 (k2 ?_)
 refine A4 (A3 (A6 Z Z) Z (A7 ?_))
 refine k1 (k2 (k2 ?_))
 refine A4 (A3 (A5 Z Z) Z (A3 (D5 Z (.pure _ _ _ _)) Z (A3 (A5 Z Z) Z (A7 ?_))))
 refine k1 (k3 ?_)
 refine C7 (X:=Nat × Int) (fun x=>([(1,B7 n),(5,B7 x.2),(8,B9 Span 2 spanC sp),(9,B7 sp.length),(10,B7 x.1)],[])) (fun x=>x.1≤sp.length∧W=D57 n x.2 (sp.drop x.1)) (fun x=>sp.length - x.1) (0,0) ⟨Nat.zero_le _,hW⟩ (I72 ⟨le1 rfl,le1 rfl,le1 rfl,le1 rfl,le1 rfl,trivial⟩ trivial) ?_
 rintro ⟨k,e⟩ ⟨hk,hp⟩
 dsimp only at hk hp ⊢
 refine k2 ?_
 refine A4 (A3 (D9 Z Z) Z (A7 ?_))
 refine k1 (k2 ?_)
 refine B5 rfl (fun ht=>?_) (fun ht=>?_)
 rotate_left
 ·have hkl:k=sp.length:=by have:=A1 ht;omega
  rw [hkl,J14 (Nat.le_refl _)] at hp
  have hp:W=true:=hp
  refine k6 (k2 ?_)
  refine A4 (A3 (A6 Z Z) Z (A7 ?_))
  refine k1 (k10 ?_)
  exact B6 (H2 rfl rfl rfl) (by rw [hp])
 have hlt:k < sp.length:=by have:=A0 ht;omega
 have hv:sp[k]?=some sp[k]:=by simp [hlt]
 rw [J11 hlt,D57] at hp
 obtain ⟨s,hsd⟩:∃s,s=sp[k]:=⟨_,rfl⟩
 rw [←hsd] at hp hv
 refine k5 (k1 (k2 (k3 (k2 ?_))))
 refine A4 (A3 (B1 Z (.pure _ _ _ _) Z (by omega) hv) Z (A3 (E5 Z Z) Z (C3 (H7 757 Z) Z (F8 (C0 TySz.out Z Z Z Z Z Z) (A7 ?_)))))
 refine k1 (k2 (k2 ?_))
 refine A4 (A3 (A8 Z) Z (A3 (A9 Z Z Z) Z (A3 (A5 Z Z) Z (A3 (D9 Z Z) Z (A3 (A5 Z Z) Z (B4 Z Z Z Z (fun hg=>by rw [hg];exact A8 Z) ?_))))));refine B4 Z Z Z Z (fun hg=>by rw [hg];exact A9 Z Z Z) ?_;refine B4 Z Z Z Z (fun hg=>by rw [hg];exact A8 Z) ?_;refine B4 Z Z Z Z (fun hg=>by rw [hg];exact A9 Z Z Z) ?_;refine B4 Z Z Z Z (fun hg=>by rw [hg];exact A04 Z Z) ?_;refine A3 (B8 Z (fun h=>by first | rfl | (rw [h];rfl)) (fun h=>by first | rfl | (rw [h];rfl))) Z ?_;refine A3 (A5 Z Z) Z (B4 Z Z Z Z (fun hg=>by rw [hg];exact A8 Z) ?_);refine B4 Z Z Z Z (fun hg=>by rw [hg];exact A9 Z Z Z) ?_;refine B4 Z Z Z Z (fun hg=>by rw [hg];exact A5 Z Z) ?_;refine B4 Z Z Z Z (fun hg=>by rw [hg];exact P6 Z Z) ?_;refine A3 (B8 Z (fun h=>by first | rfl | (rw [h];rfl)) (fun h=>by first | rfl | (rw [h];rfl))) Z ?_;refine A7 ?_
 refine k1 ?_
 refine B5 rfl (fun ht=>?_) (fun ht=>?_)
 ·have hc:s.From < e∨s.To≤s.From∨n < s.To:=by
   by_cases q1:s.From < e
   ·exact .inl q1
   ·by_cases q2:s.To≤s.From
    ·exact .inr (.inl q2)
    ·simp [q1,q2] at ht
     exact .inr (.inr ht)
  rw [if_pos hc] at hp
  refine k2 ?_
  refine A4 (A3 (A6 Z Z) Z (A7 ?_))
  refine k1 (k10 (k11 (k12 (k11 (k11 (k12 (k11 ?_)))))))
  exact B6 (H2 rfl rfl rfl) (by rw [hp])
 have hc:¬(s.From < e∨s.To≤s.From∨n < s.To):=by
  rintro (q | q | q)
  ·simp [q] at ht
  ·simp [q] at ht
  ·simp [q] at ht
 rw [if_neg hc] at hp
 refine k5 (k1 ?_)
 refine A4 (A3 (A8 Z) Z (A3 (A9 Z Z Z) Z (A3 (A6 Z Z) Z (A7 ?_))))
 refine k4 (k1 ?_)
 refine A4 (A3 (C2 Z Z (by omega)) Z (A3 (A5 Z Z) Z (A7 ?_)))
 refine k1 ?_
 exact ⟨(k+1,s.To),⟨hlt,hp⟩,by dsimp only;omega,I72 ⟨le1 rfl,le1 rfl,le1 rfl,le1 rfl,le1 rfl,trivial⟩ trivial⟩
end Go.Proofs.YtbiadkkamhpdnaaGreatDoor
namespace Go.Proofs.YtbiadkkamhpdnaaGreatDoor
open Go Go.AL
set_option maxRecDepth 100000
set_option maxHeartbeats 1000000
abbrev pSpan (s:Span):PV:=.agg [.v (.int .i64 s.From),.v (.int .i64 s.To)]
theorem H80 (r:Row):FnOk Tryz.prog 215 [pRow r] (fun rs=>rs=[K7 (Q7 r)]):=by
 refine FnOk.intro Tryz.func215 (by decide) Z Z Z Z ?_
 refine k2 ?_
 refine A4 (C3 (Q0 1 Z Z Z) Z (A3 (A6 Z Z) Z (A7 ?_)))
 refine k1 (k2 ?_)
 refine A4 (A3 (A8 Z) Z (A3 (A9 Z Z Z) Z (A3 (K5 Z) Z (A3 (A5 Z Z) Z (B4 Z Z Z Z (fun hg=>by rw [hg];exact A8 Z) ?_)))));refine B4 Z Z Z Z (fun hg=>by rw [hg];exact A9 Z Z Z) ?_;refine B4 Z Z Z Z (fun hg=>by rw [hg];exact M1 Z Z) ?_;refine A3 (B8 Z (fun h=>by first | rfl | (rw [h];rfl)) (fun h=>by first | rfl | (rw [h];rfl))) Z ?_;refine A3 (A6 Z Z) Z (A7 ?_)
 refine k1 (k10 ?_)
 refine B6 (H2 Z Z Z) ?_
 unfold Q7
 cases r.Lost<;>simp
theorem E68 (l:List Bool) (hl:l.length≤536870912):FnOk Tryz.prog 106 [pBools l] (fun rs=>rs=[pSpans (S8 l)]):=by
 obtain ⟨W,hW⟩:∃W,W=S8 l:=⟨_,rfl⟩
 rw [←hW]
 refine FnOk.intro Tryz.func106 (by decide) Z Z Z Z ?_
 refine k2 ?_
 refine A4 (A3 (A6 Z Z) Z (A7 ?_))
 refine k1 (k2 ?_)
 refine A4 (C3 (I22 750 _ spanC Z) Z (A7 ?_))
 refine k1 (k2 (k2 ?_))
 refine A4 (A3 (A6 Z Z) Z (A7 ?_))
 refine k1 (k3 ?_)
 refine C7 (X:=Nat × List Span) (fun x=>([(0,B9 Bool 1 s8 l),(3,.s (.one (.mut 750))),(4,B7 x.1)],[(750,.grow 88 Span 2 spanC x.2)])) (fun x=>x.1≤l.length∧B57 x.1 x.2∧(w8 l x.1=true→x.2≠[])∧W=B92 (l.drop x.1) x.1 (w8 l x.1) x.2) (fun x=>l.length - x.1) (0,[]) ⟨Nat.zero_le _,⟨Nat.le_refl _,(fun s hs=>by cases hs)⟩,(fun h=>by cases h),hW⟩ (I72 ⟨le1 rfl,le1 rfl,le1 rfl,trivial⟩ ⟨rfl,trivial⟩) ?_
 rintro ⟨i,out⟩ ⟨hi,hin,hne,hp⟩
 dsimp only at hi hin hne hp ⊢
 refine k2 (k2 ?_)
 refine A4 (A3 (A5 Z Z) Z (A3 (A5 Z Z) Z (A3 (D5 Z (.pure _ _ _ _)) Z (A3 (D9 Z Z) Z (A7 ?_)))))
 refine k1 ?_
 refine B5 rfl (fun ht=>?_) (fun ht=>?_)
 rotate_left
 ·have hil:i=l.length:=by have:=A1 ht;omega
  rw [hil,J14 (Nat.le_refl _)] at hp
  have hp:W=out:=hp
  refine H3 (Sees.freezeG (k:=750) Z Z) ?_
  refine k6 (k2 ?_)
  refine A4 (A3 (A5 Z Z) Z (A3 (A6 Z Z) Z (A7 ?_)))
  refine k1 (k10 ?_)
  exact B6 (H2 rfl rfl rfl) (by rw [hp])
 have hlt:i < l.length:=by have:=A0 ht;omega
 have hv:l[i]?=some (l.getD i false):=by simp [hlt]
 rw [E88 hlt] at hp
 have hpn:w8 l (i+1)=l.getD i false:=by unfold w8;rw [if_neg (by omega)];rfl
 have hst:=F47 (l.getD i false) (w8 l i) hin
 rw [←hpn] at hp hst
 obtain ⟨b,hb⟩:∃b,b=l.getD i false:=⟨_,rfl⟩
 rw [←hb] at hv hpn
 rw [hpn] at hp hst
 have hlen:=hin.1
 cases b with
 | false =>
  rw [if_neg (by decide)] at hp hst
  refine k5 (k1 (k2 (k3 (k2 (k2 ?_)))))
  refine A4 (A3 (A5 Z Z) Z (A3 (A5 Z Z) Z (A3 (B1 Z (.pure _ _ _ _) Z (by omega) hv) Z (A3 (B3 Z Z) Z (A3 (A5 Z Z) Z (N4 Z Z Z (by decide) Z (N4 Z Z Z (by decide) Z (N4 Z Z Z (by decide) Z (G7 (s:=.any) Z Z Z .un Z (fun h=>absurd h (by decide)) (G7 (s:=.any) Z Z Z .un Z (fun h=>absurd h (by decide)) (G7 (s:=.any) Z Z Z .un Z (fun h=>absurd h (by decide)) (G7 (s:=.any) Z Z Z .un Z (fun h=>absurd h (by decide)) (G7 (s:=.any) Z Z Z .un Z (fun h=>absurd h (by decide)) (G7 (s:=.any) Z Z Z .un Z (fun h=>absurd h (by decide)) (N4 Z Z Z (by decide) Z (A3 (B02 Z (rfl) Z) Z (A7 ?_)))))))))))))))))
  refine k1 ?_
  refine B5 rfl (fun ht=>?_) (fun ht=>?_)
  ·cases ht
  refine k5 (k1 (k2 ?_))
  refine A4 (A3 (A5 Z Z) Z (A3 (A5 Z Z) Z (A3 (B1 Z (.pure _ _ _ _) Z (by omega) hv) Z (A3 (B3 Z Z) Z (A7 ?_)))))
  refine k1 ?_
  refine B5 rfl (fun ht=>?_) (fun ht=>?_)
  ·cases ht
  refine k5 (k4 (k1 ?_))
  refine A4 (A3 (A5 Z Z) Z (A3 (C2 Z Z (by omega)) Z (A3 (A6 Z Z) Z (A7 ?_))))
  refine k1 ?_
  exact ⟨(i+1,out),⟨by dsimp only;omega,hst,(fun h=>by rw [hpn] at h;cases h),by rw [hpn];exact hp⟩,by dsimp only;omega,I72 ⟨le1 rfl,le1 rfl,le1 rfl,trivial⟩ ⟨rfl,trivial⟩⟩
 | true =>
  rw [if_pos rfl] at hp hst
  have hlast:∀(q:List Span) (s:Span),q.getLast?=some s→q[((q.length:Int) - 1).toNat]?=some s∧∀v:Int,q.set (((q.length:Int) - 1).toNat) ⟨s.From,v⟩=W1 q v:=by
   intro q s hq
   have hqne:q≠[]:=fun e=>by rw [e] at hq;cases hq
   have hq1:=List.length_pos_iff.2 hqne
   rw [show ((q.length:Int) - 1).toNat=q.length - 1 by omega]
   refine ⟨by rw [←List.getLast?_eq_getElem?];exact hq,fun v=>?_⟩
   unfold W1
   rw [hq]
   dsimp only
   have hd:=List.dropLast_concat_getLast hqne
   conv=>lhs;rw [←hd]
   rw [List.set_append_right _ _ (by rw [List.length_dropLast,J06,List.length_dropLast];simp)]
   simp
  by_cases hpv:w8 l i=true
  ·rw [if_pos hpv] at hp hst
   have hne:=hne hpv
   obtain ⟨s,hs⟩:∃s,out.getLast?=some s:=⟨_,List.getLast?_eq_some_getLast hne⟩
   obtain ⟨hv2,hset⟩:=hlast out s hs
   have hset:=hset ((i:Int)+1)
   have hi0:i≠0:=fun e=>by rw [e] at hpv;cases hpv
   have hvp:l[((i:Int) - 1).toNat]?=some true:=by
    unfold w8 at hpv
    rw [if_neg hi0] at hpv
    rw [show ((i:Int) - 1).toNat=i - 1 by omega,←hpv]
    simp [show i - 1 < l.length by omega]
   have h0:decide ((i:Int)=0)=false:=decide_eq_false (by omega)
   have hq1:=List.length_pos_iff.2 hne
   refine k5 (k1 (k2 (k3 (k2 (k2 ?_)))))
   refine A4 (A3 (A5 Z Z) Z (A3 (A5 Z Z) Z (A3 (B1 Z (.pure _ _ _ _) Z (by omega) hv) Z (A3 (B3 Z Z) Z (A3 (A5 Z Z) Z (K9 Z Z Z Z (A3 (A5 Z Z) Z (K9 Z Z Z Z (A3 (M1 Z Z) Z (K9 Z Z Z Z (A3 (A5 Z Z) Z (K9 Z Z Z h0 (A3 (A5 Z Z) Z (K9 Z Z Z h0 (A3 (A5 Z Z) Z (K9 Z Z Z h0 (A3 (P9 Z Z (by omega)) Z (K9 Z Z Z h0 (A3 (B1 Z (.pure _ _ _ _) Z (by omega) hvp) Z (K9 Z Z Z h0 (A3 (B3 Z Z) Z (K9 Z Z Z h0 (A3 (K5 Z) Z ?_)))))))))))))))))))))));refine K9 Z Z Z Z (A3 (B02 Z (h0) Z) Z (A3 (C07 Z (rfl) Z) Z (A7 ?_)))
   refine k1 ?_
   refine B5 rfl (fun ht=>?_) (fun ht=>?_)
   ·cases ht
   refine k5 (k1 (k2 ?_))
   refine A4 (A3 (A5 Z Z) Z (A3 (A5 Z Z) Z (A3 (B1 Z (.pure _ _ _ _) Z (by omega) hv) Z (A3 (B3 Z Z) Z (A7 ?_)))))
   refine k1 ?_
   refine B5 rfl (fun ht=>?_) (fun ht=>?_)
   rotate_left
   ·cases ht
   skip
   refine A4 (A3 (A5 Z Z) Z (A3 (A5 Z Z) Z (A3 (D12 Z Z) Z (A3 (P9 Z Z (by omega)) Z (A3 (A5 Z Z) Z (A3 (C2 Z Z (by omega)) Z (A3 (n9 Z Z Z (by omega) (by omega)) Z (A3 (w9 Z) Z (F8 (B38 (⟨s.From,(i:Int)+1⟩) TySz.out Z Z hv2 Z Z Z Z (fun _ _ _ h=>B01 h) (by intro j h1 h2;rcases j with _ | _ | _ | _ | _ | _ | _ | j<;>first | rfl | omega)) ?_)))))))));refine A7 ?_
   rw [hset]
   refine k4 (k1 ?_)
   refine A4 (A3 (A5 Z Z) Z (A3 (C2 Z Z (by omega)) Z (A3 (A6 Z Z) Z (A7 ?_))))
   refine k1 ?_
   refine ⟨(i+1,W1 out ((i:Int)+1)),⟨by dsimp only;omega,hst,(fun _ h=>?_),by rw [hpn];exact hp⟩,by dsimp only;omega,I72 ⟨le1 rfl,le1 rfl,le1 rfl,trivial⟩ ⟨rfl,trivial⟩⟩
   dsimp only at h
   unfold W1 at h
   rw [hs] at h
   simp at h
  ·rw [if_neg hpv] at hp hst
   obtain ⟨o2,ho2⟩:∃o2,o2=out++[(⟨i,i⟩:Span)]:=⟨_,rfl⟩
   obtain ⟨hv2,hset⟩:=hlast o2 ⟨i,i⟩ (by rw [ho2];simp)
   have hset:=hset ((i:Int)+1)
   have ho2l:o2.length=out.length+1:=by rw [ho2];simp
   rw [←ho2] at hp hst
   have hne2:W1 o2 ((i:Int)+1)≠[]:=by rw [←hset];intro h;have:=congrArg List.length h;rw [J56,J10] at this;omega
   by_cases hi0:i=0
   ·have h0:decide ((i:Int)=0)=true:=decide_eq_true (by omega)
    refine k5 (k1 (k2 (k3 (k2 (k2 ?_)))))
    refine A4 (A3 (A5 Z Z) Z (A3 (A5 Z Z) Z (A3 (B1 Z (.pure _ _ _ _) Z (by omega) hv) Z (A3 (B3 Z Z) Z (A3 (A5 Z Z) Z (K9 Z Z Z Z (A3 (A5 Z Z) Z (K9 Z Z Z Z (A3 (M1 Z Z) Z (K9 Z Z Z Z (A3 (A5 Z Z) Z (N4 Z Z Z (by rw [h0];decide) Z ?_))))))))))));refine N4 Z Z Z (by rw [h0];decide) Z ?_;refine N4 Z Z Z (by rw [h0];decide) Z ?_;refine N4 Z Z Z (by rw [h0];decide) Z ?_;refine N4 Z Z Z (by rw [h0];decide) Z ?_;refine N4 Z Z Z (by rw [h0];decide) Z ?_;refine K9 Z Z Z Z (A3 (C07 Z (h0) Z) Z (A3 (C07 Z (rfl) Z) Z (A7 ?_)))
    refine k1 ?_
    refine B5 rfl (fun ht=>?_) (fun ht=>?_)
    rotate_left
    ·cases ht
    skip
    refine A4 (A3 (A5 Z Z) Z (A3 (A5 Z Z) Z (A3 (A5 Z Z) Z (A3 (H6 Z) Z (A3 (C8 (c:=spanC) (ys:=[⟨i,i⟩]) (E0 Z Z Z Z F6) Z Z Z) Z (C3 (A47 Z Z Z (.pure _ _ _ _) (by (simp;omega)) Z) Z (A3 (A6 Z Z) Z (A7 ?_))))))))
    rw [←ho2]
    refine k1 (k2 ?_)
    refine A4 (A3 (A5 Z Z) Z (A3 (A5 Z Z) Z (A3 (B1 Z (.pure _ _ _ _) Z (by omega) hv) Z (A3 (B3 Z Z) Z (A7 ?_)))))
    refine k1 ?_
    refine B5 rfl (fun ht=>?_) (fun ht=>?_)
    rotate_left
    ·cases ht
    skip
    refine A4 (A3 (A5 Z Z) Z (A3 (A5 Z Z) Z (A3 (D12 Z Z) Z (A3 (P9 Z Z (by omega)) Z (A3 (A5 Z Z) Z (A3 (C2 Z Z (by omega)) Z (A3 (n9 Z Z Z (by omega) (by omega)) Z (A3 (w9 Z) Z (F8 (B38 (⟨i,(i:Int)+1⟩) TySz.out Z Z hv2 Z Z Z Z (fun _ _ _ h=>B01 h) (by intro j h1 h2;rcases j with _ | _ | _ | _ | _ | _ | _ | j<;>first | rfl | omega)) ?_)))))))));refine A7 ?_
    rw [hset]
    refine k4 (k1 ?_)
    refine A4 (A3 (A5 Z Z) Z (A3 (C2 Z Z (by omega)) Z (A3 (A6 Z Z) Z (A7 ?_))))
    refine k1 ?_
    exact ⟨(i+1,W1 o2 ((i:Int)+1)),⟨by dsimp only;omega,hst,(fun _=>hne2),by rw [hpn];exact hp⟩,by dsimp only;omega,I72 ⟨le1 rfl,le1 rfl,le1 rfl,trivial⟩ ⟨rfl,trivial⟩⟩
   ·have h0:decide ((i:Int)=0)=false:=decide_eq_false (by omega)
    have hvp:l[((i:Int) - 1).toNat]?=some false:=by
     unfold w8 at hpv
     rw [if_neg hi0] at hpv
     rw [show ((i:Int) - 1).toNat=i - 1 by omega]
     have hlt2:i - 1 < l.length:=by omega
     rw [J08,J05 hlt2] at hpv
     rw [J05 hlt2]
     simpa using hpv
    refine k5 (k1 (k2 (k3 (k2 (k2 ?_)))))
    refine A4 (A3 (A5 Z Z) Z (A3 (A5 Z Z) Z (A3 (B1 Z (.pure _ _ _ _) Z (by omega) hv) Z (A3 (B3 Z Z) Z (A3 (A5 Z Z) Z (K9 Z Z Z Z (A3 (A5 Z Z) Z (K9 Z Z Z Z (A3 (M1 Z Z) Z (K9 Z Z Z Z (A3 (A5 Z Z) Z (K9 Z Z Z h0 (A3 (A5 Z Z) Z (K9 Z Z Z h0 (A3 (A5 Z Z) Z (K9 Z Z Z h0 (A3 (P9 Z Z (by omega)) Z (K9 Z Z Z h0 (A3 (B1 Z (.pure _ _ _ _) Z (by omega) hvp) Z (K9 Z Z Z h0 (A3 (B3 Z Z) Z (K9 Z Z Z h0 (A3 (K5 Z) Z ?_)))))))))))))))))))))));refine K9 Z Z Z Z (A3 (B02 Z (h0) Z) Z (A3 (C07 Z (rfl) Z) Z (A7 ?_)))
    refine k1 ?_
    refine B5 rfl (fun ht=>?_) (fun ht=>?_)
    rotate_left
    ·cases ht
    skip
    refine A4 (A3 (A5 Z Z) Z (A3 (A5 Z Z) Z (A3 (A5 Z Z) Z (A3 (H6 Z) Z (A3 (C8 (c:=spanC) (ys:=[⟨i,i⟩]) (E0 Z Z Z Z F6) Z Z Z) Z (C3 (A47 Z Z Z (.pure _ _ _ _) (by (simp;omega)) Z) Z (A3 (A6 Z Z) Z (A7 ?_))))))))
    rw [←ho2]
    refine k1 (k2 ?_)
    refine A4 (A3 (A5 Z Z) Z (A3 (A5 Z Z) Z (A3 (B1 Z (.pure _ _ _ _) Z (by omega) hv) Z (A3 (B3 Z Z) Z (A7 ?_)))))
    refine k1 ?_
    refine B5 rfl (fun ht=>?_) (fun ht=>?_)
    rotate_left
    ·cases ht
    skip
    refine A4 (A3 (A5 Z Z) Z (A3 (A5 Z Z) Z (A3 (D12 Z Z) Z (A3 (P9 Z Z (by omega)) Z (A3 (A5 Z Z) Z (A3 (C2 Z Z (by omega)) Z (A3 (n9 Z Z Z (by omega) (by omega)) Z (A3 (w9 Z) Z (F8 (B38 (⟨i,(i:Int)+1⟩) TySz.out Z Z hv2 Z Z Z Z (fun _ _ _ h=>B01 h) (by intro j h1 h2;rcases j with _ | _ | _ | _ | _ | _ | _ | j<;>first | rfl | omega)) ?_)))))))));refine A7 ?_
    rw [hset]
    refine k4 (k1 ?_)
    refine A4 (A3 (A5 Z Z) Z (A3 (C2 Z Z (by omega)) Z (A3 (A6 Z Z) Z (A7 ?_))))
    refine k1 ?_
    exact ⟨(i+1,W1 o2 ((i:Int)+1)),⟨by dsimp only;omega,hst,(fun _=>hne2),by rw [hpn];exact hp⟩,by dsimp only;omega,I72 ⟨le1 rfl,le1 rfl,le1 rfl,trivial⟩ ⟨rfl,trivial⟩⟩
theorem I39 (t:Table) (hr:K4 t.Rows) (hl:t.Rows.length≤268435456) (hx:O0 t.Rows≤536870912):FnOk Tryz.prog 171 [pTable t] (fun rs=>rs=[pSpans (T4 t).1,I7 (T4 t).2]):=by
 refine FnOk.intro Tryz.func171 (by decide) Z Z Z Z ?_
 refine k2 ?_
 refine A4 (C3 (Q0 1 Z Z Z) Z (A3 (A6 Z Z) Z (A3 (A6 Z Z) Z (A7 ?_))))
 refine k1 (k2 (k2 ?_))
 refine A4 (A3 (D7 Z Z Z) Z (C5 (G63 t hr (by omega) hx) Z Z Z ?_));rintro _ rfl;refine A3 (A6 Z Z) Z (A7 ?_)
 refine k1 (k2 ?_)
 refine A4 (A3 (A5 Z Z) Z (A3 (O3 Z Z) Z (A7 ?_)))
 refine k1 ?_
 refine B5 rfl (fun ht=>?_) (fun ht=>?_)
 ·have h:=A0 ht
  refine k2 ?_
  refine A4 (A3 (A5 Z Z) Z (A3 (J6 _ 2 spanC) Z (A3 (A6 Z Z) Z (A7 ?_))))
  refine k1 (k10 (k11 ?_))
  exact B6 (Z9 rfl rfl rfl rfl rfl) (by unfold T4;rw [if_pos h])
 have h:=A1 ht
 refine k5 (k1 (k2 ?_))
 refine A4 (C3 (T6 751 _ s8 Z) Z (A7 ?_))
 refine k1 (k2 (k2 ?_))
 refine A4 (A3 (A6 Z Z) Z (A7 ?_))
 refine k1 (k3 ?_)
 refine C7 (X:=Nat) (fun i=>([(1,.s (.one (.ref 1 0))),(5,.s (.one (.buf 751 Bool 1 s8 ((t.Rows.take i).map fun r=>!Q7 r)))),(6,B7 i)],[(1,.box (pTable t).s1.cells),(751,.spare ((t.Rows.take i).map fun r=>!Q7 r).length 1 4)])) (fun i=>i≤t.Rows.length) (fun i=>t.Rows.length - i) 0 (Nat.zero_le _) (I72 ⟨le1 rfl,le1 rfl,le1 rfl,trivial⟩ ⟨rfl,rfl,trivial⟩) ?_
 intro i hi
 dsimp only at hi ⊢
 have hml:((t.Rows.take i).map fun r=>!Q7 r).length=i:=by simp;omega
 refine k2 (k2 ?_)
 refine A4 (A3 (A5 Z Z) Z (A3 (A8 Z) Z (A3 (A9 Z Z Z) Z (A3 (D5 Z (.pure _ _ _ _)) Z (A3 (D9 Z Z) Z (A7 ?_))))))
 refine k1 ?_
 refine B5 rfl (fun ht=>?_) (fun ht=>?_)
 ·have hlt:i < t.Rows.length:=by have:=A0 ht;omega
  have hv:t.Rows[i]?=some t.Rows[i]:=by simp [hlt]
  have hst:((t.Rows.take (i+1)).map fun r=>!Q7 r)=((t.Rows.take i).map fun r=>!Q7 r)++[!Q7 t.Rows[i]]:=by
   rw [J13 hlt];simp only [J19,J16,J40]
  obtain ⟨r,hrr⟩:∃r,r=t.Rows[i]:=⟨_,rfl⟩
  rw [←hrr] at hv hst
  refine k5 (k1 (k2 (k3 ?_)))
  refine A4 (A3 (A5 Z Z) Z (A3 (A8 Z) Z (A3 (A9 Z Z Z) Z (A3 (A5 Z Z) Z (A3 (B1 Z (.pure _ _ _ _) Z (by omega) hv) Z (A3 (E5 Z Z) Z (C5 (H80 r) Z Z Z ?_)))))));rintro _ rfl;refine A3 (K5 Z) Z (A3 (C8 (c:=s8) (ys:=[!Q7 r]) (E0 Z Z Z Z F6) Z Z Z) Z (C3 (G9 Z Z Z (.pure _ _ _ _) (by (rw [hml];simp only [J07,J10];omega)) Z) Z ?_));refine A3 (A6 Z Z) Z (A7 ?_)
  refine k4 (k1 ?_)
  refine A4 (A3 (A5 Z Z) Z (A3 (C2 Z Z (by omega)) Z (A3 (A6 Z Z) Z (A7 ?_))))
  refine k1 ?_
  refine ⟨i+1,by omega,by omega,?_⟩
  rw [hst]
  exact I72 ⟨le1 rfl,le1 rfl,le1 rfl,trivial⟩ ⟨rfl,rfl,trivial⟩
 ·have hil:i=t.Rows.length:=by have:=A1 ht;omega
  rw [hil,J23]
  have hml2:(t.Rows.map fun r=>!Q7 r).length=t.Rows.length:=by simp
  refine k6 (k2 ?_)
  refine A4 (A3 (A5 Z Z) Z (C5 (E68 (t.Rows.map fun r=>!Q7 r) (by omega)) Z Z Z ?_));rintro _ rfl;refine A3 (A6 Z Z) Z (A3 (A6 Z Z) Z (A7 ?_))
  refine k1 (k10 ?_)
  exact B6 (Z9 rfl rfl rfl rfl rfl) (by unfold T4;rw [if_neg h])
theorem H81 (t:Table) (s:Span) (hn:0≤t.Parents∧t.Parents≤64) (h1:0≤s.From∧s.From≤t.Rows.length) (h2:0≤s.To∧s.To≤t.Rows.length) (hl:t.Rows.length≤268435456) :
  FnOk Tryz.prog 172 [pTable t,pSpan s] (fun rs=>rs=[K7 (W2 t s)]):=by
 obtain ⟨F,hF⟩:∃F:Nat,s.From=F:=⟨s.From.toNat,by omega⟩
 obtain ⟨T,hT⟩:∃T:Nat,s.To=T:=⟨s.To.toNat,by omega⟩
 obtain ⟨R,hR⟩:∃R,R=(t.Rows.drop F).take (T - F):=⟨_,rfl⟩
 have hRl:R.length=T - F:=by rw [hR,J20,J22];omega
 have hD:W2 t s=(List.range t.Parents.toNat).all fun p=>!decide (w7 R / 2 ^ p % 2=0):=by unfold W2;rw [hF,hT,J12,J12,←hR]
 have hain:∀q:List Row,0≤w7 q∧w7 q < 4294967296:=by
  have key:∀(q:List Row) (a:Int),(0≤a∧a < 4294967296)→0≤q.foldl (fun a r=>I8 a r.Marks) a∧q.foldl (fun a r=>I8 a r.Marks) a < 4294967296:=by
   intro q
   induction q with
   | nil=>intro a h;exact h
   | cons x r ih=>intro a _;exact ih _ (D63 _)
  exact fun q=>key q 0 (by decide)
 refine FnOk.intro Tryz.func172 (by decide) Z Z Z Z ?_
 refine k2 ?_
 refine A4 (C3 (Q0 2 Z Z Z) Z (C3 (Q0 3 Z Z Z) Z (A3 (A6 Z Z) Z (A7 ?_))))
 refine k1 (k2 ?_)
 refine A4 (A3 (A6 Z Z) Z (A7 ?_))
 refine k1 (k2 (k2 ?_))
 refine A4 (A3 (A8 Z) Z (A3 (A9 Z Z Z) Z (A3 (A6 Z Z) Z (A7 ?_))))
 refine k1 (k3 ?_)
 rw [hF]
 refine C7 (X:=Nat) (fun k=>([(2,.s (.one (.ref 2 0))),(3,.s (.one (.ref 3 0))),(5,J4 (.int .u32 (w7 (R.take k)))),(6,B7 ((F+k:Nat):Int))],[(2,.box (pTable t).s1.cells),(3,.box (pSpan s).s1.cells)])) (fun k=>k≤R.length) (fun k=>R.length - k) 0 (Nat.zero_le _) (I72 ⟨le1 rfl,le1 rfl,le1 rfl,le1 rfl,trivial⟩ ⟨rfl,rfl,trivial⟩) ?_
 intro k hk
 dsimp only at hk ⊢
 refine k2 (k2 ?_)
 refine A4 (A3 (A5 Z Z) Z (A3 (A8 Z) Z (A3 (A9 Z Z Z) Z (A3 (D9 Z Z) Z (A7 ?_)))))
 refine k1 ?_
 refine B5 rfl (fun ht=>?_) (fun ht=>?_)
 ·have hlt:k < R.length:=by have:=A0 ht;omega
  have hv:t.Rows[((F+k:Nat):Int).toNat]?=some R[k]:=by
   have e1:R[k]?=some R[k]:=by simp
   have e2:R[k]?=t.Rows[F+k]?:=by rw [hR,J41 (by omega),J44]
   rw [J12,←e2]
   exact e1
  have hst:w7 (R.take (k+1))=I8 (w7 (R.take k)) R[k].Marks:=by
   unfold w7
   rw [J13 hlt,J34];rfl
  obtain ⟨r,hrr⟩:∃r,r=R[k]:=⟨_,rfl⟩
  rw [←hrr] at hv hst
  refine k5 (k1 (k2 (k3 ?_)))
  refine A4 (A3 (A5 Z Z) Z (A3 (A8 Z) Z (A3 (A9 Z Z Z) Z (A3 (A5 Z Z) Z (A3 (B1 Z (.pure _ _ _ _) Z (by omega) hv) Z (A3 (F1 Z) Z (A3 (B3 Z Z) Z (A3 (V7 Z Z Z (fun _=>rfl)) Z (A3 (A6 Z Z) Z (A7 ?_))))))))))
  refine k4 (k1 ?_)
  refine A4 (A3 (A5 Z Z) Z (A3 (C2 Z Z (by omega)) Z (A3 (A6 Z Z) Z (A7 ?_))))
  refine k1 ?_
  refine ⟨k+1,by omega,by omega,?_⟩
  rw [hst,show ((F+(k+1):Nat):Int)=((F+k:Nat):Int)+1 by omega]
  exact I72 ⟨le1 rfl,le1 rfl,le1 rfl,le1 rfl,trivial⟩ ⟨rfl,rfl,trivial⟩
 have hkl:k=R.length∨True:=.inr trivial
 have hT2:(T:Int)≤((F+k:Nat):Int):=by have:=A1 ht;omega
 have hkR:R.take k=R:=J35 (by omega)
 rw [hkR]
 obtain ⟨A,hA⟩:∃A,A=w7 R:=⟨_,rfl⟩
 have hAin:=hain R
 rw [←hA] at hAin hD ⊢
 obtain ⟨n,hn2⟩:∃n:Nat,t.Parents=n:=⟨t.Parents.toNat,by omega⟩
 rw [hn2,J12] at hD
 refine k6 (k2 (k2 ?_))
 refine A4 (A3 (A6 Z Z) Z (A7 ?_))
 refine k1 (k3 ?_)
 refine C7 (X:=Nat) (fun p=>([(2,.s (.one (.ref 2 0))),(5,J4 (.int .u32 A)),(7,B7 p)],[(2,.box (pTable t).s1.cells)])) (fun p=>p≤n∧∀q,q < p→¬A / 2 ^ q % 2=0) (fun p=>n - p) 0 ⟨Nat.zero_le _,fun q hq=>by omega⟩ (I72 ⟨le1 rfl,le1 rfl,le1 rfl,trivial⟩ ⟨rfl,trivial⟩) ?_
 rintro p ⟨hp,hq⟩
 dsimp only at hp hq ⊢
 refine k2 (k2 ?_)
 refine A4 (A3 (A5 Z Z) Z (A3 (A8 Z) Z (A3 (A9 Z Z Z) Z (A3 (D9 Z Z) Z (A7 ?_)))))
 refine k1 ?_
 refine B5 rfl (fun ht=>?_) (fun ht=>?_)
 ·have hlt:p < n:=by have:=A0 ht;omega
  have hu:=A61 (n:=(p:Int)) (by omega)
  have h3:0≤A / 2 ^ p:=Int.ediv_nonneg hAin.1 (Int.pow_nonneg (by decide))
  have h4:A / 2 ^ p≤A:=Int.ediv_le_self _ hAin.1
  have e1:=C24 (A / 2 ^ p) (by omega)
  have e32:A.fdiv (2 ^ (min (p:Int).toNat IntKind.u32.bits))=A / 2 ^ p∨32 < p:=by
   by_cases h:p≤32
   ·exact .inl (E73 A p (by omega))
   ·exact .inr (by omega)
  have e33:A.fdiv (2 ^ (min (p:Int).toNat IntKind.u32.bits))=A / 2 ^ p:=by
   rcases e32 with h | h
   ·exact h
   ·have h5:min (p:Int).toNat IntKind.u32.bits=32:=by rw [J12];exact Nat.min_eq_right (by show 32≤p;omega)
    rw [h5,Int.fdiv_eq_ediv_of_nonneg _ (Int.pow_nonneg (by decide))]
    have h6:A / 2 ^ 32=0:=Int.ediv_eq_zero_of_lt hAin.1 (by have:(2:Int) ^ 32=4294967296:=rfl;omega)
    have h7:A / 2 ^ p=0:=Int.ediv_eq_zero_of_lt hAin.1 (by
     have h8:(2:Nat) ^ 32≤2 ^ p:=Nat.pow_le_pow_right (by decide) (by omega)
     have h9:((2 ^ p:Nat):Int)=2 ^ p:=by simp
     have h10:(2:Nat) ^ 32=4294967296:=rfl
     omega)
    rw [h6,h7]
  refine k5 (k1 (k2 (k3 (k2 ?_))))
  refine A4 (A3 (A5 Z Z) Z (A3 (A5 Z Z) Z (A3 (M9 Z) Z (A3 (A28 Z Z (by (rw [hu];omega))) Z ?_))));refine A3 (V7 Z Z Z (fun _=>rfl)) Z (A3 (M1 Z Z) Z (A7 ?_))
  rw [hu,e33,e1]
  refine k1 ?_
  refine B5 rfl (fun ht=>?_) (fun ht=>?_)
  ·have h:=A0 ht
   refine k2 ?_
   refine A4 (A3 (A6 Z Z) Z (A7 ?_))
   refine k1 (k10 (k12 (k11 (k11 (k12 (k11 ?_))))))
   refine B6 (rs:=[K7 false]) (H2 Z Z Z) ?_
   rw [hD,Eq.comm]
   congr 3
   rw [Bool.eq_false_iff]
   intro hall
   have:=List.all_eq_true.1 hall p (List.mem_range.2 hlt)
   simp [h] at this
  ·have h:=A1 ht
   refine k5 (k4 (k1 ?_))
   refine A4 (A3 (A5 Z Z) Z (A3 (C2 Z Z (by omega)) Z (A3 (A6 Z Z) Z (A7 ?_))))
   refine k1 ?_
   refine ⟨p+1,⟨by omega,fun q hq2=>?_⟩,by omega,I72 ⟨le1 rfl,le1 rfl,le1 rfl,trivial⟩ ⟨rfl,trivial⟩⟩
   by_cases e:q=p
   ·subst e;exact h
   ·exact hq q (by omega)
 ·have hpn:p=n:=by have:=A1 ht;omega
  subst hpn
  refine k6 (k2 ?_)
  refine A4 (A3 (A6 Z Z) Z (A7 ?_))
  refine k1 (k10 ?_)
  refine B6 (rs:=[K7 true]) (H2 Z Z Z) ?_
  rw [hD,Eq.comm]
  congr 3
  rw [List.all_eq_true]
  intro q hq2
  have:=hq q (List.mem_range.1 hq2)
  simp [this]
theorem I40 {t:Table} (h:(T4 t).2=0):I2 t=0∧(1≤t.Parents∧t.Parents≤32):=by
 unfold T4 at h
 by_cases hc:I2 t=0
 ·refine ⟨hc,?_⟩
  unfold I2 at hc
  split at hc
  ·cases hc
  ·omega
 ·rw [if_pos hc] at h;exact absurd h hc
theorem F93 {α:Type} (L:List α) (p:α→Bool) (k:Nat) (h:k < L.length):(L.take (k+1)).filter p=(L.take k).filter p++if p L[k]=true then [L[k]] else []:=by
 rw [J13 h,J48]
 congr 1
 rw [J47];split<;>rfl
theorem D04 (t:Table) (d:Bool) (hr:K4 t.Rows) (hl:t.Rows.length≤134217728) (hx:O0 t.Rows≤536870912) :
  FnOk Tryz.prog 105 [pTable t,K7 d] (fun rs=>rs=[pSpans (F4 t d).1,I7 (F4 t d).2]):=by
 refine FnOk.intro Tryz.func105 (by decide) Z Z Z Z ?_
 refine k2 ?_
 refine A4 (C3 (Q0 2 Z Z Z) Z (A3 (A6 Z Z) Z (A3 (A6 Z Z) Z (A7 ?_))))
 refine k1 (k2 ?_)
 refine A4 (A3 (D7 Z Z Z) Z (C5 (I39 t hr (by omega) hx) Z Z Z ?_));rintro _ rfl;refine A3 (A5 Z Z) Z (A3 (D2 Z Z) Z (A3 (D2 Z Z) Z (A3 (A6 Z Z) Z (A3 (A6 Z Z) Z (A7 ?_)))))
 refine k1 (k2 (k2 ?_))
 refine A4 (A3 (A5 Z Z) Z (A3 (O3 Z Z) Z (A7 ?_)))
 refine k1 ?_
 refine B5 rfl (fun ht=>?_) (fun ht=>?_)
 ·have h:=A0 ht
  refine k2 ?_
  refine A4 (A3 (A5 Z Z) Z (A3 (J6 _ 2 spanC) Z (A3 (A6 Z Z) Z (A7 ?_))))
  refine k1 (k10 (k11 ?_))
  exact B6 (Z9 rfl rfl rfl rfl rfl) (by unfold F4;rw [if_pos h])
 have h:=A1 ht
 have h0:(T4 t).2=0:=by omega
 have hres:F4 t d=((T4 t).1.filter fun s=>!d||W2 t s,0):=by unfold F4;rw [if_neg (by omega)]
 rw [hres]
 obtain ⟨_,hn1,hn2⟩:=I40 h0
 obtain ⟨L,hL⟩:∃L,L=(T4 t).1:=⟨_,rfl⟩
 have hin:=H50 t
 rw [←hL] at hin ⊢
 obtain ⟨hin1,hin2⟩:=hin
 obtain ⟨p,hp⟩:∃p:Span→Bool,p=fun s=>!d||W2 t s:=⟨_,rfl⟩
 rw [←hp]
 refine k5 (k1 (k2 ?_))
 refine A4 (C3 (T6 752 _ spanC Z) Z (A7 ?_))
 refine k1 (k2 (k2 ?_))
 refine A4 (A3 (A6 Z Z) Z (A7 ?_))
 refine k1 (k3 ?_)
 refine C7 (X:=Nat) (fun k=>([(1,P4 d),(2,.s (.one (.ref 2 0))),(6,B9 Span 2 spanC L),(8,.s (.one (.buf 752 Span 2 spanC ((L.take k).filter p)))),(9,B7 k)],[(2,.box (pTable t).s1.cells),(752,.spare ((L.take k).filter p).length 2 88)])) (fun k=>k≤L.length) (fun k=>L.length - k) 0 (Nat.zero_le _) (I72 ⟨le1 rfl,le1 rfl,le1 rfl,le1 rfl,le1 rfl,trivial⟩ ⟨rfl,rfl,trivial⟩) ?_
 intro k hk
 dsimp only at hk ⊢
 have hfl:=List.length_filter_le p (L.take k)
 have htl:(L.take k).length=k:=by rw [J20];omega
 refine k2 (k2 ?_)
 refine A4 (A3 (A5 Z Z) Z (A3 (A5 Z Z) Z (A3 (D5 Z (.pure _ _ _ _)) Z (A3 (D9 Z Z) Z (A7 ?_)))))
 refine k1 ?_
 refine B5 rfl (fun ht=>?_) (fun ht=>?_)
 rotate_left
 ·have hkl:k=L.length:=by have:=A1 ht;omega
  rw [hkl,J23]
  refine k6 (k2 ?_)
  refine A4 (A3 (A5 Z Z) Z (A3 (A6 Z Z) Z (A3 (A6 Z Z) Z (A7 ?_))))
  refine k1 (k10 ?_)
  exact B6 (Z9 rfl rfl rfl rfl rfl) rfl
 have hlt:k < L.length:=by have:=A0 ht;omega
 have hst:=F93 L p k hlt
 have hv:L[k]?=some L[k]:=by simp [hlt]
 have hs:=hin2 _ (J15 hlt)
 obtain ⟨s,hsd⟩:∃s,s=L[k]:=⟨_,rfl⟩
 rw [←hsd] at hst hv hs
 have hps:p s=(!d||W2 t s):=by rw [hp]
 refine k5 (k1 (k2 (k3 (k2 ?_))))
 refine D8 (by kernel_rfl) (by kernel_rfl) (B0 (A5 Z Z) Z Z (B0 (K5 Z) Z Z (B0 (A5 Z Z) Z Z (D6 Z Z (fun hg=>by rw [hg];exact D7 Z Z Z) Z Z ?_))));refine D6 Z Z (fun hg=>by rw [hg];exact A5 Z Z) Z Z ?_;refine D6 Z Z (fun hg=>by rw [hg];exact A5 Z Z) Z Z ?_;refine D6 Z Z (fun hg=>by have hq:=hg;(try simp at hq);rw [hg];exact B1 Z (.pure _ _ _ _) Z (by omega) hv) Z Z ?_;refine D6 Z Z (fun hg=>by rw [hg];exact E5 Z Z) Z Z ?_;refine D6 Z Z (fun hg=>by have hq:=hg;(try simp at hq);rw [hg];exact P1 (H81 t s (by omega) hs.1 hs.2 (by omega)) Z Z) Z Z ?_;refine B0 (B8 Z (fun h=>by first | rfl | (rw [h];rfl)) (fun h=>by first | rfl | (rw [h];rfl))) Z Z ?_;refine O5 ?_
 refine k1 ?_
 refine B5 rfl (fun ht=>?_) (fun ht=>?_)
 ·have hpt:p s=true:=by rw [hps];cases d<;>simp_all
  rw [if_pos hpt] at hst
  skip
  refine A4 (A3 (A5 Z Z) Z (A3 (A5 Z Z) Z (A3 (A5 Z Z) Z (A3 (B1 Z (.pure _ _ _ _) Z (by omega) hv) Z (A3 (E5 Z Z) Z (A3 (C8 (c:=spanC) (ys:=[s]) (E0 Z Z Z Z F6) Z Z Z) Z (C3 (G9 Z Z Z (.pure _ _ _ _) (by (simp only [J07,J10];omega)) Z) Z (A3 (A6 Z Z) Z (A7 ?_)))))))))
  refine k4 (k1 ?_)
  refine A4 (A3 (A5 Z Z) Z (A3 (C2 Z Z (by omega)) Z (A3 (A6 Z Z) Z (A7 ?_))))
  refine k1 ?_
  refine ⟨k+1,by omega,by omega,?_⟩
  rw [hst]
  exact I72 ⟨le1 rfl,le1 rfl,le1 rfl,le1 rfl,le1 rfl,trivial⟩ ⟨rfl,rfl,trivial⟩
 ·have hpt:¬p s=true:=by rw [hps];cases d<;>simp_all
  rw [if_neg hpt,J25] at hst
  refine k5 (k4 (k1 ?_))
  refine A4 (A3 (A5 Z Z) Z (A3 (C2 Z Z (by omega)) Z (A3 (A6 Z Z) Z (A7 ?_))))
  refine k1 ?_
  refine ⟨k+1,by omega,by omega,?_⟩
  rw [hst]
  exact I72 ⟨le1 rfl,le1 rfl,le1 rfl,le1 rfl,le1 rfl,trivial⟩ ⟨rfl,rfl,trivial⟩
def B53 (L:List Span) (ctx:Int) (i k q:Nat):Bool:=if q < i then L2 L ctx q else if q=i then L2 (L.take k) ctx i else false
theorem H82 (L:List Span) (ctx:Int) (n:Nat):List.replicate n false=(List.range n).map (B53 L ctx 0 0):=by
 refine List.ext_getElem (by simp) fun q h1 h2=>?_
 simp only [List.getElem_replicate,List.getElem_map,List.getElem_range]
 unfold B53
 rw [if_neg (by omega)]
 split<;>simp [L2]
theorem H83 (L:List Span) (ctx:Int) (i n:Nat):(List.range n).map (B53 L ctx i L.length)=(List.range n).map (B53 L ctx (i+1) 0):=by
 refine List.map_congr_left fun q _=>?_
 unfold B53
 rw [J23]
 by_cases h1:q < i
 ·rw [if_pos h1,if_pos (by omega)]
 ·rw [if_neg h1]
  by_cases h2:q=i
  ·rw [if_pos h2,if_pos (by omega),h2]
  ·rw [if_neg h2,if_neg (by omega)]
   split<;>simp [L2]
theorem H84 (L:List Span) (ctx:Int) (n:Nat):(List.range n).map (B53 L ctx n 0)=(List.range n).map (L2 L ctx):=by
 refine List.map_congr_left fun q hq=>?_
 unfold B53
 rw [if_pos (by simpa using hq)]
theorem F94 (L:List Span) (ctx:Int) (i k:Nat) (h:k < L.length):L2 (L.take (k+1)) ctx i=(L2 (L.take k) ctx i||decide (L[k].From - ctx≤i∧(i:Int) < L[k].To+ctx)):=by
 unfold L2
 rw [J13 h,List.any_append];simp
theorem F95 (t:Table) (ctx:Int) (d:Bool) (hr:K4 t.Rows) (hl:t.Rows.length≤134217728) (hx:O0 t.Rows≤536870912) :
  FnOk Tryz.prog 49 [pTable t,I7 ctx,K7 d] (fun rs=>rs=[pSpans (L6 t ctx d).1,I7 (L6 t ctx d).2]):=by
 refine FnOk.intro Tryz.func49 (by decide) Z Z Z Z ?_
 refine k2 ?_
 refine A4 (C3 (Q0 3 Z Z Z) Z (A3 (A6 Z Z) Z (A3 (A6 Z Z) Z (A7 ?_))))
 refine k1 (k2 ?_)
 refine A4 (A3 (D7 Z Z Z) Z (A3 (A5 Z Z) Z (C5 (D04 t d hr hl hx) Z Z Z ?_)));rintro _ rfl;refine A3 (A5 Z Z) Z (A3 (D2 Z Z) Z (A3 (D2 Z Z) Z (A3 (A6 Z Z) Z (A3 (A6 Z Z) Z (A7 ?_)))))
 refine k1 (k2 (k2 ?_))
 refine A4 (A3 (A5 Z Z) Z (A3 (O3 Z Z) Z (A7 ?_)))
 refine k1 ?_
 refine B5 rfl (fun ht=>?_) (fun ht=>?_)
 ·have h:=A0 ht
  refine k2 ?_
  refine A4 (A3 (A5 Z Z) Z (A3 (J6 _ 2 spanC) Z (A3 (A6 Z Z) Z (A7 ?_))))
  refine k1 (k10 (k11 ?_))
  exact B6 (Z9 rfl rfl rfl rfl rfl) (by unfold L6;rw [if_pos h])
 have h:=A1 ht
 refine k5 (k1 (k2 (k2 ?_)))
 refine A4 (A3 (A5 Z Z) Z (A3 (D9 Z Z) Z (A3 (A5 Z Z) Z (B4 Z Z Z Z (fun hg=>by rw [hg];exact A5 Z Z) ?_))));refine B4 Z Z Z Z (fun hg=>by rw [hg];exact P6 Z Z) ?_;refine A3 (B8 Z (fun h=>by first | rfl | (rw [h];rfl)) (fun h=>by first | rfl | (rw [h];rfl))) Z ?_;refine A7 ?_
 refine k1 ?_
 refine B5 rfl (fun ht=>?_) (fun ht=>?_)
 ·have h1:=A0 (or_pick.symm.trans ht)
  refine k2 ?_
  refine A4 (A3 (J6 _ 2 spanC) Z (A3 (A6 Z Z) Z (A7 ?_)))
  refine k1 (k10 (k11 ?_))
  exact B6 (Z9 rfl rfl rfl rfl rfl) (by unfold L6;rw [if_neg h,if_pos (by omega)])
 have h1:=A1 (or_pick.symm.trans ht)
 have hres:L6 t ctx d=(S8 ((List.range t.Rows.length).map (L2 (F4 t d).1 ctx)),0):=by unfold L6;rw [if_neg h,if_neg (by omega)]
 rw [hres]
 obtain ⟨L,hL⟩:∃L,L=(F4 t d).1:=⟨_,rfl⟩
 have hin:=B30 t d
 rw [←hL] at hin ⊢
 obtain ⟨hin1,hin2⟩:=hin
 obtain ⟨n,hn⟩:∃n,n=t.Rows.length:=⟨_,rfl⟩
 rw [←hn] at hin1 hin2 hl ⊢
 refine L7 [(1,B7 ctx),(3,.s (.one (.ref 3 0))),(8,B9 Span 2 spanC L)] [(3,.box (pTable t).s1.cells)] (I72 ⟨le1 rfl,le1 rfl,le1 rfl,trivial⟩ ⟨rfl,trivial⟩) ?_
 refine k5 (k1 (k2 ?_))
 refine A4 (A3 (A8 Z) Z (A3 (A9 Z Z Z) Z (A3 (D5 Z (.pure _ _ _ _)) Z (C3 (U1 753 Bool s8 false Z Z (by omega) (by omega) (fun _=>by first | exact ⟨⟨rfl,rfl⟩,trivial⟩ | exact ⟨N1 _ _ _,trivial⟩) (by first | rfl | (simp [H4,I3,Ob.free,SV.free,S1.free,TC.free]<;>rfl))) Z ?_))));refine A3 (A6 Z Z) Z (A7 ?_)
 rw [←hn,J12,H82 L ctx n]
 refine k1 (k2 (k2 ?_))
 refine A4 (A3 (A6 Z Z) Z (A7 ?_))
 refine k1 (k3 ?_)
 refine C7 (X:=Nat) (fun i=>([(1,B7 ctx),(8,B9 Span 2 spanC L),(10,.s (.one (.mut 753))),(11,B7 i)],[(753,.arr Bool 1 s8 ((List.range n).map (B53 L ctx i 0)))])) (fun i=>i≤n) (fun i=>n - i) 0 (Nat.zero_le _) (I72 ⟨le1 rfl,le1 rfl,le1 rfl,le1 rfl,trivial⟩ ⟨rfl,trivial⟩) ?_
 intro i hi
 dsimp only at hi ⊢
 have hlen:∀k,((List.range n).map (B53 L ctx i k)).length=n:=fun k=>by simp
 have hlen0:=hlen 0
 refine k2 (k2 ?_)
 refine A4 (A3 (A5 Z Z) Z (A3 (A5 Z Z) Z (A3 (E38 Z Z) Z (A3 (D9 Z Z) Z (A7 ?_)))))
 refine k1 ?_
 refine B5 rfl (fun ht=>?_) (fun ht=>?_)
 rotate_left
 ·have hin:i=n:=by have:=A1 ht;omega
  rw [hin,H84]
  refine H3 (Sees.freeze (k:=753) Z) ?_
  refine k6 (k2 ?_)
  refine A4 (A3 (A5 Z Z) Z (C5 (E68 ((List.range n).map (L2 L ctx)) (by simp;omega)) Z Z Z ?_));rintro _ rfl;refine A3 (A6 Z Z) Z (A3 (A6 Z Z) Z (A7 ?_))
  refine k1 (k10 ?_)
  exact B6 (Z9 rfl rfl rfl rfl rfl) rfl
 have hlt:i < n:=by have:=A0 ht;omega
 refine k5 (k1 (k2 (k3 (k2 ?_))))
 refine A4 (A3 (A6 Z Z) Z (A7 ?_))
 refine k1 (k3 ?_)
 refine C7 (X:=Nat) (fun k=>([(1,B7 ctx),(8,B9 Span 2 spanC L),(10,.s (.one (.mut 753))),(11,B7 i),(12,B7 k)],[(753,.arr Bool 1 s8 ((List.range n).map (B53 L ctx i k)))])) (fun k=>k≤L.length) (fun k=>L.length - k) 0 (Nat.zero_le _) (I72 ⟨le1 rfl,le1 rfl,le1 rfl,le1 rfl,le1 rfl,trivial⟩ ⟨rfl,trivial⟩) ?_
 intro k hk
 dsimp only at hk ⊢
 have hlenk:=hlen k
 refine k2 (k2 ?_)
 refine A4 (A3 (A5 Z Z) Z (A3 (A5 Z Z) Z (A3 (D5 Z (.pure _ _ _ _)) Z (A3 (D9 Z Z) Z (A7 ?_)))))
 refine k1 ?_
 refine B5 rfl (fun ht=>?_) (fun ht=>?_)
 rotate_left
 ·have hkl:k=L.length:=by have:=A1 ht;omega
  rw [hkl,H83]
  refine k6 (k7 (k7 (k8 Z (k4 (k1 ?_)))))
  refine A4 (A3 (A5 Z Z) Z (A3 (C2 Z Z (by omega)) Z (A3 (A6 Z Z) Z (A7 ?_))))
  refine k1 ?_
  exact ⟨i+1,by omega,by omega,I72 ⟨le1 rfl,le1 rfl,le1 rfl,le1 rfl,trivial⟩ ⟨rfl,trivial⟩⟩
 have hltk:k < L.length:=by have:=A0 ht;omega
 have hst:=F94 L ctx i k hltk
 have hv:L[k]?=some L[k]:=by simp [hltk]
 have hs:=hin2 _ (J15 hltk)
 obtain ⟨s,hsd⟩:∃s,s=L[k]:=⟨_,rfl⟩
 rw [←hsd] at hst hv hs
 have hg:((List.range n).map (B53 L ctx i k))[(i:Int).toNat]?=some (L2 (L.take k) ctx i):=by
  rw [J12,x6 n i _ hlt];unfold B53;rw [if_neg (by omega),if_pos rfl]
 have hset:((List.range n).map (B53 L ctx i k)).set (i:Int).toNat (if L2 (L.take k) ctx i=true then true else if decide ((i:Int)≥s.From - ctx)=true then decide ((i:Int) < s.To+ctx) else false)=(List.range n).map (B53 L ctx i (k+1)):=by
  rw [J12]
  refine m8 n i _ _ _ (fun _=>?_) (fun q _ hq=>?_)
  ·unfold B53
   rw [if_neg (by omega),if_pos rfl,hst]
   cases L2 (L.take k) ctx i
   ·by_cases h1:s.From - ctx≤(i:Int)
    ·by_cases h2:(i:Int) < s.To+ctx<;>simp [h1,h2]
    ·simp [h1]
   ·simp
  ·unfold B53
   by_cases h1:q < i
   ·rw [if_pos h1,if_pos h1]
   ·rw [if_neg h1,if_neg h1,if_neg hq,if_neg hq]
 refine k5 (k1 (k2 (k3 ?_)))
 refine A4 (A3 (A5 Z Z) Z (A3 (A5 Z Z) Z (A3 (A5 Z Z) Z (A3 (A5 Z Z) Z (A3 (E1 Z Z Z (by omega) (by (rw [hlenk];omega))) Z ?_)))));refine A3 (O4 Z Z hg Z) Z (A3 (A5 Z Z) Z (B4 Z Z Z Z (fun hg=>by rw [hg];exact A5 Z Z) ?_));refine B4 Z Z Z Z (fun hg=>by rw [hg];exact A5 Z Z) ?_;refine B4 Z Z Z Z (fun hg=>by rw [hg];exact A5 Z Z) ?_;refine B4 Z Z Z Z (fun hg=>by have hq:=hg;(try simp at hq);rw [hg];exact B1 Z (.pure _ _ _ _) Z (by omega) hv) ?_;refine B4 Z Z Z Z (fun hg=>by rw [hg];exact F1 Z) ?_;refine B4 Z Z Z Z (fun hg=>by rw [hg];exact B3 Z Z) ?_;refine B4 Z Z Z Z (fun hg=>by rw [hg];exact A5 Z Z) ?_;refine B4 Z Z Z Z (fun hg=>by have hq:=hg;(try simp at hq);rw [hg];exact P9 Z Z (by omega)) ?_;refine B4 Z Z Z Z (fun hg=>by rw [hg];exact A80 Z Z) ?_;refine B4 Z Z Z Z (fun hg=>by rw [hg];exact A5 Z Z) ?_;refine G7 Z Z Z (.gd (.val _)) Z (fun hg=>by obtain ⟨hg1,hg2⟩:=L5 hg;(try rw [hg1]);(try rw [hg2]);exact A5 Z Z) ?_;refine G7 Z Z Z (.gd (.val _)) Z (fun hg=>by obtain ⟨hg1,hg2⟩:=L5 hg;(try rw [hg1]);(try rw [hg2]);exact A5 Z Z) ?_;refine G7 Z Z Z (.gd (.val _)) Z (fun hg=>by obtain ⟨hg1,hg2⟩:=L5 hg;(try rw [hg1]);(try rw [hg2]);exact A5 Z Z) ?_;refine G7 Z Z Z (.gd (.val _)) Z (fun hg=>by have hq:=hg;(try simp at hq);obtain ⟨hg1,hg2⟩:=L5 hg;(try rw [hg1]);(try rw [hg2]);exact B1 Z (.pure _ _ _ _) Z (by omega) hv) ?_;refine G7 Z Z Z (.gd (.val _)) Z (fun hg=>by obtain ⟨hg1,hg2⟩:=L5 hg;(try rw [hg1]);(try rw [hg2]);exact F1 Z) ?_;refine G7 Z Z Z (.gd (.val _)) Z (fun hg=>by obtain ⟨hg1,hg2⟩:=L5 hg;(try rw [hg1]);(try rw [hg2]);exact B3 Z Z) ?_;refine G7 Z Z Z (.gd (.val _)) Z (fun hg=>by obtain ⟨hg1,hg2⟩:=L5 hg;(try rw [hg1]);(try rw [hg2]);exact A5 Z Z) ?_;refine G7 Z Z Z (.gd (.val _)) Z (fun hg=>by have hq:=hg;(try simp at hq);obtain ⟨hg1,hg2⟩:=L5 hg;(try rw [hg1]);(try rw [hg2]);exact C2 Z Z (by omega)) ?_;refine G7 Z Z Z (.gd (.val _)) Z (fun hg=>by obtain ⟨hg1,hg2⟩:=L5 hg;(try rw [hg1]);(try rw [hg2]);exact D9 Z Z) ?_;refine B4 Z Z Z Z (fun hg=>by rw [hg];exact B8 Z (fun h=>by first | rfl | (rw [h];rfl)) (fun h=>by first | rfl | (rw [h];rfl))) ?_;refine A3 (B8 Z (fun h=>by first | rfl | (rw [h];rfl)) (fun h=>by first | rfl | (rw [h];rfl))) Z ?_
 refine A3 (E1 Z Z Z (by omega) (by (rw [hlenk];omega))) Z ?_;refine F8 (G8 TySz.out Z Z (by (rw [hlenk];omega)) Z Z) ?_;refine A7 ?_
 refine k4 (k1 ?_)
 refine A4 (A3 (A5 Z Z) Z (A3 (C2 Z Z (by omega)) Z (A3 (A6 Z Z) Z (A7 ?_))))
 refine k1 ?_
 refine ⟨k+1,by omega,by omega,?_⟩
 rw [←hset]
 exact I72 ⟨le1 rfl,le1 rfl,le1 rfl,le1 rfl,le1 rfl,trivial⟩ ⟨rfl,trivial⟩
end Go.Proofs.YtbiadkkamhpdnaaGreatDoor
