/- Walks of the program's functions. -/
import Derived.Test.YtbiadkkamhpdnaaGreatDoorFe
import Derived.Test.YtbiadkkamhpdnaaGreatDoorFs
import Derived.Test.YtbiadkkamhpdnaaGreatDoorFa
import Derived.Test.YtbiadkkamhpdnaaGreatDoorFb
import Derived.Test.YtbiadkkamhpdnaaGreatDoorFd
import Derived.Test.YtbiadkkamhpdnaaGreatDoorFc
set_option linter.unusedSimpArgs false
namespace Go.Proofs.YtbiadkkamhpdnaaGreatDoor
open Go Go.AL
set_option maxRecDepth 100000
theorem H08 {c:UInt8} {P:List Str} {i:Nat} {r a b:Str} (h:P.drop i=M9 c r) (hr:r=a++c::b) (ha:c∉a):P[i]?=some a∧P.drop (i+1)=M9 c b:=by
 have e:M9 c r=a::M9 c b:=by rw [hr,C51 b ha]
 rw [e] at h
 refine ⟨by rw [←List.head?_drop,h];rfl,?_⟩
 rw [←List.tail_drop,h];rfl
theorem G41 (s:Str) (c:UInt8) (hs:s.length≤536870912):FnOk Tryz.prog 217 [G7 s,G7 [c],F0 0,F0 (-1)] (fun rs=>rs=[Z6 (M9 c s)]):=by
 have hP:=r9 c s
 have hcc:s.count c≤s.length:=List.count_le_length
 have h10:([c]:Str).length=1:=rfl
 obtain ⟨P,hPe⟩:∃P,P=M9 c s:=⟨_,rfl⟩
 have hPl:P.length=s.count c+1:=by rw [hPe];exact hP
 refine FnOk.intro Tryz.func217 (by decide) Z Z Z Z ?_
 refine k2 ?_
 refine A4 (A3 (A6 Z Z) Z (A7 ?_))
 refine k1 (k2 (k2 ?_))
 refine A4 (A3 (A5 Z Z) Z (A3 (J3 Z Z) Z (A7 ?_)))
 refine k1 ?_
 refine B4 rfl (fun ht=>?_) (fun ht=>?_)
 ·exact absurd (A0 ht) (by omega)
 refine k5 (k1 (k2 (k2 ?_)))
 refine A4 (A3 (A5 Z Z) Z (A3 (T9 Z Z) Z (A7 ?_)))
 refine k1 ?_
 refine B4 rfl (fun ht=>?_) (fun ht=>?_)
 ·exact absurd (A0 ht) (by simp)
 refine k5 (k1 (k2 (k2 ?_)))
 refine A4 (A3 (A5 Z Z) Z (A3 (E5 Z Z) Z (A7 ?_)))
 refine k1 ?_
 refine B4 rfl (fun ht=>?_) (fun ht=>?_)
 rotate_left
 ·exact absurd (A1 ht) (by omega)
 skip
 refine A4 (A3 (A5 Z Z) Z (A3 (A5 Z Z) Z (B9 (B84 s c) Z Z Z ?_)));rintro _ rfl;refine A3 (C6 Z Z (by omega)) Z (A3 (A6 Z Z) Z (A7 ?_))
 refine k1 (k2 ?_)
 refine A4 (A3 (A5 Z Z) Z (A3 (A5 Z Z) Z (A3 (E3 Z) Z (A3 (C6 Z Z (by omega)) Z (A3 (G82 Z Z) Z (A3 (A6 Z Z) Z (A7 ?_)))))))
 refine k1 (k2 ?_)
 rw [show (if (s.length:Int)+1 < (s.count c:Int)+1 then (s.length:Int)+1 else (s.count c:Int)+1)=(P.length:Int) from by split<;>omega]
 refine A4 (A3 (A5 Z Z) Z (C7 (x6 9 Str L0 [] Z Z (by omega) (by omega) (fun _=>by first | exact ⟨⟨rfl,rfl⟩,trivial⟩ | exact ⟨P1 _ _ _,trivial⟩) (by first | rfl | (simp [G3,I1,Ob.free,SV.free,S1.free,TC.free]<;>rfl))) Z ?_));refine A3 (A6 Z Z) Z (A7 ?_)
 refine k1 (k2 ?_)
 refine A4 (A3 (A5 Z Z) Z (A3 (S6 Z Z (by omega)) Z (A3 (A6 Z Z) Z (A7 ?_))))
 refine k1 (k2 ?_)
 refine A4 (A3 (A6 Z Z) Z (A7 ?_))
 refine k1 (k2 (k3 ?_))
 refine E4 (X:=Nat × Str) (fun x=>([(0,J0 x.2),(1,J0 [c]),(2,C2 0),(3,C2 ((P.length:Int) - 1)),(9,.s (.one (.mut 9))),(10,C2 x.1)],[(9,.arr Str 1 L0 (P.take x.1++List.replicate (P.length - x.1) []))])) (fun x=>x.1+1≤P.length∧P.drop x.1=M9 c x.2∧x.2.length≤s.length) (fun x=>P.length - x.1) (0,s) ⟨by dsimp only;omega,hPe,Nat.le_refl _⟩ (K19 ⟨le1 rfl,le1 rfl,le1 rfl,le1 rfl,le1 rfl,le1 rfl,trivial⟩ ⟨rfl,trivial⟩) ?_
 rintro ⟨i,r⟩ ⟨hi,hp,hr⟩
 dsimp only at hi hp hr ⊢
 refine k2 (k2 ?_)
 refine A4 (A3 (A5 Z Z) Z (A3 (A5 Z Z) Z (A3 (E5 Z Z) Z (A7 ?_))))
 refine k1 ?_
 refine B4 rfl (fun ht=>?_) (fun ht=>?_)
 ·have hlt:i+1 < P.length:=by have:=A0 ht;omega
  have hin:c∈r:=by
   have h1:=r9 c r
   have h2:(P.drop i).length=r.count c+1:=by rw [hp];exact h1
   rw [K65] at h2
   exact List.count_pos_iff.1 (by omega)
  rcases S4 c r with ⟨h1,_⟩ | ⟨a,b,h1,h2,h3⟩
  ·exact absurd hin h1
  obtain ⟨h4,h5⟩:=H08 hp h1 h2
  have hl:r.length=a.length+1+b.length:=by rw [h1];simp;omega
  refine k5 (k1 (k3 (k2 ?_)))
  refine A4 (A3 (A5 Z Z) Z (A3 (A5 Z Z) Z (B9 (D26 r c) Z Z Z ?_)));rintro _ rfl;refine A3 (A6 Z Z) Z (A7 ?_)
  refine k1 (k2 (k2 ?_))
  refine A4 (A3 (A5 Z Z) Z (A3 (E5 Z Z) Z (A7 ?_)))
  refine k1 ?_
  rw [h3]
  refine B4 rfl (fun ht=>?_) (fun ht=>?_)
  ·exact absurd (A0 ht) (by omega)
  refine k5 (k1 (k2 ?_))
  refine A4 (A3 (A5 Z Z) Z (A3 (A5 Z Z) Z (A3 (A5 Z Z) Z (A3 (A5 Z Z) Z (A3 (A5 Z Z) Z (A3 (C6 Z Z (by omega)) Z (A3 (A79 Z Z (by omega) (by omega)) Z (A3 (F9 Z Z Z (by omega) (by (simp;omega))) Z (E1 (I0 TySz.out Z Z (by simp;omega) Z Z) (A7 ?_))))))))))
  refine k1 (k2 ?_)
  refine A4 (A3 (A5 Z Z) Z (A3 (A5 Z Z) Z (A3 (A5 Z Z) Z (A3 (E3 Z) Z (A3 (C6 Z Z (by omega)) Z (A3 (A80 Z Z (by omega) (by omega)) Z (A3 (A6 Z Z) Z (A7 ?_))))))))
  refine k1 ?_
  refine A4 (A3 (A5 Z Z) Z (A3 (C6 Z Z (by omega)) Z (A3 (A6 Z Z) Z (A7 ?_))))
  refine k4 (k1 ?_)
  have e1:r.take (((a.length:Int)+0).toNat)=a:=by rw [h1,show ((a.length:Int)+0).toNat=a.length by omega,List.take_left]
  have e2:r.drop (((a.length:Int)+(([c]:Str).length:Int)).toNat)=b:=by rw [h1,h10,show ((a.length:Int)+((1:Nat):Int)).toNat=a.length+1 by omega,show a++c::b=(a++[c])++b by simp,List.drop_left' (by simp)]
  refine ⟨(i+1,b),⟨by dsimp only;omega,h5,by dsimp only;omega⟩,by dsimp only;omega,?_⟩
  rw [e1,e2]
  dsimp only
  rw [←A22 P [] _ i h4]
  exact K19 ⟨le1 rfl,le1 rfl,le1 rfl,le1 rfl,le1 rfl,le1 rfl,trivial⟩ ⟨rfl,trivial⟩
 ·have hge:i+1=P.length:=by have:=A1 ht;omega
  have h1:=r9 c r
  have h2:(P.drop i).length=r.count c+1:=by rw [hp];exact h1
  rw [K65] at h2
  have h3:c∉r:=List.count_eq_zero.1 (by omega)
  have h4:P[i]?=some r:=by rw [←List.head?_drop,hp,B69 h3];rfl
  refine k6 (k2 ?_)
  refine A4 (A3 (A5 Z Z) Z (A3 (A5 Z Z) Z (A3 (A5 Z Z) Z (A3 (F9 Z Z Z (by omega) (by (simp;omega))) Z (E1 (I0 TySz.out Z Z (by simp;omega) Z Z) (A7 ?_))))))
  refine k1 (k2 ?_)
  have e:(P.take i++List.replicate (P.length - i) ([]:Str)).set (i:Int).toNat r=P:=by rw [K62,A22 P [] r i h4,hge];simp
  rw [e]
  refine E6 (Sees.freeze (k:=9) Z) ?_
  refine A4 (A3 (A5 Z Z) Z (A3 (A5 Z Z) Z (A3 (C6 Z Z (by omega)) Z (A3 (B74 Z (.pure _ _ _ _) Z (by omega) (by omega)) Z (A3 (A6 Z Z) Z (A7 ?_))))))
  refine k1 (k10 ?_)
  exact B8 (J6 rfl rfl rfl) (by rw [show ((i:Int)+1).toNat=P.length by omega,K87,hPe])
theorem J11 (s:Str) (c:UInt8) (hs:s.length≤536870912):FnOk Tryz.prog 179 [G7 s,G7 [c]] (fun rs=>rs=[Z6 (M9 c s)]):=by
 refine FnOk.intro Tryz.func179 (by decide) Z Z Z Z ?_
 refine k2 ?_
 refine A4 (A3 (A6 Z Z) Z (A7 ?_))
 refine k1 (k2 ?_)
 refine A4 (A3 (A5 Z Z) Z (A3 (A5 Z Z) Z (B9 (G41 s c hs) Z Z Z ?_)));rintro _ rfl;refine A3 (A6 Z Z) Z (A7 ?_)
 refine k1 (k10 ?_)
 exact B8 (J6 rfl rfl rfl) rfl
theorem E50 (s p:Str) (hs:s.length≤1073741824):FnOk Tryz.prog 241 [G7 s,G7 p] (fun rs=>rs=[E8 (R1 s p)]):=by
 refine FnOk.intro Tryz.func241 (by decide) Z Z Z Z ?_
 refine k2 ?_
 refine A4 (A3 (A6 Z Z) Z (A7 ?_))
 refine k1 (k2 ?_)
 refine A4 (A3 (A5 Z Z) Z (A3 (E3 Z) Z (A3 (A5 Z Z) Z (A3 (E3 Z) Z (A3 (s8 Z Z) Z (A3 (A5 Z Z) Z (B0 Z Z Z Z (fun hg=>by rw [hg];exact A5 Z Z) ?_)))))));refine B0 Z Z Z Z (fun hg=>by rw [hg];exact A5 Z Z) ?_;refine B0 Z Z Z Z (fun hg=>by rw [hg];exact E3 Z) ?_;refine B0 Z Z Z Z (fun hg=>by rw [hg];exact A5 Z Z) ?_;refine B0 Z Z Z Z (fun hg=>by rw [hg];exact E3 Z) ?_;refine B0 Z Z Z Z (fun hg=>by have hq:=hg;(try simp at hq);rw [hg];exact S6 Z Z (by omega)) ?_;refine B0 Z Z Z Z (fun hg=>by have hq:=hg;(try simp at hq);rw [hg];exact A80 Z Z (by omega) (by omega)) ?_;refine B0 Z Z Z Z (fun hg=>by rw [hg];exact A5 Z Z) ?_;refine B0 Z Z Z Z (fun hg=>by rw [hg];exact T9 Z Z) ?_;refine A3 (B5 Z (fun h=>by first | rfl | (rw [h];rfl)) (fun h=>by first | rfl | (rw [h];rfl))) Z ?_;refine A3 (A6 Z Z) Z (A7 ?_)
 simp only [K1]
 refine k1 (k10 ?_)
 refine B8 (J6 Z Z Z) ?_
 unfold R1
 congr 4
 congr 1
 apply propext;constructor
 ·intro h;have h1:p.length≤s.length:=by have:=h.1;omega
  exact ⟨by omega,by have:=h.2;rw [show s.length - p.length=((s.length:Int) - (p.length:Int)).toNat by omega];exact this⟩
 ·intro h;exact ⟨by have:=h.1;omega,by have:=h.2;rw [show s.length - p.length=((s.length:Int) - (p.length:Int)).toNat by have:=h.1;omega] at this;exact this⟩
def F69 (s p:Str):List PV:=if R1 s p=true then [G7 (s.take (s.length - p.length)),E8 true] else [G7 s,E8 false]
theorem E51 (s p:Str) (hs:s.length≤1073741824):FnOk Tryz.prog 220 [G7 s,G7 p] (fun rs=>rs=F69 s p):=by
 refine FnOk.intro Tryz.func220 (by decide) Z Z Z Z ?_
 refine k2 ?_
 refine A4 (A3 (A6 Z Z) Z (A3 (A6 Z Z) Z (A7 ?_)))
 refine k1 (k2 (k2 ?_))
 refine A4 (A3 (A5 Z Z) Z (A3 (A5 Z Z) Z (B9 (E50 s p hs) Z Z Z ?_)));rintro _ rfl;refine A3 (F7 Z) Z (A7 ?_)
 refine k1 ?_
 refine B4 rfl (fun ht=>?_) (fun ht=>?_)
 ·have h:R1 s p=false:=by cases h:R1 s p<;>rw [h] at ht<;>simp at ht ⊢
  refine k2 ?_
  refine A4 (A3 (A5 Z Z) Z (A3 (A6 Z Z) Z (A3 (A6 Z Z) Z (A7 ?_))))
  refine k1 (k10 (k11 ?_))
  exact B8 (rs:=[G7 s,E8 false]) (Z3 rfl rfl rfl rfl rfl) (by unfold F69;rw [h];rfl)
 ·have h:R1 s p=true:=by cases h:R1 s p<;>rw [h] at ht<;>simp at ht ⊢
  have hl:p.length≤s.length:=by unfold R1 at h;exact (A0 h).1
  refine k5 (k1 (k2 ?_))
  refine A4 (A3 (A5 Z Z) Z (A3 (A5 Z Z) Z (A3 (E3 Z) Z (A3 (A5 Z Z) Z (A3 (E3 Z) Z (A3 (S6 Z Z (by omega)) Z (A3 (A79 Z Z (by omega) (by omega)) Z (A3 (A6 Z Z) Z (A3 (A6 Z Z) Z (A7 ?_))))))))))
  refine k1 (k10 ?_)
  refine B8 (rs:=[G7 (s.take (s.length - p.length)),E8 true]) (Z3 rfl rfl (by rw [show ((s.length:Int) - (p.length:Int)).toNat=s.length - p.length by omega];rfl) rfl rfl) (by unfold F69;rw [if_pos h])
theorem F33 (s p:Str) (hs:s.length≤1073741824):FnOk Tryz.prog 178 [G7 s,G7 p] (fun rs=>rs=F69 s p):=by
 have hc:=E51 s p hs
 unfold F69 at hc ⊢
 by_cases h:R1 s p=true
 ·rw [if_pos h] at hc ⊢
  refine FnOk.intro Tryz.func178 (by decide) Z Z Z Z ?_
  refine k2 ?_
  refine A4 (A3 (A6 Z Z) Z (A3 (A6 Z Z) Z (A7 ?_)))
  refine k1 (k2 ?_)
  refine A4 (A3 (A5 Z Z) Z (A3 (A5 Z Z) Z (B9 (hc) Z Z Z ?_)));rintro _ rfl;refine A3 (B3 Z Z) Z (A3 (B3 Z Z) Z (A3 (A6 Z Z) Z (A3 (A6 Z Z) Z (A7 ?_))))
  refine k1 (k10 ?_)
  exact B8 (Z3 rfl rfl rfl rfl rfl) rfl
 ·rw [if_neg h] at hc ⊢
  refine FnOk.intro Tryz.func178 (by decide) Z Z Z Z ?_
  refine k2 ?_
  refine A4 (A3 (A6 Z Z) Z (A3 (A6 Z Z) Z (A7 ?_)))
  refine k1 (k2 ?_)
  refine A4 (A3 (A5 Z Z) Z (A3 (A5 Z Z) Z (B9 (hc) Z Z Z ?_)));rintro _ rfl;refine A3 (B3 Z Z) Z (A3 (B3 Z Z) Z (A3 (A6 Z Z) Z (A3 (A6 Z Z) Z (A7 ?_))))
  refine k1 (k10 ?_)
  exact B8 (Z3 rfl rfl rfl rfl rfl) rfl
theorem D68 (c:UInt8):∀n:Nat,Lib.repeatL [c] n=List.replicate n c
 | 0=>rfl
 | n+1=>by rw [Lib.repeatL,D68 c n];rfl
theorem F70 (c:UInt8) (n:Nat) (hn:n≤1048576):FnOk Tryz.prog 150 [G7 [c],F0 n] (fun rs=>rs=[G7 (List.replicate n c)]) :=
 K33 (xs:=[.string ⟨#[c]⟩,.int .i64 n]) (r:=.string ⟨(List.replicate n c).toArray⟩) ⟨_,rfl,rfl,rfl⟩ rfl fun w _=>by
  have:=Tryz.strings_Repeat ⟨#[c]⟩ n w (by omega) (by show 1*n≤_;omega)
  have e:Lib.repeatL (⟨#[c]⟩:ByteArray).data.toList n=List.replicate n c:=D68 c n
  rw [e] at this
  exact this
abbrev cBox (c:Comb):Ob:=.box (N7 c).s1.cells
theorem B49 (rows:List Row) (n:Nat) (hn:n≤32) (hr:J8 rows) (hl:rows.length≤268435456) :
  AL.Met Tryz.prog 149 [(pRows rows).s1,(F0 n).s1] [] [] [] (fun rs ob'=>rs=[.one (.mut 720)]∧ob'=[(720,.arr Int 1 G9 (F5 rows n))]):=by
 have e0:((n:Int)+1).toNat=n+1:=by omega
 refine AL.Met.intro Tryz.func149 (by decide) Z Z Z ?_
 refine k2 ?_
 refine A4 (A3 (A6 Z Z) Z (A7 ?_))
 refine k1 (k2 ?_)
 refine A4 (A3 (A5 Z Z) Z (A3 (C6 Z Z (by omega)) Z (C7 (x6 720 Int G9 0 Z Z (by omega) (by omega) (fun _=>by first | exact ⟨⟨rfl,rfl⟩,trivial⟩ | exact ⟨P1 _ _ _,trivial⟩) (by first | rfl | (simp [G3,I1,Ob.free,SV.free,S1.free,TC.free]<;>rfl))) Z ?_)));refine A3 (A6 Z Z) Z (A7 ?_)
 rw [e0,←I39 rows n]
 refine k1 (k2 (k2 ?_))
 refine A4 (A3 (A5 Z Z) Z (A3 (F4 Z (.pure _ _ _ _)) Z (A3 (A5 Z Z) Z (A7 ?_))))
 refine k1 (k3 ?_)
 refine E4 (X:=Nat) (fun i=>([(1,C2 n),(5,.s (.one (.mut 720))),(12,D3 Row 3 rowC rows),(13,C2 rows.length),(14,C2 i)],[(720,.arr Int 1 G9 (t6 rows n i 0))])) (fun i=>i≤rows.length) (fun i=>rows.length - i) 0 (Nat.zero_le _) (K19 ⟨le1 rfl,le1 rfl,le1 rfl,le1 rfl,le1 rfl,trivial⟩ ⟨rfl,trivial⟩) ?_
 intro i hi
 dsimp only at hi ⊢
 refine k2 ?_
 refine A4 (A3 (E5 Z Z) Z (A7 ?_))
 refine k1 (k2 ?_)
 refine B4 rfl (fun ht=>?_) (fun ht=>?_)
 ·have hlt:i < rows.length:=by have:=A0 ht;omega
  have hv:rows[i]?=some rows[i]:=by simp [hlt]
  have hrow:=hr _ (K76 hlt)
  have hstep:=fun p=>I40 rows n i p hlt
  obtain ⟨r,hrr⟩:∃r,r=rows[i]:=⟨_,rfl⟩
  rw [←hrr] at hv hrow hstep
  have hcl:=fun k=>E90 (rows.take i) n k
  have htl:(rows.take i).length=i:=by rw [K70];omega
  rw [htl] at hcl
  refine k5 (k1 (k2 (k3 (k2 ?_))))
  refine A4 (A3 (C0 Z (.pure _ _ _ _) Z (by omega) hv) Z (A3 (H1 Z Z) Z (C7 (G4 7 Z) Z (E1 (B7 TySz.out Z Z Z Z Z Z) (A7 ?_)))))
  refine k1 (k2 (k2 ?_))
  refine A4 (A3 (A5 Z Z) Z (A3 (A5 Z Z) Z (A7 ?_)))
  refine k1 (k3 ?_)
  refine E4 (X:=Nat) (fun p=>([(1,C2 n),(5,.s (.one (.mut 720))),(7,.s (.one (.ref 7 0))),(12,D3 Row 3 rowC rows),(13,C2 rows.length),(14,C2 i),(18,C2 n),(19,C2 p)],[(7,.box (pRow r).s1.cells),(720,.arr Int 1 G9 (t6 rows n i p))])) (fun p=>p≤n) (fun p=>n - p) 0 (Nat.zero_le _) (K19 ⟨le1 rfl,le1 rfl,le1 rfl,le1 rfl,le1 rfl,le1 rfl,le1 rfl,le1 rfl,trivial⟩ ⟨rfl,rfl,trivial⟩) ?_
  intro p hp
  dsimp only at hp ⊢
  have hlen:=J50 rows n i p
  have hget:=J51 rows n i p (by omega)
  have hcp:=hcl p
  refine k2 ?_
  refine A4 (A3 (E5 Z Z) Z (A7 ?_))
  refine k1 (k2 ?_)
  refine B4 rfl (fun ht=>?_) (fun ht=>?_)
  ·have hlt2:p < n:=by have:=A0 ht;omega
   have hst:=hstep p (by omega)
   rw [show A06 n p=(p:Int) by unfold A06;rw [if_neg (by omega)]] at hst
   refine k5 (k1 (k2 (k3 (k2 ?_))))
   refine A4 (A3 (A5 Z Z) Z (A3 (A6 Z Z) Z (A7 ?_)))
   refine k1 (k2 ?_)
   refine A4 (A3 (D2 Z Z Z) Z (A3 (A5 Z Z) Z (B9 (D60 r p hrow) Z Z Z ?_)));rintro _ rfl;refine A7 ?_
   refine k1 ?_
   refine B4 rfl (fun ht=>?_) (fun ht=>?_)
   ·rw [if_pos ht] at hst
    skip
    refine A4 (A3 (A5 Z Z) Z (A3 (A5 Z Z) Z (A3 (F9 Z Z Z (by omega) (by (rw [hlen];omega))) Z ?_)));refine A3 (U7 Z Z hget Z) Z (A3 (C6 Z Z (by omega)) Z (A3 (F9 Z Z Z (by omega) (by (rw [hlen];omega))) Z ?_));refine E1 (I0 TySz.out Z Z (by (rw [hlen];omega)) Z Z) ?_;refine A7 ?_
    refine k4 (k1 ?_)
    refine A4 (A3 (C6 Z Z (by omega)) Z (A3 (A5 Z Z) Z (A7 ?_)))
    refine k1 ?_
    refine ⟨p+1,by omega,by omega,?_⟩
    rw [hst]
    exact K19 ⟨le1 rfl,le1 rfl,le1 rfl,le1 rfl,le1 rfl,le1 rfl,le1 rfl,le1 rfl,trivial⟩ ⟨rfl,rfl,trivial⟩
   ·rw [if_neg (by rw [ht];decide)] at hst
    refine k5 (k4 (k1 ?_))
    refine A4 (A3 (C6 Z Z (by omega)) Z (A3 (A5 Z Z) Z (A7 ?_)))
    refine k1 ?_
    refine ⟨p+1,by omega,by omega,?_⟩
    rw [hst]
    exact K19 ⟨le1 rfl,le1 rfl,le1 rfl,le1 rfl,le1 rfl,le1 rfl,le1 rfl,le1 rfl,trivial⟩ ⟨rfl,rfl,trivial⟩
  ·have hpn:p=n:=by have:=A1 ht;omega
   subst hpn
   have hst:=hstep p (by omega)
   have hvis:a8 r (A06 p p)=!r.Lost:=by unfold A06 a8;rw [if_pos rfl,if_pos rfl]
   rw [hvis,I41] at hst
   refine k6 (k2 ?_)
   refine A4 (A3 (A8 Z) Z (A3 (A9 Z Z Z) Z (A3 (F7 Z) Z (A7 ?_))))
   refine k1 ?_
   refine B4 rfl (fun ht=>?_) (fun ht=>?_)
   ·rw [if_pos ht] at hst
    skip
    refine A4 (A3 (A5 Z Z) Z (A3 (A5 Z Z) Z (A3 (F9 Z Z Z (by omega) (by (rw [hlen];omega))) Z ?_)));refine A3 (U7 Z Z hget Z) Z (A3 (C6 Z Z (by omega)) Z (A3 (F9 Z Z Z (by omega) (by (rw [hlen];omega))) Z ?_));refine E1 (I0 TySz.out Z Z (by (rw [hlen];omega)) Z Z) ?_;refine A7 ?_
    refine k4 (k1 ?_)
    refine A4 (A3 (C6 Z Z (by omega)) Z (A3 (A5 Z Z) Z (A7 ?_)))
    refine k1 ?_
    refine ⟨i+1,by omega,by omega,?_⟩
    rw [hst]
    exact K19 ⟨le1 rfl,le1 rfl,le1 rfl,le1 rfl,le1 rfl,trivial⟩ ⟨rfl,trivial⟩
   ·rw [if_neg (by rw [ht];decide)] at hst
    refine k5 (k4 (k1 ?_))
    refine A4 (A3 (C6 Z Z (by omega)) Z (A3 (A5 Z Z) Z (A7 ?_)))
    refine k1 ?_
    refine ⟨i+1,by omega,by omega,?_⟩
    rw [hst]
    exact K19 ⟨le1 rfl,le1 rfl,le1 rfl,le1 rfl,le1 rfl,trivial⟩ ⟨rfl,trivial⟩
 ·have hil:i=rows.length:=by have:=A1 ht;omega
  subst hil
  rw [I42]
  refine k6 (k2 ?_)
  refine A4 (A3 (A5 Z Z) Z (A3 (A6 Z Z) Z (A7 ?_)))
  refine k1 (k10 ?_)
  exact H3 (U2 rfl rfl) (by repeat (first | exact C5 | refine tail_cons rfl ?_ | refine D5 _ ?_)) (ObIn.spec (ob':=[(720,_)]) ⟨rfl,trivial⟩) ⟨rfl,rfl⟩
theorem I09 (c:Comb) (hn:1≤c.Parents∧c.Parents≤32) (hr:∀h∈c.Hunks,J8 h.Rows) (hz:szC c.Hunks≤268435456):FnOk Tryz.prog 92 [N7 c] (fun rs=>rs=[E8 (p9 c.Parents.toNat c.Hunks)]):=by
 obtain ⟨n,hN⟩:∃n,n=c.Parents.toNat:=⟨_,rfl⟩
 rw [←hN]
 have hzl:=D07 c.Hunks
 refine FnOk.intro Tryz.func92 (by decide) Z Z Z Z ?_
 refine k2 ?_
 refine A4 (C7 (T7 1 Z Z Z) Z (A3 (A6 Z Z) Z (A7 ?_)))
 refine k1 (k2 (k2 ?_))
 refine A4 (A3 (A8 Z) Z (A3 (A9 Z Z Z) Z (A3 (F4 Z (.pure _ _ _ _)) Z (A3 (A5 Z Z) Z (A7 ?_)))))
 refine k1 (k3 ?_)
 refine E4 (X:=Nat) (fun k=>([(1,.s (.one (.ref 1 0))),(8,D3 CHunk 2 L5 c.Hunks),(9,C2 c.Hunks.length),(10,C2 k)],[(1,cBox c)])) (fun k=>k≤c.Hunks.length∧p9 n c.Hunks=p9 n (c.Hunks.drop k)) (fun k=>c.Hunks.length - k) 0 ⟨Nat.zero_le _,rfl⟩ (K19 ⟨le1 rfl,le1 rfl,le1 rfl,le1 rfl,trivial⟩ ⟨rfl,trivial⟩) ?_
 rintro k ⟨hk,hp⟩
 dsimp only at hk hp ⊢
 refine k2 ?_
 refine A4 (A3 (E5 Z Z) Z (A7 ?_))
 refine k1 (k2 ?_)
 refine B4 rfl (fun ht=>?_) (fun ht=>?_)
 ·have hlt:k < c.Hunks.length:=by have:=A0 ht;omega
  have hv:c.Hunks[k]?=some c.Hunks[k]:=by simp [hlt]
  have hrw:=hr _ (K76 hlt)
  have hzm:=D06 (K76 hlt)
  rw [K64 hlt] at hp
  obtain ⟨h,hx⟩:∃x,x=c.Hunks[k]:=⟨_,rfl⟩
  rw [←hx] at hv hrw hp hzm
  have hz1:=l4 h.Rows
  unfold C53 at hzm
  have hp:p9 n c.Hunks=(R4 h.Rows n&&p9 n (c.Hunks.drop (k+1))):=hp
  refine k5 (k1 (k2 (k3 (k2 ?_))))
  refine A4 (A3 (C0 Z (.pure _ _ _ _) Z (by omega) hv) Z (A3 (H1 Z Z) Z (C7 (G4 4 Z) Z (E1 (B7 TySz.out Z Z Z Z Z Z) (A7 ?_)))))
  refine k1 (k2 ?_)
  refine A4 (A3 (A8 Z) Z (A3 (A9 Z Z Z) Z (A3 (F4 Z (.pure _ _ _ _)) Z (A3 (A5 Z Z) Z (A7 ?_)))))
  refine k1 (k3 ?_)
  refine E4 (X:=Nat) (fun j=>([(1,.s (.one (.ref 1 0))),(8,D3 CHunk 2 L5 c.Hunks),(9,C2 c.Hunks.length),(10,C2 k),(15,D3 Row 3 rowC h.Rows),(16,C2 h.Rows.length),(17,C2 j)],[(1,cBox c)])) (fun j=>j≤h.Rows.length∧R4 h.Rows n=R4 (h.Rows.drop j) n) (fun j=>h.Rows.length - j) 0 ⟨Nat.zero_le _,rfl⟩ (K19 ⟨le1 rfl,le1 rfl,le1 rfl,le1 rfl,le1 rfl,le1 rfl,le1 rfl,trivial⟩ ⟨rfl,trivial⟩) ?_
  rintro j ⟨hj,hq⟩
  dsimp only at hj hq ⊢
  refine k2 ?_
  refine A4 (A3 (E5 Z Z) Z (A7 ?_))
  refine k1 (k2 ?_)
  refine B4 rfl (fun ht=>?_) (fun ht=>?_)
  ·have hlt2:j < h.Rows.length:=by have:=A0 ht;omega
   have hv2:h.Rows[j]?=some h.Rows[j]:=by simp [hlt2]
   have hm:=hrw _ (K76 hlt2)
   rw [K64 hlt2,C89] at hq
   obtain ⟨r,hy⟩:∃x,x=h.Rows[j]:=⟨_,rfl⟩
   rw [←hy] at hv2 hm hq
   have hw:=E41 r c.Parents hn hm
   rw [←hN] at hw
   refine k5 (k1 (k2 (k3 (k2 ?_))))
   refine A4 (A3 (C0 Z (.pure _ _ _ _) Z (by omega) hv2) Z (A3 (H1 Z Z) Z (C7 (G4 6 Z) Z (E1 (B7 TySz.out Z Z Z Z Z Z) (A7 ?_)))))
   refine k1 (k2 ?_)
   refine A4 (A3 (D2 Z Z Z) Z (A3 (A8 Z) Z (A3 (A9 Z Z Z) Z (B9 (hw) Z Z Z ?_))));rintro _ rfl;refine A3 (F7 Z) Z (A7 ?_)
   refine k1 ?_
   refine B4 rfl (fun ht=>?_) (fun ht=>?_)
   ·have h2:R7 n r=false:=by simpa using ht
    rw [h2,Bool.false_and] at hq
    rw [hq,Bool.false_and] at hp
    refine k2 ?_
    refine A4 (A3 (A6 Z Z) Z (A7 ?_))
    refine k1 (k10 (k12 (k11 (k11 (k12 (k12 (k11 (k11 (k12 (k11 ?_))))))))))
    exact B8 (J6 rfl rfl rfl) (by rw [hp])
   ·have h2:R7 n r=true:=by simpa using ht
    rw [h2,Bool.true_and] at hq
    refine k5 (k4 (k1 ?_))
    refine A4 (A3 (C6 Z Z (by omega)) Z (A3 (A5 Z Z) Z (A7 ?_)))
    refine k1 ?_
    exact ⟨j+1,⟨by omega,hq⟩,by omega,K19 ⟨le1 rfl,le1 rfl,le1 rfl,le1 rfl,le1 rfl,le1 rfl,le1 rfl,trivial⟩ ⟨rfl,trivial⟩⟩
  ·have hjl:j=h.Rows.length:=by have:=A1 ht;omega
   rw [hjl,K66 (Nat.le_refl _)] at hq
   have hq:R4 h.Rows n=true:=hq
   rw [hq,Bool.true_and] at hp
   refine k6 (k7 (k7 (k8 Z (k4 (k1 ?_)))))
   refine A4 (A3 (C6 Z Z (by omega)) Z (A3 (A5 Z Z) Z (A7 ?_)))
   refine k1 ?_
   exact ⟨k+1,⟨by omega,hp⟩,by omega,K19 ⟨le1 rfl,le1 rfl,le1 rfl,le1 rfl,trivial⟩ ⟨rfl,trivial⟩⟩
 ·have hkl:k=c.Hunks.length:=by have:=A1 ht;omega
  rw [hkl,K66 (Nat.le_refl _)] at hp
  refine k6 (k2 ?_)
  refine A4 (A3 (A6 Z Z) Z (A7 ?_))
  refine k1 (k10 ?_)
  exact B8 (J6 rfl rfl rfl) (by rw [hp];rfl)
theorem H09 (h:CHunk) (n:Nat) (ends:List Int) (hn:n≤32) (hr:J8 h.Rows) (hl:h.Rows.length≤268435456) (he:ends.length=n+1) (he0:∀e∈ends,0≤e) :
  FnOk Tryz.prog 156 [G66 h,F0 n,S9 ends] (fun rs=>rs=if Y9 n ends h=true then [S9 (U5 n h),E8 true] else [S9 [],E8 false]):=by
 have hnot:∀{Q:Prop},(Y9 n ends h=true→False)→(if Y9 n ends h=true then [S9 (U5 n h),E8 true] else [S9 [],E8 false])=[S9 [],E8 false]:=fun hq=>if_neg hq
 have hF:=D86 n ends h
 refine FnOk.intro Tryz.func156 (by decide) Z Z Z Z ?_
 refine k2 ?_
 refine A4 (C7 (T7 3 Z Z Z) Z (A3 (A6 Z Z) Z (A3 (A6 Z Z) Z (A7 ?_))))
 refine k1 (k2 (k2 ?_))
 refine A4 (A3 (A8 Z) Z (A3 (A9 Z Z Z) Z (A3 (F4 Z (.pure _ _ _ _)) Z (A3 (A5 Z Z) Z (A3 (C6 Z Z (by omega)) Z (A3 (N6 Z Z) Z (A3 (A5 Z Z) Z (B0 Z Z Z Z (fun hg=>by rw [hg];exact A8 Z) ?_))))))));refine B0 Z Z Z Z (fun hg=>by rw [hg];exact A9 Z Z Z) ?_;refine B0 Z Z Z Z (fun hg=>by rw [hg];exact F4 Z (.pure _ _ _ _)) ?_;refine B0 Z Z Z Z (fun hg=>by rw [hg];exact J3 Z Z) ?_;refine A3 (B5 Z (fun h=>by first | rfl | (rw [h];rfl)) (fun h=>by first | rfl | (rw [h];rfl))) Z ?_;refine A7 ?_
 refine k1 ?_
 refine B4 rfl (fun ht=>?_) (fun ht=>?_)
 ·have h1:=A0 (or_pick.symm.trans ht)
  refine k2 ?_
  refine A4 (A3 (V3 _ 1 G9) Z (A3 (A6 Z Z) Z (A7 ?_)))
  refine k1 (k10 (k11 ?_))
  refine B8 (rs:=[S9 [],E8 false]) (Z3 Z Z Z Z Z) ?_
  rw [if_neg]
  intro hq
  have h2:=(hF.1 hq).1
  rcases h1 with h1 | h1
  ·omega
  ·exact h2.2 (List.length_eq_zero_iff.1 (by omega))
 ·have h1:=A1 (or_pick.symm.trans ht)
  simp only [not_or,Decidable.not_not] at h1
  have hal:h.At.length=n+1:=by omega
  have hne:h.Rows≠[]:=fun e=>h1.2 (by rw [e];rfl)
  refine L8 [(1,C2 n),(2,D3 Int 1 G9 ends),(3,.s (.one (.ref 3 0)))] [(3,.box (G66 h).s1.cells)] (K19 ⟨le1 rfl,le1 rfl,le1 rfl,trivial⟩ ⟨rfl,trivial⟩) ?_
  refine k5 (k1 (k2 ?_))
  refine A4 (A3 (A8 Z) Z (A3 (A9 Z Z Z) Z (A3 (A5 Z Z) Z (l_new (B49 h.Rows n hn hr hl) Z Z Z Z ?_))));rintro _ _ ⟨rfl,rfl⟩;refine ⟨rfl,?_⟩;refine A3 (A6 Z Z) Z (A7 ?_)
  refine k1 (k2 (k2 ?_))
  refine A4 (A3 (A8 Z) Z (A3 (A9 Z Z Z) Z (A3 (F4 Z (.pure _ _ _ _)) Z (A3 (A5 Z Z) Z (A7 ?_)))))
  refine k1 (k3 ?_)
  refine E4 (X:=Nat) (fun k=>([(2,D3 Int 1 G9 ends),(8,.s (.one (.mut 720))),(28,D3 Int 1 G9 h.At),(29,C2 h.At.length),(30,C2 k)],[(720,.arr Int 1 G9 (A08 n h k))])) (fun k=>k≤h.At.length∧∀j,j < k→ends.getD j 0≤h.At.getD j 0∧h.At.getD j 0≤4096) (fun k=>h.At.length - k) 0 ⟨Nat.zero_le _,fun j hj=>by omega⟩ (by rw [H59];exact K19 ⟨le1 rfl,le1 rfl,le1 rfl,le1 rfl,le1 rfl,trivial⟩ ⟨rfl,trivial⟩) ?_
  rintro k ⟨hk,hp⟩
  dsimp only at hk hp ⊢
  have hlen:=I44 n h k
  refine k2 ?_
  refine A4 (A3 (E5 Z Z) Z (A7 ?_))
  refine k1 (k2 ?_)
  refine B4 rfl (fun ht=>?_) (fun ht=>?_)
  ·have hlt:k < h.At.length:=by have:=A0 ht;omega
   have hv:=getI hlt
   have hve:=getI (l:=ends) (i:=k) (by omega)
   have hget:=I45 n h k (by omega)
   have hset:=I46 n h k
   have hek:0≤ends.getD k 0:=he0 _ (K75 hve)
   have hcl:=E90 h.Rows n k
   obtain ⟨a,ha⟩:∃a,a=h.At.getD k 0:=⟨_,rfl⟩
   obtain ⟨e,hee⟩:∃e,e=ends.getD k 0:=⟨_,rfl⟩
   obtain ⟨q,hqq⟩:∃q,q=M1 h.Rows n k:=⟨_,rfl⟩
   rw [←ha] at hv hset
   rw [←hee] at hve hek
   rw [←hqq] at hget hset hcl
   refine k5 (k1 (k2 (k3 (k2 ?_))))
   refine A4 (A3 (A5 Z Z) Z (A3 (C0 Z (.pure _ _ _ _) Z (by omega) hv) Z (A3 (C9 Z Z) Z (A3 (A6 Z Z) Z (A3 (A6 Z Z) Z (A7 ?_))))))
   refine k1 (k2 (k2 ?_))
   refine A4 (A3 (A5 Z Z) Z (A3 (A5 Z Z) Z (A3 (A5 Z Z) Z (A3 (C0 Z (.pure _ _ _ _) Z (by omega) hve) Z (A3 (C9 Z Z) Z (A3 (E5 Z Z) Z (A3 (A5 Z Z) Z (B0 Z Z Z Z (fun hg=>by rw [hg];exact A5 Z Z) ?_))))))));refine B0 Z Z Z Z (fun hg=>by rw [hg];exact Q1 Z Z) ?_;refine A3 (B5 Z (fun h=>by first | rfl | (rw [h];rfl)) (fun h=>by first | rfl | (rw [h];rfl))) Z ?_;refine A7 ?_
   refine k1 ?_
   refine B4 rfl (fun ht=>?_) (fun ht=>?_)
   ·have h2:=A0 (or_pick.symm.trans ht)
    refine k2 ?_
    refine A4 (A3 (V3 _ 1 G9) Z (A3 (A6 Z Z) Z (A7 ?_)))
    refine k1 (k10 (k11 (k12 (k11 (k11 (k12 (k11 ?_)))))))
    refine B8 (rs:=[S9 [],E8 false]) (Z3 Z Z Z Z Z) ?_
    rw [if_neg]
    intro hq
    have h3:=(hF.1 hq).2 k (by omega)
    rw [←ha,←hee] at h3
    omega
   ·have h2:=A1 (or_pick.symm.trans ht)
    have h3:e≤a∧a≤4096:=by omega
    refine k5 (k1 ?_)
    refine A4 (A3 (A5 Z Z) Z (A3 (A5 Z Z) Z (A3 (F9 Z Z Z (by omega) (by (rw [hlen];omega))) Z ?_)));refine A3 (U7 Z Z hget Z) Z (A3 (A5 Z Z) Z (A3 (C6 Z Z (by omega)) Z (A3 (F9 Z Z Z (by omega) (by (rw [hlen];omega))) Z ?_)));refine E1 (I0 TySz.out Z Z (by (rw [hlen];omega)) Z Z) ?_;refine A7 ?_
    refine k4 (k1 ?_)
    refine A4 (A3 (C6 Z Z (by omega)) Z (A3 (A5 Z Z) Z (A7 ?_)))
    refine k1 ?_
    refine ⟨k+1,⟨by omega,fun j hj=>?_⟩,by omega,?_⟩
    ·by_cases e1:j=k
     ·subst e1;rw [←ha,←hee];exact h3
     ·exact hp j (by omega)
    ·rw [←hset]
     exact K19 ⟨le1 rfl,le1 rfl,le1 rfl,le1 rfl,le1 rfl,trivial⟩ ⟨rfl,trivial⟩
  ·have hkl:k=n+1:=by have:=A1 ht;omega
   subst hkl
   rw [H60]
   have hq:Y9 n ends h=true:=hF.2 ⟨⟨hal,hne⟩,hp⟩
   refine E6 (Sees.freeze (k:=720) Z) ?_
   refine k6 (k2 ?_)
   refine A4 (A3 (A5 Z Z) Z (A3 (A6 Z Z) Z (A3 (A6 Z Z) Z (A7 ?_))))
   refine k1 (k10 ?_)
   exact B8 (rs:=[S9 (U5 n h),E8 true]) (Z3 rfl rfl rfl rfl rfl) (by rw [if_pos hq])
theorem I67 (l:List Int) (hl:0 < l.length):FnOk Tryz.prog 112 [S9 l] (fun rs=>∃m,rs=[F0 m]∧∀b,m≤b↔∀e∈l,e≤b):=by
 refine FnOk.intro Tryz.func112 (by decide) Z Z Z Z ?_
 refine I56 (t:=0) rfl (.pure _ _ _ _) fun hb=>?_
 refine k2 ?_
 refine A4 (A3 (A6 Z Z) Z (A7 ?_))
 refine k1 (k2 (k2 ?_))
 refine A4 (A3 (A5 Z Z) Z (A3 (F4 Z (.pure _ _ _ _)) Z (A3 (E5 Z Z) Z (A7 ?_))))
 refine k1 ?_
 refine B4 rfl (fun ht=>?_) (fun ht=>?_)
 ·exact absurd (A0 ht) (by omega)
 refine k5 (k1 (k2 ?_))
 refine A4 (A3 (A5 Z Z) Z (A3 (C0 Z (.pure _ _ _ _) Z (by omega) (getI (l:=l) (i:=0) hl)) Z (A3 (C9 Z Z) Z (A3 (A6 Z Z) Z (A7 ?_)))))
 refine k1 (k2 (k2 ?_))
 refine A4 (A3 (A6 Z Z) Z (A7 ?_))
 refine k1 (k3 ?_)
 refine E4 (X:=Nat × Int) (fun x=>([(0,D3 Int 1 G9 l),(3,C2 x.2),(4,C2 x.1)],[])) (fun x=>(1≤x.1∧x.1≤l.length)∧∀b,x.2≤b↔∀e∈l.take x.1,e≤b) (fun x=>l.length - x.1) (1,l.getD 0 0) ⟨⟨Nat.le_refl _,hl⟩,?_⟩ (K19 ⟨le1 rfl,le1 rfl,le1 rfl,trivial⟩ trivial) ?_
 ·intro b
  have:l.take 1=[l.getD 0 0]:=by
   cases l with
   | nil=>cases hl
   | cons x r=>rfl
  dsimp only
  rw [this];simp
 rintro ⟨k,m⟩ ⟨⟨hk1,hk⟩,hp⟩
 dsimp only at hk1 hk hp ⊢
 refine k2 (k2 ?_)
 refine A4 (A3 (A5 Z Z) Z (A3 (A5 Z Z) Z (A3 (F4 Z (.pure _ _ _ _)) Z (A3 (E5 Z Z) Z (A7 ?_)))))
 refine k1 ?_
 refine B4 rfl (fun ht=>?_) (fun ht=>?_)
 ·have hlt:k < l.length:=by have:=A0 ht;omega
  have hv:=getI hlt
  refine k5 (k1 (k2 (k3 ?_)))
  refine A4 (A3 (A5 Z Z) Z (A3 (A5 Z Z) Z (A3 (A5 Z Z) Z (A3 (C0 Z (.pure _ _ _ _) Z (by omega) hv) Z (A3 (C9 Z Z) Z (A3 (n_max Z Z) Z (A3 (A6 Z Z) Z (A7 ?_))))))))
  refine k4 (k1 ?_)
  refine A4 (A3 (A5 Z Z) Z (A3 (C6 Z Z (by omega)) Z (A3 (A6 Z Z) Z (A7 ?_))))
  refine k1 ?_
  refine ⟨(k+1,if m < l.getD k 0 then l.getD k 0 else m),⟨⟨by dsimp only;omega,by dsimp only;omega⟩,?_⟩,by dsimp only;omega,K19 ⟨le1 rfl,le1 rfl,le1 rfl,trivial⟩ trivial⟩
  intro b
  dsimp only
  have e:l.take (k+1)=l.take k++[l.getD k 0]:=by
   rw [K67 hlt,K60,K57 hlt];rfl
  have h1:=hp b
  rw [e]
  constructor
  ·intro h x hx
   rcases List.mem_append.1 hx with hx | hx
   ·exact h1.1 (by omega) x hx
   ·simp only [K90,K91,or_false] at hx
    rw [hx];omega
  ·intro h
   have h2:=h1.2 (fun x hx=>h x (List.mem_append.2 (.inl hx)))
   have h3:=h (l.getD k 0) (List.mem_append.2 (.inr (by simp)))
   omega
 ·have hkl:k=l.length:=by have:=A1 ht;omega
  subst hkl
  rw [K87] at hp
  refine k6 (k2 ?_)
  refine A4 (A3 (A5 Z Z) Z (A3 (A6 Z Z) Z (A7 ?_)))
  refine k1 (k10 ?_)
  exact B8 (J6 rfl rfl rfl) ⟨m,rfl,hp⟩
theorem J84 (c:Comb) (hn:1≤c.Parents∧c.Parents≤32) (hr:∀h∈c.Hunks,J8 h.Rows) (hz:szC c.Hunks≤268435456) :
  FnOk Tryz.prog 93 [N7 c] (fun rs=>rs=[E8 (r8 c.Parents.toNat (List.replicate (c.Parents.toNat+1) 0) false 0 c.Hunks)]):=by
 obtain ⟨n,hN⟩:∃n,n=c.Parents.toNat:=⟨_,rfl⟩
 have hNc:c.Parents=(n:Int):=by omega
 rw [←hN]
 have e0:(c.Parents+1).toNat=n+1:=by omega
 have hzl:=D07 c.Hunks
 obtain ⟨W,hW⟩:∃W,W=r8 n (List.replicate (n+1) 0) false 0 c.Hunks:=⟨_,rfl⟩
 rw [←hW]
 refine FnOk.intro Tryz.func93 (by decide) Z Z Z Z ?_
 refine k2 ?_
 refine A4 (C7 (T7 1 Z Z Z) Z (A3 (A6 Z Z) Z (A7 ?_)))
 refine k1 (k2 ?_)
 refine A4 (C7 (G4 3 Z) Z (A7 ?_))
 refine k1 (k2 ?_)
 refine A4 (A3 (A8 Z) Z (A3 (A9 Z Z Z) Z (A3 (C6 Z Z (by omega)) Z (C7 (x6 720 Int G9 0 Z Z (by omega) (by omega) (fun _=>by first | exact ⟨⟨rfl,rfl⟩,trivial⟩ | exact ⟨P1 _ _ _,trivial⟩) (by first | rfl | (simp [G3,I1,Ob.free,SV.free,S1.free,TC.free]<;>rfl))) Z ?_))));refine A3 (A6 Z Z) Z (A7 ?_)
 rw [e0]
 refine k1 (k2 (k2 ?_))
 refine E6 (Sees.freeze (k:=720) Z) ?_
 refine A4 (A3 (A8 Z) Z (A3 (A9 Z Z Z) Z (A3 (F4 Z (.pure _ _ _ _)) Z (A3 (A5 Z Z) Z (A7 ?_)))))
 refine k1 (k3 ?_)
 refine E4 (X:=Nat × List Int × Bool × Int) (fun x=>([(1,.s (.one (.ref 1 0))),(3,.s (.one (.ref 3 0))),(4,D3 Int 1 G9 x.2.1),(15,D3 CHunk 2 L5 c.Hunks),(16,C2 c.Hunks.length),(17,C2 x.1)],[(1,cBox c),(3,.box [.p (.v (.bool x.2.2.1)),.p (.v (.int .u32 x.2.2.2))])])) (fun x=>x.1≤c.Hunks.length∧x.2.1.length=n+1∧(∀e∈x.2.1,0≤e)∧W=r8 n x.2.1 x.2.2.1 x.2.2.2 (c.Hunks.drop x.1)) (fun x=>c.Hunks.length - x.1) (0,List.replicate (n+1) 0,false,0) ⟨Nat.zero_le _,by simp,fun e he=>by have:=(List.mem_replicate.1 he).2;omega,hW⟩ (K19 ⟨le1 rfl,le1 rfl,le1 rfl,le1 rfl,le1 rfl,le1 rfl,trivial⟩ ⟨rfl,rfl,trivial⟩) ?_
 rintro ⟨k,ends,res,par⟩ ⟨hk,hel,he0,hp⟩
 dsimp only at hk hel he0 hp ⊢
 refine k2 ?_
 refine A4 (A3 (E5 Z Z) Z (A7 ?_))
 refine k1 (k2 ?_)
 refine B4 rfl (fun ht=>?_) (fun ht=>?_)
 ·have hlt:k < c.Hunks.length:=by have:=A0 ht;omega
  have hv:c.Hunks[k]?=some c.Hunks[k]:=by simp [hlt]
  have hmem:=K76 hlt
  have hrw:=hr _ hmem
  have hzm:=D06 hmem
  rw [K64 hlt,r8] at hp
  obtain ⟨h,hx⟩:∃x,x=c.Hunks[k]:=⟨_,rfl⟩
  rw [←hx] at hv hrw hzm hp
  have hz1:=l4 h.Rows
  have hz2:=C54 h.Rows
  unfold C53 at hzm
  have hf:=H09 h n ends (by omega) hrw (by omega) hel he0
  rw [←hNc] at hf
  refine k5 (k1 (k2 (k3 (k2 ?_))))
  refine A4 (A3 (C0 Z (.pure _ _ _ _) Z (by omega) hv) Z (A3 (H1 Z Z) Z (C7 (G4 6 Z) Z (E1 (B7 TySz.out Z Z Z Z Z Z) (A7 ?_)))))
  refine k1 (k2 ?_)
  refine A4 (A3 (A6 Z Z) Z (A7 ?_))
  refine k1 (k2 (k2 ?_))
  cases hfb:Y9 n ends h with
  | false =>
   rw [hfb,if_neg (by decide)] at hf
   rw [hfb,Bool.false_and] at hp
   refine A4 (A3 (D2 Z Z Z) Z (A3 (A8 Z) Z (A3 (A9 Z Z Z) Z (A3 (A5 Z Z) Z (B9 (hf) Z Z Z ?_)))));rintro _ rfl;refine A3 (A5 Z Z) Z (A3 (B3 Z Z) Z (A3 (B3 Z Z) Z (A3 (A6 Z Z) Z (A3 (A6 Z Z) Z (A7 ?_)))))
   refine k1 (k2 ?_)
   refine A4 (A3 (A5 Z Z) Z (A3 (F7 Z) Z (A7 ?_)))
   refine k1 ?_
   refine B4 rfl (fun ht=>?_) (fun ht=>?_)
   ·refine k2 ?_
    refine A4 (A3 (A6 Z Z) Z (A7 ?_))
    refine k1 (k10 (k11 (k12 (k11 (k11 (k12 (k11 ?_)))))))
    exact B8 (J6 rfl rfl rfl) (by rw [hp])
   ·cases ht
  | true =>
   rw [hfb,if_pos rfl] at hf
   rw [hfb,Bool.true_and] at hp
   have hpos:∀e∈U5 n h,0≤e:=by
    intro e hm
    obtain ⟨j,hj,rfl⟩:=List.mem_map.1 hm
    have hj:=List.mem_range.1 hj
    have h1:=((D86 n ends h).1 hfb).2 j hj
    have h2:=he0 _ (K75 (getI (l:=ends) (i:=j) (by omega)))
    have h3:=E90 h.Rows n j
    omega
   refine A4 (A3 (D2 Z Z Z) Z (A3 (A8 Z) Z (A3 (A9 Z Z Z) Z (A3 (A5 Z Z) Z (B9 (hf) Z Z Z ?_)))));rintro _ rfl;refine A3 (A5 Z Z) Z (A3 (B3 Z Z) Z (A3 (B3 Z Z) Z (A3 (A6 Z Z) Z (A3 (A6 Z Z) Z (A7 ?_)))))
   refine k1 (k2 ?_)
   refine A4 (A3 (A5 Z Z) Z (A3 (F7 Z) Z (A7 ?_)))
   refine k1 ?_
   refine B4 rfl (fun ht=>?_) (fun ht=>?_)
   ·cases ht
   refine k5 (k1 (k2 ?_))
   refine A4 (A3 (A8 Z) Z (A3 (A9 Z Z Z) Z (A3 (F4 Z (.pure _ _ _ _)) Z (A3 (A5 Z Z) Z (A7 ?_)))))
   refine k1 (k3 ?_)
   refine E4 (X:=Nat × Bool × Int) (fun x=>([(1,.s (.one (.ref 1 0))),(3,.s (.one (.ref 3 0))),(4,D3 Int 1 G9 (U5 n h)),(15,D3 CHunk 2 L5 c.Hunks),(16,C2 c.Hunks.length),(17,C2 k),(32,D3 Row 3 rowC h.Rows),(33,C2 h.Rows.length),(34,C2 x.1)],[(1,cBox c),(3,.box [.p (.v (.bool x.2.1)),.p (.v (.int .u32 x.2.2))])])) (fun x=>x.1≤h.Rows.length∧P8 res par h.Rows=P8 x.2.1 x.2.2 (h.Rows.drop x.1)∧r5 res h.Rows=r5 x.2.1 (h.Rows.drop x.1)∧r7 par h.Rows=r7 x.2.2 (h.Rows.drop x.1)) (fun x=>h.Rows.length - x.1) (0,res,par) ⟨Nat.zero_le _,rfl,rfl,rfl⟩ (K19 ⟨le1 rfl,le1 rfl,le1 rfl,le1 rfl,le1 rfl,le1 rfl,le1 rfl,le1 rfl,le1 rfl,trivial⟩ ⟨rfl,rfl,trivial⟩) ?_
   rintro ⟨j,res',par'⟩ ⟨hj,q1,q2,q3⟩
   dsimp only at hj q1 q2 q3 ⊢
   refine k2 ?_
   refine A4 (A3 (E5 Z Z) Z (A7 ?_))
   refine k1 (k2 ?_)
   refine B4 rfl (fun ht=>?_) (fun ht=>?_)
   ·have hlt2:j < h.Rows.length:=by have:=A0 ht;omega
    have hv2:h.Rows[j]?=some h.Rows[j]:=by simp [hlt2]
    have htl:=H28 h.Rows _ (K76 hlt2)
    rw [K64 hlt2] at q1 q2 q3
    rw [P8] at q1
    obtain ⟨r,hy⟩:∃x,x=h.Rows[j]:=⟨_,rfl⟩
    rw [←hy] at hv2 htl q1 q2 q3
    refine k5 (k1 (k2 (k3 (k2 ?_))))
    refine A4 (A3 (C0 Z (.pure _ _ _ _) Z (by omega) hv2) Z (A3 (H1 Z Z) Z (C7 (G4 9 Z) Z (E1 (B7 TySz.out Z Z Z Z Z Z) (A7 ?_)))))
    refine k1 (k2 ?_)
    by_cases hs:H8 r.Text=true
    ·refine A4 (A3 (D2 Z Z Z) Z (B9 (A91 r (by omega)) Z Z Z ?_));rintro _ rfl;refine A3 (F7 Z) Z (A3 (A5 Z Z) Z (X9 Z Z Z (by rw [hs];rfl) ?_));refine A3 (D2 Z Z Z) Z (X9 Z Z Z (by rw [hs];rfl) ?_);refine G83 (I61 r res' par' (by omega)) Z Z Z Z Z Z ?_;rintro _ _ ⟨rfl,rfl⟩;refine B0 Z Z Z Z (fun hg=>by rw [hg];exact F7 Z) ?_;refine A3 (B5 Z (fun h=>by first | rfl | (rw [h];rfl)) (fun h=>by first | rfl | (rw [h];rfl))) Z ?_;refine A7 ?_
     refine k1 ?_
     refine B4 rfl (fun ht=>?_) (fun ht=>?_)
     ·have h2:C20 res' par' r=false:=by rw [hs] at ht;simpa using ht
      rw [hs,h2,Bool.true_and,Bool.false_and] at q1
      rw [q1,Bool.false_and] at hp
      refine k2 ?_
      refine A4 (A3 (A6 Z Z) Z (A7 ?_))
      refine k1 (k10 (k12 (k11 (k11 (k12 (k12 (k11 (k11 (k12 (k11 ?_))))))))))
      exact B8 (J6 rfl rfl rfl) (by rw [hp])
     ·have h2:C20 res' par' r=true:=by rw [hs] at ht;simpa using ht
      rw [hs,h2,Bool.true_and,Bool.true_and] at q1
      refine k5 (k4 (k1 ?_))
      refine A4 (A3 (C6 Z Z (by omega)) Z (A3 (A5 Z Z) Z (A7 ?_)))
      refine k1 ?_
      exact ⟨(j+1,_,_),⟨by dsimp only;omega,q1,q2,q3⟩,by dsimp only;omega,K19 ⟨le1 rfl,le1 rfl,le1 rfl,le1 rfl,le1 rfl,le1 rfl,le1 rfl,le1 rfl,le1 rfl,trivial⟩ ⟨rfl,rfl,trivial⟩⟩
    ·have hs':H8 r.Text=false:=by simpa using hs
     refine A4 (A3 (D2 Z Z Z) Z (B9 (A91 r (by omega)) Z Z Z ?_));rintro _ rfl;refine A3 (F7 Z) Z (A3 (A5 Z Z) Z (B0 Z Z Z Z (fun hg=>by rw [hg];exact D2 Z Z Z) ?_));refine Q7 Z Z Z (by rw [hs'];decide) Z ?_;refine Q7 Z Z Z (by rw [hs'];decide) Z ?_;refine A3 (B5 (q:=true) Z (fun h=>rfl) (fun h=>by rw [hs'] at h;cases h)) Z ?_;refine A7 ?_
     rw [hs',Bool.false_and,Bool.false_and] at q1
     rw [q1,Bool.false_and] at hp
     refine k1 ?_
     refine B4 rfl (fun ht=>?_) (fun ht=>?_)
     ·refine k2 ?_
      refine A4 (A3 (A6 Z Z) Z (A7 ?_))
      refine k1 (k10 (k12 (k11 (k11 (k12 (k12 (k11 (k11 (k12 (k11 ?_))))))))))
      exact B8 (J6 rfl rfl rfl) (by rw [hp])
     ·rw [hs'] at ht;cases ht
   ·have hjl:j=h.Rows.length:=by have:=A1 ht;omega
    rw [hjl,K66 (Nat.le_refl _)] at q1 q2 q3
    have q1:P8 res par h.Rows=true:=q1
    have q2:r5 res h.Rows=res':=q2
    have q3:r7 par h.Rows=par':=q3
    rw [q1,q2,q3,Bool.true_and] at hp
    refine k6 (k7 (k7 (k8 Z (k4 (k1 ?_)))))
    refine A4 (A3 (C6 Z Z (by omega)) Z (A3 (A5 Z Z) Z (A7 ?_)))
    refine k1 ?_
    exact ⟨(k+1,_,_,_),⟨by dsimp only;omega,C49 n h,hpos,hp⟩,by dsimp only;omega,K19 ⟨le1 rfl,le1 rfl,le1 rfl,le1 rfl,le1 rfl,le1 rfl,trivial⟩ ⟨rfl,rfl,trivial⟩⟩
 ·have hkl:k=c.Hunks.length:=by have:=A1 ht;omega
  rw [hkl,K66 (Nat.le_refl _)] at hp
  have hp:W=decide (∀e∈ends,e≤4096):=hp
  refine k6 (k2 ?_)
  refine A4 (A3 (A5 Z Z) Z (B9 (I67 ends (by omega)) Z Z Z ?_));rintro _ ⟨m,rfl,hm⟩;refine A3 (B19 Z Z) Z (A3 (A6 Z Z) Z (A7 ?_))
  refine k1 (k10 ?_)
  exact B8 (J6 rfl rfl rfl) (by rw [hp];simp only [hm 4096])
theorem D32 (s:Str):FnOk Tryz.prog 91 [G7 s] (fun rs=>rs=[E8 (X3 s)]):=by
 refine FnOk.intro Tryz.func91 (by decide) Z Z Z Z ?_
 refine k2 ?_
 refine A4 (A3 (A6 Z Z) Z (A7 ?_))
 refine k1 (k2 ?_)
 refine A4 (A3 (A5 Z Z) Z (A3 (E3 Z) Z (A3 (s8 Z Z) Z (A3 (A5 Z Z) Z (B0 Z Z Z Z (fun hg=>by rw [hg];exact A5 Z Z) ?_)))));refine B0 Z Z Z Z (fun hg=>by rw [hg];exact E3 Z) ?_;refine B0 Z Z Z Z (fun hg=>by rw [hg];exact B19 Z Z) ?_;refine A3 (B5 Z (fun h=>by first | rfl | (rw [h];rfl)) (fun h=>by first | rfl | (rw [h];rfl))) Z ?_;refine A3 (A6 Z Z) Z (A7 ?_)
 refine k1 (k10 ?_)
 refine B8 (J6 Z Z Z) ?_
 rw [K1]
 unfold X3
 congr 4
 apply decide_eq_decide.2
 omega
theorem F71 (c:Comb) (hp:c.Path.length≤16777216):FnOk Tryz.prog 86 [N7 c] (fun rs=>rs=[G7 (B16 c)]):=by
 have hq:=E96 c.Path
 have hf:=I85 c.Parents
 refine FnOk.intro Tryz.func86 (by decide) Z Z Z Z ?_
 refine k2 ?_
 refine A4 (C7 (T7 1 Z Z Z) Z (A3 (A6 Z Z) Z (A7 ?_)))
 refine k1 (k2 ?_)
 refine A4 (A3 (A6 Z Z) Z (A7 ?_))
 refine k1 (k2 (k2 ?_))
 refine A4 (A3 (A8 Z) Z (A3 (A9 Z Z Z) Z (A7 ?_)))
 refine k1 ?_
 refine B4 rfl (fun ht=>?_) (fun ht=>?_)
 ·have hd:c.Dense=true:=ht
  skip
  refine A4 (A3 (A6 Z Z) Z (A7 ?_))
  refine k1 (k2 ?_)
  refine D7 (by kernel_rfl) (by kernel_rfl) (B1 (A5 Z Z) Z Z (B1 (I2 Z Z (by (simp only [K56,K58,K61];omega))) Z Z (B1 (I2 Z Z (by (simp only [K56,K58,K61];omega))) Z Z (B1 (A8 Z) Z Z (B1 (A9 Z Z Z) Z Z (B1 (O0 (D25 c.Path (by omega)) Z Z) Z Z (B1 (I2 Z Z (by (simp only [K56,K58,K61];omega))) Z Z (B1 (I2 Z Z (by (simp only [K56,K58,K61];omega))) Z Z (B1 (A8 Z) Z Z (B1 (A9 Z Z Z) Z Z (B1 (O0 (v7 c.Parents) Z Z) Z Z (B1 (I2 Z Z (by (simp only [K56,K58,K61];omega))) Z Z (B1 (I2 Z Z (by (simp only [K56,K58,K61];omega))) Z Z (B1 (A6 Z Z) Z Z (M2 ?_)))))))))))))))
  refine k1 (k10 ?_)
  exact B8 (J6 rfl rfl rfl) (by unfold B16 D04;rw [if_pos hd];simp [ccS,parS])
 ·have hd:c.Dense=false:=ht
  refine k5 (k1 (k2 ?_))
  refine D7 (by kernel_rfl) (by kernel_rfl) (B1 (A5 Z Z) Z Z (B1 (I2 Z Z (by (simp only [K56,K58,K61];omega))) Z Z (B1 (I2 Z Z (by (simp only [K56,K58,K61];omega))) Z Z (B1 (A8 Z) Z Z (B1 (A9 Z Z Z) Z Z (B1 (O0 (D25 c.Path (by omega)) Z Z) Z Z (B1 (I2 Z Z (by (simp only [K56,K58,K61];omega))) Z Z (B1 (I2 Z Z (by (simp only [K56,K58,K61];omega))) Z Z (B1 (A8 Z) Z Z (B1 (A9 Z Z Z) Z Z (B1 (O0 (v7 c.Parents) Z Z) Z Z (B1 (I2 Z Z (by (simp only [K56,K58,K61];omega))) Z Z (B1 (I2 Z Z (by (simp only [K56,K58,K61];omega))) Z Z (B1 (A6 Z Z) Z Z (M2 ?_)))))))))))))))
  refine k1 (k10 ?_)
  exact B8 (J6 rfl rfl rfl) (by unfold B16 D04;rw [hd,if_neg (by decide)];simp [combS,parS])
theorem E52 (h:CHunk) (n:Nat) (hn:n≤32) (hr:J8 h.Rows) (hl:h.Rows.length≤268435456) (ha:h.At.length=n+1) (hb:∀a∈h.At,-4611686018427387904≤a∧a≤4611686018427387904) :
  FnOk Tryz.prog 87 [G66 h,F0 n] (fun rs=>rs=[G7 (Y8 n h++[10])]):=by
 have hrep:FnOk Tryz.prog 150 [G7 [64],F0 ((n:Int)+1)] (fun rs=>rs=[G7 (atS (n+1))]):=by
  have:=F70 64 (n+1) (by omega)
  rwa [show ((n+1:Nat):Int)=(n:Int)+1 by omega] at this
 obtain ⟨A,hA⟩:∃A,A=atS (n+1):=⟨_,rfl⟩
 have hAl:A.length=n+1:=by rw [hA,x8]
 have hend:Y8 n h++[10]=A++V6 n h n++([32,43]++I7 (h.At.getD n 0) (M1 h.Rows n n)++[32]++A++[10]):=by
  unfold Y8
  rw [B70,hA]
  unfold B67 A18
  rw [if_pos rfl];simp
 rw [hend]
 rw [←hA] at hrep
 have hsl:=fun k=>B15 n h k
 have hcnt:=fun k=>E90 h.Rows n k
 have hgA:∀k,k < n+1→h.At[k]?=some (h.At.getD k 0):=fun k hk=>getI (by omega)
 have hgC:∀k,k < n+1→(F5 h.Rows n)[k]?=some (M1 h.Rows n k):=fun k hk=>I43 h.Rows n k hk
 have hrA:∀k,k < n+1 → -4611686018427387904≤h.At.getD k 0∧h.At.getD k 0≤4611686018427387904:=fun k hk=>hb _ (K75 (hgA k hk))
 refine FnOk.intro Tryz.func87 (by decide) Z Z Z Z ?_
 refine k2 ?_
 refine A4 (C7 (T7 2 Z Z Z) Z (A3 (A6 Z Z) Z (A7 ?_)))
 refine k1 (k2 ?_)
 refine A4 (A3 (A8 Z) Z (A3 (A9 Z Z Z) Z (A3 (A5 Z Z) Z (l_new (B49 h.Rows n hn hr hl) Z Z Z Z ?_))));rintro _ _ ⟨rfl,rfl⟩;refine ⟨rfl,?_⟩;refine A3 (A6 Z Z) Z (A7 ?_)
 refine k1 (k2 ?_)
 refine E6 (Sees.freeze (k:=720) Z) ?_
 refine A4 (A3 (A5 Z Z) Z (A3 (C6 Z Z (by omega)) Z (B9 (hrep) Z Z Z ?_)));rintro _ rfl;refine A3 (A6 Z Z) Z (A7 ?_)
 refine k1 (k2 ?_)
 refine A4 (C7 (E21 700 Z) Z (A7 ?_))
 refine k1 (k2 ?_)
 refine E6 (K32 701 UInt8 1 u8C 5 (kb:=700) (o:=1) Z Z Z) ?_
 refine A4 (A3 (A5 Z Z) Z (U3 (P3 (xs:=[]) (s:=A) ⟨⟨_,.inl rfl,rfl⟩,rfl⟩ (by simp only [K61];omega)) Z Z Z ?_));rintro _ _ ⟨rfl,rfl⟩;refine A7 ?_
 refine k1 (k2 (k2 ?_))
 refine A4 (A3 (A5 Z Z) Z (A3 (A5 Z Z) Z (A7 ?_)))
 refine k1 (k3 ?_)
 refine E4 (X:=Nat) (fun p=>([(1,C2 n),(2,.s (.one (.ref 2 0))),(5,D3 Int 1 G9 (F5 h.Rows n)),(6,J0 A),(7,.s (.one (.ref 700 0))),(18,C2 n),(19,C2 p)],[(2,.box (G66 h).s1.cells),(700,.tbx 124 [.ref 700 0,.buf 701 UInt8 1 u8C (A++V6 n h p)]),(701,.spare (A++V6 n h p).length 1 5)])) (fun p=>p≤n) (fun p=>n - p) 0 (Nat.zero_le _) ?_ ?_
 ·rw [show V6 n h 0=[] from rfl,K81]
  exact K19 ⟨le1 rfl,le1 rfl,le1 rfl,le1 rfl,le1 rfl,le1 rfl,le1 rfl,trivial⟩ ⟨rfl,rfl,rfl,trivial⟩
 intro p hp
 dsimp only at hp ⊢
 have hsp:=hsl p
 have hsucc:=B70 n h p
 refine k2 ?_
 refine A4 (A3 (E5 Z Z) Z (A7 ?_))
 refine k1 (k2 ?_)
 refine B4 rfl (fun ht=>?_) (fun ht=>?_)
 ·have hlt:p < n:=by have:=A0 ht;omega
  have hga:=hgA p (by omega)
  have hgc:=hgC p (by omega)
  have hra:=hrA p (by omega)
  have hcp:=hcnt p
  have hsw:B67 n h p=[32,45]++I7 (h.At.getD p 0) (M1 h.Rows n p):=by
   unfold B67 A18;rw [if_neg (by omega)]
  have hrl:=B56 (h.At.getD p 0) (M1 h.Rows n p)
  rw [hsw] at hsucc
  obtain ⟨a,haa⟩:∃a,a=h.At.getD p 0:=⟨_,rfl⟩
  obtain ⟨q,hqq⟩:∃q,q=M1 h.Rows n p:=⟨_,rfl⟩
  rw [←haa] at hga hra hrl hsucc
  rw [←hqq] at hgc hcp hrl hsucc
  have hlb:(A++V6 n h p).length≤1000:=by rw [K56];omega
  obtain ⟨B,hB⟩:∃B,B=A++V6 n h p:=⟨_,rfl⟩
  rw [←hB] at hlb ⊢
  refine k5 (k1 (k2 (k3 (k2 ?_))))
  refine A4 (A3 (A5 Z Z) Z (A3 (A6 Z Z) Z (A7 ?_)))
  refine k1 ?_
  refine C03 11 (by kernel_rfl) (by kernel_rfl) Z (B1 (A8 Z) Z Z (B1 (A9 Z Z Z) Z Z (B1 (A5 Z Z) Z Z (B1 (C0 Z (.pure _ _ _ _) Z (by omega) hga) Z Z (B1 (C9 Z Z) Z Z (B1 (A5 Z Z) Z Z (B1 (A5 Z Z) Z Z (B1 (C0 Z (.pure _ _ _ _) Z (by omega) hgc) Z Z (B1 (C9 Z Z) Z Z (B1 (O0 (D24 a q hra (by omega)) Z Z) Z Z (B1 (I2 Z Z (by (simp only [K56,K58,K61];omega))) Z Z (M2 (C71 (P3 (xs:=B) (s:=[32,45]++I7 a q) ⟨⟨_,.inr rfl,rfl⟩,rfl⟩ (by simp only [K56,K58,K61];omega)) Z Z Z ?_)))))))))))));rintro _ _ ⟨rfl,rfl⟩;refine ⟨_,rfl,?_⟩;refine M2 ?_
  refine k4 (k1 ?_)
  refine A4 (A3 (C6 Z Z (by omega)) Z (A3 (A5 Z Z) Z (A7 ?_)))
  refine k1 ?_
  refine ⟨p+1,by omega,by omega,?_⟩
  have hs2:A++V6 n h (p+1)=B++([32,45]++I7 a q):=by rw [hsucc,hB,K68]
  rw [hs2]
  exact K19 ⟨le1 rfl,le1 rfl,le1 rfl,le1 rfl,le1 rfl,le1 rfl,le1 rfl,trivial⟩ ⟨rfl,rfl,rfl,trivial⟩
 ·have hpn:p=n:=by have:=A1 ht;omega
  subst hpn
  have hga:=hgA p (by omega)
  have hgc:=hgC p (by omega)
  have hra:=hrA p (by omega)
  have hcp:=hcnt p
  have hrl:=B56 (h.At.getD p 0) (M1 h.Rows p p)
  obtain ⟨a,haa⟩:∃a,a=h.At.getD p 0:=⟨_,rfl⟩
  obtain ⟨q,hqq⟩:∃q,q=M1 h.Rows p p:=⟨_,rfl⟩
  rw [←haa] at hga hra hrl ⊢
  rw [←hqq] at hgc hcp hrl ⊢
  have hlb:(A++V6 p h p).length≤1000:=by rw [K56];omega
  obtain ⟨B,hB⟩:∃B,B=A++V6 p h p:=⟨_,rfl⟩
  rw [←hB] at hlb ⊢
  refine k6 (k2 ?_)
  refine C03 15 (by kernel_rfl) (by kernel_rfl) Z (B1 (A8 Z) Z Z (B1 (A9 Z Z Z) Z Z (B1 (A5 Z Z) Z Z (B1 (C0 Z (.pure _ _ _ _) Z (by omega) hga) Z Z (B1 (C9 Z Z) Z Z (B1 (A5 Z Z) Z Z (B1 (A5 Z Z) Z Z (B1 (C0 Z (.pure _ _ _ _) Z (by omega) hgc) Z Z (B1 (C9 Z Z) Z Z (B1 (O0 (D24 a q hra (by omega)) Z Z) Z Z (B1 (I2 Z Z (by (simp only [K56,K58,K61];omega))) Z Z (B1 (I2 Z Z (by (simp only [K56,K58,K61];omega))) Z Z (B1 (A5 Z Z) Z Z (B1 (I2 Z Z (by (simp only [K56,K58,K61];omega))) Z Z (B1 (I2 Z Z (by (simp only [K56,K58,K61];omega))) Z Z (M2 (C71 (P3 (xs:=B) (s:=[32,43]++I7 a q++[32]++A++[10]) ⟨⟨_,.inr rfl,rfl⟩,rfl⟩ (by simp only [K56,K58,K61];omega)) Z Z Z ?_)))))))))))))))));rintro _ _ ⟨rfl,rfl⟩;refine ⟨_,rfl,?_⟩;refine M2 ?_
  refine k1 (k2 ?_)
  refine A4 (D17 (k:=700) (k':=701) ⟨_,rfl,rfl,rfl⟩ A57 Z Z Z Z Z (.inr Z) Z (A3 (A6 Z Z) Z (A7 ?_)))
  refine k1 (k10 ?_)
  exact B8 (J6 rfl rfl rfl) rfl
def C86 (r:Row):UInt8:=if r.Lost then 45 else 43
theorem crow_ok (r:Row) (n:Nat) (hn:n≤32) (hm:0≤r.Marks∧r.Marks < 4294967296) (hx:r.Text.length≤268435456) :
  FnOk Tryz.prog 88 [pRow r,F0 n] (fun rs=>rs=[G7 (A11 n r).flatten]):=by
 rw [E98]
 refine FnOk.intro Tryz.func88 (by decide) Z Z Z Z ?_
 refine k2 ?_
 refine A4 (C7 (T7 2 Z Z Z) Z (A3 (A6 Z Z) Z (A7 ?_)))
 refine k1 (k2 ?_)
 refine A4 (A3 (A6 Z Z) Z (A7 ?_))
 refine J9 ?_
 refine u7 [(1,C2 n),(2,.s (.one (.ref 2 0))),(5,I8 (.int .u8 (C86 r).toNat))] [(2,.box (pRow r).s1.cells)] ?_ ?_
 ·refine k2 ?_
  refine A4 (A3 (A8 Z) Z (A3 (A9 Z Z Z) Z (A7 ?_)))
  refine k1 ?_
  refine B4 rfl (fun ht=>?_) (fun ht=>?_)
  ·have h:r.Lost=true:=ht
   skip
   refine A4 (A3 (A6 Z Z) Z (A7 ?_))
   refine k1 ?_
   rw [show C86 r=45 by unfold C86;rw [h];rfl]
   exact K19 ⟨le1 rfl,le1 rfl,le1 rfl,trivial⟩ ⟨rfl,trivial⟩
  ·have h:r.Lost=false:=ht
   refine k5 (k1 ?_)
   rw [show C86 r=43 by unfold C86;rw [h];rfl]
   exact K19 ⟨le1 rfl,le1 rfl,le1 rfl,trivial⟩ ⟨rfl,trivial⟩
 refine k2 ?_
 refine A4 (A3 (A5 Z Z) Z (A3 (A8 Z) Z (A3 (A9 Z Z Z) Z (A3 (E3 Z) Z (A3 (C6 Z Z (by omega)) Z (A3 (C6 Z Z (by omega)) Z (C7 (I96 730 UInt8 u8C Z Z (by omega) (by omega) (by first | rfl | (simp [G3,I1,Ob.free,SV.free,S1.free,TC.free]<;>rfl))) Z ?_)))))));refine A3 (A6 Z Z) Z (A7 ?_)
 refine k1 (k2 (k2 ?_))
 refine A4 (A3 (A5 Z Z) Z (A3 (A5 Z Z) Z (A7 ?_)))
 refine k1 (k3 ?_)
 refine E4 (X:=Nat) (fun p=>([(1,C2 n),(2,.s (.one (.ref 2 0))),(5,I8 (.int .u8 (C86 r).toNat)),(6,.s (.one (.buf 730 UInt8 1 u8C (P0 p r)))),(17,C2 n),(18,C2 p)],[(2,.box (pRow r).s1.cells),(730,.spare (P0 p r).length 1 5)])) (fun p=>p≤n) (fun p=>n - p) 0 (Nat.zero_le _) (K19 ⟨le1 rfl,le1 rfl,le1 rfl,le1 rfl,le1 rfl,le1 rfl,trivial⟩ ⟨rfl,rfl,trivial⟩) ?_
 intro p hp
 dsimp only at hp ⊢
 have hml:=W7 p r
 have hsucc:=H65 p r
 refine k2 ?_
 refine A4 (A3 (E5 Z Z) Z (A7 ?_))
 refine k1 (k2 ?_)
 refine B4 rfl (fun ht=>?_) (fun ht=>?_)
 ·have hlt:p < n:=by have:=A0 ht;omega
  refine k5 (k1 (k2 (k3 (k2 ?_))))
  refine A4 (A3 (A5 Z Z) Z (A3 (A6 Z Z) Z (A7 ?_)))
  refine k1 (k2 ?_)
  refine A4 (A3 (A8 Z) Z (A3 (A9 Z Z Z) Z (A3 (A5 Z Z) Z (A3 (C59 Z Z (by omega)) Z (A3 (l8 Z Z Z (fun _=>rfl)) Z (A3 (J3 Z Z) Z (A7 ?_)))))))
  refine k1 ?_
  have h3:0≤r.Marks / 2 ^ p:=Int.ediv_nonneg hm.1 (Int.pow_nonneg (by decide))
  have h4:r.Marks / 2 ^ p≤r.Marks:=Int.ediv_le_self _ hm.1
  have e32:r.Marks.fdiv (2 ^ (min (p:Int).toNat IntKind.u32.bits))=r.Marks / 2 ^ p:=I73 r.Marks p (by omega)
  have e1:=H29 (r.Marks / 2 ^ p) (by omega)
  refine B4 rfl (fun ht=>?_) (fun ht=>?_)
  ·rw [e32,e1] at ht
   have hb:V0 r.Marks p=true:=by unfold V0;simpa using ht
   have hmk:A51 r p=C86 r:=by unfold A51 C86;rw [hb,if_neg (by decide)]
   rw [hmk] at hsucc
   skip
   refine A4 (A3 (A5 Z Z) Z (A3 (A5 Z Z) Z (A3 (E2 (c:=u8C) (ys:=[C86 r]) (E9 Z Z Z Z I4) Z Z Z) Z (C7 (L1 Z Z Z (.pure _ _ _ _) (by (simp only [K58,K61];omega)) Z) Z (A3 (A6 Z Z) Z (A7 ?_))))))
   refine k4 (k1 ?_)
   refine A4 (A3 (C6 Z Z (by omega)) Z (A3 (A5 Z Z) Z (A7 ?_)))
   refine k1 ?_
   refine ⟨p+1,by omega,by omega,?_⟩
   rw [hsucc]
   exact K19 ⟨le1 rfl,le1 rfl,le1 rfl,le1 rfl,le1 rfl,le1 rfl,trivial⟩ ⟨rfl,rfl,trivial⟩
  ·rw [e32,e1] at ht
   have hb:V0 r.Marks p=false:=by unfold V0;simpa using ht
   have hmk:A51 r p=32:=by unfold A51;rw [if_pos hb]
   rw [hmk] at hsucc
   skip
   refine A4 (A3 (A5 Z Z) Z (A3 (E2 (c:=u8C) (ys:=[32]) (E9 Z Z Z Z I4) Z Z Z) Z (C7 (L1 Z Z Z (.pure _ _ _ _) (by (simp only [K58,K61];omega)) Z) Z (A3 (A6 Z Z) Z (A7 ?_)))))
   refine k4 (k1 ?_)
   refine A4 (A3 (C6 Z Z (by omega)) Z (A3 (A5 Z Z) Z (A7 ?_)))
   refine k1 ?_
   refine ⟨p+1,by omega,by omega,?_⟩
   rw [hsucc]
   exact K19 ⟨le1 rfl,le1 rfl,le1 rfl,le1 rfl,le1 rfl,le1 rfl,trivial⟩ ⟨rfl,rfl,trivial⟩
 ·have hpn:p=n:=by have:=A1 ht;omega
  subst hpn
  refine k6 (k2 ?_)
  refine A4 (A3 (A5 Z Z) Z (A3 (A8 Z) Z (A3 (A9 Z Z Z) Z (C7 (C27 TyStr.out Z Z Z (by omega) Z) Z (A3 (A6 Z Z) Z (A7 ?_))))))
  refine k1 (k2 (k2 ?_))
  refine A4 (A3 (A8 Z) Z (A3 (A9 Z Z Z) Z (B9 (B83 r.Text (by omega)) Z Z Z ?_)));rintro _ rfl;refine A3 (F7 Z) Z (A7 ?_)
  refine k1 ?_
  refine B4 rfl (fun ht=>?_) (fun ht=>?_)
  ·have h:ended r.Text=false:=by simpa using ht
   skip
   refine A4 (A3 (A5 Z Z) Z (C7 (C27 TyStr.out Z Z Z (by (simp only [K56,K58,K61];omega)) Z) Z (A3 (A6 Z Z) Z (A7 ?_))))
   refine k1 (k2 ?_)
   refine A4 (A3 (A5 Z Z) Z (A3 (m3 TyStr.out Z (.buf _ _ _ _ _)) Z (A3 (A6 Z Z) Z (A7 ?_))))
   refine k1 (k10 ?_)
   exact B8 (J6 rfl rfl rfl) (by rw [h,if_neg (by decide)];rfl)
  ·have h:ended r.Text=true:=by simpa using ht
   refine k5 (k1 (k2 ?_))
   refine A4 (A3 (A5 Z Z) Z (A3 (m3 TyStr.out Z (.buf _ _ _ _ _)) Z (A3 (A6 Z Z) Z (A7 ?_))))
   refine k1 (k10 ?_)
   exact B8 (J6 rfl rfl rfl) (by rw [if_pos h,K81])
structure CFit (c:Comb):Prop where
 par:0≤c.Parents∧c.Parents≤32
 path:c.Path.length≤4194304
 sz:szC c.Hunks≤268435456
 rows:∀h∈c.Hunks,J8 h.Rows
 ats:∀h∈c.Hunks,h.At.length=c.Parents.toNat+1∧∀a∈h.At,-4611686018427387904≤a∧a≤4611686018427387904
theorem J85 (c:Comb) (hc:CFit c):FnOk Tryz.prog 94 [N7 c] (fun rs=>rs=[F0 (T6 c).length]):=by
 obtain ⟨h1,h2,h3,h4,h5⟩:=hc
 have hzl:=D07 c.Hunks
 have hm29:markS.length=29:=rfl
 obtain ⟨n,hN⟩:∃n,n=c.Parents.toNat:=⟨_,rfl⟩
 have hNc:c.Parents=(n:Int):=by omega
 have hn:n≤32:=by omega
 have hct:=fun k=>I86 c (by omega) k
 have hcs:=fun k h=>H62 c k h
 rw [←hN] at h5 hcs
 refine FnOk.intro Tryz.func94 (by decide) Z Z Z Z ?_
 refine k2 ?_
 refine A4 (C7 (T7 1 Z Z Z) Z (A3 (A6 Z Z) Z (A7 ?_)))
 refine k1 (k2 ?_)
 refine A4 (A3 (D2 Z Z Z) Z (B9 (F71 c (by omega)) Z Z Z ?_));rintro _ rfl;refine A3 (E3 Z) Z (A3 (A6 Z Z) Z (A7 ?_))
 refine k1 (k2 (k2 ?_))
 refine A4 (A3 (A8 Z) Z (A3 (A9 Z Z Z) Z (A3 (F4 Z (.pure _ _ _ _)) Z (A3 (A5 Z Z) Z (A7 ?_)))))
 refine k1 (k3 ?_)
 refine E4 (X:=Nat) (fun k=>([(1,.s (.one (.ref 1 0))),(3,C2 (cTo c k).length),(12,D3 CHunk 2 L5 c.Hunks),(13,C2 c.Hunks.length),(14,C2 k)],[(1,cBox c)])) (fun k=>k≤c.Hunks.length) (fun k=>c.Hunks.length - k) 0 (Nat.zero_le _) (by rw [E94];exact K19 ⟨le1 rfl,le1 rfl,le1 rfl,le1 rfl,le1 rfl,trivial⟩ ⟨rfl,trivial⟩) ?_
 intro k hk
 dsimp only at hk ⊢
 have hck:=hct k
 refine k2 ?_
 refine A4 (A3 (E5 Z Z) Z (A7 ?_))
 refine k1 (k2 ?_)
 refine B4 rfl (fun ht=>?_) (fun ht=>?_)
 ·have hlt:k < c.Hunks.length:=by have:=A0 ht;omega
  have hv:c.Hunks[k]?=some c.Hunks[k]:=by simp [hlt]
  have hmem:=K76 hlt
  have hrw:=h4 _ hmem
  have hat:=h5 _ hmem
  have hzm:=D06 hmem
  have hsucc:=hcs k hlt
  obtain ⟨h,hx⟩:∃x,x=c.Hunks[k]:=⟨_,rfl⟩
  rw [←hx] at hv hrw hat hzm hsucc
  have hz1:=l4 h.Rows
  have hz2:=C54 h.Rows
  unfold C53 at hzm
  have hh:=E52 h n hn hrw (by omega) hat.1 hat.2
  rw [←hNc] at hh
  have hhl:=D48 hn h
  obtain ⟨base,hbase⟩:∃base,base=(cTo c k).length:=⟨_,rfl⟩
  have hcl:=congrArg List.length hsucc
  rw [K56,F96,K56,←hbase] at hcl
  rw [←hbase] at hck ⊢
  obtain ⟨hd,hhd⟩:∃hd,hd=Y8 n h++[10]:=⟨_,rfl⟩
  have hdl:hd.length≤926:=by rw [hhd,K56];simp only [K58,K61];omega
  rw [←hhd] at hh hcl
  refine k5 (k1 (k2 (k3 (k2 ?_))))
  refine A4 (A3 (C0 Z (.pure _ _ _ _) Z (by omega) hv) Z (A3 (H1 Z Z) Z (C7 (G4 5 Z) Z (E1 (B7 TySz.out Z Z Z Z Z Z) (A7 ?_)))))
  refine k1 (k2 ?_)
  refine A4 (A3 (A5 Z Z) Z (A3 (D2 Z Z Z) Z (A3 (A8 Z) Z (A3 (A9 Z Z Z) Z (B9 (hh) Z Z Z ?_)))));rintro _ rfl;refine A3 (E3 Z) Z (A3 (C6 Z Z (by omega)) Z (A3 (A6 Z Z) Z (A7 ?_)))
  refine k1 (k2 ?_)
  refine A4 (A3 (A8 Z) Z (A3 (A9 Z Z Z) Z (A3 (F4 Z (.pure _ _ _ _)) Z (A3 (A5 Z Z) Z (A7 ?_)))))
  refine k1 (k3 ?_)
  refine E4 (X:=Nat) (fun j=>([(1,.s (.one (.ref 1 0))),(3,C2 (base+hd.length+(rTo n h.Rows j).length:Nat)),(12,D3 CHunk 2 L5 c.Hunks),(13,C2 c.Hunks.length),(14,C2 k),(26,D3 Row 3 rowC h.Rows),(27,C2 h.Rows.length),(28,C2 j)],[(1,cBox c)])) (fun j=>j≤h.Rows.length) (fun j=>h.Rows.length - j) 0 (Nat.zero_le _) ?_ ?_
  ·have e:((base+hd.length+(rTo n h.Rows 0).length:Nat):Int)=(base:Int)+(hd.length:Int):=by rw [H63];simp
   rw [e]
   exact K19 ⟨le1 rfl,le1 rfl,le1 rfl,le1 rfl,le1 rfl,le1 rfl,le1 rfl,le1 rfl,trivial⟩ ⟨rfl,trivial⟩
  intro j hj
  dsimp only at hj ⊢
  have hrl:=I84 hn h.Rows j
  refine k2 ?_
  refine A4 (A3 (E5 Z Z) Z (A7 ?_))
  refine k1 (k2 ?_)
  refine B4 rfl (fun ht=>?_) (fun ht=>?_)
  ·have hlt2:j < h.Rows.length:=by have:=A0 ht;omega
   have hv2:h.Rows[j]?=some h.Rows[j]:=by simp [hlt2]
   have hrm:=D47 (K76 hlt2)
   have hsucc2:=H64 n h.Rows j hlt2
   obtain ⟨r,hy⟩:∃x,x=h.Rows[j]:=⟨_,rfl⟩
   rw [←hy] at hv2 hrm hsucc2
   have hrm:r.Text.length+96≤(h.Rows.map Q4).sum:=hrm
   have hl2:=congrArg List.length hsucc2
   have hml:=W7 n r
   rw [K56,E98,K56,K56,hml] at hl2
   refine k5 (k1 (k2 (k3 (k2 ?_))))
   refine A4 (A3 (C0 Z (.pure _ _ _ _) Z (by omega) hv2) Z (A3 (H1 Z Z) Z (C7 (G4 7 Z) Z (E1 (B7 TySz.out Z Z Z Z Z Z) (A7 ?_)))))
   refine k1 (k2 ?_)
   refine A4 (A3 (A5 Z Z) Z (A3 (A8 Z) Z (A3 (A9 Z Z Z) Z (A3 (A8 Z) Z (A3 (A9 Z Z Z) Z (A3 (E3 Z) Z (A3 (C6 Z Z (by omega)) Z (A3 (C6 Z Z (by omega)) Z (A3 (A6 Z Z) Z (A7 ?_))))))))))
   refine k1 (k2 ?_)
   refine A4 (A3 (A8 Z) Z (A3 (A9 Z Z Z) Z (B9 (B83 r.Text (by omega)) Z Z Z ?_)));rintro _ rfl;refine A3 (F7 Z) Z (A7 ?_)
   refine k1 ?_
   refine B4 rfl (fun ht=>?_) (fun ht=>?_)
   ·have h2:ended r.Text=false:=by simpa using ht
    rw [h2,if_neg (by decide),hm29] at hl2
    have e:((base+hd.length+(rTo n h.Rows (j+1)).length:Nat):Int)=((base+hd.length+(rTo n h.Rows j).length:Nat):Int)+(c.Parents+(r.Text.length:Int))+29:=by omega
    skip
    refine A4 (A3 (A5 Z Z) Z (A3 (C6 Z Z (by omega)) Z (A3 (A6 Z Z) Z (A7 ?_))))
    refine k4 (k1 ?_)
    refine A4 (A3 (C6 Z Z (by omega)) Z (A3 (A5 Z Z) Z (A7 ?_)))
    refine k1 ?_
    refine ⟨j+1,by omega,by omega,?_⟩
    rw [e]
    exact K19 ⟨le1 rfl,le1 rfl,le1 rfl,le1 rfl,le1 rfl,le1 rfl,le1 rfl,le1 rfl,trivial⟩ ⟨rfl,trivial⟩
   ·have h2:ended r.Text=true:=by simpa using ht
    rw [if_pos h2,K61] at hl2
    have e:((base+hd.length+(rTo n h.Rows (j+1)).length:Nat):Int)=((base+hd.length+(rTo n h.Rows j).length:Nat):Int)+(c.Parents+(r.Text.length:Int)):=by omega
    refine k5 (k4 (k1 ?_))
    refine A4 (A3 (C6 Z Z (by omega)) Z (A3 (A5 Z Z) Z (A7 ?_)))
    refine k1 ?_
    refine ⟨j+1,by omega,by omega,?_⟩
    rw [e]
    exact K19 ⟨le1 rfl,le1 rfl,le1 rfl,le1 rfl,le1 rfl,le1 rfl,le1 rfl,le1 rfl,trivial⟩ ⟨rfl,trivial⟩
  ·have hjl:j=h.Rows.length:=by have:=A1 ht;omega
   subst hjl
   have e:base+hd.length+(rTo n h.Rows h.Rows.length).length=(cTo c (k+1)).length:=by omega
   rw [e]
   refine k6 (k7 (k7 (k8 Z (k4 (k1 ?_)))))
   refine A4 (A3 (C6 Z Z (by omega)) Z (A3 (A5 Z Z) Z (A7 ?_)))
   refine k1 ?_
   exact ⟨k+1,by omega,by omega,K19 ⟨le1 rfl,le1 rfl,le1 rfl,le1 rfl,le1 rfl,trivial⟩ ⟨rfl,trivial⟩⟩
 ·have hkl:k=c.Hunks.length:=by have:=A1 ht;omega
  subst hkl
  rw [E95]
  refine k6 (k2 ?_)
  refine A4 (A3 (A5 Z Z) Z (A3 (A6 Z Z) Z (A7 ?_)))
  refine k1 (k10 ?_)
  exact B8 (J6 rfl rfl rfl) rfl
theorem F72 {c:Comb} (hp:c.Path.length≤4194304) (hn:1≤c.Parents∧c.Parents≤32) (hz:szC c.Hunks≤268435456) (hr:∀h∈c.Hunks,J8 h.Rows) (hg:T3 c.Parents.toNat c.Hunks=true):CFit c:=by
 refine ⟨by omega,hp,hz,hr,fun h hm=>?_⟩
 unfold T3 at hg
 rw [K59] at hg
 obtain ⟨a1,a2,a3⟩:=B96 c.Hunks _ (fun k hk=>by rw [K60,List.getElem?_replicate_of_lt hk];exact Int.le_refl _) hg.1 h hm
 refine ⟨a1,fun a ha=>?_⟩
 obtain ⟨k,hk,rfl⟩:=List.getElem_of_mem ha
 have h1:=a3 k (by omega)
 have h2:=E90 h.Rows c.Parents.toNat k
 have e:h.At.getD k 0=h.At[k]:=by rw [K60,K57 hk];rfl
 rw [e] at h1
 omega
theorem B85 (c:Comb) (hz:szC c.Hunks≤268435456) (hr:∀h∈c.Hunks,J8 h.Rows):FnOk Tryz.prog 40 [N7 c] (fun rs=>rs=[F0 (G8 c)]):=by
 refine FnOk.intro Tryz.func40 (by decide) Z Z Z Z ?_
 refine k2 ?_
 refine A4 (C7 (T7 1 Z Z Z) Z (A3 (A6 Z Z) Z (A7 ?_)))
 refine k1 (k2 (k3 (k2 ?_)))
 refine A4 (A3 (A8 Z) Z (A3 (A9 Z Z Z) Z (B9 (D32 c.Path) Z Z Z ?_)));rintro _ rfl;refine A3 (F7 Z) Z (A3 (A6 Z Z) Z (A7 ?_))
 refine k1 ?_
 refine B4 rfl (fun ht=>?_) (fun ht=>?_)
 ·have h:X3 c.Path=false:=by simpa using ht
  refine k2 ?_
  refine A4 (A3 (A6 Z Z) Z (A7 ?_))
  refine k1 (k10 (k12 (k11 ?_)))
  exact B8 (J6 rfl rfl rfl) (by unfold G8;rw [if_pos h])
 have h:X3 c.Path=true:=by simpa using ht
 have hpl:=A0 h
 refine k2 ?_
 refine A4 (A3 (A8 Z) Z (A3 (A9 Z Z Z) Z (A3 (E5 Z Z) Z (A3 (A5 Z Z) Z (B0 Z Z Z Z (fun hg=>by rw [hg];exact A8 Z) ?_)))));refine B0 Z Z Z Z (fun hg=>by rw [hg];exact A9 Z Z Z) ?_;refine B0 Z Z Z Z (fun hg=>by rw [hg];exact Q1 Z Z) ?_;refine A3 (B5 Z (fun h=>by first | rfl | (rw [h];rfl)) (fun h=>by first | rfl | (rw [h];rfl))) Z ?_;refine A3 (A6 Z Z) Z (A7 ?_)
 refine k1 ?_
 refine B4 rfl (fun ht=>?_) (fun ht=>?_)
 ·have h1:=A0 (or_pick.symm.trans ht)
  refine k2 ?_
  refine A4 (A3 (A6 Z Z) Z (A7 ?_))
  refine k1 (k10 (k12 (k11 ?_)))
  exact B8 (J6 rfl rfl rfl) (by unfold G8;rw [if_neg (by rw [h];decide),if_pos (by omega)])
 have h1:=A1 (or_pick.symm.trans ht)
 have hn:1≤c.Parents∧c.Parents≤32:=by omega
 refine k2 ?_
 refine A4 (A3 (D2 Z Z Z) Z (B9 (I09 c hn hr hz) Z Z Z ?_));rintro _ rfl;refine A3 (F7 Z) Z (A3 (A6 Z Z) Z (A7 ?_))
 refine k1 ?_
 refine B4 rfl (fun ht=>?_) (fun ht=>?_)
 ·have h2:p9 c.Parents.toNat c.Hunks=false:=by simpa using ht
  refine k2 ?_
  refine A4 (A3 (A6 Z Z) Z (A7 ?_))
  refine k1 (k10 (k12 (k11 ?_)))
  exact B8 (J6 rfl rfl rfl) (by unfold G8;rw [if_neg (by rw [h];decide),if_neg (by omega),if_pos h2])
 have h2:p9 c.Parents.toNat c.Hunks=true:=by simpa using ht
 have hw:=J84 c hn hr hz
 rw [H53 (by omega) h2] at hw
 refine k2 ?_
 refine A4 (A3 (D2 Z Z Z) Z (B9 (hw) Z Z Z ?_));rintro _ rfl;refine A3 (F7 Z) Z (A3 (A6 Z Z) Z (A7 ?_))
 refine k1 ?_
 refine B4 rfl (fun ht=>?_) (fun ht=>?_)
 ·have h3:T3 c.Parents.toNat c.Hunks=false:=by simpa using ht
  refine k2 ?_
  refine A4 (A3 (A6 Z Z) Z (A7 ?_))
  refine k1 (k10 (k12 (k11 ?_)))
  exact B8 (J6 rfl rfl rfl) (by unfold G8;rw [if_neg (by rw [h];decide),if_neg (by omega),if_neg (by rw [h2];decide),if_pos h3])
 have h3:T3 c.Parents.toNat c.Hunks=true:=by simpa using ht
 refine k2 ?_
 refine A4 (A3 (D2 Z Z Z) Z (B9 (J85 c (F72 (by omega) hn hz hr h3)) Z Z Z ?_));rintro _ rfl;refine A3 (Q1 Z Z) Z (A3 (A6 Z Z) Z (A7 ?_))
 refine k1 ?_
 refine B4 rfl (fun ht=>?_) (fun ht=>?_)
 ·have h4:=A0 ht
  refine k2 ?_
  refine A4 (A3 (A6 Z Z) Z (A7 ?_))
  refine k1 (k10 (k12 (k11 ?_)))
  exact B8 (J6 rfl rfl rfl) (by unfold G8;rw [if_neg (by rw [h];decide),if_neg (by omega),if_neg (by rw [h2];decide),if_neg (by rw [h3];decide),if_pos (by omega)])
 have h4:=A1 ht
 refine k5 (k2 ?_)
 refine A4 (A3 (A6 Z Z) Z (A7 ?_))
 refine k1 (k10 ?_)
 exact B8 (J6 rfl rfl rfl) (by unfold G8;rw [if_neg (by rw [h];decide),if_neg (by omega),if_neg (by rw [h2];decide),if_neg (by rw [h3];decide),if_neg (by omega)])
theorem I10 {c:Comb} (h:G8 c=0) (hz:szC c.Hunks≤268435456) (hr:∀h∈c.Hunks,J8 h.Rows):CFit c:=by
 obtain ⟨h1,h2,h3,h4,h5⟩:=B13 h
 have hp:=A0 h5
 have hg:T3 c.Parents.toNat c.Hunks=true:=by
  cases hb:T3 c.Parents.toNat c.Hunks with
  | true=>rfl
  | false =>
   exfalso
   unfold G8 at h
   rw [hb] at h
   rw [if_neg (by rw [h5];decide),if_neg (by omega)] at h
   split at h
   ·cases h
   ·cases h
 exact F72 (by omega) (by omega) hz hr hg
theorem E53 (c:Comb) (hz:szC c.Hunks≤268435456) (hr:∀h∈c.Hunks,J8 h.Rows):FnOk Tryz.prog 38 [N7 c] (fun rs=>rs=if G8 c=0 then [G7 (T6 c),F0 0] else [G7 [],F0 (G8 c)]):=by
 by_cases hck:G8 c=0
 rotate_left
 ·rw [if_neg hck]
  refine FnOk.intro Tryz.func38 (by decide) Z Z Z Z ?_
  refine k2 ?_
  refine A4 (C7 (T7 1 Z Z Z) Z (A3 (A6 Z Z) Z (A3 (A6 Z Z) Z (A7 ?_))))
  refine k1 (k2 (k2 ?_))
  refine A4 (A3 (D2 Z Z Z) Z (B9 (B85 c hz hr) Z Z Z ?_));rintro _ rfl;refine A3 (A6 Z Z) Z (A7 ?_)
  refine k1 (k2 ?_)
  refine A4 (A3 (A5 Z Z) Z (A3 (N6 Z Z) Z (A7 ?_)))
  refine k1 ?_
  refine B4 rfl (fun ht=>?_) (fun ht=>?_)
  rotate_left
  ·exact absurd (Decidable.not_not.1 (A1 ht)) hck
  refine k2 ?_
  refine A4 (A3 (A5 Z Z) Z (A3 (A6 Z Z) Z (A3 (A6 Z Z) Z (A7 ?_))))
  refine k1 (k10 (k11 ?_))
  exact B8 (Z3 rfl rfl rfl rfl rfl) rfl
 rw [if_pos hck]
 have hcc:=B85 c hz hr
 rw [hck] at hcc
 obtain ⟨h1,h2,_,h4,h5⟩:=I10 hck hz hr
 have hzl:=D07 c.Hunks
 obtain ⟨n,hN⟩:∃n,n=c.Parents.toNat:=⟨_,rfl⟩
 have hNc:c.Parents=(n:Int):=by omega
 have hn:n≤32:=by omega
 have hct:=fun k=>I86 c (by omega) k
 have hcs:=fun k h=>H62 c k h
 rw [←hN] at h5 hcs
 refine FnOk.intro Tryz.func38 (by decide) Z Z Z Z ?_
 refine k2 ?_
 refine A4 (C7 (T7 1 Z Z Z) Z (A3 (A6 Z Z) Z (A3 (A6 Z Z) Z (A7 ?_))))
 refine k1 (k2 (k2 ?_))
 refine A4 (A3 (D2 Z Z Z) Z (B9 (hcc) Z Z Z ?_));rintro _ rfl;refine A3 (A6 Z Z) Z (A7 ?_)
 refine k1 (k2 ?_)
 refine A4 (A3 (A5 Z Z) Z (A3 (N6 Z Z) Z (A7 ?_)))
 refine k1 ?_
 refine B4 rfl (fun ht=>?_) (fun ht=>?_)
 ·cases ht
 refine k5 (k1 (k2 ?_))
 refine A4 (C7 (E21 700 Z) Z (A7 ?_))
 refine k1 (k2 ?_)
 refine E6 (K32 701 UInt8 1 u8C 5 (kb:=700) (o:=1) Z Z Z) ?_
 have hct0:=hct 0
 rw [E94] at hct0
 refine A4 (A3 (D2 Z Z Z) Z (B9 (F71 c (by omega)) Z Z Z ?_));rintro _ rfl;refine U3 (P3 (xs:=[]) (s:=B16 c) ⟨⟨_,.inl rfl,rfl⟩,rfl⟩ (by simp only [K61];omega)) Z Z Z ?_;rintro _ _ ⟨rfl,rfl⟩;refine A7 ?_
 refine k1 (k2 (k2 ?_))
 refine A4 (A3 (A8 Z) Z (A3 (A9 Z Z Z) Z (A3 (F4 Z (.pure _ _ _ _)) Z (A3 (A5 Z Z) Z (A7 ?_)))))
 refine k1 (k3 ?_)
 refine E4 (X:=Nat) (fun k=>([(1,.s (.one (.ref 1 0))),(5,.s (.one (.ref 700 0))),(19,D3 CHunk 2 L5 c.Hunks),(20,C2 c.Hunks.length),(21,C2 k)],[(1,cBox c),(700,.tbx 124 [.ref 700 0,.buf 701 UInt8 1 u8C (cTo c k)]),(701,.spare (cTo c k).length 1 5)])) (fun k=>k≤c.Hunks.length) (fun k=>c.Hunks.length - k) 0 (Nat.zero_le _) (by rw [E94];exact K19 ⟨le1 rfl,le1 rfl,le1 rfl,le1 rfl,le1 rfl,trivial⟩ ⟨rfl,rfl,rfl,trivial⟩) ?_
 intro k hk
 dsimp only at hk ⊢
 have hck:=hct k
 refine k2 ?_
 refine A4 (A3 (E5 Z Z) Z (A7 ?_))
 refine k1 (k2 ?_)
 refine B4 rfl (fun ht=>?_) (fun ht=>?_)
 ·have hlt:k < c.Hunks.length:=by have:=A0 ht;omega
  have hv:c.Hunks[k]?=some c.Hunks[k]:=by simp [hlt]
  have hmem:=K76 hlt
  have hrw:=h4 _ hmem
  have hat:=h5 _ hmem
  have hzm:=D06 hmem
  have hsucc:=hcs k hlt
  obtain ⟨h,hx⟩:∃x,x=c.Hunks[k]:=⟨_,rfl⟩
  rw [←hx] at hv hrw hat hzm hsucc
  have hz1:=l4 h.Rows
  have hz2:=C54 h.Rows
  unfold C53 at hzm
  have hh:=E52 h n hn hrw (by omega) hat.1 hat.2
  rw [←hNc] at hh
  have hhl:=D48 hn h
  obtain ⟨base,hbase⟩:∃base,base=cTo c k:=⟨_,rfl⟩
  rw [F96,←hbase] at hsucc
  rw [←hbase] at hck ⊢
  obtain ⟨hd,hhd⟩:∃hd,hd=Y8 n h++[10]:=⟨_,rfl⟩
  have hdl:hd.length≤926:=by rw [hhd,K56];simp only [K58,K61];omega
  rw [←hhd] at hh hsucc
  refine k5 (k1 (k2 (k3 (k2 ?_))))
  refine A4 (A3 (C0 Z (.pure _ _ _ _) Z (by omega) hv) Z (A3 (H1 Z Z) Z (C7 (G4 7 Z) Z (E1 (B7 TySz.out Z Z Z Z Z Z) (A7 ?_)))))
  refine k1 (k2 ?_)
  refine A4 (A3 (D2 Z Z Z) Z (A3 (A8 Z) Z (A3 (A9 Z Z Z) Z (B9 (hh) Z Z Z ?_))));rintro _ rfl;refine U3 (P3 (xs:=base) (s:=hd) ⟨⟨_,.inr rfl,rfl⟩,rfl⟩ (by omega)) Z Z Z ?_;rintro _ _ ⟨rfl,rfl⟩;refine A7 ?_
  refine k1 (k2 ?_)
  refine A4 (A3 (A8 Z) Z (A3 (A9 Z Z Z) Z (A3 (F4 Z (.pure _ _ _ _)) Z (A3 (A5 Z Z) Z (A7 ?_)))))
  refine k1 (k3 ?_)
  refine E4 (X:=Nat) (fun j=>([(1,.s (.one (.ref 1 0))),(5,.s (.one (.ref 700 0))),(19,D3 CHunk 2 L5 c.Hunks),(20,C2 c.Hunks.length),(21,C2 k),(31,D3 Row 3 rowC h.Rows),(32,C2 h.Rows.length),(33,C2 j)],[(1,cBox c),(700,.tbx 124 [.ref 700 0,.buf 701 UInt8 1 u8C (base++hd++rTo n h.Rows j)]),(701,.spare (base++hd++rTo n h.Rows j).length 1 5)])) (fun j=>j≤h.Rows.length) (fun j=>h.Rows.length - j) 0 (Nat.zero_le _) ?_ ?_
  ·rw [H63,K81]
   exact K19 ⟨le1 rfl,le1 rfl,le1 rfl,le1 rfl,le1 rfl,le1 rfl,le1 rfl,le1 rfl,trivial⟩ ⟨rfl,rfl,rfl,trivial⟩
  intro j hj
  dsimp only at hj ⊢
  have hrl:=I84 hn h.Rows j
  refine k2 ?_
  refine A4 (A3 (E5 Z Z) Z (A7 ?_))
  refine k1 (k2 ?_)
  refine B4 rfl (fun ht=>?_) (fun ht=>?_)
  ·have hlt2:j < h.Rows.length:=by have:=A0 ht;omega
   have hv2:h.Rows[j]?=some h.Rows[j]:=by simp [hlt2]
   have hmem2:=K76 hlt2
   have hrm:=D47 hmem2
   have hmm:=hrw _ hmem2
   have hsucc2:=H64 n h.Rows j hlt2
   obtain ⟨r,hy⟩:∃x,x=h.Rows[j]:=⟨_,rfl⟩
   rw [←hy] at hv2 hrm hsucc2 hmm
   have hrp:=F95 hn r
   have hrk:=crow_ok r n hn hmm (by have hrm:r.Text.length+96≤(h.Rows.map Q4).sum:=hrm;omega)
   rw [←hNc] at hrk
   obtain ⟨bs,hbs⟩:∃bs,bs=base++hd++rTo n h.Rows j:=⟨_,rfl⟩
   have hbl:bs.length≤16777216+48+268435456+926+268435456:=by rw [hbs,K56,K56];omega
   rw [←hbs]
   refine k5 (k1 (k2 (k3 (k2 ?_))))
   refine A4 (A3 (C0 Z (.pure _ _ _ _) Z (by omega) hv2) Z (A3 (H1 Z Z) Z (C7 (G4 9 Z) Z (E1 (B7 TySz.out Z Z Z Z Z Z) (A7 ?_)))))
   refine k1 ?_
   refine A4 (A3 (D2 Z Z Z) Z (A3 (A8 Z) Z (A3 (A9 Z Z Z) Z (B9 (hrk) Z Z Z ?_))));rintro _ rfl;refine U3 (P3 (xs:=bs) (s:=(A11 n r).flatten) ⟨⟨_,.inr rfl,rfl⟩,rfl⟩ (by omega)) Z Z Z ?_;rintro _ _ ⟨rfl,rfl⟩;refine A7 ?_
   refine k4 (k1 ?_)
   refine A4 (A3 (C6 Z Z (by omega)) Z (A3 (A5 Z Z) Z (A7 ?_)))
   refine k1 ?_
   refine ⟨j+1,by omega,by omega,?_⟩
   rw [hsucc2,←K68,←hbs]
   exact K19 ⟨le1 rfl,le1 rfl,le1 rfl,le1 rfl,le1 rfl,le1 rfl,le1 rfl,le1 rfl,trivial⟩ ⟨rfl,rfl,rfl,trivial⟩
  ·have hjl:j=h.Rows.length:=by have:=A1 ht;omega
   subst hjl
   have e:base++hd++rTo n h.Rows h.Rows.length=cTo c (k+1):=by rw [hsucc,K68]
   rw [e]
   refine k6 (k7 (k7 (k8 Z (k4 (k1 ?_)))))
   refine A4 (A3 (C6 Z Z (by omega)) Z (A3 (A5 Z Z) Z (A7 ?_)))
   refine k1 ?_
   exact ⟨k+1,by omega,by omega,K19 ⟨le1 rfl,le1 rfl,le1 rfl,le1 rfl,le1 rfl,trivial⟩ ⟨rfl,rfl,rfl,trivial⟩⟩
 ·have hkl:k=c.Hunks.length:=by have:=A1 ht;omega
  subst hkl
  rw [E95]
  refine k6 (k2 ?_)
  refine A4 (D17 (k:=700) (k':=701) ⟨_,rfl,rfl,rfl⟩ A57 Z Z Z Z Z (.inr Z) Z (A3 (A6 Z Z) Z (A3 (A6 Z Z) Z (A7 ?_))))
  refine k1 (k10 ?_)
  exact B8 (Z3 rfl rfl rfl rfl rfl) rfl
theorem I11 (rows:List Row) (n:Nat) (hn:n≤32) (hr:J8 rows) (hl:rows.length≤268435456):FnOk Tryz.prog 149 [pRows rows,F0 n] (fun rs=>rs=[S9 (F5 rows n)]) :=
 K49 (k:=720) rfl (B49 rows n hn hr hl)
theorem I12 {gf:Fr} {ob:Obs} (l:List Int) (hl:0 < l.length∧l.length≤1073741824) (h:C4 ob 720=some (.arr Int 1 G9 l)) :
  AL.Met Tryz.prog 166 [.one (.mut 720)] gf ob [] (fun rs ob'=>rs=[.one (.p (.list Int 1 G9 l))]∧ob'=ob):=by
 refine AL.Met.intro Tryz.func166 (by decide) Z Z Z ?_
 refine k2 ?_
 refine A4 (A3 (A6 Z Z) Z (A7 ?_))
 refine k1 (k2 (k2 ?_))
 refine A4 (A3 (A5 Z Z) Z (A3 (F22 Z h) Z (A7 ?_)))
 refine k1 ?_
 refine B4 rfl (fun ht=>?_) (fun ht=>?_)
 ·cases ht
 refine k5 (k1 (k2 ?_))
 refine A4 (A3 (B44 (c:=G9) (ys:=[]) I4 Z Z Z) Z (A3 (A5 Z Z) Z (A3 (C81 Z Z h (by (simp;omega)) (hl.1)) Z (A3 (A6 Z Z) Z (A7 ?_)))))
 rw [K78]
 refine k1 (k10 ?_)
 exact H3 (U2 rfl rfl) (by repeat (first | exact C5 | refine tail_cons rfl ?_ | refine D5 _ ?_)) (fun _ _ h=>h) ⟨rfl,rfl⟩
theorem F73 (l:List Row) (hl:0 < l.length∧l.length≤1073741824):FnOk Tryz.prog 113 [pRows l] (fun rs=>rs=[pRows l]):=by
 refine FnOk.intro Tryz.func113 (by decide) Z Z Z Z ?_
 refine k2 ?_
 refine A4 (A3 (A6 Z Z) Z (A7 ?_))
 refine k1 (k2 (k2 ?_))
 refine A4 (A3 (A5 Z Z) Z ?_);(first | (refine G11 (F50 rfl (.pure _ _ _ _)) rfl ?_) | (refine G11 (F50 rfl (.buf _ _ _ _ _)) rfl ?_));rintro _ ⟨b1,rfl,hnil⟩;refine A7 ?_
 refine k1 ?_
 refine B4 rfl (fun ht=>?_) (fun ht=>?_)
 ·have:=hnil ht
  rw [this] at hl
  exact absurd hl.1 (by simp)
 refine k5 (k1 (k2 ?_))
 refine A4 (A3 (B44 (c:=rowC) (ys:=[]) I4 Z Z Z) Z (A3 (A5 Z Z) Z (A3 (C10 Z Z (.pure _ _ _ _) (by (simp;omega)) (hl.1)) Z (A3 (A6 Z Z) Z (A7 ?_)))))
 rw [K78]
 refine k1 (k10 ?_)
 exact B8 (J6 rfl rfl rfl) rfl
theorem I13 (rows:List Row) (n k:Nat) {e t:Nat} (h:e≤t):M1 (rows.take t) n k=M1 (rows.take e) n k+M1 ((rows.drop e).take (t - e)) n k:=by
 have h1:rows.take t=rows.take e++(rows.drop e).take (t - e):=by
  have:=List.take_add (l:=rows) (i:=e) (j:=t - e)
  rwa [show e+(t - e)=t by omega] at this
 unfold M1
 rw [h1]
 unfold K0
 rw [L04,K73,K56,Int.natCast_add]
def B22 (rows:List Row) (n e t i:Nat):List Int:=(List.range (n+1)).map fun k=>if k < i then M1 (rows.take t) n k else M1 (rows.take e) n k
theorem J12 (rows:List Row) (n e t i:Nat):(B22 rows n e t i).length=n+1:=by simp [B22]
theorem I14 (rows:List Row) (n e t:Nat):B22 rows n e t 0=F5 (rows.take e) n:=by
 unfold B22 F5
 exact List.map_congr_left fun k _=>if_neg (by omega)
theorem I15 (rows:List Row) (n e t:Nat):B22 rows n e t (n+1)=F5 (rows.take t) n:=by
 unfold B22 F5
 exact List.map_congr_left fun k hk=>if_pos (by simpa using hk)
theorem J13 (rows:List Row) (n e t i:Nat) (hi:i < n+1):(B22 rows n e t i)[i]?=some (M1 (rows.take e) n i):=by
 unfold B22
 rw [D35 (n+1) i _ hi,if_neg (by omega)]
theorem J14 (rows:List Row) (n e t i:Nat):(B22 rows n e t i).set i (M1 (rows.take t) n i)=B22 rows n e t (i+1):=by
 refine D34 (n+1) i _ _ _ (fun _=>if_pos (by omega)) (fun q _ hq=>?_)
 by_cases h:q < i
 ·rw [if_pos h,if_pos (by omega)]
 ·rw [if_neg h,if_neg (by omega)]
theorem I68 (rows:List Row) (n k:Nat):0≤M1 rows n k∧M1 rows n k≤rows.length:=by
 unfold M1
 have:=B88 rows (A06 n k)
 omega
set_option maxHeartbeats 1000000
theorem E54 {gf:Fr} {ob:Obs} (t:Table) (n e z:Nat) (hn:t.Parents=n) (hn2:n≤32) (hr:J8 t.Rows) (hl:t.Rows.length≤8388608) (h1:e≤z) (h2:z≤t.Rows.length)
  (h5:C4 ob 5=some (.box (pTable t).s1.cells)) (h13:C4 ob 13=some (n8 e)) (h12:C4 ob 12=some (.box [.mut 720])) (h720:C4 ob 720=some (.arr Int 1 G9 (F5 (t.Rows.take e) n))) :
  AL.Met Tryz.prog 165 [iS z,.one (.ref 5 0),.one (.ref 13 0),.one (.ref 12 0)] gf ob []
   (fun rs ob'=>rs=[]∧ob'=(13,n8 z)::(720,.arr Int 1 G9 (F5 (t.Rows.take z) n))::(5,.box (pTable t).s1.cells)::(12,.box [.mut 720])::ob):=by
 obtain ⟨tp,rows⟩:=t
 have hn:tp=(n:Int):=hn
 subst hn
 dsimp only at hr hl h2 h720 ⊢
 have hsl:((rows.drop e).take (z - e)).length=z - e:=by rw [K70,K65];omega
 have hC:=I11 ((rows.drop e).take (z - e)) n hn2 (fun r hm=>hr r (List.mem_of_mem_drop (List.mem_of_mem_take hm))) (by omega)
 obtain ⟨cs,hcs⟩:∃cs,cs=F5 ((rows.drop e).take (z - e)) n:=⟨_,rfl⟩
 have hcl:cs.length=n+1:=by rw [hcs];simp [F5]
 rw [←hcs] at hC
 refine AL.Met.introH Tryz.func165 (by decide) rfl rfl rfl (fun hH=>?_)
 refine k2 (k2 ?_)
 refine D7 (by kernel_rfl) (by kernel_rfl) (B1 (A8 Z) Z Z (B1 (A9 Z h5 Z) Z Z (B1 (A9 Z h13 Z) Z Z (B1 (A5 Z Z) Z Z (B1 (t7 Z (.pure _ _ _ _) Z Z (by (first | omega | (dsimp only;omega))) (by (first | omega | (dsimp only;omega))) (by (first | omega | (dsimp only;omega)))) Z Z (B1 (A8 Z) Z Z (B1 (A9 Z h5 Z) Z Z (B1 (O0 (hC) Z Z) Z Z (B1 (F4 Z (.pure _ _ _ _)) Z Z (B1 (A5 Z Z) Z Z (M2 ?_)))))))))))
 refine k1 (k3 ?_)
 refine E4 (X:=Nat) (fun i=>([(0,C2 z),(1,.s (.one (.ref 5 0))),(2,.s (.one (.ref 13 0))),(3,.s (.one (.ref 12 0))),(14,D3 Int 1 G9 cs),(15,C2 cs.length),(16,C2 i)]++gf,(13,n8 e)::(720,.arr Int 1 G9 (B22 rows n e z i))::(5,.box (pTable ⟨n,rows⟩).s1.cells)::(12,.box [.mut 720])::ob)) (fun i=>i≤n+1) (fun i=>n+1 - i) 0 (Nat.zero_le _) ?_ ?_
 ·dsimp only
  rw [I14]
  exact K20 ⟨le1 rfl,le1 rfl,le1 rfl,le1 rfl,le1 rfl,le1 rfl,le1 rfl,trivial⟩ hH (by repeat (first | exact C5 | refine tail_cons rfl ?_)) (B82 (L:=[(13,_),(720,_),(5,_),(12,_)]) ⟨h13,h720,h5,h12,trivial⟩ B40)
 intro i hi
 dsimp only at hi ⊢
 have hal:=J12 rows n e z i
 refine k2 ?_
 refine A4 (A3 (E5 Z Z) Z (A7 ?_))
 refine k1 (k2 ?_)
 refine B4 rfl (fun ht=>?_) (fun ht=>?_)
 ·have hlt:i < n+1:=by have:=A0 ht;omega
  have hv:cs[i]?=some (M1 ((rows.drop e).take (z - e)) n i):=by rw [hcs];unfold F5;exact D35 (n+1) i _ hlt
  have hg:=J13 rows n e z i hlt
  have hst:=J14 rows n e z i
  have hsp:=I13 rows n i h1
  have b1:=I68 (rows.take e) n i
  have b2:=I68 ((rows.drop e).take (z - e)) n i
  have hte:(rows.take e).length=e:=by rw [K70];omega
  have hv2:(B22 rows n e z i)[((i:Nat):Int).toNat]?=some (M1 (rows.take e) n i):=by rw [K62];exact hg
  refine k5 (k1 (k2 (k3 (k2 ?_))))
  refine A4 (A3 (A5 Z Z) Z (A3 (C0 Z (.pure _ _ _ _) Z (by omega) hv) Z (A3 (C9 Z Z) Z (A3 (A6 Z Z) Z (A3 (A6 Z Z) Z (A7 ?_))))))
  refine k1 ?_
  refine A4 (A3 (A9 Z Z Z) Z (A3 (A5 Z Z) Z (A3 (F9 Z Z Z (by omega) (by (rw [hal];omega))) Z ?_)));refine A3 (U7 Z Z hv2 Z) Z (A3 (A5 Z Z) Z (A3 (C6 Z Z (by omega)) Z (A3 (F9 Z Z Z (by omega) (by (rw [hal];omega))) Z ?_)));refine E1 (I0 TySz.out Z Z (by (rw [hal];omega)) Z Z) ?_;refine A7 ?_
  rw [K62,←hsp,hst]
  refine k4 (k1 ?_)
  refine A4 (A3 (C6 Z Z (by omega)) Z (A3 (A5 Z Z) Z (A7 ?_)))
  refine k1 ?_
  refine ⟨i+1,by omega,by omega,?_⟩
  exact K20 ⟨le1 rfl,le1 rfl,le1 rfl,le1 rfl,le1 rfl,le1 rfl,le1 rfl,trivial⟩ hH (by repeat (first | exact C5 | refine tail_cons rfl ?_)) (B82 (L:=[(13,_),(720,_),(5,_),(12,_)]) ⟨rfl,rfl,rfl,rfl,trivial⟩ (by repeat (first | exact B40 | refine B41 rfl ?_)))
 have hin:i=n+1:=by have:=A1 ht;omega
 rw [hin,I15]
 refine k6 (k7 (k7 (k8 Z (k1 ?_))))
 refine A4 (A3 (A5 Z Z) Z (E1 (B7 TySz.out Z Z Z Z Z Z) (A7 ?_)))
 skip
 exact E23 (rets0 rfl) (by repeat (first | exact C5 | refine tail_cons rfl ?_)) (B82 (L:=[(13,_),(720,_),(5,_),(12,_)]) ⟨rfl,rfl,rfl,rfl,trivial⟩ (by repeat (first | exact B40 | refine B41 rfl ?_))) ⟨rfl,rfl⟩
def E55 (n:Int):Int→List Span→Bool
 | _,[]=>true
 | e,s::r=>if s.From < e∨s.To≤s.From∨n < s.To then false else E55 n s.To r
theorem H10 (sp:List Span) (n:Int) (hl:sp.length≤536870912):FnOk Tryz.prog 164 [pSpans sp,F0 n] (fun rs=>rs=[E8 (E55 n 0 sp)]):=by
 obtain ⟨W,hW⟩:∃W,W=E55 n 0 sp:=⟨_,rfl⟩
 rw [←hW]
 refine FnOk.intro Tryz.func164 (by decide) Z Z Z Z ?_
 refine k2 ?_
 refine A4 (A3 (A6 Z Z) Z (A7 ?_))
 refine k1 (k2 ?_)
 refine A4 (A3 (A6 Z Z) Z (A7 ?_))
 refine k1 (k2 (k2 ?_))
 refine A4 (A3 (A5 Z Z) Z (A3 (F4 Z (.pure _ _ _ _)) Z (A3 (A5 Z Z) Z (A7 ?_))))
 refine k1 (k3 ?_)
 refine E4 (X:=Nat × Int) (fun x=>([(1,C2 n),(5,C2 x.2),(8,D3 Span 2 spanC sp),(9,C2 sp.length),(10,C2 x.1)],[])) (fun x=>x.1≤sp.length∧W=E55 n x.2 (sp.drop x.1)) (fun x=>sp.length - x.1) (0,0) ⟨Nat.zero_le _,hW⟩ (K19 ⟨le1 rfl,le1 rfl,le1 rfl,le1 rfl,le1 rfl,trivial⟩ trivial) ?_
 rintro ⟨k,e⟩ ⟨hk,hp⟩
 dsimp only at hk hp ⊢
 refine k2 ?_
 refine A4 (A3 (E5 Z Z) Z (A7 ?_))
 refine k1 (k2 ?_)
 refine B4 rfl (fun ht=>?_) (fun ht=>?_)
 rotate_left
 ·have hkl:k=sp.length:=by have:=A1 ht;omega
  rw [hkl,K66 (Nat.le_refl _)] at hp
  have hp:W=true:=hp
  refine k6 (k2 ?_)
  refine A4 (A3 (A6 Z Z) Z (A7 ?_))
  refine k1 (k10 ?_)
  exact B8 (J6 rfl rfl rfl) (by rw [hp])
 have hlt:k < sp.length:=by have:=A0 ht;omega
 have hv:sp[k]?=some sp[k]:=by simp [hlt]
 rw [K64 hlt,E55] at hp
 obtain ⟨s,hsd⟩:∃s,s=sp[k]:=⟨_,rfl⟩
 rw [←hsd] at hp hv
 refine k5 (k1 (k2 (k3 (k2 ?_))))
 refine A4 (A3 (C0 Z (.pure _ _ _ _) Z (by omega) hv) Z (A3 (H1 Z Z) Z (C7 (G4 757 Z) Z (E1 (B7 TySz.out Z Z Z Z Z Z) (A7 ?_)))))
 refine k1 (k2 (k2 ?_))
 refine A4 (A3 (A8 Z) Z (A3 (A9 Z Z Z) Z (A3 (A5 Z Z) Z (A3 (E5 Z Z) Z (A3 (A5 Z Z) Z (B0 Z Z Z Z (fun hg=>by rw [hg];exact A8 Z) ?_))))));refine B0 Z Z Z Z (fun hg=>by rw [hg];exact A9 Z Z Z) ?_;refine B0 Z Z Z Z (fun hg=>by rw [hg];exact A8 Z) ?_;refine B0 Z Z Z Z (fun hg=>by rw [hg];exact A9 Z Z Z) ?_;refine B0 Z Z Z Z (fun hg=>by rw [hg];exact B19 Z Z) ?_;refine A3 (B5 Z (fun h=>by first | rfl | (rw [h];rfl)) (fun h=>by first | rfl | (rw [h];rfl))) Z ?_;refine A3 (A5 Z Z) Z (B0 Z Z Z Z (fun hg=>by rw [hg];exact A8 Z) ?_);refine B0 Z Z Z Z (fun hg=>by rw [hg];exact A9 Z Z Z) ?_;refine B0 Z Z Z Z (fun hg=>by rw [hg];exact A5 Z Z) ?_;refine B0 Z Z Z Z (fun hg=>by rw [hg];exact Q1 Z Z) ?_;refine A3 (B5 Z (fun h=>by first | rfl | (rw [h];rfl)) (fun h=>by first | rfl | (rw [h];rfl))) Z ?_;refine A7 ?_
 refine k1 ?_
 refine B4 rfl (fun ht=>?_) (fun ht=>?_)
 ·have hc:s.From < e∨s.To≤s.From∨n < s.To:=by
   by_cases q1:s.From < e
   ·exact .inl q1
   ·by_cases q2:s.To≤s.From
    ·exact .inr (.inl q2)
    ·simp [q1,q2] at ht
     exact .inr (.inr ht)
  rw [if_pos hc] at hp
  refine k2 ?_
  refine A4 (A3 (A6 Z Z) Z (A7 ?_))
  refine k1 (k10 (k11 (k12 (k11 (k11 (k12 (k11 ?_)))))))
  exact B8 (J6 rfl rfl rfl) (by rw [hp])
 have hc:¬(s.From < e∨s.To≤s.From∨n < s.To):=by
  rintro (q | q | q)
  ·simp [q] at ht
  ·simp [q] at ht
  ·simp [q] at ht
 rw [if_neg hc] at hp
 refine k5 (k1 ?_)
 refine A4 (A3 (A8 Z) Z (A3 (A9 Z Z Z) Z (A3 (A6 Z Z) Z (A7 ?_))))
 refine k4 (k1 ?_)
 refine A4 (A3 (C6 Z Z (by omega)) Z (A3 (A5 Z Z) Z (A7 ?_)))
 refine k1 ?_
 exact ⟨(k+1,s.To),⟨hlt,hp⟩,by dsimp only;omega,K19 ⟨le1 rfl,le1 rfl,le1 rfl,le1 rfl,le1 rfl,trivial⟩ trivial⟩
def rowR (s:Str) (n:Int):List PV:=match A76 s n with
 | some r=>[pRow r,E8 true]
 | none=>[pRow ⟨false,0,[]⟩,E8 false]
theorem B86 {s:Str} {n:Int} (h:A76 s n=none):rowR s n=[pRow ⟨false,0,[]⟩,E8 false]:=by unfold rowR;rw [h]
theorem F74 {s:Str} {n:Int} {r:Row} (h:A76 s n=some r):rowR s n=[pRow r,E8 true]:=by unfold rowR;rw [h]
theorem pRow_ok (s:Str) (n:Int):FnOk Tryz.prog 226 [G7 s,F0 n] (fun rs=>rs=rowR s n):=by
 refine FnOk.intro Tryz.func226 (by decide) Z Z Z Z ?_
 refine k2 ?_
 refine A4 (C7 (G4 4 Z) Z (A3 (A6 Z Z) Z (A7 ?_)))
 refine k1 (k2 (k2 ?_))
 refine A4 (A3 (A5 Z Z) Z (A3 (E5 Z Z) Z (A3 (A5 Z Z) Z (B0 Z Z Z Z (fun hg=>by rw [hg];exact A5 Z Z) ?_))));refine B0 Z Z Z Z (fun hg=>by rw [hg];exact Q1 Z Z) ?_;refine A3 (B5 Z (fun h=>by first | rfl | (rw [h];rfl)) (fun h=>by first | rfl | (rw [h];rfl))) Z ?_;refine A3 (A5 Z Z) Z (B0 Z Z Z Z (fun hg=>by rw [hg];exact A5 Z Z) ?_);refine B0 Z Z Z Z (fun hg=>by rw [hg];exact E3 Z) ?_;refine B0 Z Z Z Z (fun hg=>by rw [hg];exact A5 Z Z) ?_;refine B0 Z Z Z Z (fun hg=>by rw [hg];exact E5 Z Z) ?_;refine A3 (B5 Z (fun h=>by first | rfl | (rw [h];rfl)) (fun h=>by first | rfl | (rw [h];rfl))) Z ?_;refine A7 ?_
 refine k1 ?_
 refine B4 rfl (fun ht=>?_) (fun ht=>?_)
 ·simp only [or_pick] at ht
  have h:=A0 ht
  refine k2 ?_
  refine A4 (A3 (F3 Z) Z (E1 (B7 TySz.out Z Z Z Z Z Z) (A3 (A6 Z Z) Z (A7 ?_))))
  refine k1 (k10 (k11 ?_))
  exact B8 (rs:=[pRow ⟨false,0,[]⟩,E8 false]) (Q3 rfl rfl rfl rfl rfl rfl rfl) (B86 (rowI_no (by omega))).symm
 simp only [or_pick] at ht
 have h:=A1 ht
 obtain ⟨N,rfl⟩:∃N:Nat,n=N:=⟨n.toNat,by omega⟩
 have hN1:1≤N∧N≤32:=by omega
 have hN2:N≤s.length:=by omega
 refine L8 [(0,J0 s),(1,C2 N),(4,.s (.one (.ref 4 0)))] [(4,.box (pRow ⟨false,0,[]⟩).s1.cells)] (K19 ⟨le1 rfl,le1 rfl,le1 rfl,trivial⟩ ⟨rfl,trivial⟩) ?_
 refine k5 (k1 (k2 ?_))
 refine A4 (A3 (A6 Z Z) Z (A3 (A6 Z Z) Z (A7 ?_)))
 refine k1 (k2 (k2 ?_))
 refine A4 (A3 (A5 Z Z) Z (A3 (A5 Z Z) Z (A7 ?_)))
 refine k1 (k3 ?_)
 refine E4 (X:=Nat) (fun p=>([(0,J0 s),(1,C2 N),(4,.s (.one (.ref 4 0))),(6,I8 (.int .u32 (H7 43 s p:Nat))),(7,I8 (.int .u32 (H7 45 s p:Nat))),(22,C2 N),(23,C2 p)],[(4,.box (pRow ⟨false,0,[]⟩).s1.cells)])) (fun p=>p≤N∧(s.take p).all A75=true) (fun p=>N - p) 0 ⟨Nat.zero_le _,rfl⟩ (K19 ⟨le1 rfl,le1 rfl,le1 rfl,le1 rfl,le1 rfl,le1 rfl,le1 rfl,trivial⟩ ⟨rfl,trivial⟩) ?_
 rintro p ⟨hp,hq⟩
 dsimp only at hp hq ⊢
 have hl3:=E10 43 s p
 have hl5:=E10 45 s p
 refine k2 ?_
 refine A4 (A3 (E5 Z Z) Z (A7 ?_))
 refine k1 (k2 ?_)
 refine B4 rfl (fun ht=>?_) (fun ht=>?_)
 ·have hlt:p < N:=by have:=A0 ht;omega
  have hv:s[p]?=some s[p]:=by simp
  have hst3:=F97 hv 43
  have hst5:=F97 hv 45
  have hsg:=J53 hv
  rw [hq,Bool.true_and] at hsg
  have hsh:=shl_nat p (by omega)
  have ho3:=or_bit hl3 (by omega)
  have ho5:=or_bit hl5 (by omega)
  have hno:A75 s[p]=false→(s.take N).all A75=false:=fun hc=>sign_no hlt hv hc
  obtain ⟨c,hcc⟩:∃c,c=s[p]:=⟨_,rfl⟩
  rw [←hcc] at hv hst3 hst5 hsg hno
  refine k5 (k1 (k2 (k3 (k2 ?_))))
  refine A4 (A3 (A5 Z Z) Z (A3 (A6 Z Z) Z (A7 ?_)))
  refine k1 (k2 ?_)
  refine A4 (A3 (A5 Z Z) Z (A3 (A5 Z Z) Z (A3 (L3 Z Z (by omega) hv) Z (A7 ?_))))
  refine k1 (k3 (k2 ?_))
  refine A4 (A3 (J3 Z Z) Z (A3 (A6 Z Z) Z (A7 ?_)))
  refine k1 ?_
  refine B4 rfl (fun ht=>?_) (fun ht=>?_)
  ·have hc:c=43:=by simpa only [ke43,decide_eq_true_eq] using ht
   rw [if_pos hc] at hst3
   rw [if_neg (by rw [hc];decide),Nat.add_zero (H7 45 s p)] at hst5
   skip
   refine A4 (A3 (A5 Z Z) Z (A3 (A5 Z Z) Z (A3 (I55 Z Z (by omega)) Z (A3 (l8 Z Z Z (fun _=>rfl)) Z (A3 (A6 Z Z) Z (A7 ?_))))))
   refine k4 (k4 (k1 ?_))
   refine A4 (A3 (C6 Z Z (by omega)) Z (A3 (A5 Z Z) Z (A7 ?_)))
   refine k1 ?_
   refine ⟨p+1,⟨by omega,by rw [hsg,hc];rfl⟩,by omega,?_⟩
   rw [hst3,hst5,←ho3,←hsh]
   exact K19 ⟨le1 rfl,le1 rfl,le1 rfl,le1 rfl,le1 rfl,le1 rfl,le1 rfl,trivial⟩ ⟨rfl,trivial⟩
  have hc3:c≠43:=by simpa only [ke43,decide_eq_false_iff_not] using ht
  rw [if_neg hc3,Nat.add_zero (H7 43 s p)] at hst3
  refine k2 ?_
  refine A4 (A3 (J3 Z Z) Z (A3 (A6 Z Z) Z (A7 ?_)))
  refine k1 ?_
  refine B4 rfl (fun ht=>?_) (fun ht=>?_)
  ·have hc:c=45:=by simpa only [ke45,decide_eq_true_eq] using ht
   rw [if_pos hc] at hst5
   skip
   refine A4 (A3 (A5 Z Z) Z (A3 (A5 Z Z) Z (A3 (I55 Z Z (by omega)) Z (A3 (l8 Z Z Z (fun _=>rfl)) Z (A3 (A6 Z Z) Z (A7 ?_))))))
   refine k4 (k4 (k1 ?_))
   refine A4 (A3 (C6 Z Z (by omega)) Z (A3 (A5 Z Z) Z (A7 ?_)))
   refine k1 ?_
   refine ⟨p+1,⟨by omega,by rw [hsg,hc];rfl⟩,by omega,?_⟩
   rw [hst3,hst5,←ho5,←hsh]
   exact K19 ⟨le1 rfl,le1 rfl,le1 rfl,le1 rfl,le1 rfl,le1 rfl,le1 rfl,trivial⟩ ⟨rfl,trivial⟩
  have hc5:c≠45:=by simpa only [ke45,decide_eq_false_iff_not] using ht
  rw [if_neg hc5,Nat.add_zero (H7 45 s p)] at hst5
  refine k2 ?_
  refine A4 (A3 (J3 Z Z) Z (A3 (A6 Z Z) Z (A7 ?_)))
  refine k1 ?_
  refine B4 rfl (fun ht=>?_) (fun ht=>?_)
  ·have hc:c=32:=by simpa only [ke32,decide_eq_true_eq] using ht
   refine k5 (k4 (k4 (k1 ?_)))
   refine A4 (A3 (C6 Z Z (by omega)) Z (A3 (A5 Z Z) Z (A7 ?_)))
   refine k1 ?_
   refine ⟨p+1,⟨by omega,by rw [hsg,hc];rfl⟩,by omega,?_⟩
   rw [hst3,hst5]
   exact K19 ⟨le1 rfl,le1 rfl,le1 rfl,le1 rfl,le1 rfl,le1 rfl,le1 rfl,trivial⟩ ⟨rfl,trivial⟩
  have hc2:c≠32:=by simpa only [ke32,decide_eq_false_iff_not] using ht
  refine k2 ?_
  refine A4 (A3 (F3 Z) Z (E1 (B7 TySz.out Z Z Z Z Z Z) (A3 (A6 Z Z) Z (A7 ?_))))
  refine k1 (k10 (k12 (k12 (k11 (k11 (k12 (k11 ?_)))))))
  exact B8 (rs:=[pRow ⟨false,0,[]⟩,E8 false]) (Q3 rfl rfl rfl rfl rfl rfl rfl) (B86 (J54 (hno (by unfold A75;simp [hc2,hc3,hc5])))).symm
 ·have hpN:p=N:=by have:=A1 ht;omega
  subst hpN
  refine k6 (k2 (k2 ?_))
  refine A4 (A3 (A5 Z Z) Z (A3 (N6 Z Z) Z (A3 (A5 Z Z) Z (B0 Z Z Z Z (fun hg=>by rw [hg];exact A5 Z Z) ?_))));refine B0 Z Z Z Z (fun hg=>by rw [hg];exact N6 Z Z) ?_;refine A3 (B5 Z (fun h=>by first | rfl | (rw [h];rfl)) (fun h=>by first | rfl | (rw [h];rfl))) Z ?_;refine A7 ?_
  refine k1 ?_
  refine B4 rfl (fun ht=>?_) (fun ht=>?_)
  ·simp only [K1] at ht
   have h2:=A0 ht
   refine k2 ?_
   refine A4 (A3 (F3 Z) Z (E1 (B7 TySz.out Z Z Z Z Z Z) (A3 (A6 Z Z) Z (A7 ?_))))
   refine k1 (k10 (k11 ?_))
   exact B8 (rs:=[pRow ⟨false,0,[]⟩,E8 false]) (Q3 rfl rfl rfl rfl rfl rfl rfl) (B86 (J55 (by omega))).symm
  ·simp only [K1] at ht
   have h2:=A1 ht
   have h2':¬(H7 43 s p≠0∧H7 45 s p≠0):=by omega
   have hor:=bits_or hN1.2 h2'
   have hyes:=K12 hN1 hN2 hq h2'
   refine k5 (k1 (k2 ?_))
   refine A4 (A3 (A5 Z Z) Z (A3 (N6 Z Z) Z (A3 (A5 Z Z) Z (A3 (A5 Z Z) Z (A3 (l8 Z Z Z (fun _=>rfl)) Z (A3 (A5 Z Z) Z (A3 (A5 Z Z) Z (A3 (A80 Z Z (by omega) (by omega)) Z (A3 (F3 Z) Z (E1 (B7 TySz.out Z Z Z Z Z Z) (A3 (A6 Z Z) Z (A7 ?_))))))))))))
   refine k1 (k10 ?_)
   refine B8 (rs:=[pRow ⟨decide ((H7 45 s p:Int)≠0),K9 (H7 43 s p:Nat) (H7 45 s p:Nat),s.drop p⟩,E8 true]) (Q3 Z Z Z Z Z Z Z) ?_
   rw [F74 hyes,hor]
   congr 3
   exact decide_eq_decide.2 (by omega)
end Go.Proofs.YtbiadkkamhpdnaaGreatDoor
namespace Go.Proofs.YtbiadkkamhpdnaaGreatDoor
open Go Go.AL
set_option maxRecDepth 100000
set_option maxHeartbeats 1000000
end Go.Proofs.YtbiadkkamhpdnaaGreatDoor
namespace Go.Proofs.YtbiadkkamhpdnaaGreatDoor
open Go Go.AL
set_option maxRecDepth 100000
end Go.Proofs.YtbiadkkamhpdnaaGreatDoor
