/- Walks of the program's functions. -/
import Derived.Test.YtgejaedjnbjpoaaGreatDoorFd
import Derived.Test.YtgejaedjnbjpoaaGreatDoorFs
import Derived.Test.YtgejaedjnbjpoaaGreatDoorFc
import Derived.Test.YtgejaedjnbjpoaaGreatDoorFa
namespace Go.Proofs.YtgejaedjnbjpoaaGreatDoor
open Go Go.AL
set_option maxRecDepth 100000
end Go.Proofs.YtgejaedjnbjpoaaGreatDoor
namespace Go.Proofs.YtgejaedjnbjpoaaGreatDoor
open Go Go.AL
set_option maxRecDepth 100000
set_option maxHeartbeats 1000000
set_option maxHeartbeats 1000000
end Go.Proofs.YtgejaedjnbjpoaaGreatDoor
namespace Go.Proofs.YtgejaedjnbjpoaaGreatDoor
open Go Go.AL
set_option maxRecDepth 100000
theorem D89 {α:Type} {l:List α} {x:α} (h:l.getLast?=some x):l=l.dropLast++[x]:=by
 obtain ⟨ys,hy⟩:=List.getLast?_eq_some_iff.1 h
 rw [hy,List.dropLast_concat]
section
variable {P:Program} {nt:Nat} {fr:Fr} {o n:Str} {hs:List PatchHunk}
end
set_option maxHeartbeats 2000000
theorem H68 {s:Str} {l:List Str} (h:s5 s=some l):(l.map fun t=>t.length+65).sum≤66*s.length∧∀t∈l,t.length≤s.length:=by
 unfold s5 at h
 split at h
 ·cases h;simp
 ·split at h
  ·have h:(C8 s).map List.dropLast=l:=Option.some.inj h
   obtain ⟨f1,f2⟩:=E16 s
   have hl:=Q1 s
   have hsum:∀L:List Str,((L.map List.dropLast).map fun t=>t.length+65).sum≤L.flatten.length+65*L.length:=by
    intro L
    induction L with
    | nil=>simp
    | cons x r ih =>
     simp only [J08,J28,J14,J01,J02,List.length_dropLast] at ih ⊢
     omega
   have hs:=hsum (C8 s)
   rw [h] at hs
   have hs2:(l.map fun (t:Str)=>t.length+65).sum≤(C8 s).flatten.length+65*(C8 s).length:=hs
   refine ⟨by omega,fun t ht=>?_⟩
   rw [←h] at ht
   obtain ⟨x,hx,rfl⟩:=List.mem_map.1 ht
   have:=(List.sublist_flatten_of_mem hx).length_le
   rw [List.length_dropLast];omega
  ·cases h
theorem G03 {c:UInt8} {P:List Str} {i:Nat} {r a b:Str} (h:P.drop i=M1 c r) (hr:r=a++c::b) (ha:c∉a):P[i]?=some a∧P.drop (i+1)=M1 c b:=by
 have e:M1 c r=a::M1 c b:=by rw [hr,B98 b ha]
 rw [e] at h
 refine ⟨by rw [←List.head?_drop,h];rfl,?_⟩
 rw [←List.tail_drop,h];rfl
theorem F42 (s:Str) (c:UInt8) (hs:s.length≤536870912):FnOk Tryz.prog 197 [F3 s,F3 [c],E6 0,E6 (-1)] (fun rs=>rs=[j2 (M1 c s)]):=by
 have hP:=n4 c s
 have hcc:s.count c≤s.length:=List.count_le_length
 have h10:([c]:Str).length=1:=rfl
 obtain ⟨P,hPe⟩:∃P,P=M1 c s:=⟨_,rfl⟩
 have hPl:P.length=s.count c+1:=by rw [hPe];exact hP
 refine FnOk.intro Tryz.func197 (by decide) Z Z Z Z ?_
 refine k2 ?_
 refine A3 (A2 (A5 Z Z) Z (A6 ?_))
 refine k1 (k2 (k2 ?_))
 refine A3 (A2 (A4 Z Z) Z (A2 (F6 Z Z) Z (A6 ?_)))
 refine k1 ?_
 refine B1 rfl (fun ht=>?_) (fun ht=>?_)
 ·exact absurd (A0 ht) (by omega)
 refine k5 (k1 (k2 (k2 ?_)))
 refine A3 (A2 (A4 Z Z) Z (A2 (V3 Z Z) Z (A6 ?_)))
 refine k1 ?_
 refine B1 rfl (fun ht=>?_) (fun ht=>?_)
 ·exact absurd (A0 ht) (by simp)
 refine k5 (k1 (k2 (k2 ?_)))
 refine A3 (A2 (A4 Z Z) Z (A2 (D6 Z Z) Z (A6 ?_)))
 refine k1 ?_
 refine B1 rfl (fun ht=>?_) (fun ht=>?_)
 rotate_left
 ·exact absurd (A1 ht) (by omega)
 skip
 refine A3 (A2 (A4 Z Z) Z (A2 (A4 Z Z) Z (B9 (E89 s c) Z Z Z ?_)));rintro _ rfl;refine A2 (C1 Z Z (by omega)) Z (A2 (A5 Z Z) Z (A6 ?_))
 refine k1 (k2 ?_)
 refine A3 (A2 (A4 Z Z) Z (A2 (A4 Z Z) Z (A2 (E4 Z) Z (A2 (C1 Z Z (by omega)) Z (A2 (E66 Z Z) Z (A2 (A5 Z Z) Z (A6 ?_)))))))
 refine k1 (k2 ?_)
 rw [show (if (s.length:Int)+1 < (s.count c:Int)+1 then (s.length:Int)+1 else (s.count c:Int)+1)=(P.length:Int) from by split<;>omega]
 refine A3 (A2 (A4 Z Z) Z (C3 (j5 9 Str K1 [] Z Z (by omega) (by omega) (fun _=>by first | exact ⟨⟨rfl,rfl⟩,trivial⟩ | exact ⟨O1 _ _ _,trivial⟩) (by first | rfl | (simp [G3,I7,Ob.free,SV.free,S1.free,TC.free]<;>rfl))) Z ?_));refine A2 (A5 Z Z) Z (A6 ?_)
 refine k1 (k2 ?_)
 refine A3 (A2 (A4 Z Z) Z (A2 (Q7 Z Z (by omega)) Z (A2 (A5 Z Z) Z (A6 ?_))))
 refine k1 (k2 ?_)
 refine A3 (A2 (A5 Z Z) Z (A6 ?_))
 refine k1 (k2 (k3 ?_))
 refine D3 (X:=Nat × Str) (fun x=>([(0,H5 x.2),(1,H5 [c]),(2,C2 0),(3,C2 ((P.length:Int) - 1)),(9,.s (.one (.mut 9))),(10,C2 x.1)],[(9,.arr Str 1 K1 (P.take x.1++List.replicate (P.length - x.1) []))])) (fun x=>x.1+1≤P.length∧P.drop x.1=M1 c x.2∧x.2.length≤s.length) (fun x=>P.length - x.1) (0,s) ⟨by dsimp only;omega,hPe,Nat.le_refl _⟩ (I72 ⟨le1 rfl,le1 rfl,le1 rfl,le1 rfl,le1 rfl,le1 rfl,trivial⟩ ⟨rfl,trivial⟩) ?_
 rintro ⟨i,r⟩ ⟨hi,hp,hr⟩
 dsimp only at hi hp hr ⊢
 refine k2 (k2 ?_)
 refine A3 (A2 (A4 Z Z) Z (A2 (A4 Z Z) Z (A2 (D6 Z Z) Z (A6 ?_))))
 refine k1 ?_
 refine B1 rfl (fun ht=>?_) (fun ht=>?_)
 ·have hlt:i+1 < P.length:=by have:=A0 ht;omega
  have hin:c∈r:=by
   have h1:=n4 c r
   have h2:(P.drop i).length=r.count c+1:=by rw [hp];exact h1
   rw [J12] at h2
   exact List.count_pos_iff.1 (by omega)
  rcases Z3 c r with ⟨h1,_⟩ | ⟨a,b,h1,h2,h3⟩
  ·exact absurd hin h1
  obtain ⟨h4,h5⟩:=G03 hp h1 h2
  have hl:r.length=a.length+1+b.length:=by rw [h1];simp;omega
  refine k5 (k1 (k3 (k2 ?_)))
  refine A3 (A2 (A4 Z Z) Z (A2 (A4 Z Z) Z (B9 (E90 r c) Z Z Z ?_)));rintro _ rfl;refine A2 (A5 Z Z) Z (A6 ?_)
  refine k1 (k2 (k2 ?_))
  refine A3 (A2 (A4 Z Z) Z (A2 (D6 Z Z) Z (A6 ?_)))
  refine k1 ?_
  rw [h3]
  refine B1 rfl (fun ht=>?_) (fun ht=>?_)
  ·exact absurd (A0 ht) (by omega)
  refine k5 (k1 (k2 ?_))
  refine A3 (A2 (A4 Z Z) Z (A2 (A4 Z Z) Z (A2 (A4 Z Z) Z (A2 (A4 Z Z) Z (A2 (A4 Z Z) Z (A2 (C1 Z Z (by omega)) Z (A2 (y2 Z Z (by omega) (by omega)) Z (A2 (E5 Z Z Z (by omega) (by (simp;omega))) Z (E9 (H3 TySz.out Z Z (by simp;omega) Z Z) (A6 ?_))))))))))
  refine k1 (k2 ?_)
  refine A3 (A2 (A4 Z Z) Z (A2 (A4 Z Z) Z (A2 (A4 Z Z) Z (A2 (E4 Z) Z (A2 (C1 Z Z (by omega)) Z (A2 (y3 Z Z (by omega) (by omega)) Z (A2 (A5 Z Z) Z (A6 ?_))))))))
  refine k1 ?_
  refine A3 (A2 (A4 Z Z) Z (A2 (C1 Z Z (by omega)) Z (A2 (A5 Z Z) Z (A6 ?_))))
  refine k4 (k1 ?_)
  have e1:r.take (((a.length:Int)+0).toNat)=a:=by rw [h1,show ((a.length:Int)+0).toNat=a.length by omega,List.take_left]
  have e2:r.drop (((a.length:Int)+(([c]:Str).length:Int)).toNat)=b:=by rw [h1,h10,show ((a.length:Int)+((1:Nat):Int)).toNat=a.length+1 by omega,show a++c::b=(a++[c])++b by simp,List.drop_left' (by simp)]
  refine ⟨(i+1,b),⟨by dsimp only;omega,h5,by dsimp only;omega⟩,by dsimp only;omega,?_⟩
  rw [e1,e2]
  dsimp only
  rw [←B49 P [] _ i h4]
  exact I72 ⟨le1 rfl,le1 rfl,le1 rfl,le1 rfl,le1 rfl,le1 rfl,trivial⟩ ⟨rfl,trivial⟩
 ·have hge:i+1=P.length:=by have:=A1 ht;omega
  have h1:=n4 c r
  have h2:(P.drop i).length=r.count c+1:=by rw [hp];exact h1
  rw [J12] at h2
  have h3:c∉r:=List.count_eq_zero.1 (by omega)
  have h4:P[i]?=some r:=by rw [←List.head?_drop,hp,B40 h3];rfl
  refine k6 (k2 ?_)
  refine A3 (A2 (A4 Z Z) Z (A2 (A4 Z Z) Z (A2 (A4 Z Z) Z (A2 (E5 Z Z Z (by omega) (by (simp;omega))) Z (E9 (H3 TySz.out Z Z (by simp;omega) Z Z) (A6 ?_))))))
  refine k1 (k2 ?_)
  have e:(P.take i++List.replicate (P.length - i) ([]:Str)).set (i:Int).toNat r=P:=by rw [J09,B49 P [] r i h4,hge];simp
  rw [e]
  refine F5 (Sees.freeze (k:=9) Z) ?_
  refine A3 (A2 (A4 Z Z) Z (A2 (A4 Z Z) Z (A2 (C1 Z Z (by omega)) Z (A2 (C56 Z (.pure _ _ _ _) Z (by omega) (by omega)) Z (A2 (A5 Z Z) Z (A6 ?_))))))
  refine k1 (k10 ?_)
  exact B5 (F2 rfl rfl rfl) (by rw [show ((i:Int)+1).toNat=P.length by omega,J23,hPe])
theorem H69 (s:Str) (c:UInt8) (hs:s.length≤536870912):FnOk Tryz.prog 146 [F3 s,F3 [c]] (fun rs=>rs=[j2 (M1 c s)]):=by
 refine FnOk.intro Tryz.func146 (by decide) Z Z Z Z ?_
 refine k2 ?_
 refine A3 (A2 (A5 Z Z) Z (A6 ?_))
 refine k1 (k2 ?_)
 refine A3 (A2 (A4 Z Z) Z (A2 (A4 Z Z) Z (B9 (F42 s c hs) Z Z Z ?_)));rintro _ rfl;refine A2 (A5 Z Z) Z (A6 ?_)
 refine k1 (k10 ?_)
 exact B5 (F2 rfl rfl rfl) rfl
theorem D90 (s p:Str) (hs:s.length≤1073741824):FnOk Tryz.prog 251 [F3 s,F3 p] (fun rs=>rs=[E0 (Q2 s p)]):=by
 refine FnOk.intro Tryz.func251 (by decide) Z Z Z Z ?_
 refine k2 ?_
 refine A3 (A2 (A5 Z Z) Z (A6 ?_))
 refine k1 (k2 ?_)
 refine A3 (A2 (A4 Z Z) Z (A2 (E4 Z) Z (A2 (A4 Z Z) Z (A2 (E4 Z) Z (A2 (s9 Z Z) Z (A2 (A4 Z Z) Z (A9 Z Z Z Z (fun hg=>by rw [hg];exact A4 Z Z) ?_)))))));refine A9 Z Z Z Z (fun hg=>by rw [hg];exact A4 Z Z) ?_;refine A9 Z Z Z Z (fun hg=>by rw [hg];exact E4 Z) ?_;refine A9 Z Z Z Z (fun hg=>by rw [hg];exact A4 Z Z) ?_;refine A9 Z Z Z Z (fun hg=>by rw [hg];exact E4 Z) ?_;refine A9 Z Z Z Z (fun hg=>by have hq:=hg;(try simp at hq);rw [hg];exact Q7 Z Z (by omega)) ?_;refine A9 Z Z Z Z (fun hg=>by have hq:=hg;(try simp at hq);rw [hg];exact y3 Z Z (by omega) (by omega)) ?_;refine A9 Z Z Z Z (fun hg=>by rw [hg];exact A4 Z Z) ?_;refine A9 Z Z Z Z (fun hg=>by rw [hg];exact V3 Z Z) ?_;refine A2 (B4 Z (fun h=>by first | rfl | (rw [h];rfl)) (fun h=>by first | rfl | (rw [h];rfl))) Z ?_;refine A2 (A5 Z Z) Z (A6 ?_)
 simp only [L2]
 refine k1 (k10 ?_)
 refine B5 (F2 Z Z Z) ?_
 unfold Q2
 congr 4
 congr 1
 apply propext;constructor
 ·intro h;have h1:p.length≤s.length:=by have:=h.1;omega
  exact ⟨by omega,by have:=h.2;rw [show s.length - p.length=((s.length:Int) - (p.length:Int)).toNat by omega];exact this⟩
 ·intro h;exact ⟨by have:=h.1;omega,by have:=h.2;rw [show s.length - p.length=((s.length:Int) - (p.length:Int)).toNat by have:=h.1;omega] at this;exact this⟩
def E92 (s p:Str):List PV:=if Q2 s p=true then [F3 (s.take (s.length - p.length)),E0 true] else [F3 s,E0 false]
theorem D91 (s p:Str) (hs:s.length≤1073741824):FnOk Tryz.prog 212 [F3 s,F3 p] (fun rs=>rs=E92 s p):=by
 refine FnOk.intro Tryz.func212 (by decide) Z Z Z Z ?_
 refine k2 ?_
 refine A3 (A2 (A5 Z Z) Z (A2 (A5 Z Z) Z (A6 ?_)))
 refine k1 (k2 (k2 ?_))
 refine A3 (A2 (A4 Z Z) Z (A2 (A4 Z Z) Z (B9 (D90 s p hs) Z Z Z ?_)));rintro _ rfl;refine A2 (F0 Z) Z (A6 ?_)
 refine k1 ?_
 refine B1 rfl (fun ht=>?_) (fun ht=>?_)
 ·have h:Q2 s p=false:=by cases h:Q2 s p<;>rw [h] at ht<;>simp at ht ⊢
  refine k2 ?_
  refine A3 (A2 (A4 Z Z) Z (A2 (A5 Z Z) Z (A2 (A5 Z Z) Z (A6 ?_))))
  refine k1 (k10 (k11 ?_))
  exact B5 (rs:=[F3 s,E0 false]) (X6 rfl rfl rfl rfl rfl) (by unfold E92;rw [h];rfl)
 ·have h:Q2 s p=true:=by cases h:Q2 s p<;>rw [h] at ht<;>simp at ht ⊢
  have hl:p.length≤s.length:=by unfold Q2 at h;exact (A0 h).1
  refine k5 (k1 (k2 ?_))
  refine A3 (A2 (A4 Z Z) Z (A2 (A4 Z Z) Z (A2 (E4 Z) Z (A2 (A4 Z Z) Z (A2 (E4 Z) Z (A2 (Q7 Z Z (by omega)) Z (A2 (y2 Z Z (by omega) (by omega)) Z (A2 (A5 Z Z) Z (A2 (A5 Z Z) Z (A6 ?_))))))))))
  refine k1 (k10 ?_)
  refine B5 (rs:=[F3 (s.take (s.length - p.length)),E0 true]) (X6 rfl rfl (by rw [show ((s.length:Int) - (p.length:Int)).toNat=s.length - p.length by omega];rfl) rfl rfl) (by unfold E92;rw [if_pos h])
theorem E51 (s p:Str) (hs:s.length≤1073741824):FnOk Tryz.prog 145 [F3 s,F3 p] (fun rs=>rs=E92 s p):=by
 have hc:=D91 s p hs
 unfold E92 at hc ⊢
 by_cases h:Q2 s p=true
 ·rw [if_pos h] at hc ⊢
  refine FnOk.intro Tryz.func145 (by decide) Z Z Z Z ?_
  refine k2 ?_
  refine A3 (A2 (A5 Z Z) Z (A2 (A5 Z Z) Z (A6 ?_)))
  refine k1 (k2 ?_)
  refine A3 (A2 (A4 Z Z) Z (A2 (A4 Z Z) Z (B9 (hc) Z Z Z ?_)));rintro _ rfl;refine A2 (B2 Z Z) Z (A2 (B2 Z Z) Z (A2 (A5 Z Z) Z (A2 (A5 Z Z) Z (A6 ?_))))
  refine k1 (k10 ?_)
  exact B5 (X6 rfl rfl rfl rfl rfl) rfl
 ·rw [if_neg h] at hc ⊢
  refine FnOk.intro Tryz.func145 (by decide) Z Z Z Z ?_
  refine k2 ?_
  refine A3 (A2 (A5 Z Z) Z (A2 (A5 Z Z) Z (A6 ?_)))
  refine k1 (k2 ?_)
  refine A3 (A2 (A4 Z Z) Z (A2 (A4 Z Z) Z (B9 (hc) Z Z Z ?_)));rintro _ rfl;refine A2 (B2 Z Z) Z (A2 (B2 Z Z) Z (A2 (A5 Z Z) Z (A2 (A5 Z Z) Z (A6 ?_))))
  refine k1 (k10 ?_)
  exact B5 (X6 rfl rfl rfl rfl rfl) rfl
theorem D07 (c:UInt8):∀n:Nat,Lib.repeatL [c] n=List.replicate n c
 | 0=>rfl
 | n+1=>by rw [Lib.repeatL,D07 c n];rfl
theorem E93 (c:UInt8) (n:Nat) (hn:n≤1048576):FnOk Tryz.prog 167 [F3 [c],E6 n] (fun rs=>rs=[F3 (List.replicate n c)]) :=
 I86 (xs:=[.string ⟨#[c]⟩,.int .i64 n]) (r:=.string ⟨(List.replicate n c).toArray⟩) ⟨_,rfl,rfl,rfl⟩ rfl fun w _=>by
  have:=Tryz.strings_Repeat ⟨#[c]⟩ n w (by omega) (by show 1*n≤_;omega)
  have e:Lib.repeatL (⟨#[c]⟩:ByteArray).data.toList n=List.replicate n c:=D07 c n
  rw [e] at this
  exact this
abbrev B23 (c:Comb):Ob:=.box (K9 c).s1.cells
theorem D08 (rows:List Row) (n:Nat) (hn:n≤32) (hr:I8 rows) (hl:rows.length≤268435456) :
  AL.Met Tryz.prog 112 [(pRows rows).s1,(E6 n).s1] [] [] [] (fun rs ob'=>rs=[.one (.mut 720)]∧ob'=[(720,.arr Int 1 L1 (W0 rows n))]):=by
 have e0:((n:Int)+1).toNat=n+1:=by omega
 refine AL.Met.intro Tryz.func112 (by decide) Z Z Z ?_
 refine k2 ?_
 refine A3 (A2 (A5 Z Z) Z (A6 ?_))
 refine k1 (k2 ?_)
 refine A3 (A2 (A4 Z Z) Z (A2 (C1 Z Z (by omega)) Z (C3 (j5 720 Int L1 0 Z Z (by omega) (by omega) (fun _=>by first | exact ⟨⟨rfl,rfl⟩,trivial⟩ | exact ⟨O1 _ _ _,trivial⟩) (by first | rfl | (simp [G3,I7,Ob.free,SV.free,S1.free,TC.free]<;>rfl))) Z ?_)));refine A2 (A5 Z Z) Z (A6 ?_)
 rw [e0,←H08 rows n]
 refine k1 (k2 (k2 ?_))
 refine A3 (A2 (A4 Z Z) Z (A2 (F1 Z (.pure _ _ _ _)) Z (A2 (A4 Z Z) Z (A6 ?_))))
 refine k1 (k3 ?_)
 refine D3 (X:=Nat) (fun i=>([(1,C2 n),(5,.s (.one (.mut 720))),(12,D1 Row 3 rowC rows),(13,C2 rows.length),(14,C2 i)],[(720,.arr Int 1 L1 (n9 rows n i 0))])) (fun i=>i≤rows.length) (fun i=>rows.length - i) 0 (Nat.zero_le _) (I72 ⟨le1 rfl,le1 rfl,le1 rfl,le1 rfl,le1 rfl,trivial⟩ ⟨rfl,trivial⟩) ?_
 intro i hi
 dsimp only at hi ⊢
 refine k2 ?_
 refine A3 (A2 (D6 Z Z) Z (A6 ?_))
 refine k1 (k2 ?_)
 refine B1 rfl (fun ht=>?_) (fun ht=>?_)
 ·have hlt:i < rows.length:=by have:=A0 ht;omega
  have hv:rows[i]?=some rows[i]:=by simp [hlt]
  have hrow:=hr _ (J19 hlt)
  have hstep:=fun p=>H09 rows n i p hlt
  obtain ⟨r,hrr⟩:∃r,r=rows[i]:=⟨_,rfl⟩
  rw [←hrr] at hv hrow hstep
  have hcl:=fun k=>C00 (rows.take i) n k
  have htl:(rows.take i).length=i:=by rw [J15];omega
  rw [htl] at hcl
  refine k5 (k1 (k2 (k3 (k2 ?_))))
  refine A3 (A2 (B3 Z (.pure _ _ _ _) Z (by omega) hv) Z (A2 (G8 Z Z) Z (C3 (H1 7 Z) Z (E9 (C0 TySz.out Z Z Z Z Z Z) (A6 ?_)))))
  refine k1 (k2 (k2 ?_))
  refine A3 (A2 (A4 Z Z) Z (A2 (A4 Z Z) Z (A6 ?_)))
  refine k1 (k3 ?_)
  refine D3 (X:=Nat) (fun p=>([(1,C2 n),(5,.s (.one (.mut 720))),(7,.s (.one (.ref 7 0))),(12,D1 Row 3 rowC rows),(13,C2 rows.length),(14,C2 i),(18,C2 n),(19,C2 p)],[(7,.box (pRow r).s1.cells),(720,.arr Int 1 L1 (n9 rows n i p))])) (fun p=>p≤n) (fun p=>n - p) 0 (Nat.zero_le _) (I72 ⟨le1 rfl,le1 rfl,le1 rfl,le1 rfl,le1 rfl,le1 rfl,le1 rfl,le1 rfl,trivial⟩ ⟨rfl,rfl,trivial⟩) ?_
  intro p hp
  dsimp only at hp ⊢
  have hlen:=I13 rows n i p
  have hget:=I14 rows n i p (by omega)
  have hcp:=hcl p
  refine k2 ?_
  refine A3 (A2 (D6 Z Z) Z (A6 ?_))
  refine k1 (k2 ?_)
  refine B1 rfl (fun ht=>?_) (fun ht=>?_)
  ·have hlt2:p < n:=by have:=A0 ht;omega
   have hst:=hstep p (by omega)
   rw [show R1 n p=(p:Int) by unfold R1;rw [if_neg (by omega)]] at hst
   refine k5 (k1 (k2 (k3 (k2 ?_))))
   refine A3 (A2 (A4 Z Z) Z (A2 (A5 Z Z) Z (A6 ?_)))
   refine k1 (k2 ?_)
   refine A3 (A2 (D4 Z Z Z) Z (A2 (A4 Z Z) Z (B9 (F99 r p hrow) Z Z Z ?_)));rintro _ rfl;refine A6 ?_
   refine k1 ?_
   refine B1 rfl (fun ht=>?_) (fun ht=>?_)
   ·rw [if_pos ht] at hst
    skip
    refine A3 (A2 (A4 Z Z) Z (A2 (A4 Z Z) Z (A2 (E5 Z Z Z (by omega) (by (rw [hlen];omega))) Z ?_)));refine A2 (R5 Z Z hget Z) Z (A2 (C1 Z Z (by omega)) Z (A2 (E5 Z Z Z (by omega) (by (rw [hlen];omega))) Z ?_));refine E9 (H3 TySz.out Z Z (by (rw [hlen];omega)) Z Z) ?_;refine A6 ?_
    refine k4 (k1 ?_)
    refine A3 (A2 (C1 Z Z (by omega)) Z (A2 (A4 Z Z) Z (A6 ?_)))
    refine k1 ?_
    refine ⟨p+1,by omega,by omega,?_⟩
    rw [hst]
    exact I72 ⟨le1 rfl,le1 rfl,le1 rfl,le1 rfl,le1 rfl,le1 rfl,le1 rfl,le1 rfl,trivial⟩ ⟨rfl,rfl,trivial⟩
   ·rw [if_neg (by rw [ht];decide)] at hst
    refine k5 (k4 (k1 ?_))
    refine A3 (A2 (C1 Z Z (by omega)) Z (A2 (A4 Z Z) Z (A6 ?_)))
    refine k1 ?_
    refine ⟨p+1,by omega,by omega,?_⟩
    rw [hst]
    exact I72 ⟨le1 rfl,le1 rfl,le1 rfl,le1 rfl,le1 rfl,le1 rfl,le1 rfl,le1 rfl,trivial⟩ ⟨rfl,rfl,trivial⟩
  ·have hpn:p=n:=by have:=A1 ht;omega
   subst hpn
   have hst:=hstep p (by omega)
   have hvis:Z9 r (R1 p p)=!r.Lost:=by unfold R1 Z9;rw [if_pos rfl,if_pos rfl]
   rw [hvis,H10] at hst
   refine k6 (k2 ?_)
   refine A3 (A2 (A7 Z) Z (A2 (B0 Z Z Z) Z (A2 (F0 Z) Z (A6 ?_))))
   refine k1 ?_
   refine B1 rfl (fun ht=>?_) (fun ht=>?_)
   ·rw [if_pos ht] at hst
    skip
    refine A3 (A2 (A4 Z Z) Z (A2 (A4 Z Z) Z (A2 (E5 Z Z Z (by omega) (by (rw [hlen];omega))) Z ?_)));refine A2 (R5 Z Z hget Z) Z (A2 (C1 Z Z (by omega)) Z (A2 (E5 Z Z Z (by omega) (by (rw [hlen];omega))) Z ?_));refine E9 (H3 TySz.out Z Z (by (rw [hlen];omega)) Z Z) ?_;refine A6 ?_
    refine k4 (k1 ?_)
    refine A3 (A2 (C1 Z Z (by omega)) Z (A2 (A4 Z Z) Z (A6 ?_)))
    refine k1 ?_
    refine ⟨i+1,by omega,by omega,?_⟩
    rw [hst]
    exact I72 ⟨le1 rfl,le1 rfl,le1 rfl,le1 rfl,le1 rfl,trivial⟩ ⟨rfl,trivial⟩
   ·rw [if_neg (by rw [ht];decide)] at hst
    refine k5 (k4 (k1 ?_))
    refine A3 (A2 (C1 Z Z (by omega)) Z (A2 (A4 Z Z) Z (A6 ?_)))
    refine k1 ?_
    refine ⟨i+1,by omega,by omega,?_⟩
    rw [hst]
    exact I72 ⟨le1 rfl,le1 rfl,le1 rfl,le1 rfl,le1 rfl,trivial⟩ ⟨rfl,trivial⟩
 ·have hil:i=rows.length:=by have:=A1 ht;omega
  subst hil
  rw [H11]
  refine k6 (k2 ?_)
  refine A3 (A2 (A4 Z Z) Z (A2 (A5 Z Z) Z (A6 ?_)))
  refine k1 (k10 ?_)
  exact I5 (c4 rfl rfl) (by repeat (first | exact E2 | refine tail_cons rfl ?_ | refine E3 _ ?_)) (ObIn.spec (ob':=[(720,_)]) ⟨rfl,trivial⟩) ⟨rfl,rfl⟩
theorem G79 (c:Comb) (hn:1≤c.Parents∧c.Parents≤32) (hr:∀h∈c.Hunks,I8 h.Rows) (hz:szC c.Hunks≤268435456):FnOk Tryz.prog 94 [K9 c] (fun rs=>rs=[E0 (V2 c.Parents.toNat c.Hunks)]):=by
 obtain ⟨n,hN⟩:∃n,n=c.Parents.toNat:=⟨_,rfl⟩
 rw [←hN]
 have hzl:=A25 c.Hunks
 refine FnOk.intro Tryz.func94 (by decide) Z Z Z Z ?_
 refine k2 ?_
 refine A3 (C3 (P5 1 Z Z Z) Z (A2 (A5 Z Z) Z (A6 ?_)))
 refine k1 (k2 (k2 ?_))
 refine A3 (A2 (A7 Z) Z (A2 (B0 Z Z Z) Z (A2 (F1 Z (.pure _ _ _ _)) Z (A2 (A4 Z Z) Z (A6 ?_)))))
 refine k1 (k3 ?_)
 refine D3 (X:=Nat) (fun k=>([(1,.s (.one (.ref 1 0))),(8,D1 CHunk 2 K4 c.Hunks),(9,C2 c.Hunks.length),(10,C2 k)],[(1,B23 c)])) (fun k=>k≤c.Hunks.length∧V2 n c.Hunks=V2 n (c.Hunks.drop k)) (fun k=>c.Hunks.length - k) 0 ⟨Nat.zero_le _,rfl⟩ (I72 ⟨le1 rfl,le1 rfl,le1 rfl,le1 rfl,trivial⟩ ⟨rfl,trivial⟩) ?_
 rintro k ⟨hk,hp⟩
 dsimp only at hk hp ⊢
 refine k2 ?_
 refine A3 (A2 (D6 Z Z) Z (A6 ?_))
 refine k1 (k2 ?_)
 refine B1 rfl (fun ht=>?_) (fun ht=>?_)
 ·have hlt:k < c.Hunks.length:=by have:=A0 ht;omega
  have hv:c.Hunks[k]?=some c.Hunks[k]:=by simp [hlt]
  have hrw:=hr _ (J19 hlt)
  have hzm:=A87 (J19 hlt)
  rw [J07 hlt] at hp
  obtain ⟨h,hx⟩:∃x,x=c.Hunks[k]:=⟨_,rfl⟩
  rw [←hx] at hv hrw hp hzm
  have hz1:=T4 h.Rows
  unfold A51 at hzm
  have hp:V2 n c.Hunks=(M4 h.Rows n&&V2 n (c.Hunks.drop (k+1))):=hp
  refine k5 (k1 (k2 (k3 (k2 ?_))))
  refine A3 (A2 (B3 Z (.pure _ _ _ _) Z (by omega) hv) Z (A2 (G8 Z Z) Z (C3 (H1 4 Z) Z (E9 (C0 TySz.out Z Z Z Z Z Z) (A6 ?_)))))
  refine k1 (k2 ?_)
  refine A3 (A2 (A7 Z) Z (A2 (B0 Z Z Z) Z (A2 (F1 Z (.pure _ _ _ _)) Z (A2 (A4 Z Z) Z (A6 ?_)))))
  refine k1 (k3 ?_)
  refine D3 (X:=Nat) (fun j=>([(1,.s (.one (.ref 1 0))),(8,D1 CHunk 2 K4 c.Hunks),(9,C2 c.Hunks.length),(10,C2 k),(15,D1 Row 3 rowC h.Rows),(16,C2 h.Rows.length),(17,C2 j)],[(1,B23 c)])) (fun j=>j≤h.Rows.length∧M4 h.Rows n=M4 (h.Rows.drop j) n) (fun j=>h.Rows.length - j) 0 ⟨Nat.zero_le _,rfl⟩ (I72 ⟨le1 rfl,le1 rfl,le1 rfl,le1 rfl,le1 rfl,le1 rfl,le1 rfl,trivial⟩ ⟨rfl,trivial⟩) ?_
  rintro j ⟨hj,hq⟩
  dsimp only at hj hq ⊢
  refine k2 ?_
  refine A3 (A2 (D6 Z Z) Z (A6 ?_))
  refine k1 (k2 ?_)
  refine B1 rfl (fun ht=>?_) (fun ht=>?_)
  ·have hlt2:j < h.Rows.length:=by have:=A0 ht;omega
   have hv2:h.Rows[j]?=some h.Rows[j]:=by simp [hlt2]
   have hm:=hrw _ (J19 hlt2)
   rw [J07 hlt2,C34] at hq
   obtain ⟨r,hy⟩:∃x,x=h.Rows[j]:=⟨_,rfl⟩
   rw [←hy] at hv2 hm hq
   have hw:=G71 r c.Parents hn hm
   rw [←hN] at hw
   refine k5 (k1 (k2 (k3 (k2 ?_))))
   refine A3 (A2 (B3 Z (.pure _ _ _ _) Z (by omega) hv2) Z (A2 (G8 Z Z) Z (C3 (H1 6 Z) Z (E9 (C0 TySz.out Z Z Z Z Z Z) (A6 ?_)))))
   refine k1 (k2 ?_)
   refine A3 (A2 (D4 Z Z Z) Z (A2 (A7 Z) Z (A2 (B0 Z Z Z) Z (B9 (hw) Z Z Z ?_))));rintro _ rfl;refine A2 (F0 Z) Z (A6 ?_)
   refine k1 ?_
   refine B1 rfl (fun ht=>?_) (fun ht=>?_)
   ·have h2:X0 n r=false:=by simpa using ht
    rw [h2,Bool.false_and] at hq
    rw [hq,Bool.false_and] at hp
    refine k2 ?_
    refine A3 (A2 (A5 Z Z) Z (A6 ?_))
    refine k1 (k10 (k12 (k11 (k11 (k12 (k12 (k11 (k11 (k12 (k11 ?_))))))))))
    exact B5 (F2 rfl rfl rfl) (by rw [hp])
   ·have h2:X0 n r=true:=by simpa using ht
    rw [h2,Bool.true_and] at hq
    refine k5 (k4 (k1 ?_))
    refine A3 (A2 (C1 Z Z (by omega)) Z (A2 (A4 Z Z) Z (A6 ?_)))
    refine k1 ?_
    exact ⟨j+1,⟨by omega,hq⟩,by omega,I72 ⟨le1 rfl,le1 rfl,le1 rfl,le1 rfl,le1 rfl,le1 rfl,le1 rfl,trivial⟩ ⟨rfl,trivial⟩⟩
  ·have hjl:j=h.Rows.length:=by have:=A1 ht;omega
   rw [hjl,J11 (Nat.le_refl _)] at hq
   have hq:M4 h.Rows n=true:=hq
   rw [hq,Bool.true_and] at hp
   refine k6 (k7 (k7 (k8 Z (k4 (k1 ?_)))))
   refine A3 (A2 (C1 Z Z (by omega)) Z (A2 (A4 Z Z) Z (A6 ?_)))
   refine k1 ?_
   exact ⟨k+1,⟨by omega,hp⟩,by omega,I72 ⟨le1 rfl,le1 rfl,le1 rfl,le1 rfl,trivial⟩ ⟨rfl,trivial⟩⟩
 ·have hkl:k=c.Hunks.length:=by have:=A1 ht;omega
  rw [hkl,J11 (Nat.le_refl _)] at hp
  refine k6 (k2 ?_)
  refine A3 (A2 (A5 Z Z) Z (A6 ?_))
  refine k1 (k10 ?_)
  exact B5 (F2 rfl rfl rfl) (by rw [hp];rfl)
theorem G04 (h:CHunk) (n:Nat) (ends:List Int) (hn:n≤32) (hr:I8 h.Rows) (hl:h.Rows.length≤268435456) (he:ends.length=n+1) (he0:∀e∈ends,0≤e) :
  FnOk Tryz.prog 170 [A83 h,E6 n,S6 ends] (fun rs=>rs=if X3 n ends h=true then [S6 (T3 n h),E0 true] else [S6 [],E0 false]):=by
 have hnot:∀{Q:Prop},(X3 n ends h=true→False)→(if X3 n ends h=true then [S6 (T3 n h),E0 true] else [S6 [],E0 false])=[S6 [],E0 false]:=fun hq=>if_neg hq
 have hF:=D27 n ends h
 refine FnOk.intro Tryz.func170 (by decide) Z Z Z Z ?_
 refine k2 ?_
 refine A3 (C3 (P5 3 Z Z Z) Z (A2 (A5 Z Z) Z (A2 (A5 Z Z) Z (A6 ?_))))
 refine k1 (k2 (k2 ?_))
 refine A3 (A2 (A7 Z) Z (A2 (B0 Z Z Z) Z (A2 (F1 Z (.pure _ _ _ _)) Z (A2 (A4 Z Z) Z (A2 (C1 Z Z (by omega)) Z (A2 (M5 Z Z) Z (A2 (A4 Z Z) Z (A9 Z Z Z Z (fun hg=>by rw [hg];exact A7 Z) ?_))))))));refine A9 Z Z Z Z (fun hg=>by rw [hg];exact B0 Z Z Z) ?_;refine A9 Z Z Z Z (fun hg=>by rw [hg];exact F1 Z (.pure _ _ _ _)) ?_;refine A9 Z Z Z Z (fun hg=>by rw [hg];exact F6 Z Z) ?_;refine A2 (B4 Z (fun h=>by first | rfl | (rw [h];rfl)) (fun h=>by first | rfl | (rw [h];rfl))) Z ?_;refine A6 ?_
 refine k1 ?_
 refine B1 rfl (fun ht=>?_) (fun ht=>?_)
 ·have h1:=A0 (or_pick.symm.trans ht)
  refine k2 ?_
  refine A3 (A2 (J9 _ 1 L1) Z (A2 (A5 Z Z) Z (A6 ?_)))
  refine k1 (k10 (k11 ?_))
  refine B5 (rs:=[S6 [],E0 false]) (X6 Z Z Z Z Z) ?_
  rw [if_neg]
  intro hq
  have h2:=(hF.1 hq).1
  rcases h1 with h1 | h1
  ·omega
  ·exact h2.2 (List.length_eq_zero_iff.1 (by omega))
 ·have h1:=A1 (or_pick.symm.trans ht)
  simp only [not_or,Decidable.not_not] at h1
  have hal:h.At.length=n+1:=by omega
  have hne:h.Rows≠[]:=fun e=>h1.2 (by rw [e];rfl)
  refine V5 [(1,C2 n),(2,D1 Int 1 L1 ends),(3,.s (.one (.ref 3 0)))] [(3,.box (A83 h).s1.cells)] (I72 ⟨le1 rfl,le1 rfl,le1 rfl,trivial⟩ ⟨rfl,trivial⟩) ?_
  refine k5 (k1 (k2 ?_))
  refine A3 (A2 (A7 Z) Z (A2 (B0 Z Z Z) Z (A2 (A4 Z Z) Z (l_new (D08 h.Rows n hn hr hl) Z Z Z Z ?_))));rintro _ _ ⟨rfl,rfl⟩;refine ⟨rfl,?_⟩;refine A2 (A5 Z Z) Z (A6 ?_)
  refine k1 (k2 (k2 ?_))
  refine A3 (A2 (A7 Z) Z (A2 (B0 Z Z Z) Z (A2 (F1 Z (.pure _ _ _ _)) Z (A2 (A4 Z Z) Z (A6 ?_)))))
  refine k1 (k3 ?_)
  refine D3 (X:=Nat) (fun k=>([(2,D1 Int 1 L1 ends),(8,.s (.one (.mut 720))),(28,D1 Int 1 L1 h.At),(29,C2 h.At.length),(30,C2 k)],[(720,.arr Int 1 L1 (x6 n h k))])) (fun k=>k≤h.At.length∧∀j,j < k→ends.getD j 0≤h.At.getD j 0∧h.At.getD j 0≤4096) (fun k=>h.At.length - k) 0 ⟨Nat.zero_le _,fun j hj=>by omega⟩ (by rw [G48];exact I72 ⟨le1 rfl,le1 rfl,le1 rfl,le1 rfl,le1 rfl,trivial⟩ ⟨rfl,trivial⟩) ?_
  rintro k ⟨hk,hp⟩
  dsimp only at hk hp ⊢
  have hlen:=H14 n h k
  refine k2 ?_
  refine A3 (A2 (D6 Z Z) Z (A6 ?_))
  refine k1 (k2 ?_)
  refine B1 rfl (fun ht=>?_) (fun ht=>?_)
  ·have hlt:k < h.At.length:=by have:=A0 ht;omega
   have hv:=E59 hlt
   have hve:=E59 (l:=ends) (i:=k) (by omega)
   have hget:=H15 n h k (by omega)
   have hset:=H16 n h k
   have hek:0≤ends.getD k 0:=he0 _ (J22 hve)
   have hcl:=C00 h.Rows n k
   obtain ⟨a,ha⟩:∃a,a=h.At.getD k 0:=⟨_,rfl⟩
   obtain ⟨e,hee⟩:∃e,e=ends.getD k 0:=⟨_,rfl⟩
   obtain ⟨q,hqq⟩:∃q,q=N1 h.Rows n k:=⟨_,rfl⟩
   rw [←ha] at hv hset
   rw [←hee] at hve hek
   rw [←hqq] at hget hset hcl
   refine k5 (k1 (k2 (k3 (k2 ?_))))
   refine A3 (A2 (A4 Z Z) Z (A2 (B3 Z (.pure _ _ _ _) Z (by omega) hv) Z (A2 (B6 Z Z) Z (A2 (A5 Z Z) Z (A2 (A5 Z Z) Z (A6 ?_))))))
   refine k1 (k2 (k2 ?_))
   refine A3 (A2 (A4 Z Z) Z (A2 (A4 Z Z) Z (A2 (A4 Z Z) Z (A2 (B3 Z (.pure _ _ _ _) Z (by omega) hve) Z (A2 (B6 Z Z) Z (A2 (D6 Z Z) Z (A2 (A4 Z Z) Z (A9 Z Z Z Z (fun hg=>by rw [hg];exact A4 Z Z) ?_))))))));refine A9 Z Z Z Z (fun hg=>by rw [hg];exact N2 Z Z) ?_;refine A2 (B4 Z (fun h=>by first | rfl | (rw [h];rfl)) (fun h=>by first | rfl | (rw [h];rfl))) Z ?_;refine A6 ?_
   refine k1 ?_
   refine B1 rfl (fun ht=>?_) (fun ht=>?_)
   ·have h2:=A0 (or_pick.symm.trans ht)
    refine k2 ?_
    refine A3 (A2 (J9 _ 1 L1) Z (A2 (A5 Z Z) Z (A6 ?_)))
    refine k1 (k10 (k11 (k12 (k11 (k11 (k12 (k11 ?_)))))))
    refine B5 (rs:=[S6 [],E0 false]) (X6 Z Z Z Z Z) ?_
    rw [if_neg]
    intro hq
    have h3:=(hF.1 hq).2 k (by omega)
    rw [←ha,←hee] at h3
    omega
   ·have h2:=A1 (or_pick.symm.trans ht)
    have h3:e≤a∧a≤4096:=by omega
    refine k5 (k1 ?_)
    refine A3 (A2 (A4 Z Z) Z (A2 (A4 Z Z) Z (A2 (E5 Z Z Z (by omega) (by (rw [hlen];omega))) Z ?_)));refine A2 (R5 Z Z hget Z) Z (A2 (A4 Z Z) Z (A2 (C1 Z Z (by omega)) Z (A2 (E5 Z Z Z (by omega) (by (rw [hlen];omega))) Z ?_)));refine E9 (H3 TySz.out Z Z (by (rw [hlen];omega)) Z Z) ?_;refine A6 ?_
    refine k4 (k1 ?_)
    refine A3 (A2 (C1 Z Z (by omega)) Z (A2 (A4 Z Z) Z (A6 ?_)))
    refine k1 ?_
    refine ⟨k+1,⟨by omega,fun j hj=>?_⟩,by omega,?_⟩
    ·by_cases e1:j=k
     ·subst e1;rw [←ha,←hee];exact h3
     ·exact hp j (by omega)
    ·rw [←hset]
     exact I72 ⟨le1 rfl,le1 rfl,le1 rfl,le1 rfl,le1 rfl,trivial⟩ ⟨rfl,trivial⟩
  ·have hkl:k=n+1:=by have:=A1 ht;omega
   subst hkl
   rw [G49]
   have hq:X3 n ends h=true:=hF.2 ⟨⟨hal,hne⟩,hp⟩
   refine F5 (Sees.freeze (k:=720) Z) ?_
   refine k6 (k2 ?_)
   refine A3 (A2 (A4 Z Z) Z (A2 (A5 Z Z) Z (A2 (A5 Z Z) Z (A6 ?_))))
   refine k1 (k10 ?_)
   exact B5 (rs:=[S6 (T3 n h),E0 true]) (X6 rfl rfl rfl rfl rfl) (by rw [if_pos hq])
theorem smax_ok (l:List Int) (hl:0 < l.length):FnOk Tryz.prog 173 [S6 l] (fun rs=>∃m,rs=[E6 m]∧∀b,m≤b↔∀e∈l,e≤b):=by
 refine FnOk.intro Tryz.func173 (by decide) Z Z Z Z ?_
 refine A14 (t:=0) rfl (.pure _ _ _ _) fun hb=>?_
 refine k2 ?_
 refine A3 (A2 (A5 Z Z) Z (A6 ?_))
 refine k1 (k2 (k2 ?_))
 refine A3 (A2 (A4 Z Z) Z (A2 (F1 Z (.pure _ _ _ _)) Z (A2 (D6 Z Z) Z (A6 ?_))))
 refine k1 ?_
 refine B1 rfl (fun ht=>?_) (fun ht=>?_)
 ·exact absurd (A0 ht) (by omega)
 refine k5 (k1 (k2 ?_))
 refine A3 (A2 (A4 Z Z) Z (A2 (B3 Z (.pure _ _ _ _) Z (by omega) (E59 (l:=l) (i:=0) hl)) Z (A2 (B6 Z Z) Z (A2 (A5 Z Z) Z (A6 ?_)))))
 refine k1 (k2 (k2 ?_))
 refine A3 (A2 (A5 Z Z) Z (A6 ?_))
 refine k1 (k3 ?_)
 refine D3 (X:=Nat × Int) (fun x=>([(0,D1 Int 1 L1 l),(3,C2 x.2),(4,C2 x.1)],[])) (fun x=>(1≤x.1∧x.1≤l.length)∧∀b,x.2≤b↔∀e∈l.take x.1,e≤b) (fun x=>l.length - x.1) (1,l.getD 0 0) ⟨⟨Nat.le_refl _,hl⟩,?_⟩ (I72 ⟨le1 rfl,le1 rfl,le1 rfl,trivial⟩ trivial) ?_
 ·intro b
  have:l.take 1=[l.getD 0 0]:=by
   cases l with
   | nil=>cases hl
   | cons x r=>rfl
  dsimp only
  rw [this];simp
 rintro ⟨k,m⟩ ⟨⟨hk1,hk⟩,hp⟩
 dsimp only at hk1 hk hp ⊢
 refine k2 (k2 ?_)
 refine A3 (A2 (A4 Z Z) Z (A2 (A4 Z Z) Z (A2 (F1 Z (.pure _ _ _ _)) Z (A2 (D6 Z Z) Z (A6 ?_)))))
 refine k1 ?_
 refine B1 rfl (fun ht=>?_) (fun ht=>?_)
 ·have hlt:k < l.length:=by have:=A0 ht;omega
  have hv:=E59 hlt
  refine k5 (k1 (k2 (k3 ?_)))
  refine A3 (A2 (A4 Z Z) Z (A2 (A4 Z Z) Z (A2 (A4 Z Z) Z (A2 (B3 Z (.pure _ _ _ _) Z (by omega) hv) Z (A2 (B6 Z Z) Z (A2 (n_max Z Z) Z (A2 (A5 Z Z) Z (A6 ?_))))))))
  refine k4 (k1 ?_)
  refine A3 (A2 (A4 Z Z) Z (A2 (C1 Z Z (by omega)) Z (A2 (A5 Z Z) Z (A6 ?_))))
  refine k1 ?_
  refine ⟨(k+1,if m < l.getD k 0 then l.getD k 0 else m),⟨⟨by dsimp only;omega,by dsimp only;omega⟩,?_⟩,by dsimp only;omega,I72 ⟨le1 rfl,le1 rfl,le1 rfl,trivial⟩ trivial⟩
  intro b
  dsimp only
  have e:l.take (k+1)=l.take k++[l.getD k 0]:=by
   rw [J10 hlt,J06,J03 hlt];rfl
  have h1:=hp b
  rw [e]
  constructor
  ·intro h x hx
   rcases List.mem_append.1 hx with hx | hx
   ·exact h1.1 (by omega) x hx
   ·simp only [J31,J33,or_false] at hx
    rw [hx];omega
  ·intro h
   have h2:=h1.2 (fun x hx=>h x (List.mem_append.2 (.inl hx)))
   have h3:=h (l.getD k 0) (List.mem_append.2 (.inr (by simp)))
   omega
 ·have hkl:k=l.length:=by have:=A1 ht;omega
  subst hkl
  rw [J23] at hp
  refine k6 (k2 ?_)
  refine A3 (A2 (A4 Z Z) Z (A2 (A5 Z Z) Z (A6 ?_)))
  refine k1 (k10 ?_)
  exact B5 (F2 rfl rfl rfl) ⟨m,rfl,hp⟩
theorem I40 (c:Comb) (hn:1≤c.Parents∧c.Parents≤32) (hr:∀h∈c.Hunks,I8 h.Rows) (hz:szC c.Hunks≤268435456) :
  FnOk Tryz.prog 95 [K9 c] (fun rs=>rs=[E0 (m9 c.Parents.toNat (List.replicate (c.Parents.toNat+1) 0) false 0 c.Hunks)]):=by
 obtain ⟨n,hN⟩:∃n,n=c.Parents.toNat:=⟨_,rfl⟩
 have hNc:c.Parents=(n:Int):=by omega
 rw [←hN]
 have e0:(c.Parents+1).toNat=n+1:=by omega
 have hzl:=A25 c.Hunks
 obtain ⟨W,hW⟩:∃W,W=m9 n (List.replicate (n+1) 0) false 0 c.Hunks:=⟨_,rfl⟩
 rw [←hW]
 refine FnOk.intro Tryz.func95 (by decide) Z Z Z Z ?_
 refine k2 ?_
 refine A3 (C3 (P5 1 Z Z Z) Z (A2 (A5 Z Z) Z (A6 ?_)))
 refine k1 (k2 ?_)
 refine A3 (C3 (H1 3 Z) Z (A6 ?_))
 refine k1 (k2 ?_)
 refine A3 (A2 (A7 Z) Z (A2 (B0 Z Z Z) Z (A2 (C1 Z Z (by omega)) Z (C3 (j5 720 Int L1 0 Z Z (by omega) (by omega) (fun _=>by first | exact ⟨⟨rfl,rfl⟩,trivial⟩ | exact ⟨O1 _ _ _,trivial⟩) (by first | rfl | (simp [G3,I7,Ob.free,SV.free,S1.free,TC.free]<;>rfl))) Z ?_))));refine A2 (A5 Z Z) Z (A6 ?_)
 rw [e0]
 refine k1 (k2 (k2 ?_))
 refine F5 (Sees.freeze (k:=720) Z) ?_
 refine A3 (A2 (A7 Z) Z (A2 (B0 Z Z Z) Z (A2 (F1 Z (.pure _ _ _ _)) Z (A2 (A4 Z Z) Z (A6 ?_)))))
 refine k1 (k3 ?_)
 refine D3 (X:=Nat × List Int × Bool × Int) (fun x=>([(1,.s (.one (.ref 1 0))),(3,.s (.one (.ref 3 0))),(4,D1 Int 1 L1 x.2.1),(15,D1 CHunk 2 K4 c.Hunks),(16,C2 c.Hunks.length),(17,C2 x.1)],[(1,B23 c),(3,.box [.p (.v (.bool x.2.2.1)),.p (.v (.int .u32 x.2.2.2))])])) (fun x=>x.1≤c.Hunks.length∧x.2.1.length=n+1∧(∀e∈x.2.1,0≤e)∧W=m9 n x.2.1 x.2.2.1 x.2.2.2 (c.Hunks.drop x.1)) (fun x=>c.Hunks.length - x.1) (0,List.replicate (n+1) 0,false,0) ⟨Nat.zero_le _,by simp,fun e he=>by have:=(List.mem_replicate.1 he).2;omega,hW⟩ (I72 ⟨le1 rfl,le1 rfl,le1 rfl,le1 rfl,le1 rfl,le1 rfl,trivial⟩ ⟨rfl,rfl,trivial⟩) ?_
 rintro ⟨k,ends,res,par⟩ ⟨hk,hel,he0,hp⟩
 dsimp only at hk hel he0 hp ⊢
 refine k2 ?_
 refine A3 (A2 (D6 Z Z) Z (A6 ?_))
 refine k1 (k2 ?_)
 refine B1 rfl (fun ht=>?_) (fun ht=>?_)
 ·have hlt:k < c.Hunks.length:=by have:=A0 ht;omega
  have hv:c.Hunks[k]?=some c.Hunks[k]:=by simp [hlt]
  have hmem:=J19 hlt
  have hrw:=hr _ hmem
  have hzm:=A87 hmem
  rw [J07 hlt,m9] at hp
  obtain ⟨h,hx⟩:∃x,x=c.Hunks[k]:=⟨_,rfl⟩
  rw [←hx] at hv hrw hzm hp
  have hz1:=T4 h.Rows
  have hz2:=A86 h.Rows
  unfold A51 at hzm
  have hf:=G04 h n ends (by omega) hrw (by omega) hel he0
  rw [←hNc] at hf
  refine k5 (k1 (k2 (k3 (k2 ?_))))
  refine A3 (A2 (B3 Z (.pure _ _ _ _) Z (by omega) hv) Z (A2 (G8 Z Z) Z (C3 (H1 6 Z) Z (E9 (C0 TySz.out Z Z Z Z Z Z) (A6 ?_)))))
  refine k1 (k2 ?_)
  refine A3 (A2 (A5 Z Z) Z (A6 ?_))
  refine k1 (k2 (k2 ?_))
  cases hfb:X3 n ends h with
  | false =>
   rw [hfb,if_neg (by decide)] at hf
   rw [hfb,Bool.false_and] at hp
   refine A3 (A2 (D4 Z Z Z) Z (A2 (A7 Z) Z (A2 (B0 Z Z Z) Z (A2 (A4 Z Z) Z (B9 (hf) Z Z Z ?_)))));rintro _ rfl;refine A2 (A4 Z Z) Z (A2 (B2 Z Z) Z (A2 (B2 Z Z) Z (A2 (A5 Z Z) Z (A2 (A5 Z Z) Z (A6 ?_)))))
   refine k1 (k2 ?_)
   refine A3 (A2 (A4 Z Z) Z (A2 (F0 Z) Z (A6 ?_)))
   refine k1 ?_
   refine B1 rfl (fun ht=>?_) (fun ht=>?_)
   ·refine k2 ?_
    refine A3 (A2 (A5 Z Z) Z (A6 ?_))
    refine k1 (k10 (k11 (k12 (k11 (k11 (k12 (k11 ?_)))))))
    exact B5 (F2 rfl rfl rfl) (by rw [hp])
   ·cases ht
  | true =>
   rw [hfb,if_pos rfl] at hf
   rw [hfb,Bool.true_and] at hp
   have hpos:∀e∈T3 n h,0≤e:=by
    intro e hm
    obtain ⟨j,hj,rfl⟩:=List.mem_map.1 hm
    have hj:=List.mem_range.1 hj
    have h1:=((D27 n ends h).1 hfb).2 j hj
    have h2:=he0 _ (J22 (E59 (l:=ends) (i:=j) (by omega)))
    have h3:=C00 h.Rows n j
    omega
   refine A3 (A2 (D4 Z Z Z) Z (A2 (A7 Z) Z (A2 (B0 Z Z Z) Z (A2 (A4 Z Z) Z (B9 (hf) Z Z Z ?_)))));rintro _ rfl;refine A2 (A4 Z Z) Z (A2 (B2 Z Z) Z (A2 (B2 Z Z) Z (A2 (A5 Z Z) Z (A2 (A5 Z Z) Z (A6 ?_)))))
   refine k1 (k2 ?_)
   refine A3 (A2 (A4 Z Z) Z (A2 (F0 Z) Z (A6 ?_)))
   refine k1 ?_
   refine B1 rfl (fun ht=>?_) (fun ht=>?_)
   ·cases ht
   refine k5 (k1 (k2 ?_))
   refine A3 (A2 (A7 Z) Z (A2 (B0 Z Z Z) Z (A2 (F1 Z (.pure _ _ _ _)) Z (A2 (A4 Z Z) Z (A6 ?_)))))
   refine k1 (k3 ?_)
   refine D3 (X:=Nat × Bool × Int) (fun x=>([(1,.s (.one (.ref 1 0))),(3,.s (.one (.ref 3 0))),(4,D1 Int 1 L1 (T3 n h)),(15,D1 CHunk 2 K4 c.Hunks),(16,C2 c.Hunks.length),(17,C2 k),(32,D1 Row 3 rowC h.Rows),(33,C2 h.Rows.length),(34,C2 x.1)],[(1,B23 c),(3,.box [.p (.v (.bool x.2.1)),.p (.v (.int .u32 x.2.2))])])) (fun x=>x.1≤h.Rows.length∧S8 res par h.Rows=S8 x.2.1 x.2.2 (h.Rows.drop x.1)∧l9 res h.Rows=l9 x.2.1 (h.Rows.drop x.1)∧m8 par h.Rows=m8 x.2.2 (h.Rows.drop x.1)) (fun x=>h.Rows.length - x.1) (0,res,par) ⟨Nat.zero_le _,rfl,rfl,rfl⟩ (I72 ⟨le1 rfl,le1 rfl,le1 rfl,le1 rfl,le1 rfl,le1 rfl,le1 rfl,le1 rfl,le1 rfl,trivial⟩ ⟨rfl,rfl,trivial⟩) ?_
   rintro ⟨j,res',par'⟩ ⟨hj,q1,q2,q3⟩
   dsimp only at hj q1 q2 q3 ⊢
   refine k2 ?_
   refine A3 (A2 (D6 Z Z) Z (A6 ?_))
   refine k1 (k2 ?_)
   refine B1 rfl (fun ht=>?_) (fun ht=>?_)
   ·have hlt2:j < h.Rows.length:=by have:=A0 ht;omega
    have hv2:h.Rows[j]?=some h.Rows[j]:=by simp [hlt2]
    have htl:=E04 h.Rows _ (J19 hlt2)
    rw [J07 hlt2] at q1 q2 q3
    rw [S8] at q1
    obtain ⟨r,hy⟩:∃x,x=h.Rows[j]:=⟨_,rfl⟩
    rw [←hy] at hv2 htl q1 q2 q3
    refine k5 (k1 (k2 (k3 (k2 ?_))))
    refine A3 (A2 (B3 Z (.pure _ _ _ _) Z (by omega) hv2) Z (A2 (G8 Z Z) Z (C3 (H1 9 Z) Z (E9 (C0 TySz.out Z Z Z Z Z Z) (A6 ?_)))))
    refine k1 (k2 ?_)
    by_cases hs:I0 r.Text=true
    ·refine A3 (A2 (D4 Z Z Z) Z (B9 (D84 r (by omega)) Z Z Z ?_));rintro _ rfl;refine A2 (F0 Z) Z (A2 (A4 Z Z) Z (S5 Z Z Z (by rw [hs];rfl) ?_));refine A2 (D4 Z Z Z) Z (S5 Z Z Z (by rw [hs];rfl) ?_);refine I25 (wadd_ok r res' par' (by omega)) Z Z Z Z Z Z ?_;rintro _ _ ⟨rfl,rfl⟩;refine A9 Z Z Z Z (fun hg=>by rw [hg];exact F0 Z) ?_;refine A2 (B4 Z (fun h=>by first | rfl | (rw [h];rfl)) (fun h=>by first | rfl | (rw [h];rfl))) Z ?_;refine A6 ?_
     refine k1 ?_
     refine B1 rfl (fun ht=>?_) (fun ht=>?_)
     ·have h2:D16 res' par' r=false:=by rw [hs] at ht;simpa using ht
      rw [hs,h2,Bool.true_and,Bool.false_and] at q1
      rw [q1,Bool.false_and] at hp
      refine k2 ?_
      refine A3 (A2 (A5 Z Z) Z (A6 ?_))
      refine k1 (k10 (k12 (k11 (k11 (k12 (k12 (k11 (k11 (k12 (k11 ?_))))))))))
      exact B5 (F2 rfl rfl rfl) (by rw [hp])
     ·have h2:D16 res' par' r=true:=by rw [hs] at ht;simpa using ht
      rw [hs,h2,Bool.true_and,Bool.true_and] at q1
      refine k5 (k4 (k1 ?_))
      refine A3 (A2 (C1 Z Z (by omega)) Z (A2 (A4 Z Z) Z (A6 ?_)))
      refine k1 ?_
      exact ⟨(j+1,_,_),⟨by dsimp only;omega,q1,q2,q3⟩,by dsimp only;omega,I72 ⟨le1 rfl,le1 rfl,le1 rfl,le1 rfl,le1 rfl,le1 rfl,le1 rfl,le1 rfl,le1 rfl,trivial⟩ ⟨rfl,rfl,trivial⟩⟩
    ·have hs':I0 r.Text=false:=by simpa using hs
     refine A3 (A2 (D4 Z Z Z) Z (B9 (D84 r (by omega)) Z Z Z ?_));rintro _ rfl;refine A2 (F0 Z) Z (A2 (A4 Z Z) Z (A9 Z Z Z Z (fun hg=>by rw [hg];exact D4 Z Z Z) ?_));refine o3 Z Z Z (by rw [hs'];decide) Z ?_;refine o3 Z Z Z (by rw [hs'];decide) Z ?_;refine A2 (B4 (q:=true) Z (fun h=>rfl) (fun h=>by rw [hs'] at h;cases h)) Z ?_;refine A6 ?_
     rw [hs',Bool.false_and,Bool.false_and] at q1
     rw [q1,Bool.false_and] at hp
     refine k1 ?_
     refine B1 rfl (fun ht=>?_) (fun ht=>?_)
     ·refine k2 ?_
      refine A3 (A2 (A5 Z Z) Z (A6 ?_))
      refine k1 (k10 (k12 (k11 (k11 (k12 (k12 (k11 (k11 (k12 (k11 ?_))))))))))
      exact B5 (F2 rfl rfl rfl) (by rw [hp])
     ·rw [hs'] at ht;cases ht
   ·have hjl:j=h.Rows.length:=by have:=A1 ht;omega
    rw [hjl,J11 (Nat.le_refl _)] at q1 q2 q3
    have q1:S8 res par h.Rows=true:=q1
    have q2:l9 res h.Rows=res':=q2
    have q3:m8 par h.Rows=par':=q3
    rw [q1,q2,q3,Bool.true_and] at hp
    refine k6 (k7 (k7 (k8 Z (k4 (k1 ?_)))))
    refine A3 (A2 (C1 Z Z (by omega)) Z (A2 (A4 Z Z) Z (A6 ?_)))
    refine k1 ?_
    exact ⟨(k+1,_,_,_),⟨by dsimp only;omega,A84 n h,hpos,hp⟩,by dsimp only;omega,I72 ⟨le1 rfl,le1 rfl,le1 rfl,le1 rfl,le1 rfl,le1 rfl,trivial⟩ ⟨rfl,rfl,trivial⟩⟩
 ·have hkl:k=c.Hunks.length:=by have:=A1 ht;omega
  rw [hkl,J11 (Nat.le_refl _)] at hp
  have hp:W=decide (∀e∈ends,e≤4096):=hp
  refine k6 (k2 ?_)
  refine A3 (A2 (A4 Z Z) Z (B9 (smax_ok ends (by omega)) Z Z Z ?_));rintro _ ⟨m,rfl,hm⟩;refine A2 (x7 Z Z) Z (A2 (A5 Z Z) Z (A6 ?_))
  refine k1 (k10 ?_)
  exact B5 (F2 rfl rfl rfl) (by rw [hp];simp only [hm 4096])
end Go.Proofs.YtgejaedjnbjpoaaGreatDoor
