/- Walks of the program's functions. -/
import Derived.Test.YtgejaedjnbjpoaaGreatDoorFe
import Derived.Test.YtgejaedjnbjpoaaGreatDoorFd
import Derived.Test.YtgejaedjnbjpoaaGreatDoorFc
import Derived.Test.YtgejaedjnbjpoaaGreatDoorFs
import Derived.Test.YtgejaedjnbjpoaaGreatDoorFb
import Derived.Test.YtgejaedjnbjpoaaGreatDoorFa
namespace Go.Proofs.YtgejaedjnbjpoaaGreatDoor
open Go Go.AL
set_option maxRecDepth 100000
set_option maxHeartbeats 1000000
set_option maxHeartbeats 1000000
end Go.Proofs.YtgejaedjnbjpoaaGreatDoor
namespace Go.Proofs.YtgejaedjnbjpoaaGreatDoor
open Go Go.AL
set_option maxRecDepth 100000
theorem E67 {α:Type} {l:List α} {x:α} (h:l.getLast?=some x):l=l.dropLast++[x]:=by
 obtain ⟨ys,hy⟩:=List.getLast?_eq_some_iff.1 h
 rw [hy,List.dropLast_concat]
section
variable {P:Program} {nt:Nat} {fr:Fr} {o n:Str} {hs:List PatchHunk}
end
set_option maxHeartbeats 2000000
theorem J33 {s:Str} {l:List Str} (h:x4 s=some l):(l.map fun t=>t.length+65).sum≤66*s.length∧∀t∈l,t.length≤s.length:=by
 unfold x4 at h
 split at h
 ·cases h;simp
 ·split at h
  ·have h:(C3 s).map List.dropLast=l:=Option.some.inj h
   obtain ⟨f1,f2⟩:=E94 s
   have hl:=Y3 s
   have hsum:∀L:List Str,((L.map List.dropLast).map fun t=>t.length+65).sum≤L.flatten.length+65*L.length:=by
    intro L
    induction L with
    | nil=>simp
    | cons x r ih =>
     simp only [L04,L29,L16,K96,K99,List.length_dropLast] at ih ⊢
     omega
   have hs:=hsum (C3 s)
   rw [h] at hs
   have hs2:(l.map fun (t:Str)=>t.length+65).sum≤(C3 s).flatten.length+65*(C3 s).length:=hs
   refine ⟨by omega,fun t ht=>?_⟩
   rw [←h] at ht
   obtain ⟨x,hx,rfl⟩:=List.mem_map.1 ht
   have:=(List.sublist_flatten_of_mem hx).length_le
   rw [List.length_dropLast];omega
  ·cases h
theorem H29 {c:UInt8} {P:List Str} {i:Nat} {r a b:Str} (h:P.drop i=M9 c r) (hr:r=a++c::b) (ha:c∉a):P[i]?=some a∧P.drop (i+1)=M9 c b:=by
 have e:M9 c r=a::M9 c b:=by rw [hr,C55 b ha]
 rw [e] at h
 refine ⟨by rw [←List.head?_drop,h];rfl,?_⟩
 rw [←List.tail_drop,h];rfl
theorem G60 (s:Str) (c:UInt8) (hs:s.length≤536870912):FnOk Tryz.prog 197 [G7 s,G7 [c],F2 0,F2 (-1)] (fun rs=>rs=[m6 (M9 c s)]):=by
 have hP:=s5 c s
 have hcc:s.count c≤s.length:=List.count_le_length
 have h10:([c]:Str).length=1:=rfl
 obtain ⟨P,hPe⟩:∃P,P=M9 c s:=⟨_,rfl⟩
 have hPl:P.length=s.count c+1:=by rw [hPe];exact hP
 refine FnOk.intro Tryz.func197 (by decide) Z Z Z Z ?_
 refine k2 ?_
 refine A4 (A3 (A6 Z Z) Z (A7 ?_))
 refine k1 (k2 (k2 ?_))
 refine A4 (A3 (A5 Z Z) Z (A3 (I1 Z Z) Z (A7 ?_)))
 refine k1 ?_
 refine B4 rfl (fun ht=>?_) (fun ht=>?_)
 ·exact absurd (A0 ht) (by omega)
 refine k5 (k1 (k2 (k2 ?_)))
 refine A4 (A3 (A5 Z Z) Z (A3 (X2 Z Z) Z (A7 ?_)))
 refine k1 ?_
 refine B4 rfl (fun ht=>?_) (fun ht=>?_)
 ·exact absurd (A0 ht) (by simp)
 refine k5 (k1 (k2 (k2 ?_)))
 refine A4 (A3 (A5 Z Z) Z (A3 (E6 Z Z) Z (A7 ?_)))
 refine k1 ?_
 refine B4 rfl (fun ht=>?_) (fun ht=>?_)
 rotate_left
 ·exact absurd (A1 ht) (by omega)
 skip
 refine A4 (A3 (A5 Z Z) Z (A3 (A5 Z Z) Z (C1 (B92 s c) Z Z Z ?_)));rintro _ rfl;refine A3 (C6 Z Z (by omega)) Z (A3 (A6 Z Z) Z (A7 ?_))
 refine k1 (k2 ?_)
 refine A4 (A3 (A5 Z Z) Z (A3 (A5 Z Z) Z (A3 (E7 Z) Z (A3 (C6 Z Z (by omega)) Z (A3 (F68 Z Z) Z (A3 (A6 Z Z) Z (A7 ?_)))))))
 refine k1 (k2 ?_)
 rw [show (if (s.length:Int)+1 < (s.count c:Int)+1 then (s.length:Int)+1 else (s.count c:Int)+1)=(P.length:Int) from by split<;>omega]
 refine A4 (A3 (A5 Z Z) Z (C7 (m9 9 Str M1 [] Z Z (by omega) (by omega) (fun _=>by first | exact ⟨⟨rfl,rfl⟩,trivial⟩ | exact ⟨N8 _ _ _,trivial⟩) (by first | rfl | (simp [G3,H7,Ob.free,SV.free,S1.free,TC.free]<;>rfl))) Z ?_));refine A3 (A6 Z Z) Z (A7 ?_)
 refine k1 (k2 ?_)
 refine A4 (A3 (A5 Z Z) Z (A3 (Q4 Z Z (by omega)) Z (A3 (A6 Z Z) Z (A7 ?_))))
 refine k1 (k2 ?_)
 refine A4 (A3 (A6 Z Z) Z (A7 ?_))
 refine k1 (k2 (k3 ?_))
 refine E1 (X:=Nat × Str) (fun x=>([(0,J3 x.2),(1,J3 [c]),(2,C0 0),(3,C0 ((P.length:Int) - 1)),(9,.s (.one (.mut 9))),(10,C0 x.1)],[(9,.arr Str 1 M1 (P.take x.1++List.replicate (P.length - x.1) []))])) (fun x=>x.1+1≤P.length∧P.drop x.1=M9 c x.2∧x.2.length≤s.length) (fun x=>P.length - x.1) (0,s) ⟨by dsimp only;omega,hPe,Nat.le_refl _⟩ (K60 ⟨le1 rfl,le1 rfl,le1 rfl,le1 rfl,le1 rfl,le1 rfl,trivial⟩ ⟨rfl,trivial⟩) ?_
 rintro ⟨i,r⟩ ⟨hi,hp,hr⟩
 dsimp only at hi hp hr ⊢
 refine k2 (k2 ?_)
 refine A4 (A3 (A5 Z Z) Z (A3 (A5 Z Z) Z (A3 (E6 Z Z) Z (A7 ?_))))
 refine k1 ?_
 refine B4 rfl (fun ht=>?_) (fun ht=>?_)
 ·have hlt:i+1 < P.length:=by have:=A0 ht;omega
  have hin:c∈r:=by
   have h1:=s5 c r
   have h2:(P.drop i).length=r.count c+1:=by rw [hp];exact h1
   rw [L05] at h2
   exact List.count_pos_iff.1 (by omega)
  rcases V9 c r with ⟨h1,_⟩ | ⟨a,b,h1,h2,h3⟩
  ·exact absurd hin h1
  obtain ⟨h4,h5⟩:=H29 hp h1 h2
  have hl:r.length=a.length+1+b.length:=by rw [h1];simp;omega
  refine k5 (k1 (k3 (k2 ?_)))
  refine A4 (A3 (A5 Z Z) Z (A3 (A5 Z Z) Z (C1 (D35 r c) Z Z Z ?_)));rintro _ rfl;refine A3 (A6 Z Z) Z (A7 ?_)
  refine k1 (k2 (k2 ?_))
  refine A4 (A3 (A5 Z Z) Z (A3 (E6 Z Z) Z (A7 ?_)))
  refine k1 ?_
  rw [h3]
  refine B4 rfl (fun ht=>?_) (fun ht=>?_)
  ·exact absurd (A0 ht) (by omega)
  refine k5 (k1 (k2 ?_))
  refine A4 (A3 (A5 Z Z) Z (A3 (A5 Z Z) Z (A3 (A5 Z Z) Z (A3 (A5 Z Z) Z (A3 (A5 Z Z) Z (A3 (C6 Z Z (by omega)) Z (A3 (A90 Z Z (by omega) (by omega)) Z (A3 (F5 Z Z Z (by omega) (by (simp;omega))) Z (E5 (H4 TySz.out Z Z (by simp;omega) Z Z) (A7 ?_))))))))))
  refine k1 (k2 ?_)
  refine A4 (A3 (A5 Z Z) Z (A3 (A5 Z Z) Z (A3 (A5 Z Z) Z (A3 (E7 Z) Z (A3 (C6 Z Z (by omega)) Z (A3 (A91 Z Z (by omega) (by omega)) Z (A3 (A6 Z Z) Z (A7 ?_))))))))
  refine k1 ?_
  refine A4 (A3 (A5 Z Z) Z (A3 (C6 Z Z (by omega)) Z (A3 (A6 Z Z) Z (A7 ?_))))
  refine k4 (k1 ?_)
  have e1:r.take (((a.length:Int)+0).toNat)=a:=by rw [h1,show ((a.length:Int)+0).toNat=a.length by omega,List.take_left]
  have e2:r.drop (((a.length:Int)+(([c]:Str).length:Int)).toNat)=b:=by rw [h1,h10,show ((a.length:Int)+((1:Nat):Int)).toNat=a.length+1 by omega,show a++c::b=(a++[c])++b by simp,List.drop_left' (by simp)]
  refine ⟨(i+1,b),⟨by dsimp only;omega,h5,by dsimp only;omega⟩,by dsimp only;omega,?_⟩
  rw [e1,e2]
  dsimp only
  rw [←A24 P [] _ i h4]
  exact K60 ⟨le1 rfl,le1 rfl,le1 rfl,le1 rfl,le1 rfl,le1 rfl,trivial⟩ ⟨rfl,trivial⟩
 ·have hge:i+1=P.length:=by have:=A1 ht;omega
  have h1:=s5 c r
  have h2:(P.drop i).length=r.count c+1:=by rw [hp];exact h1
  rw [L05] at h2
  have h3:c∉r:=List.count_eq_zero.1 (by omega)
  have h4:P[i]?=some r:=by rw [←List.head?_drop,hp,B78 h3];rfl
  refine k6 (k2 ?_)
  refine A4 (A3 (A5 Z Z) Z (A3 (A5 Z Z) Z (A3 (A5 Z Z) Z (A3 (F5 Z Z Z (by omega) (by (simp;omega))) Z (E5 (H4 TySz.out Z Z (by simp;omega) Z Z) (A7 ?_))))))
  refine k1 (k2 ?_)
  have e:(P.take i++List.replicate (P.length - i) ([]:Str)).set (i:Int).toNat r=P:=by rw [L01,A24 P [] r i h4,hge];simp
  rw [e]
  refine E8 (Sees.freeze (k:=9) Z) ?_
  refine A4 (A3 (A5 Z Z) Z (A3 (A5 Z Z) Z (A3 (C6 Z Z (by omega)) Z (A3 (B82 Z (.pure _ _ _ _) Z (by omega) (by omega)) Z (A3 (A6 Z Z) Z (A7 ?_))))))
  refine k1 (k10 ?_)
  exact B8 (I2 rfl rfl rfl) (by rw [show ((i:Int)+1).toNat=P.length by omega,L27,hPe])
theorem J34 (s:Str) (c:UInt8) (hs:s.length≤536870912):FnOk Tryz.prog 146 [G7 s,G7 [c]] (fun rs=>rs=[m6 (M9 c s)]):=by
 refine FnOk.intro Tryz.func146 (by decide) Z Z Z Z ?_
 refine k2 ?_
 refine A4 (A3 (A6 Z Z) Z (A7 ?_))
 refine k1 (k2 ?_)
 refine A4 (A3 (A5 Z Z) Z (A3 (A5 Z Z) Z (C1 (G60 s c hs) Z Z Z ?_)));rintro _ rfl;refine A3 (A6 Z Z) Z (A7 ?_)
 refine k1 (k10 ?_)
 exact B8 (I2 rfl rfl rfl) rfl
theorem E68 (s p:Str) (hs:s.length≤1073741824):FnOk Tryz.prog 251 [G7 s,G7 p] (fun rs=>rs=[E3 (R4 s p)]):=by
 refine FnOk.intro Tryz.func251 (by decide) Z Z Z Z ?_
 refine k2 ?_
 refine A4 (A3 (A6 Z Z) Z (A7 ?_))
 refine k1 (k2 ?_)
 refine A4 (A3 (A5 Z Z) Z (A3 (E7 Z) Z (A3 (A5 Z Z) Z (A3 (E7 Z) Z (A3 (A12 Z Z) Z (A3 (A5 Z Z) Z (B0 Z Z Z Z (fun hg=>by rw [hg];exact A5 Z Z) ?_)))))));refine B0 Z Z Z Z (fun hg=>by rw [hg];exact A5 Z Z) ?_;refine B0 Z Z Z Z (fun hg=>by rw [hg];exact E7 Z) ?_;refine B0 Z Z Z Z (fun hg=>by rw [hg];exact A5 Z Z) ?_;refine B0 Z Z Z Z (fun hg=>by rw [hg];exact E7 Z) ?_;refine B0 Z Z Z Z (fun hg=>by have hq:=hg;(try simp at hq);rw [hg];exact Q4 Z Z (by omega)) ?_;refine B0 Z Z Z Z (fun hg=>by have hq:=hg;(try simp at hq);rw [hg];exact A91 Z Z (by omega) (by omega)) ?_;refine B0 Z Z Z Z (fun hg=>by rw [hg];exact A5 Z Z) ?_;refine B0 Z Z Z Z (fun hg=>by rw [hg];exact X2 Z Z) ?_;refine A3 (B5 Z (fun h=>by first | rfl | (rw [h];rfl)) (fun h=>by first | rfl | (rw [h];rfl))) Z ?_;refine A3 (A6 Z Z) Z (A7 ?_)
 simp only [L1]
 refine k1 (k10 ?_)
 refine B8 (I2 Z Z Z) ?_
 unfold R4
 congr 4
 congr 1
 apply propext;constructor
 ·intro h;have h1:p.length≤s.length:=by have:=h.1;omega
  exact ⟨by omega,by have:=h.2;rw [show s.length - p.length=((s.length:Int) - (p.length:Int)).toNat by omega];exact this⟩
 ·intro h;exact ⟨by have:=h.1;omega,by have:=h.2;rw [show s.length - p.length=((s.length:Int) - (p.length:Int)).toNat by have:=h.1;omega] at this;exact this⟩
def F93 (s p:Str):List PV:=if R4 s p=true then [G7 (s.take (s.length - p.length)),E3 true] else [G7 s,E3 false]
theorem E69 (s p:Str) (hs:s.length≤1073741824):FnOk Tryz.prog 212 [G7 s,G7 p] (fun rs=>rs=F93 s p):=by
 refine FnOk.intro Tryz.func212 (by decide) Z Z Z Z ?_
 refine k2 ?_
 refine A4 (A3 (A6 Z Z) Z (A3 (A6 Z Z) Z (A7 ?_)))
 refine k1 (k2 (k2 ?_))
 refine A4 (A3 (A5 Z Z) Z (A3 (A5 Z Z) Z (C1 (E68 s p hs) Z Z Z ?_)));rintro _ rfl;refine A3 (F0 Z) Z (A7 ?_)
 refine k1 ?_
 refine B4 rfl (fun ht=>?_) (fun ht=>?_)
 ·have h:R4 s p=false:=by cases h:R4 s p<;>rw [h] at ht<;>simp at ht ⊢
  refine k2 ?_
  refine A4 (A3 (A5 Z Z) Z (A3 (A6 Z Z) Z (A3 (A6 Z Z) Z (A7 ?_))))
  refine k1 (k10 (k11 ?_))
  exact B8 (rs:=[G7 s,E3 false]) (j9 rfl rfl rfl rfl rfl) (by unfold F93;rw [h];rfl)
 ·have h:R4 s p=true:=by cases h:R4 s p<;>rw [h] at ht<;>simp at ht ⊢
  have hl:p.length≤s.length:=by unfold R4 at h;exact (A0 h).1
  refine k5 (k1 (k2 ?_))
  refine A4 (A3 (A5 Z Z) Z (A3 (A5 Z Z) Z (A3 (E7 Z) Z (A3 (A5 Z Z) Z (A3 (E7 Z) Z (A3 (Q4 Z Z (by omega)) Z (A3 (A90 Z Z (by omega) (by omega)) Z (A3 (A6 Z Z) Z (A3 (A6 Z Z) Z (A7 ?_))))))))))
  refine k1 (k10 ?_)
  refine B8 (rs:=[G7 (s.take (s.length - p.length)),E3 true]) (j9 rfl rfl (by rw [show ((s.length:Int) - (p.length:Int)).toNat=s.length - p.length by omega];rfl) rfl rfl) (by unfold F93;rw [if_pos h])
theorem F55 (s p:Str) (hs:s.length≤1073741824):FnOk Tryz.prog 145 [G7 s,G7 p] (fun rs=>rs=F93 s p):=by
 have hc:=E69 s p hs
 unfold F93 at hc ⊢
 by_cases h:R4 s p=true
 ·rw [if_pos h] at hc ⊢
  refine FnOk.intro Tryz.func145 (by decide) Z Z Z Z ?_
  refine k2 ?_
  refine A4 (A3 (A6 Z Z) Z (A3 (A6 Z Z) Z (A7 ?_)))
  refine k1 (k2 ?_)
  refine A4 (A3 (A5 Z Z) Z (A3 (A5 Z Z) Z (C1 (hc) Z Z Z ?_)));rintro _ rfl;refine A3 (B3 Z Z) Z (A3 (B3 Z Z) Z (A3 (A6 Z Z) Z (A3 (A6 Z Z) Z (A7 ?_))))
  refine k1 (k10 ?_)
  exact B8 (j9 rfl rfl rfl rfl rfl) rfl
 ·rw [if_neg h] at hc ⊢
  refine FnOk.intro Tryz.func145 (by decide) Z Z Z Z ?_
  refine k2 ?_
  refine A4 (A3 (A6 Z Z) Z (A3 (A6 Z Z) Z (A7 ?_)))
  refine k1 (k2 ?_)
  refine A4 (A3 (A5 Z Z) Z (A3 (A5 Z Z) Z (C1 (hc) Z Z Z ?_)));rintro _ rfl;refine A3 (B3 Z Z) Z (A3 (B3 Z Z) Z (A3 (A6 Z Z) Z (A3 (A6 Z Z) Z (A7 ?_))))
  refine k1 (k10 ?_)
  exact B8 (j9 rfl rfl rfl rfl rfl) rfl
theorem D79 (c:UInt8):∀n:Nat,Lib.repeatL [c] n=List.replicate n c
 | 0=>rfl
 | n+1=>by rw [Lib.repeatL,D79 c n];rfl
theorem F94 (c:UInt8) (n:Nat) (hn:n≤1048576):FnOk Tryz.prog 167 [G7 [c],F2 n] (fun rs=>rs=[G7 (List.replicate n c)]) :=
 K74 (xs:=[.string ⟨#[c]⟩,.int .i64 n]) (r:=.string ⟨(List.replicate n c).toArray⟩) ⟨_,rfl,rfl,rfl⟩ rfl fun w _=>by
  have:=Tryz.strings_Repeat ⟨#[c]⟩ n w (by omega) (by show 1*n≤_;omega)
  have e:Lib.repeatL (⟨#[c]⟩:ByteArray).data.toList n=List.replicate n c:=D79 c n
  rw [e] at this
  exact this
abbrev E07 (c:Comb):Ob:=.box (N4 c).s1.cells
theorem B58 (rows:List Row) (n:Nat) (hn:n≤32) (hr:K3 rows) (hl:rows.length≤268435456) :
  AL.Met Tryz.prog 112 [(pRows rows).s1,(F2 n).s1] [] [] [] (fun rs ob'=>rs=[.one (.mut 720)]∧ob'=[(720,.arr Int 1 G6 (G1 rows n))]):=by
 have e0:((n:Int)+1).toNat=n+1:=by omega
 refine AL.Met.intro Tryz.func112 (by decide) Z Z Z ?_
 refine k2 ?_
 refine A4 (A3 (A6 Z Z) Z (A7 ?_))
 refine k1 (k2 ?_)
 refine A4 (A3 (A5 Z Z) Z (A3 (C6 Z Z (by omega)) Z (C7 (m9 720 Int G6 0 Z Z (by omega) (by omega) (fun _=>by first | exact ⟨⟨rfl,rfl⟩,trivial⟩ | exact ⟨N8 _ _ _,trivial⟩) (by first | rfl | (simp [G3,H7,Ob.free,SV.free,S1.free,TC.free]<;>rfl))) Z ?_)));refine A3 (A6 Z Z) Z (A7 ?_)
 rw [e0,←I56 rows n]
 refine k1 (k2 (k2 ?_))
 refine A4 (A3 (A5 Z Z) Z (A3 (F1 Z (.pure _ _ _ _)) Z (A3 (A5 Z Z) Z (A7 ?_))))
 refine k1 (k3 ?_)
 refine E1 (X:=Nat) (fun i=>([(1,C0 n),(5,.s (.one (.mut 720))),(12,D2 Row 3 rowC rows),(13,C0 rows.length),(14,C0 i)],[(720,.arr Int 1 G6 (u0 rows n i 0))])) (fun i=>i≤rows.length) (fun i=>rows.length - i) 0 (Nat.zero_le _) (K60 ⟨le1 rfl,le1 rfl,le1 rfl,le1 rfl,le1 rfl,trivial⟩ ⟨rfl,trivial⟩) ?_
 intro i hi
 dsimp only at hi ⊢
 refine k2 ?_
 refine A4 (A3 (E6 Z Z) Z (A7 ?_))
 refine k1 (k2 ?_)
 refine B4 rfl (fun ht=>?_) (fun ht=>?_)
 ·have hlt:i < rows.length:=by have:=A0 ht;omega
  have hv:rows[i]?=some rows[i]:=by simp [hlt]
  have hrow:=hr _ (L15 hlt)
  have hstep:=fun p=>I57 rows n i p hlt
  obtain ⟨r,hrr⟩:∃r,r=rows[i]:=⟨_,rfl⟩
  rw [←hrr] at hv hrow hstep
  have hcl:=fun k=>F11 (rows.take i) n k
  have htl:(rows.take i).length=i:=by rw [L08];omega
  rw [htl] at hcl
  refine k5 (k1 (k2 (k3 (k2 ?_))))
  refine A4 (A3 (B9 Z (.pure _ _ _ _) Z (by omega) hv) Z (A3 (F4 Z Z) Z (C7 (F9 7 Z) Z (E5 (B7 TySz.out Z Z Z Z Z Z) (A7 ?_)))))
  refine k1 (k2 (k2 ?_))
  refine A4 (A3 (A5 Z Z) Z (A3 (A5 Z Z) Z (A7 ?_)))
  refine k1 (k3 ?_)
  refine E1 (X:=Nat) (fun p=>([(1,C0 n),(5,.s (.one (.mut 720))),(7,.s (.one (.ref 7 0))),(12,D2 Row 3 rowC rows),(13,C0 rows.length),(14,C0 i),(18,C0 n),(19,C0 p)],[(7,.box (pRow r).s1.cells),(720,.arr Int 1 G6 (u0 rows n i p))])) (fun p=>p≤n) (fun p=>n - p) 0 (Nat.zero_le _) (K60 ⟨le1 rfl,le1 rfl,le1 rfl,le1 rfl,le1 rfl,le1 rfl,le1 rfl,le1 rfl,trivial⟩ ⟨rfl,rfl,trivial⟩) ?_
  intro p hp
  dsimp only at hp ⊢
  have hlen:=J71 rows n i p
  have hget:=J72 rows n i p (by omega)
  have hcp:=hcl p
  refine k2 ?_
  refine A4 (A3 (E6 Z Z) Z (A7 ?_))
  refine k1 (k2 ?_)
  refine B4 rfl (fun ht=>?_) (fun ht=>?_)
  ·have hlt2:p < n:=by have:=A0 ht;omega
   have hst:=hstep p (by omega)
   rw [show A08 n p=(p:Int) by unfold A08;rw [if_neg (by omega)]] at hst
   refine k5 (k1 (k2 (k3 (k2 ?_))))
   refine A4 (A3 (A5 Z Z) Z (A3 (A6 Z Z) Z (A7 ?_)))
   refine k1 (k2 ?_)
   refine A4 (A3 (D5 Z Z Z) Z (A3 (A5 Z Z) Z (C1 (H18 r p hrow) Z Z Z ?_)));rintro _ rfl;refine A7 ?_
   refine k1 ?_
   refine B4 rfl (fun ht=>?_) (fun ht=>?_)
   ·rw [if_pos ht] at hst
    skip
    refine A4 (A3 (A5 Z Z) Z (A3 (A5 Z Z) Z (A3 (F5 Z Z Z (by omega) (by (rw [hlen];omega))) Z ?_)));refine A3 (U3 Z Z hget Z) Z (A3 (C6 Z Z (by omega)) Z (A3 (F5 Z Z Z (by omega) (by (rw [hlen];omega))) Z ?_));refine E5 (H4 TySz.out Z Z (by (rw [hlen];omega)) Z Z) ?_;refine A7 ?_
    refine k4 (k1 ?_)
    refine A4 (A3 (C6 Z Z (by omega)) Z (A3 (A5 Z Z) Z (A7 ?_)))
    refine k1 ?_
    refine ⟨p+1,by omega,by omega,?_⟩
    rw [hst]
    exact K60 ⟨le1 rfl,le1 rfl,le1 rfl,le1 rfl,le1 rfl,le1 rfl,le1 rfl,le1 rfl,trivial⟩ ⟨rfl,rfl,trivial⟩
   ·rw [if_neg (by rw [ht];decide)] at hst
    refine k5 (k4 (k1 ?_))
    refine A4 (A3 (C6 Z Z (by omega)) Z (A3 (A5 Z Z) Z (A7 ?_)))
    refine k1 ?_
    refine ⟨p+1,by omega,by omega,?_⟩
    rw [hst]
    exact K60 ⟨le1 rfl,le1 rfl,le1 rfl,le1 rfl,le1 rfl,le1 rfl,le1 rfl,le1 rfl,trivial⟩ ⟨rfl,rfl,trivial⟩
  ·have hpn:p=n:=by have:=A1 ht;omega
   subst hpn
   have hst:=hstep p (by omega)
   have hvis:s9 r (A08 p p)=!r.Lost:=by unfold A08 s9;rw [if_pos rfl,if_pos rfl]
   rw [hvis,I58] at hst
   refine k6 (k2 ?_)
   refine A4 (A3 (A8 Z) Z (A3 (A9 Z Z Z) Z (A3 (F0 Z) Z (A7 ?_))))
   refine k1 ?_
   refine B4 rfl (fun ht=>?_) (fun ht=>?_)
   ·rw [if_pos ht] at hst
    skip
    refine A4 (A3 (A5 Z Z) Z (A3 (A5 Z Z) Z (A3 (F5 Z Z Z (by omega) (by (rw [hlen];omega))) Z ?_)));refine A3 (U3 Z Z hget Z) Z (A3 (C6 Z Z (by omega)) Z (A3 (F5 Z Z Z (by omega) (by (rw [hlen];omega))) Z ?_));refine E5 (H4 TySz.out Z Z (by (rw [hlen];omega)) Z Z) ?_;refine A7 ?_
    refine k4 (k1 ?_)
    refine A4 (A3 (C6 Z Z (by omega)) Z (A3 (A5 Z Z) Z (A7 ?_)))
    refine k1 ?_
    refine ⟨i+1,by omega,by omega,?_⟩
    rw [hst]
    exact K60 ⟨le1 rfl,le1 rfl,le1 rfl,le1 rfl,le1 rfl,trivial⟩ ⟨rfl,trivial⟩
   ·rw [if_neg (by rw [ht];decide)] at hst
    refine k5 (k4 (k1 ?_))
    refine A4 (A3 (C6 Z Z (by omega)) Z (A3 (A5 Z Z) Z (A7 ?_)))
    refine k1 ?_
    refine ⟨i+1,by omega,by omega,?_⟩
    rw [hst]
    exact K60 ⟨le1 rfl,le1 rfl,le1 rfl,le1 rfl,le1 rfl,trivial⟩ ⟨rfl,trivial⟩
 ·have hil:i=rows.length:=by have:=A1 ht;omega
  subst hil
  rw [I59]
  refine k6 (k2 ?_)
  refine A4 (A3 (A5 Z Z) Z (A3 (A6 Z Z) Z (A7 ?_)))
  refine k1 (k10 ?_)
  exact G8 (R6 rfl rfl) (by repeat (first | exact C5 | refine tail_cons rfl ?_ | refine D3 _ ?_)) (ObIn.spec (ob':=[(720,_)]) ⟨rfl,trivial⟩) ⟨rfl,rfl⟩
theorem I23 (c:Comb) (hn:1≤c.Parents∧c.Parents≤32) (hr:∀h∈c.Hunks,K3 h.Rows) (hz:szC c.Hunks≤268435456):FnOk Tryz.prog 94 [N4 c] (fun rs=>rs=[E3 (x5 c.Parents.toNat c.Hunks)]):=by
 obtain ⟨n,hN⟩:∃n,n=c.Parents.toNat:=⟨_,rfl⟩
 rw [←hN]
 have hzl:=C03 c.Hunks
 refine FnOk.intro Tryz.func94 (by decide) Z Z Z Z ?_
 refine k2 ?_
 refine A4 (C7 (R1 1 Z Z Z) Z (A3 (A6 Z Z) Z (A7 ?_)))
 refine k1 (k2 (k2 ?_))
 refine A4 (A3 (A8 Z) Z (A3 (A9 Z Z Z) Z (A3 (F1 Z (.pure _ _ _ _)) Z (A3 (A5 Z Z) Z (A7 ?_)))))
 refine k1 (k3 ?_)
 refine E1 (X:=Nat) (fun k=>([(1,.s (.one (.ref 1 0))),(8,D2 CHunk 2 L2 c.Hunks),(9,C0 c.Hunks.length),(10,C0 k)],[(1,E07 c)])) (fun k=>k≤c.Hunks.length∧x5 n c.Hunks=x5 n (c.Hunks.drop k)) (fun k=>c.Hunks.length - k) 0 ⟨Nat.zero_le _,rfl⟩ (K60 ⟨le1 rfl,le1 rfl,le1 rfl,le1 rfl,trivial⟩ ⟨rfl,trivial⟩) ?_
 rintro k ⟨hk,hp⟩
 dsimp only at hk hp ⊢
 refine k2 ?_
 refine A4 (A3 (E6 Z Z) Z (A7 ?_))
 refine k1 (k2 ?_)
 refine B4 rfl (fun ht=>?_) (fun ht=>?_)
 ·have hlt:k < c.Hunks.length:=by have:=A0 ht;omega
  have hv:c.Hunks[k]?=some c.Hunks[k]:=by simp [hlt]
  have hrw:=hr _ (L15 hlt)
  have hzm:=C02 (L15 hlt)
  rw [L03 hlt] at hp
  obtain ⟨h,hx⟩:∃x,x=c.Hunks[k]:=⟨_,rfl⟩
  rw [←hx] at hv hrw hp hzm
  have hz1:=j6 h.Rows
  unfold D13 at hzm
  have hp:x5 n c.Hunks=(P3 h.Rows n&&x5 n (c.Hunks.drop (k+1))):=hp
  refine k5 (k1 (k2 (k3 (k2 ?_))))
  refine A4 (A3 (B9 Z (.pure _ _ _ _) Z (by omega) hv) Z (A3 (F4 Z Z) Z (C7 (F9 4 Z) Z (E5 (B7 TySz.out Z Z Z Z Z Z) (A7 ?_)))))
  refine k1 (k2 ?_)
  refine A4 (A3 (A8 Z) Z (A3 (A9 Z Z Z) Z (A3 (F1 Z (.pure _ _ _ _)) Z (A3 (A5 Z Z) Z (A7 ?_)))))
  refine k1 (k3 ?_)
  refine E1 (X:=Nat) (fun j=>([(1,.s (.one (.ref 1 0))),(8,D2 CHunk 2 L2 c.Hunks),(9,C0 c.Hunks.length),(10,C0 k),(15,D2 Row 3 rowC h.Rows),(16,C0 h.Rows.length),(17,C0 j)],[(1,E07 c)])) (fun j=>j≤h.Rows.length∧P3 h.Rows n=P3 (h.Rows.drop j) n) (fun j=>h.Rows.length - j) 0 ⟨Nat.zero_le _,rfl⟩ (K60 ⟨le1 rfl,le1 rfl,le1 rfl,le1 rfl,le1 rfl,le1 rfl,le1 rfl,trivial⟩ ⟨rfl,trivial⟩) ?_
  rintro j ⟨hj,hq⟩
  dsimp only at hj hq ⊢
  refine k2 ?_
  refine A4 (A3 (E6 Z Z) Z (A7 ?_))
  refine k1 (k2 ?_)
  refine B4 rfl (fun ht=>?_) (fun ht=>?_)
  ·have hlt2:j < h.Rows.length:=by have:=A0 ht;omega
   have hv2:h.Rows[j]?=some h.Rows[j]:=by simp [hlt2]
   have hm:=hrw _ (L15 hlt2)
   rw [L03 hlt2,C95] at hq
   obtain ⟨r,hy⟩:∃x,x=h.Rows[j]:=⟨_,rfl⟩
   rw [←hy] at hv2 hm hq
   have hw:=E58 r c.Parents hn hm
   rw [←hN] at hw
   refine k5 (k1 (k2 (k3 (k2 ?_))))
   refine A4 (A3 (B9 Z (.pure _ _ _ _) Z (by omega) hv2) Z (A3 (F4 Z Z) Z (C7 (F9 6 Z) Z (E5 (B7 TySz.out Z Z Z Z Z Z) (A7 ?_)))))
   refine k1 (k2 ?_)
   refine A4 (A3 (D5 Z Z Z) Z (A3 (A8 Z) Z (A3 (A9 Z Z Z) Z (C1 (hw) Z Z Z ?_))));rintro _ rfl;refine A3 (F0 Z) Z (A7 ?_)
   refine k1 ?_
   refine B4 rfl (fun ht=>?_) (fun ht=>?_)
   ·have h2:T6 n r=false:=by simpa using ht
    rw [h2,Bool.false_and] at hq
    rw [hq,Bool.false_and] at hp
    refine k2 ?_
    refine A4 (A3 (A6 Z Z) Z (A7 ?_))
    refine k1 (k10 (k12 (k11 (k11 (k12 (k12 (k11 (k11 (k12 (k11 ?_))))))))))
    exact B8 (I2 rfl rfl rfl) (by rw [hp])
   ·have h2:T6 n r=true:=by simpa using ht
    rw [h2,Bool.true_and] at hq
    refine k5 (k4 (k1 ?_))
    refine A4 (A3 (C6 Z Z (by omega)) Z (A3 (A5 Z Z) Z (A7 ?_)))
    refine k1 ?_
    exact ⟨j+1,⟨by omega,hq⟩,by omega,K60 ⟨le1 rfl,le1 rfl,le1 rfl,le1 rfl,le1 rfl,le1 rfl,le1 rfl,trivial⟩ ⟨rfl,trivial⟩⟩
  ·have hjl:j=h.Rows.length:=by have:=A1 ht;omega
   rw [hjl,L07 (Nat.le_refl _)] at hq
   have hq:P3 h.Rows n=true:=hq
   rw [hq,Bool.true_and] at hp
   refine k6 (k7 (k7 (k8 Z (k4 (k1 ?_)))))
   refine A4 (A3 (C6 Z Z (by omega)) Z (A3 (A5 Z Z) Z (A7 ?_)))
   refine k1 ?_
   exact ⟨k+1,⟨by omega,hp⟩,by omega,K60 ⟨le1 rfl,le1 rfl,le1 rfl,le1 rfl,trivial⟩ ⟨rfl,trivial⟩⟩
 ·have hkl:k=c.Hunks.length:=by have:=A1 ht;omega
  rw [hkl,L07 (Nat.le_refl _)] at hp
  refine k6 (k2 ?_)
  refine A4 (A3 (A6 Z Z) Z (A7 ?_))
  refine k1 (k10 ?_)
  exact B8 (I2 rfl rfl rfl) (by rw [hp];rfl)
theorem H30 (h:CHunk) (n:Nat) (ends:List Int) (hn:n≤32) (hr:K3 h.Rows) (hl:h.Rows.length≤268435456) (he:ends.length=n+1) (he0:∀e∈ends,0≤e) :
  FnOk Tryz.prog 170 [G84 h,F2 n,Q9 ends] (fun rs=>rs=if Y9 n ends h=true then [Q9 (U2 n h),E3 true] else [Q9 [],E3 false]):=by
 have hnot:∀{Q:Prop},(Y9 n ends h=true→False)→(if Y9 n ends h=true then [Q9 (U2 n h),E3 true] else [Q9 [],E3 false])=[Q9 [],E3 false]:=fun hq=>if_neg hq
 have hF:=D98 n ends h
 refine FnOk.intro Tryz.func170 (by decide) Z Z Z Z ?_
 refine k2 ?_
 refine A4 (C7 (R1 3 Z Z Z) Z (A3 (A6 Z Z) Z (A3 (A6 Z Z) Z (A7 ?_))))
 refine k1 (k2 (k2 ?_))
 refine A4 (A3 (A8 Z) Z (A3 (A9 Z Z Z) Z (A3 (F1 Z (.pure _ _ _ _)) Z (A3 (A5 Z Z) Z (A3 (C6 Z Z (by omega)) Z (A3 (O6 Z Z) Z (A3 (A5 Z Z) Z (B0 Z Z Z Z (fun hg=>by rw [hg];exact A8 Z) ?_))))))));refine B0 Z Z Z Z (fun hg=>by rw [hg];exact A9 Z Z Z) ?_;refine B0 Z Z Z Z (fun hg=>by rw [hg];exact F1 Z (.pure _ _ _ _)) ?_;refine B0 Z Z Z Z (fun hg=>by rw [hg];exact I1 Z Z) ?_;refine A3 (B5 Z (fun h=>by first | rfl | (rw [h];rfl)) (fun h=>by first | rfl | (rw [h];rfl))) Z ?_;refine A7 ?_
 refine k1 ?_
 refine B4 rfl (fun ht=>?_) (fun ht=>?_)
 ·have h1:=A0 (or_pick.symm.trans ht)
  refine k2 ?_
  refine A4 (A3 (S8 _ 1 G6) Z (A3 (A6 Z Z) Z (A7 ?_)))
  refine k1 (k10 (k11 ?_))
  refine B8 (rs:=[Q9 [],E3 false]) (j9 Z Z Z Z Z) ?_
  rw [if_neg]
  intro hq
  have h2:=(hF.1 hq).1
  rcases h1 with h1 | h1
  ·omega
  ·exact h2.2 (List.length_eq_zero_iff.1 (by omega))
 ·have h1:=A1 (or_pick.symm.trans ht)
  simp only [not_or,Decidable.not_not] at h1
  have hal:h.At.length=n+1:=by omega
  have hne:h.Rows≠[]:=fun e=>h1.2 (by rw [e];rfl)
  refine K4 [(1,C0 n),(2,D2 Int 1 G6 ends),(3,.s (.one (.ref 3 0)))] [(3,.box (G84 h).s1.cells)] (K60 ⟨le1 rfl,le1 rfl,le1 rfl,trivial⟩ ⟨rfl,trivial⟩) ?_
  refine k5 (k1 (k2 ?_))
  refine A4 (A3 (A8 Z) Z (A3 (A9 Z Z Z) Z (A3 (A5 Z Z) Z (l_new (B58 h.Rows n hn hr hl) Z Z Z Z ?_))));rintro _ _ ⟨rfl,rfl⟩;refine ⟨rfl,?_⟩;refine A3 (A6 Z Z) Z (A7 ?_)
  refine k1 (k2 (k2 ?_))
  refine A4 (A3 (A8 Z) Z (A3 (A9 Z Z Z) Z (A3 (F1 Z (.pure _ _ _ _)) Z (A3 (A5 Z Z) Z (A7 ?_)))))
  refine k1 (k3 ?_)
  refine E1 (X:=Nat) (fun k=>([(2,D2 Int 1 G6 ends),(8,.s (.one (.mut 720))),(28,D2 Int 1 G6 h.At),(29,C0 h.At.length),(30,C0 k)],[(720,.arr Int 1 G6 (A10 n h k))])) (fun k=>k≤h.At.length∧∀j,j < k→ends.getD j 0≤h.At.getD j 0∧h.At.getD j 0≤4096) (fun k=>h.At.length - k) 0 ⟨Nat.zero_le _,fun j hj=>by omega⟩ (by rw [H74];exact K60 ⟨le1 rfl,le1 rfl,le1 rfl,le1 rfl,le1 rfl,trivial⟩ ⟨rfl,trivial⟩) ?_
  rintro k ⟨hk,hp⟩
  dsimp only at hk hp ⊢
  have hlen:=I61 n h k
  refine k2 ?_
  refine A4 (A3 (E6 Z Z) Z (A7 ?_))
  refine k1 (k2 ?_)
  refine B4 rfl (fun ht=>?_) (fun ht=>?_)
  ·have hlt:k < h.At.length:=by have:=A0 ht;omega
   have hv:=getI hlt
   have hve:=getI (l:=ends) (i:=k) (by omega)
   have hget:=I62 n h k (by omega)
   have hset:=I63 n h k
   have hek:0≤ends.getD k 0:=he0 _ (L13 hve)
   have hcl:=F11 h.Rows n k
   obtain ⟨a,ha⟩:∃a,a=h.At.getD k 0:=⟨_,rfl⟩
   obtain ⟨e,hee⟩:∃e,e=ends.getD k 0:=⟨_,rfl⟩
   obtain ⟨q,hqq⟩:∃q,q=M2 h.Rows n k:=⟨_,rfl⟩
   rw [←ha] at hv hset
   rw [←hee] at hve hek
   rw [←hqq] at hget hset hcl
   refine k5 (k1 (k2 (k3 (k2 ?_))))
   refine A4 (A3 (A5 Z Z) Z (A3 (B9 Z (.pure _ _ _ _) Z (by omega) hv) Z (A3 (C8 Z Z) Z (A3 (A6 Z Z) Z (A3 (A6 Z Z) Z (A7 ?_))))))
   refine k1 (k2 (k2 ?_))
   refine A4 (A3 (A5 Z Z) Z (A3 (A5 Z Z) Z (A3 (A5 Z Z) Z (A3 (B9 Z (.pure _ _ _ _) Z (by omega) hve) Z (A3 (C8 Z Z) Z (A3 (E6 Z Z) Z (A3 (A5 Z Z) Z (B0 Z Z Z Z (fun hg=>by rw [hg];exact A5 Z Z) ?_))))))));refine B0 Z Z Z Z (fun hg=>by rw [hg];exact R5 Z Z) ?_;refine A3 (B5 Z (fun h=>by first | rfl | (rw [h];rfl)) (fun h=>by first | rfl | (rw [h];rfl))) Z ?_;refine A7 ?_
   refine k1 ?_
   refine B4 rfl (fun ht=>?_) (fun ht=>?_)
   ·have h2:=A0 (or_pick.symm.trans ht)
    refine k2 ?_
    refine A4 (A3 (S8 _ 1 G6) Z (A3 (A6 Z Z) Z (A7 ?_)))
    refine k1 (k10 (k11 (k12 (k11 (k11 (k12 (k11 ?_)))))))
    refine B8 (rs:=[Q9 [],E3 false]) (j9 Z Z Z Z Z) ?_
    rw [if_neg]
    intro hq
    have h3:=(hF.1 hq).2 k (by omega)
    rw [←ha,←hee] at h3
    omega
   ·have h2:=A1 (or_pick.symm.trans ht)
    have h3:e≤a∧a≤4096:=by omega
    refine k5 (k1 ?_)
    refine A4 (A3 (A5 Z Z) Z (A3 (A5 Z Z) Z (A3 (F5 Z Z Z (by omega) (by (rw [hlen];omega))) Z ?_)));refine A3 (U3 Z Z hget Z) Z (A3 (A5 Z Z) Z (A3 (C6 Z Z (by omega)) Z (A3 (F5 Z Z Z (by omega) (by (rw [hlen];omega))) Z ?_)));refine E5 (H4 TySz.out Z Z (by (rw [hlen];omega)) Z Z) ?_;refine A7 ?_
    refine k4 (k1 ?_)
    refine A4 (A3 (C6 Z Z (by omega)) Z (A3 (A5 Z Z) Z (A7 ?_)))
    refine k1 ?_
    refine ⟨k+1,⟨by omega,fun j hj=>?_⟩,by omega,?_⟩
    ·by_cases e1:j=k
     ·subst e1;rw [←ha,←hee];exact h3
     ·exact hp j (by omega)
    ·rw [←hset]
     exact K60 ⟨le1 rfl,le1 rfl,le1 rfl,le1 rfl,le1 rfl,trivial⟩ ⟨rfl,trivial⟩
  ·have hkl:k=n+1:=by have:=A1 ht;omega
   subst hkl
   rw [H75]
   have hq:Y9 n ends h=true:=hF.2 ⟨⟨hal,hne⟩,hp⟩
   refine E8 (Sees.freeze (k:=720) Z) ?_
   refine k6 (k2 ?_)
   refine A4 (A3 (A5 Z Z) Z (A3 (A6 Z Z) Z (A3 (A6 Z Z) Z (A7 ?_))))
   refine k1 (k10 ?_)
   exact B8 (rs:=[Q9 (U2 n h),E3 true]) (j9 rfl rfl rfl rfl rfl) (by rw [if_pos hq])
theorem smax_ok (l:List Int) (hl:0 < l.length):FnOk Tryz.prog 173 [Q9 l] (fun rs=>∃m,rs=[F2 m]∧∀b,m≤b↔∀e∈l,e≤b):=by
 refine FnOk.intro Tryz.func173 (by decide) Z Z Z Z ?_
 refine I72 (t:=0) rfl (.pure _ _ _ _) fun hb=>?_
 refine k2 ?_
 refine A4 (A3 (A6 Z Z) Z (A7 ?_))
 refine k1 (k2 (k2 ?_))
 refine A4 (A3 (A5 Z Z) Z (A3 (F1 Z (.pure _ _ _ _)) Z (A3 (E6 Z Z) Z (A7 ?_))))
 refine k1 ?_
 refine B4 rfl (fun ht=>?_) (fun ht=>?_)
 ·exact absurd (A0 ht) (by omega)
 refine k5 (k1 (k2 ?_))
 refine A4 (A3 (A5 Z Z) Z (A3 (B9 Z (.pure _ _ _ _) Z (by omega) (getI (l:=l) (i:=0) hl)) Z (A3 (C8 Z Z) Z (A3 (A6 Z Z) Z (A7 ?_)))))
 refine k1 (k2 (k2 ?_))
 refine A4 (A3 (A6 Z Z) Z (A7 ?_))
 refine k1 (k3 ?_)
 refine E1 (X:=Nat × Int) (fun x=>([(0,D2 Int 1 G6 l),(3,C0 x.2),(4,C0 x.1)],[])) (fun x=>(1≤x.1∧x.1≤l.length)∧∀b,x.2≤b↔∀e∈l.take x.1,e≤b) (fun x=>l.length - x.1) (1,l.getD 0 0) ⟨⟨Nat.le_refl _,hl⟩,?_⟩ (K60 ⟨le1 rfl,le1 rfl,le1 rfl,trivial⟩ trivial) ?_
 ·intro b
  have:l.take 1=[l.getD 0 0]:=by
   cases l with
   | nil=>cases hl
   | cons x r=>rfl
  dsimp only
  rw [this];simp
 rintro ⟨k,m⟩ ⟨⟨hk1,hk⟩,hp⟩
 dsimp only at hk1 hk hp ⊢
 refine k2 (k2 ?_)
 refine A4 (A3 (A5 Z Z) Z (A3 (A5 Z Z) Z (A3 (F1 Z (.pure _ _ _ _)) Z (A3 (E6 Z Z) Z (A7 ?_)))))
 refine k1 ?_
 refine B4 rfl (fun ht=>?_) (fun ht=>?_)
 ·have hlt:k < l.length:=by have:=A0 ht;omega
  have hv:=getI hlt
  refine k5 (k1 (k2 (k3 ?_)))
  refine A4 (A3 (A5 Z Z) Z (A3 (A5 Z Z) Z (A3 (A5 Z Z) Z (A3 (B9 Z (.pure _ _ _ _) Z (by omega) hv) Z (A3 (C8 Z Z) Z (A3 (n_max Z Z) Z (A3 (A6 Z Z) Z (A7 ?_))))))))
  refine k4 (k1 ?_)
  refine A4 (A3 (A5 Z Z) Z (A3 (C6 Z Z (by omega)) Z (A3 (A6 Z Z) Z (A7 ?_))))
  refine k1 ?_
  refine ⟨(k+1,if m < l.getD k 0 then l.getD k 0 else m),⟨⟨by dsimp only;omega,by dsimp only;omega⟩,?_⟩,by dsimp only;omega,K60 ⟨le1 rfl,le1 rfl,le1 rfl,trivial⟩ trivial⟩
  intro b
  dsimp only
  have e:l.take (k+1)=l.take k++[l.getD k 0]:=by
   rw [L06 hlt,L00,K97 hlt];rfl
  have h1:=hp b
  rw [e]
  constructor
  ·intro h x hx
   rcases List.mem_append.1 hx with hx | hx
   ·exact h1.1 (by omega) x hx
   ·simp only [L22,L24,or_false] at hx
    rw [hx];omega
  ·intro h
   have h2:=h1.2 (fun x hx=>h x (List.mem_append.2 (.inl hx)))
   have h3:=h (l.getD k 0) (List.mem_append.2 (.inr (by simp)))
   omega
 ·have hkl:k=l.length:=by have:=A1 ht;omega
  subst hkl
  rw [L27] at hp
  refine k6 (k2 ?_)
  refine A4 (A3 (A5 Z Z) Z (A3 (A6 Z Z) Z (A7 ?_)))
  refine k1 (k10 ?_)
  exact B8 (I2 rfl rfl rfl) ⟨m,rfl,hp⟩
theorem K11 (c:Comb) (hn:1≤c.Parents∧c.Parents≤32) (hr:∀h∈c.Hunks,K3 h.Rows) (hz:szC c.Hunks≤268435456) :
  FnOk Tryz.prog 95 [N4 c] (fun rs=>rs=[E3 (r9 c.Parents.toNat (List.replicate (c.Parents.toNat+1) 0) false 0 c.Hunks)]):=by
 obtain ⟨n,hN⟩:∃n,n=c.Parents.toNat:=⟨_,rfl⟩
 have hNc:c.Parents=(n:Int):=by omega
 rw [←hN]
 have e0:(c.Parents+1).toNat=n+1:=by omega
 have hzl:=C03 c.Hunks
 obtain ⟨W,hW⟩:∃W,W=r9 n (List.replicate (n+1) 0) false 0 c.Hunks:=⟨_,rfl⟩
 rw [←hW]
 refine FnOk.intro Tryz.func95 (by decide) Z Z Z Z ?_
 refine k2 ?_
 refine A4 (C7 (R1 1 Z Z Z) Z (A3 (A6 Z Z) Z (A7 ?_)))
 refine k1 (k2 ?_)
 refine A4 (C7 (F9 3 Z) Z (A7 ?_))
 refine k1 (k2 ?_)
 refine A4 (A3 (A8 Z) Z (A3 (A9 Z Z Z) Z (A3 (C6 Z Z (by omega)) Z (C7 (m9 720 Int G6 0 Z Z (by omega) (by omega) (fun _=>by first | exact ⟨⟨rfl,rfl⟩,trivial⟩ | exact ⟨N8 _ _ _,trivial⟩) (by first | rfl | (simp [G3,H7,Ob.free,SV.free,S1.free,TC.free]<;>rfl))) Z ?_))));refine A3 (A6 Z Z) Z (A7 ?_)
 rw [e0]
 refine k1 (k2 (k2 ?_))
 refine E8 (Sees.freeze (k:=720) Z) ?_
 refine A4 (A3 (A8 Z) Z (A3 (A9 Z Z Z) Z (A3 (F1 Z (.pure _ _ _ _)) Z (A3 (A5 Z Z) Z (A7 ?_)))))
 refine k1 (k3 ?_)
 refine E1 (X:=Nat × List Int × Bool × Int) (fun x=>([(1,.s (.one (.ref 1 0))),(3,.s (.one (.ref 3 0))),(4,D2 Int 1 G6 x.2.1),(15,D2 CHunk 2 L2 c.Hunks),(16,C0 c.Hunks.length),(17,C0 x.1)],[(1,E07 c),(3,.box [.p (.v (.bool x.2.2.1)),.p (.v (.int .u32 x.2.2.2))])])) (fun x=>x.1≤c.Hunks.length∧x.2.1.length=n+1∧(∀e∈x.2.1,0≤e)∧W=r9 n x.2.1 x.2.2.1 x.2.2.2 (c.Hunks.drop x.1)) (fun x=>c.Hunks.length - x.1) (0,List.replicate (n+1) 0,false,0) ⟨Nat.zero_le _,by simp,fun e he=>by have:=(List.mem_replicate.1 he).2;omega,hW⟩ (K60 ⟨le1 rfl,le1 rfl,le1 rfl,le1 rfl,le1 rfl,le1 rfl,trivial⟩ ⟨rfl,rfl,trivial⟩) ?_
 rintro ⟨k,ends,res,par⟩ ⟨hk,hel,he0,hp⟩
 dsimp only at hk hel he0 hp ⊢
 refine k2 ?_
 refine A4 (A3 (E6 Z Z) Z (A7 ?_))
 refine k1 (k2 ?_)
 refine B4 rfl (fun ht=>?_) (fun ht=>?_)
 ·have hlt:k < c.Hunks.length:=by have:=A0 ht;omega
  have hv:c.Hunks[k]?=some c.Hunks[k]:=by simp [hlt]
  have hmem:=L15 hlt
  have hrw:=hr _ hmem
  have hzm:=C02 hmem
  rw [L03 hlt,r9] at hp
  obtain ⟨h,hx⟩:∃x,x=c.Hunks[k]:=⟨_,rfl⟩
  rw [←hx] at hv hrw hzm hp
  have hz1:=j6 h.Rows
  have hz2:=C57 h.Rows
  unfold D13 at hzm
  have hf:=H30 h n ends (by omega) hrw (by omega) hel he0
  rw [←hNc] at hf
  refine k5 (k1 (k2 (k3 (k2 ?_))))
  refine A4 (A3 (B9 Z (.pure _ _ _ _) Z (by omega) hv) Z (A3 (F4 Z Z) Z (C7 (F9 6 Z) Z (E5 (B7 TySz.out Z Z Z Z Z Z) (A7 ?_)))))
  refine k1 (k2 ?_)
  refine A4 (A3 (A6 Z Z) Z (A7 ?_))
  refine k1 (k2 (k2 ?_))
  cases hfb:Y9 n ends h with
  | false =>
   rw [hfb,if_neg (by decide)] at hf
   rw [hfb,Bool.false_and] at hp
   refine A4 (A3 (D5 Z Z Z) Z (A3 (A8 Z) Z (A3 (A9 Z Z Z) Z (A3 (A5 Z Z) Z (C1 (hf) Z Z Z ?_)))));rintro _ rfl;refine A3 (A5 Z Z) Z (A3 (B3 Z Z) Z (A3 (B3 Z Z) Z (A3 (A6 Z Z) Z (A3 (A6 Z Z) Z (A7 ?_)))))
   refine k1 (k2 ?_)
   refine A4 (A3 (A5 Z Z) Z (A3 (F0 Z) Z (A7 ?_)))
   refine k1 ?_
   refine B4 rfl (fun ht=>?_) (fun ht=>?_)
   ·refine k2 ?_
    refine A4 (A3 (A6 Z Z) Z (A7 ?_))
    refine k1 (k10 (k11 (k12 (k11 (k11 (k12 (k11 ?_)))))))
    exact B8 (I2 rfl rfl rfl) (by rw [hp])
   ·cases ht
  | true =>
   rw [hfb,if_pos rfl] at hf
   rw [hfb,Bool.true_and] at hp
   have hpos:∀e∈U2 n h,0≤e:=by
    intro e hm
    obtain ⟨j,hj,rfl⟩:=List.mem_map.1 hm
    have hj:=List.mem_range.1 hj
    have h1:=((D98 n ends h).1 hfb).2 j hj
    have h2:=he0 _ (L13 (getI (l:=ends) (i:=j) (by omega)))
    have h3:=F11 h.Rows n j
    omega
   refine A4 (A3 (D5 Z Z Z) Z (A3 (A8 Z) Z (A3 (A9 Z Z Z) Z (A3 (A5 Z Z) Z (C1 (hf) Z Z Z ?_)))));rintro _ rfl;refine A3 (A5 Z Z) Z (A3 (B3 Z Z) Z (A3 (B3 Z Z) Z (A3 (A6 Z Z) Z (A3 (A6 Z Z) Z (A7 ?_)))))
   refine k1 (k2 ?_)
   refine A4 (A3 (A5 Z Z) Z (A3 (F0 Z) Z (A7 ?_)))
   refine k1 ?_
   refine B4 rfl (fun ht=>?_) (fun ht=>?_)
   ·cases ht
   refine k5 (k1 (k2 ?_))
   refine A4 (A3 (A8 Z) Z (A3 (A9 Z Z Z) Z (A3 (F1 Z (.pure _ _ _ _)) Z (A3 (A5 Z Z) Z (A7 ?_)))))
   refine k1 (k3 ?_)
   refine E1 (X:=Nat × Bool × Int) (fun x=>([(1,.s (.one (.ref 1 0))),(3,.s (.one (.ref 3 0))),(4,D2 Int 1 G6 (U2 n h)),(15,D2 CHunk 2 L2 c.Hunks),(16,C0 c.Hunks.length),(17,C0 k),(32,D2 Row 3 rowC h.Rows),(33,C0 h.Rows.length),(34,C0 x.1)],[(1,E07 c),(3,.box [.p (.v (.bool x.2.1)),.p (.v (.int .u32 x.2.2))])])) (fun x=>x.1≤h.Rows.length∧Q1 res par h.Rows=Q1 x.2.1 x.2.2 (h.Rows.drop x.1)∧r7 res h.Rows=r7 x.2.1 (h.Rows.drop x.1)∧r8 par h.Rows=r8 x.2.2 (h.Rows.drop x.1)) (fun x=>h.Rows.length - x.1) (0,res,par) ⟨Nat.zero_le _,rfl,rfl,rfl⟩ (K60 ⟨le1 rfl,le1 rfl,le1 rfl,le1 rfl,le1 rfl,le1 rfl,le1 rfl,le1 rfl,le1 rfl,trivial⟩ ⟨rfl,rfl,trivial⟩) ?_
   rintro ⟨j,res',par'⟩ ⟨hj,q1,q2,q3⟩
   dsimp only at hj q1 q2 q3 ⊢
   refine k2 ?_
   refine A4 (A3 (E6 Z Z) Z (A7 ?_))
   refine k1 (k2 ?_)
   refine B4 rfl (fun ht=>?_) (fun ht=>?_)
   ·have hlt2:j < h.Rows.length:=by have:=A0 ht;omega
    have hv2:h.Rows[j]?=some h.Rows[j]:=by simp [hlt2]
    have htl:=H45 h.Rows _ (L15 hlt2)
    rw [L03 hlt2] at q1 q2 q3
    rw [Q1] at q1
    obtain ⟨r,hy⟩:∃x,x=h.Rows[j]:=⟨_,rfl⟩
    rw [←hy] at hv2 htl q1 q2 q3
    refine k5 (k1 (k2 (k3 (k2 ?_))))
    refine A4 (A3 (B9 Z (.pure _ _ _ _) Z (by omega) hv2) Z (A3 (F4 Z Z) Z (C7 (F9 9 Z) Z (E5 (B7 TySz.out Z Z Z Z Z Z) (A7 ?_)))))
    refine k1 (k2 ?_)
    by_cases hs:J7 r.Text=true
    ·refine A4 (A3 (D5 Z Z Z) Z (C1 (B00 r (by omega)) Z Z Z ?_));rintro _ rfl;refine A3 (F0 Z) Z (A3 (A5 Z Z) Z (X1 Z Z Z (by rw [hs];rfl) ?_));refine A3 (D5 Z Z Z) Z (X1 Z Z Z (by rw [hs];rfl) ?_);refine H02 (I78 r res' par' (by omega)) Z Z Z Z Z Z ?_;rintro _ _ ⟨rfl,rfl⟩;refine B0 Z Z Z Z (fun hg=>by rw [hg];exact F0 Z) ?_;refine A3 (B5 Z (fun h=>by first | rfl | (rw [h];rfl)) (fun h=>by first | rfl | (rw [h];rfl))) Z ?_;refine A7 ?_
     refine k1 ?_
     refine B4 rfl (fun ht=>?_) (fun ht=>?_)
     ·have h2:C25 res' par' r=false:=by rw [hs] at ht;simpa using ht
      rw [hs,h2,Bool.true_and,Bool.false_and] at q1
      rw [q1,Bool.false_and] at hp
      refine k2 ?_
      refine A4 (A3 (A6 Z Z) Z (A7 ?_))
      refine k1 (k10 (k12 (k11 (k11 (k12 (k12 (k11 (k11 (k12 (k11 ?_))))))))))
      exact B8 (I2 rfl rfl rfl) (by rw [hp])
     ·have h2:C25 res' par' r=true:=by rw [hs] at ht;simpa using ht
      rw [hs,h2,Bool.true_and,Bool.true_and] at q1
      refine k5 (k4 (k1 ?_))
      refine A4 (A3 (C6 Z Z (by omega)) Z (A3 (A5 Z Z) Z (A7 ?_)))
      refine k1 ?_
      exact ⟨(j+1,_,_),⟨by dsimp only;omega,q1,q2,q3⟩,by dsimp only;omega,K60 ⟨le1 rfl,le1 rfl,le1 rfl,le1 rfl,le1 rfl,le1 rfl,le1 rfl,le1 rfl,le1 rfl,trivial⟩ ⟨rfl,rfl,trivial⟩⟩
    ·have hs':J7 r.Text=false:=by simpa using hs
     refine A4 (A3 (D5 Z Z Z) Z (C1 (B00 r (by omega)) Z Z Z ?_));rintro _ rfl;refine A3 (F0 Z) Z (A3 (A5 Z Z) Z (B0 Z Z Z Z (fun hg=>by rw [hg];exact D5 Z Z Z) ?_));refine T9 Z Z Z (by rw [hs'];decide) Z ?_;refine T9 Z Z Z (by rw [hs'];decide) Z ?_;refine A3 (B5 (q:=true) Z (fun h=>rfl) (fun h=>by rw [hs'] at h;cases h)) Z ?_;refine A7 ?_
     rw [hs',Bool.false_and,Bool.false_and] at q1
     rw [q1,Bool.false_and] at hp
     refine k1 ?_
     refine B4 rfl (fun ht=>?_) (fun ht=>?_)
     ·refine k2 ?_
      refine A4 (A3 (A6 Z Z) Z (A7 ?_))
      refine k1 (k10 (k12 (k11 (k11 (k12 (k12 (k11 (k11 (k12 (k11 ?_))))))))))
      exact B8 (I2 rfl rfl rfl) (by rw [hp])
     ·rw [hs'] at ht;cases ht
   ·have hjl:j=h.Rows.length:=by have:=A1 ht;omega
    rw [hjl,L07 (Nat.le_refl _)] at q1 q2 q3
    have q1:Q1 res par h.Rows=true:=q1
    have q2:r7 res h.Rows=res':=q2
    have q3:r8 par h.Rows=par':=q3
    rw [q1,q2,q3,Bool.true_and] at hp
    refine k6 (k7 (k7 (k8 Z (k4 (k1 ?_)))))
    refine A4 (A3 (C6 Z Z (by omega)) Z (A3 (A5 Z Z) Z (A7 ?_)))
    refine k1 ?_
    exact ⟨(k+1,_,_,_),⟨by dsimp only;omega,C53 n h,hpos,hp⟩,by dsimp only;omega,K60 ⟨le1 rfl,le1 rfl,le1 rfl,le1 rfl,le1 rfl,le1 rfl,trivial⟩ ⟨rfl,rfl,trivial⟩⟩
 ·have hkl:k=c.Hunks.length:=by have:=A1 ht;omega
  rw [hkl,L07 (Nat.le_refl _)] at hp
  have hp:W=decide (∀e∈ends,e≤4096):=hp
  refine k6 (k2 ?_)
  refine A4 (A3 (A5 Z Z) Z (C1 (smax_ok ends (by omega)) Z Z Z ?_));rintro _ ⟨m,rfl,hm⟩;refine A3 (B27 Z Z) Z (A3 (A6 Z Z) Z (A7 ?_))
  refine k1 (k10 ?_)
  exact B8 (I2 rfl rfl rfl) (by rw [hp];simp only [hm 4096])
theorem D41 (s:Str):FnOk Tryz.prog 93 [G7 s] (fun rs=>rs=[E3 (V2 s)]):=by
 refine FnOk.intro Tryz.func93 (by decide) Z Z Z Z ?_
 refine k2 ?_
 refine A4 (A3 (A6 Z Z) Z (A7 ?_))
 refine k1 (k2 ?_)
 refine A4 (A3 (A5 Z Z) Z (A3 (E7 Z) Z (A3 (A12 Z Z) Z (A3 (A5 Z Z) Z (B0 Z Z Z Z (fun hg=>by rw [hg];exact A5 Z Z) ?_)))));refine B0 Z Z Z Z (fun hg=>by rw [hg];exact E7 Z) ?_;refine B0 Z Z Z Z (fun hg=>by rw [hg];exact B27 Z Z) ?_;refine A3 (B5 Z (fun h=>by first | rfl | (rw [h];rfl)) (fun h=>by first | rfl | (rw [h];rfl))) Z ?_;refine A3 (A6 Z Z) Z (A7 ?_)
 refine k1 (k10 ?_)
 refine B8 (I2 Z Z Z) ?_
 rw [L1]
 unfold V2
 congr 4
 apply decide_eq_decide.2
 omega
theorem F95 (c:Comb) (hp:c.Path.length≤16777216):FnOk Tryz.prog 89 [N4 c] (fun rs=>rs=[G7 (B24 c)]):=by
 have hq:=F17 c.Path
 have hf:=J01 c.Parents
 refine FnOk.intro Tryz.func89 (by decide) Z Z Z Z ?_
 refine k2 ?_
 refine A4 (C7 (R1 1 Z Z Z) Z (A3 (A6 Z Z) Z (A7 ?_)))
 refine k1 (k2 ?_)
 refine A4 (A3 (A6 Z Z) Z (A7 ?_))
 refine k1 (k2 (k2 ?_))
 refine A4 (A3 (A8 Z) Z (A3 (A9 Z Z Z) Z (A7 ?_)))
 refine k1 ?_
 refine B4 rfl (fun ht=>?_) (fun ht=>?_)
 ·have hd:c.Dense=true:=ht
  skip
  refine A4 (A3 (A6 Z Z) Z (A7 ?_))
  refine k1 (k2 ?_)
  refine D4 (by kernel_rfl) (by kernel_rfl) (B1 (A5 Z Z) Z Z (B1 (I4 Z Z (by (simp only [K96,K99,L02];omega))) Z Z (B1 (I4 Z Z (by (simp only [K96,K99,L02];omega))) Z Z (B1 (A8 Z) Z Z (B1 (A9 Z Z Z) Z Z (B1 (K9 (D34 c.Path (by omega)) Z Z) Z Z (B1 (I4 Z Z (by (simp only [K96,K99,L02];omega))) Z Z (B1 (I4 Z Z (by (simp only [K96,K99,L02];omega))) Z Z (B1 (A8 Z) Z Z (B1 (A9 Z Z Z) Z Z (B1 (K9 (w7 c.Parents) Z Z) Z Z (B1 (I4 Z Z (by (simp only [K96,K99,L02];omega))) Z Z (B1 (I4 Z Z (by (simp only [K96,K99,L02];omega))) Z Z (B1 (A6 Z Z) Z Z (L4 ?_)))))))))))))))
  refine k1 (k10 ?_)
  exact B8 (I2 rfl rfl rfl) (by unfold B24 C30;rw [if_pos hd];simp [ccS,parS])
 ·have hd:c.Dense=false:=ht
  refine k5 (k1 (k2 ?_))
  refine D4 (by kernel_rfl) (by kernel_rfl) (B1 (A5 Z Z) Z Z (B1 (I4 Z Z (by (simp only [K96,K99,L02];omega))) Z Z (B1 (I4 Z Z (by (simp only [K96,K99,L02];omega))) Z Z (B1 (A8 Z) Z Z (B1 (A9 Z Z Z) Z Z (B1 (K9 (D34 c.Path (by omega)) Z Z) Z Z (B1 (I4 Z Z (by (simp only [K96,K99,L02];omega))) Z Z (B1 (I4 Z Z (by (simp only [K96,K99,L02];omega))) Z Z (B1 (A8 Z) Z Z (B1 (A9 Z Z Z) Z Z (B1 (K9 (w7 c.Parents) Z Z) Z Z (B1 (I4 Z Z (by (simp only [K96,K99,L02];omega))) Z Z (B1 (I4 Z Z (by (simp only [K96,K99,L02];omega))) Z Z (B1 (A6 Z Z) Z Z (L4 ?_)))))))))))))))
  refine k1 (k10 ?_)
  exact B8 (I2 rfl rfl rfl) (by unfold B24 C30;rw [hd,if_neg (by decide)];simp [combS,parS])
theorem E70 (h:CHunk) (n:Nat) (hn:n≤32) (hr:K3 h.Rows) (hl:h.Rows.length≤268435456) (ha:h.At.length=n+1) (hb:∀a∈h.At,-4611686018427387904≤a∧a≤4611686018427387904) :
  FnOk Tryz.prog 90 [G84 h,F2 n] (fun rs=>rs=[G7 (Y8 n h++[10])]):=by
 have hrep:FnOk Tryz.prog 167 [G7 [64],F2 ((n:Int)+1)] (fun rs=>rs=[G7 (atS (n+1))]):=by
  have:=F94 64 (n+1) (by omega)
  rwa [show ((n+1:Nat):Int)=(n:Int)+1 by omega] at this
 obtain ⟨A,hA⟩:∃A,A=atS (n+1):=⟨_,rfl⟩
 have hAl:A.length=n+1:=by rw [hA,y1]
 have hend:Y8 n h++[10]=A++V3 n h n++([32,43]++J0 (h.At.getD n 0) (M2 h.Rows n n)++[32]++A++[10]):=by
  unfold Y8
  rw [B79,hA]
  unfold B76 A20
  rw [if_pos rfl];simp
 rw [hend]
 rw [←hA] at hrep
 have hsl:=fun k=>B23 n h k
 have hcnt:=fun k=>F11 h.Rows n k
 have hgA:∀k,k < n+1→h.At[k]?=some (h.At.getD k 0):=fun k hk=>getI (by omega)
 have hgC:∀k,k < n+1→(G1 h.Rows n)[k]?=some (M2 h.Rows n k):=fun k hk=>I60 h.Rows n k hk
 have hrA:∀k,k < n+1 → -4611686018427387904≤h.At.getD k 0∧h.At.getD k 0≤4611686018427387904:=fun k hk=>hb _ (L13 (hgA k hk))
 refine FnOk.intro Tryz.func90 (by decide) Z Z Z Z ?_
 refine k2 ?_
 refine A4 (C7 (R1 2 Z Z Z) Z (A3 (A6 Z Z) Z (A7 ?_)))
 refine k1 (k2 ?_)
 refine A4 (A3 (A8 Z) Z (A3 (A9 Z Z Z) Z (A3 (A5 Z Z) Z (l_new (B58 h.Rows n hn hr hl) Z Z Z Z ?_))));rintro _ _ ⟨rfl,rfl⟩;refine ⟨rfl,?_⟩;refine A3 (A6 Z Z) Z (A7 ?_)
 refine k1 (k2 ?_)
 refine E8 (Sees.freeze (k:=720) Z) ?_
 refine A4 (A3 (A5 Z Z) Z (A3 (C6 Z Z (by omega)) Z (C1 (hrep) Z Z Z ?_)));rintro _ rfl;refine A3 (A6 Z Z) Z (A7 ?_)
 refine k1 (k2 ?_)
 refine A4 (C7 (E35 700 Z) Z (A7 ?_))
 refine k1 (k2 ?_)
 refine E8 (K73 701 UInt8 1 u8C 5 (kb:=700) (o:=1) Z Z Z) ?_
 refine A4 (A3 (A5 Z Z) Z (T3 (P5 (xs:=[]) (s:=A) ⟨⟨_,.inl rfl,rfl⟩,rfl⟩ (by simp only [L02];omega)) Z Z Z ?_));rintro _ _ ⟨rfl,rfl⟩;refine A7 ?_
 refine k1 (k2 (k2 ?_))
 refine A4 (A3 (A5 Z Z) Z (A3 (A5 Z Z) Z (A7 ?_)))
 refine k1 (k3 ?_)
 refine E1 (X:=Nat) (fun p=>([(1,C0 n),(2,.s (.one (.ref 2 0))),(5,D2 Int 1 G6 (G1 h.Rows n)),(6,J3 A),(7,.s (.one (.ref 700 0))),(18,C0 n),(19,C0 p)],[(2,.box (G84 h).s1.cells),(700,.tbx 144 [.ref 700 0,.buf 701 UInt8 1 u8C (A++V3 n h p)]),(701,.spare (A++V3 n h p).length 1 5)])) (fun p=>p≤n) (fun p=>n - p) 0 (Nat.zero_le _) ?_ ?_
 ·rw [show V3 n h 0=[] from rfl,L21]
  exact K60 ⟨le1 rfl,le1 rfl,le1 rfl,le1 rfl,le1 rfl,le1 rfl,le1 rfl,trivial⟩ ⟨rfl,rfl,rfl,trivial⟩
 intro p hp
 dsimp only at hp ⊢
 have hsp:=hsl p
 have hsucc:=B79 n h p
 refine k2 ?_
 refine A4 (A3 (E6 Z Z) Z (A7 ?_))
 refine k1 (k2 ?_)
 refine B4 rfl (fun ht=>?_) (fun ht=>?_)
 ·have hlt:p < n:=by have:=A0 ht;omega
  have hga:=hgA p (by omega)
  have hgc:=hgC p (by omega)
  have hra:=hrA p (by omega)
  have hcp:=hcnt p
  have hsw:B76 n h p=[32,45]++J0 (h.At.getD p 0) (M2 h.Rows n p):=by
   unfold B76 A20;rw [if_neg (by omega)]
  have hrl:=B66 (h.At.getD p 0) (M2 h.Rows n p)
  rw [hsw] at hsucc
  obtain ⟨a,haa⟩:∃a,a=h.At.getD p 0:=⟨_,rfl⟩
  obtain ⟨q,hqq⟩:∃q,q=M2 h.Rows n p:=⟨_,rfl⟩
  rw [←haa] at hga hra hrl hsucc
  rw [←hqq] at hgc hcp hrl hsucc
  have hlb:(A++V3 n h p).length≤1000:=by rw [K96];omega
  obtain ⟨B,hB⟩:∃B,B=A++V3 n h p:=⟨_,rfl⟩
  rw [←hB] at hlb ⊢
  refine k5 (k1 (k2 (k3 (k2 ?_))))
  refine A4 (A3 (A5 Z Z) Z (A3 (A6 Z Z) Z (A7 ?_)))
  refine k1 ?_
  refine C11 11 (by kernel_rfl) (by kernel_rfl) Z (B1 (A8 Z) Z Z (B1 (A9 Z Z Z) Z Z (B1 (A5 Z Z) Z Z (B1 (B9 Z (.pure _ _ _ _) Z (by omega) hga) Z Z (B1 (C8 Z Z) Z Z (B1 (A5 Z Z) Z Z (B1 (A5 Z Z) Z Z (B1 (B9 Z (.pure _ _ _ _) Z (by omega) hgc) Z Z (B1 (C8 Z Z) Z Z (B1 (K9 (D33 a q hra (by omega)) Z Z) Z Z (B1 (I4 Z Z (by (simp only [K96,K99,L02];omega))) Z Z (L4 (C74 (P5 (xs:=B) (s:=[32,45]++J0 a q) ⟨⟨_,.inr rfl,rfl⟩,rfl⟩ (by simp only [K96,K99,L02];omega)) Z Z Z ?_)))))))))))));rintro _ _ ⟨rfl,rfl⟩;refine ⟨_,rfl,?_⟩;refine L4 ?_
  refine k4 (k1 ?_)
  refine A4 (A3 (C6 Z Z (by omega)) Z (A3 (A5 Z Z) Z (A7 ?_)))
  refine k1 ?_
  refine ⟨p+1,by omega,by omega,?_⟩
  have hs2:A++V3 n h (p+1)=B++([32,45]++J0 a q):=by rw [hsucc,hB,L09]
  rw [hs2]
  exact K60 ⟨le1 rfl,le1 rfl,le1 rfl,le1 rfl,le1 rfl,le1 rfl,le1 rfl,trivial⟩ ⟨rfl,rfl,rfl,trivial⟩
 ·have hpn:p=n:=by have:=A1 ht;omega
  subst hpn
  have hga:=hgA p (by omega)
  have hgc:=hgC p (by omega)
  have hra:=hrA p (by omega)
  have hcp:=hcnt p
  have hrl:=B66 (h.At.getD p 0) (M2 h.Rows p p)
  obtain ⟨a,haa⟩:∃a,a=h.At.getD p 0:=⟨_,rfl⟩
  obtain ⟨q,hqq⟩:∃q,q=M2 h.Rows p p:=⟨_,rfl⟩
  rw [←haa] at hga hra hrl ⊢
  rw [←hqq] at hgc hcp hrl ⊢
  have hlb:(A++V3 p h p).length≤1000:=by rw [K96];omega
  obtain ⟨B,hB⟩:∃B,B=A++V3 p h p:=⟨_,rfl⟩
  rw [←hB] at hlb ⊢
  refine k6 (k2 ?_)
  refine C11 15 (by kernel_rfl) (by kernel_rfl) Z (B1 (A8 Z) Z Z (B1 (A9 Z Z Z) Z Z (B1 (A5 Z Z) Z Z (B1 (B9 Z (.pure _ _ _ _) Z (by omega) hga) Z Z (B1 (C8 Z Z) Z Z (B1 (A5 Z Z) Z Z (B1 (A5 Z Z) Z Z (B1 (B9 Z (.pure _ _ _ _) Z (by omega) hgc) Z Z (B1 (C8 Z Z) Z Z (B1 (K9 (D33 a q hra (by omega)) Z Z) Z Z (B1 (I4 Z Z (by (simp only [K96,K99,L02];omega))) Z Z (B1 (I4 Z Z (by (simp only [K96,K99,L02];omega))) Z Z (B1 (A5 Z Z) Z Z (B1 (I4 Z Z (by (simp only [K96,K99,L02];omega))) Z Z (B1 (I4 Z Z (by (simp only [K96,K99,L02];omega))) Z Z (L4 (C74 (P5 (xs:=B) (s:=[32,43]++J0 a q++[32]++A++[10]) ⟨⟨_,.inr rfl,rfl⟩,rfl⟩ (by simp only [K96,K99,L02];omega)) Z Z Z ?_)))))))))))))))));rintro _ _ ⟨rfl,rfl⟩;refine ⟨_,rfl,?_⟩;refine L4 ?_
  refine k1 (k2 ?_)
  refine A4 (D26 (k:=700) (k':=701) ⟨_,rfl,rfl,rfl⟩ A66 Z Z Z Z Z (.inr Z) Z (A3 (A6 Z Z) Z (A7 ?_)))
  refine k1 (k10 ?_)
  exact B8 (I2 rfl rfl rfl) rfl
def C91 (r:Row):UInt8:=if r.Lost then 45 else 43
theorem crow_ok (r:Row) (n:Nat) (hn:n≤32) (hm:0≤r.Marks∧r.Marks < 4294967296) (hx:r.Text.length≤268435456) :
  FnOk Tryz.prog 91 [pRow r,F2 n] (fun rs=>rs=[G7 (A15 n r).flatten]):=by
 rw [F19]
 refine FnOk.intro Tryz.func91 (by decide) Z Z Z Z ?_
 refine k2 ?_
 refine A4 (C7 (R1 2 Z Z Z) Z (A3 (A6 Z Z) Z (A7 ?_)))
 refine k1 (k2 ?_)
 refine A4 (A3 (A6 Z Z) Z (A7 ?_))
 refine J8 ?_
 refine u9 [(1,C0 n),(2,.s (.one (.ref 2 0))),(5,I3 (.int .u8 (C91 r).toNat))] [(2,.box (pRow r).s1.cells)] ?_ ?_
 ·refine k2 ?_
  refine A4 (A3 (A8 Z) Z (A3 (A9 Z Z Z) Z (A7 ?_)))
  refine k1 ?_
  refine B4 rfl (fun ht=>?_) (fun ht=>?_)
  ·have h:r.Lost=true:=ht
   skip
   refine A4 (A3 (A6 Z Z) Z (A7 ?_))
   refine k1 ?_
   rw [show C91 r=45 by unfold C91;rw [h];rfl]
   exact K60 ⟨le1 rfl,le1 rfl,le1 rfl,trivial⟩ ⟨rfl,trivial⟩
  ·have h:r.Lost=false:=ht
   refine k5 (k1 ?_)
   rw [show C91 r=43 by unfold C91;rw [h];rfl]
   exact K60 ⟨le1 rfl,le1 rfl,le1 rfl,trivial⟩ ⟨rfl,trivial⟩
 refine k2 ?_
 refine A4 (A3 (A5 Z Z) Z (A3 (A8 Z) Z (A3 (A9 Z Z Z) Z (A3 (E7 Z) Z (A3 (C6 Z Z (by omega)) Z (A3 (C6 Z Z (by omega)) Z (C7 (J15 730 UInt8 u8C Z Z (by omega) (by omega) (by first | rfl | (simp [G3,H7,Ob.free,SV.free,S1.free,TC.free]<;>rfl))) Z ?_)))))));refine A3 (A6 Z Z) Z (A7 ?_)
 refine k1 (k2 (k2 ?_))
 refine A4 (A3 (A5 Z Z) Z (A3 (A5 Z Z) Z (A7 ?_)))
 refine k1 (k3 ?_)
 refine E1 (X:=Nat) (fun p=>([(1,C0 n),(2,.s (.one (.ref 2 0))),(5,I3 (.int .u8 (C91 r).toNat)),(6,.s (.one (.buf 730 UInt8 1 u8C (P2 p r)))),(17,C0 n),(18,C0 p)],[(2,.box (pRow r).s1.cells),(730,.spare (P2 p r).length 1 5)])) (fun p=>p≤n) (fun p=>n - p) 0 (Nat.zero_le _) (K60 ⟨le1 rfl,le1 rfl,le1 rfl,le1 rfl,le1 rfl,le1 rfl,trivial⟩ ⟨rfl,rfl,trivial⟩) ?_
 intro p hp
 dsimp only at hp ⊢
 have hml:=W5 p r
 have hsucc:=H80 p r
 refine k2 ?_
 refine A4 (A3 (E6 Z Z) Z (A7 ?_))
 refine k1 (k2 ?_)
 refine B4 rfl (fun ht=>?_) (fun ht=>?_)
 ·have hlt:p < n:=by have:=A0 ht;omega
  refine k5 (k1 (k2 (k3 (k2 ?_))))
  refine A4 (A3 (A5 Z Z) Z (A3 (A6 Z Z) Z (A7 ?_)))
  refine k1 (k2 ?_)
  refine A4 (A3 (A8 Z) Z (A3 (A9 Z Z Z) Z (A3 (A5 Z Z) Z (A3 (C08 Z Z (by omega)) Z (A3 (d6 Z Z Z (fun _=>rfl)) Z (A3 (I1 Z Z) Z (A7 ?_)))))))
  refine k1 ?_
  have h3:0≤r.Marks / 2 ^ p:=Int.ediv_nonneg hm.1 (Int.pow_nonneg (by decide))
  have h4:r.Marks / 2 ^ p≤r.Marks:=Int.ediv_le_self _ hm.1
  have e32:r.Marks.fdiv (2 ^ (min (p:Int).toNat IntKind.u32.bits))=r.Marks / 2 ^ p:=I89 r.Marks p (by omega)
  have e1:=H46 (r.Marks / 2 ^ p) (by omega)
  refine B4 rfl (fun ht=>?_) (fun ht=>?_)
  ·rw [e32,e1] at ht
   have hb:U6 r.Marks p=true:=by unfold U6;simpa using ht
   have hmk:A58 r p=C91 r:=by unfold A58 C91;rw [hb,if_neg (by decide)]
   rw [hmk] at hsucc
   skip
   refine A4 (A3 (A5 Z Z) Z (A3 (A5 Z Z) Z (A3 (E4 (c:=u8C) (ys:=[C91 r]) (F3 Z Z Z Z I6) Z Z Z) Z (C7 (L0 Z Z Z (.pure _ _ _ _) (by (simp only [K99,L02];omega)) Z) Z (A3 (A6 Z Z) Z (A7 ?_))))))
   refine k4 (k1 ?_)
   refine A4 (A3 (C6 Z Z (by omega)) Z (A3 (A5 Z Z) Z (A7 ?_)))
   refine k1 ?_
   refine ⟨p+1,by omega,by omega,?_⟩
   rw [hsucc]
   exact K60 ⟨le1 rfl,le1 rfl,le1 rfl,le1 rfl,le1 rfl,le1 rfl,trivial⟩ ⟨rfl,rfl,trivial⟩
  ·rw [e32,e1] at ht
   have hb:U6 r.Marks p=false:=by unfold U6;simpa using ht
   have hmk:A58 r p=32:=by unfold A58;rw [if_pos hb]
   rw [hmk] at hsucc
   skip
   refine A4 (A3 (A5 Z Z) Z (A3 (E4 (c:=u8C) (ys:=[32]) (F3 Z Z Z Z I6) Z Z Z) Z (C7 (L0 Z Z Z (.pure _ _ _ _) (by (simp only [K99,L02];omega)) Z) Z (A3 (A6 Z Z) Z (A7 ?_)))))
   refine k4 (k1 ?_)
   refine A4 (A3 (C6 Z Z (by omega)) Z (A3 (A5 Z Z) Z (A7 ?_)))
   refine k1 ?_
   refine ⟨p+1,by omega,by omega,?_⟩
   rw [hsucc]
   exact K60 ⟨le1 rfl,le1 rfl,le1 rfl,le1 rfl,le1 rfl,le1 rfl,trivial⟩ ⟨rfl,rfl,trivial⟩
 ·have hpn:p=n:=by have:=A1 ht;omega
  subst hpn
  refine k6 (k2 ?_)
  refine A4 (A3 (A5 Z Z) Z (A3 (A8 Z) Z (A3 (A9 Z Z Z) Z (C7 (C33 TyStr.out Z Z Z (by omega) Z) Z (A3 (A6 Z Z) Z (A7 ?_))))))
  refine k1 (k2 (k2 ?_))
  refine A4 (A3 (A8 Z) Z (A3 (A9 Z Z Z) Z (C1 (B91 r.Text (by omega)) Z Z Z ?_)));rintro _ rfl;refine A3 (F0 Z) Z (A7 ?_)
  refine k1 ?_
  refine B4 rfl (fun ht=>?_) (fun ht=>?_)
  ·have h:ended r.Text=false:=by simpa using ht
   skip
   refine A4 (A3 (A5 Z Z) Z (C7 (C33 TyStr.out Z Z Z (by (simp only [K96,K99,L02];omega)) Z) Z (A3 (A6 Z Z) Z (A7 ?_))))
   refine k1 (k2 ?_)
   refine A4 (A3 (A5 Z Z) Z (A3 (l8 TyStr.out Z (.buf _ _ _ _ _)) Z (A3 (A6 Z Z) Z (A7 ?_))))
   refine k1 (k10 ?_)
   exact B8 (I2 rfl rfl rfl) (by rw [h,if_neg (by decide)];rfl)
  ·have h:ended r.Text=true:=by simpa using ht
   refine k5 (k1 (k2 ?_))
   refine A4 (A3 (A5 Z Z) Z (A3 (l8 TyStr.out Z (.buf _ _ _ _ _)) Z (A3 (A6 Z Z) Z (A7 ?_))))
   refine k1 (k10 ?_)
   exact B8 (I2 rfl rfl rfl) (by rw [if_pos h,L21])
structure CFit (c:Comb):Prop where
 par:0≤c.Parents∧c.Parents≤32
 path:c.Path.length≤4194304
 sz:szC c.Hunks≤268435456
 rows:∀h∈c.Hunks,K3 h.Rows
 ats:∀h∈c.Hunks,h.At.length=c.Parents.toNat+1∧∀a∈h.At,-4611686018427387904≤a∧a≤4611686018427387904
theorem K12 (c:Comb) (hc:CFit c):FnOk Tryz.prog 96 [N4 c] (fun rs=>rs=[F2 (S0 c).length]):=by
 obtain ⟨h1,h2,h3,h4,h5⟩:=hc
 have hzl:=C03 c.Hunks
 have hm29:markS.length=29:=rfl
 obtain ⟨n,hN⟩:∃n,n=c.Parents.toNat:=⟨_,rfl⟩
 have hNc:c.Parents=(n:Int):=by omega
 have hn:n≤32:=by omega
 have hct:=fun k=>J02 c (by omega) k
 have hcs:=fun k h=>H77 c k h
 rw [←hN] at h5 hcs
 refine FnOk.intro Tryz.func96 (by decide) Z Z Z Z ?_
 refine k2 ?_
 refine A4 (C7 (R1 1 Z Z Z) Z (A3 (A6 Z Z) Z (A7 ?_)))
 refine k1 (k2 ?_)
 refine A4 (A3 (D5 Z Z Z) Z (C1 (F95 c (by omega)) Z Z Z ?_));rintro _ rfl;refine A3 (E7 Z) Z (A3 (A6 Z Z) Z (A7 ?_))
 refine k1 (k2 (k2 ?_))
 refine A4 (A3 (A8 Z) Z (A3 (A9 Z Z Z) Z (A3 (F1 Z (.pure _ _ _ _)) Z (A3 (A5 Z Z) Z (A7 ?_)))))
 refine k1 (k3 ?_)
 refine E1 (X:=Nat) (fun k=>([(1,.s (.one (.ref 1 0))),(3,C0 (cTo c k).length),(12,D2 CHunk 2 L2 c.Hunks),(13,C0 c.Hunks.length),(14,C0 k)],[(1,E07 c)])) (fun k=>k≤c.Hunks.length) (fun k=>c.Hunks.length - k) 0 (Nat.zero_le _) (by rw [F15];exact K60 ⟨le1 rfl,le1 rfl,le1 rfl,le1 rfl,le1 rfl,trivial⟩ ⟨rfl,trivial⟩) ?_
 intro k hk
 dsimp only at hk ⊢
 have hck:=hct k
 refine k2 ?_
 refine A4 (A3 (E6 Z Z) Z (A7 ?_))
 refine k1 (k2 ?_)
 refine B4 rfl (fun ht=>?_) (fun ht=>?_)
 ·have hlt:k < c.Hunks.length:=by have:=A0 ht;omega
  have hv:c.Hunks[k]?=some c.Hunks[k]:=by simp [hlt]
  have hmem:=L15 hlt
  have hrw:=h4 _ hmem
  have hat:=h5 _ hmem
  have hzm:=C02 hmem
  have hsucc:=hcs k hlt
  obtain ⟨h,hx⟩:∃x,x=c.Hunks[k]:=⟨_,rfl⟩
  rw [←hx] at hv hrw hat hzm hsucc
  have hz1:=j6 h.Rows
  have hz2:=C57 h.Rows
  unfold D13 at hzm
  have hh:=E70 h n hn hrw (by omega) hat.1 hat.2
  rw [←hNc] at hh
  have hhl:=D60 hn h
  obtain ⟨base,hbase⟩:∃base,base=(cTo c k).length:=⟨_,rfl⟩
  have hcl:=congrArg List.length hsucc
  rw [K96,G17,K96,←hbase] at hcl
  rw [←hbase] at hck ⊢
  obtain ⟨hd,hhd⟩:∃hd,hd=Y8 n h++[10]:=⟨_,rfl⟩
  have hdl:hd.length≤926:=by rw [hhd,K96];simp only [K99,L02];omega
  rw [←hhd] at hh hcl
  refine k5 (k1 (k2 (k3 (k2 ?_))))
  refine A4 (A3 (B9 Z (.pure _ _ _ _) Z (by omega) hv) Z (A3 (F4 Z Z) Z (C7 (F9 5 Z) Z (E5 (B7 TySz.out Z Z Z Z Z Z) (A7 ?_)))))
  refine k1 (k2 ?_)
  refine A4 (A3 (A5 Z Z) Z (A3 (D5 Z Z Z) Z (A3 (A8 Z) Z (A3 (A9 Z Z Z) Z (C1 (hh) Z Z Z ?_)))));rintro _ rfl;refine A3 (E7 Z) Z (A3 (C6 Z Z (by omega)) Z (A3 (A6 Z Z) Z (A7 ?_)))
  refine k1 (k2 ?_)
  refine A4 (A3 (A8 Z) Z (A3 (A9 Z Z Z) Z (A3 (F1 Z (.pure _ _ _ _)) Z (A3 (A5 Z Z) Z (A7 ?_)))))
  refine k1 (k3 ?_)
  refine E1 (X:=Nat) (fun j=>([(1,.s (.one (.ref 1 0))),(3,C0 (base+hd.length+(rTo n h.Rows j).length:Nat)),(12,D2 CHunk 2 L2 c.Hunks),(13,C0 c.Hunks.length),(14,C0 k),(26,D2 Row 3 rowC h.Rows),(27,C0 h.Rows.length),(28,C0 j)],[(1,E07 c)])) (fun j=>j≤h.Rows.length) (fun j=>h.Rows.length - j) 0 (Nat.zero_le _) ?_ ?_
  ·have e:((base+hd.length+(rTo n h.Rows 0).length:Nat):Int)=(base:Int)+(hd.length:Int):=by rw [H78];simp
   rw [e]
   exact K60 ⟨le1 rfl,le1 rfl,le1 rfl,le1 rfl,le1 rfl,le1 rfl,le1 rfl,le1 rfl,trivial⟩ ⟨rfl,trivial⟩
  intro j hj
  dsimp only at hj ⊢
  have hrl:=J00 hn h.Rows j
  refine k2 ?_
  refine A4 (A3 (E6 Z Z) Z (A7 ?_))
  refine k1 (k2 ?_)
  refine B4 rfl (fun ht=>?_) (fun ht=>?_)
  ·have hlt2:j < h.Rows.length:=by have:=A0 ht;omega
   have hv2:h.Rows[j]?=some h.Rows[j]:=by simp [hlt2]
   have hrm:=D59 (L15 hlt2)
   have hsucc2:=H79 n h.Rows j hlt2
   obtain ⟨r,hy⟩:∃x,x=h.Rows[j]:=⟨_,rfl⟩
   rw [←hy] at hv2 hrm hsucc2
   have hrm:r.Text.length+96≤(h.Rows.map Q6).sum:=hrm
   have hl2:=congrArg List.length hsucc2
   have hml:=W5 n r
   rw [K96,F19,K96,K96,hml] at hl2
   refine k5 (k1 (k2 (k3 (k2 ?_))))
   refine A4 (A3 (B9 Z (.pure _ _ _ _) Z (by omega) hv2) Z (A3 (F4 Z Z) Z (C7 (F9 7 Z) Z (E5 (B7 TySz.out Z Z Z Z Z Z) (A7 ?_)))))
   refine k1 (k2 ?_)
   refine A4 (A3 (A5 Z Z) Z (A3 (A8 Z) Z (A3 (A9 Z Z Z) Z (A3 (A8 Z) Z (A3 (A9 Z Z Z) Z (A3 (E7 Z) Z (A3 (C6 Z Z (by omega)) Z (A3 (C6 Z Z (by omega)) Z (A3 (A6 Z Z) Z (A7 ?_))))))))))
   refine k1 (k2 ?_)
   refine A4 (A3 (A8 Z) Z (A3 (A9 Z Z Z) Z (C1 (B91 r.Text (by omega)) Z Z Z ?_)));rintro _ rfl;refine A3 (F0 Z) Z (A7 ?_)
   refine k1 ?_
   refine B4 rfl (fun ht=>?_) (fun ht=>?_)
   ·have h2:ended r.Text=false:=by simpa using ht
    rw [h2,if_neg (by decide),hm29] at hl2
    have e:((base+hd.length+(rTo n h.Rows (j+1)).length:Nat):Int)=((base+hd.length+(rTo n h.Rows j).length:Nat):Int)+(c.Parents+(r.Text.length:Int))+29:=by omega
    skip
    refine A4 (A3 (A5 Z Z) Z (A3 (C6 Z Z (by omega)) Z (A3 (A6 Z Z) Z (A7 ?_))))
    refine k4 (k1 ?_)
    refine A4 (A3 (C6 Z Z (by omega)) Z (A3 (A5 Z Z) Z (A7 ?_)))
    refine k1 ?_
    refine ⟨j+1,by omega,by omega,?_⟩
    rw [e]
    exact K60 ⟨le1 rfl,le1 rfl,le1 rfl,le1 rfl,le1 rfl,le1 rfl,le1 rfl,le1 rfl,trivial⟩ ⟨rfl,trivial⟩
   ·have h2:ended r.Text=true:=by simpa using ht
    rw [if_pos h2,L02] at hl2
    have e:((base+hd.length+(rTo n h.Rows (j+1)).length:Nat):Int)=((base+hd.length+(rTo n h.Rows j).length:Nat):Int)+(c.Parents+(r.Text.length:Int)):=by omega
    refine k5 (k4 (k1 ?_))
    refine A4 (A3 (C6 Z Z (by omega)) Z (A3 (A5 Z Z) Z (A7 ?_)))
    refine k1 ?_
    refine ⟨j+1,by omega,by omega,?_⟩
    rw [e]
    exact K60 ⟨le1 rfl,le1 rfl,le1 rfl,le1 rfl,le1 rfl,le1 rfl,le1 rfl,le1 rfl,trivial⟩ ⟨rfl,trivial⟩
  ·have hjl:j=h.Rows.length:=by have:=A1 ht;omega
   subst hjl
   have e:base+hd.length+(rTo n h.Rows h.Rows.length).length=(cTo c (k+1)).length:=by omega
   rw [e]
   refine k6 (k7 (k7 (k8 Z (k4 (k1 ?_)))))
   refine A4 (A3 (C6 Z Z (by omega)) Z (A3 (A5 Z Z) Z (A7 ?_)))
   refine k1 ?_
   exact ⟨k+1,by omega,by omega,K60 ⟨le1 rfl,le1 rfl,le1 rfl,le1 rfl,le1 rfl,trivial⟩ ⟨rfl,trivial⟩⟩
 ·have hkl:k=c.Hunks.length:=by have:=A1 ht;omega
  subst hkl
  rw [F16]
  refine k6 (k2 ?_)
  refine A4 (A3 (A5 Z Z) Z (A3 (A6 Z Z) Z (A7 ?_)))
  refine k1 (k10 ?_)
  exact B8 (I2 rfl rfl rfl) rfl
theorem F96 {c:Comb} (hp:c.Path.length≤4194304) (hn:1≤c.Parents∧c.Parents≤32) (hz:szC c.Hunks≤268435456) (hr:∀h∈c.Hunks,K3 h.Rows) (hg:W0 c.Parents.toNat c.Hunks=true):CFit c:=by
 refine ⟨by omega,hp,hz,hr,fun h hm=>?_⟩
 unfold W0 at hg
 rw [K98] at hg
 obtain ⟨a1,a2,a3⟩:=D58 c.Hunks _ (fun k hk=>by rw [L00,List.getElem?_replicate_of_lt hk];exact Int.le_refl _) hg.1 h hm
 refine ⟨a1,fun a ha=>?_⟩
 obtain ⟨k,hk,rfl⟩:=List.getElem_of_mem ha
 have h1:=a3 k (by omega)
 have h2:=F11 h.Rows c.Parents.toNat k
 have e:h.At.getD k 0=h.At[k]:=by rw [L00,K97 hk];rfl
 rw [e] at h1
 omega
theorem D42 (c:Comb) (hz:szC c.Hunks≤268435456) (hr:∀h∈c.Hunks,K3 h.Rows):FnOk Tryz.prog 43 [N4 c] (fun rs=>rs=[F2 (J1 c)]):=by
 refine FnOk.intro Tryz.func43 (by decide) Z Z Z Z ?_
 refine k2 ?_
 refine A4 (C7 (R1 1 Z Z Z) Z (A3 (A6 Z Z) Z (A7 ?_)))
 refine k1 (k2 (k3 (k2 ?_)))
 refine A4 (A3 (A8 Z) Z (A3 (A9 Z Z Z) Z (C1 (D41 c.Path) Z Z Z ?_)));rintro _ rfl;refine A3 (F0 Z) Z (A3 (A6 Z Z) Z (A7 ?_))
 refine k1 ?_
 refine B4 rfl (fun ht=>?_) (fun ht=>?_)
 ·have h:V2 c.Path=false:=by simpa using ht
  refine k2 ?_
  refine A4 (A3 (A6 Z Z) Z (A7 ?_))
  refine k1 (k10 (k12 (k11 ?_)))
  exact B8 (I2 rfl rfl rfl) (by unfold J1;rw [if_pos h])
 have h:V2 c.Path=true:=by simpa using ht
 have hpl:=A0 h
 refine k2 ?_
 refine A4 (A3 (A8 Z) Z (A3 (A9 Z Z Z) Z (A3 (E6 Z Z) Z (A3 (A5 Z Z) Z (B0 Z Z Z Z (fun hg=>by rw [hg];exact A8 Z) ?_)))));refine B0 Z Z Z Z (fun hg=>by rw [hg];exact A9 Z Z Z) ?_;refine B0 Z Z Z Z (fun hg=>by rw [hg];exact R5 Z Z) ?_;refine A3 (B5 Z (fun h=>by first | rfl | (rw [h];rfl)) (fun h=>by first | rfl | (rw [h];rfl))) Z ?_;refine A3 (A6 Z Z) Z (A7 ?_)
 refine k1 ?_
 refine B4 rfl (fun ht=>?_) (fun ht=>?_)
 ·have h1:=A0 (or_pick.symm.trans ht)
  refine k2 ?_
  refine A4 (A3 (A6 Z Z) Z (A7 ?_))
  refine k1 (k10 (k12 (k11 ?_)))
  exact B8 (I2 rfl rfl rfl) (by unfold J1;rw [if_neg (by rw [h];decide),if_pos (by omega)])
 have h1:=A1 (or_pick.symm.trans ht)
 have hn:1≤c.Parents∧c.Parents≤32:=by omega
 refine k2 ?_
 refine A4 (A3 (D5 Z Z Z) Z (C1 (I23 c hn hr hz) Z Z Z ?_));rintro _ rfl;refine A3 (F0 Z) Z (A3 (A6 Z Z) Z (A7 ?_))
 refine k1 ?_
 refine B4 rfl (fun ht=>?_) (fun ht=>?_)
 ·have h2:x5 c.Parents.toNat c.Hunks=false:=by simpa using ht
  refine k2 ?_
  refine A4 (A3 (A6 Z Z) Z (A7 ?_))
  refine k1 (k10 (k12 (k11 ?_)))
  exact B8 (I2 rfl rfl rfl) (by unfold J1;rw [if_neg (by rw [h];decide),if_neg (by omega),if_pos h2])
 have h2:x5 c.Parents.toNat c.Hunks=true:=by simpa using ht
 have hw:=K11 c hn hr hz
 rw [H68 (by omega) h2] at hw
 refine k2 ?_
 refine A4 (A3 (D5 Z Z Z) Z (C1 (hw) Z Z Z ?_));rintro _ rfl;refine A3 (F0 Z) Z (A3 (A6 Z Z) Z (A7 ?_))
 refine k1 ?_
 refine B4 rfl (fun ht=>?_) (fun ht=>?_)
 ·have h3:W0 c.Parents.toNat c.Hunks=false:=by simpa using ht
  refine k2 ?_
  refine A4 (A3 (A6 Z Z) Z (A7 ?_))
  refine k1 (k10 (k12 (k11 ?_)))
  exact B8 (I2 rfl rfl rfl) (by unfold J1;rw [if_neg (by rw [h];decide),if_neg (by omega),if_neg (by rw [h2];decide),if_pos h3])
 have h3:W0 c.Parents.toNat c.Hunks=true:=by simpa using ht
 refine k2 ?_
 refine A4 (A3 (D5 Z Z Z) Z (C1 (K12 c (F96 (by omega) hn hz hr h3)) Z Z Z ?_));rintro _ rfl;refine A3 (R5 Z Z) Z (A3 (A6 Z Z) Z (A7 ?_))
 refine k1 ?_
 refine B4 rfl (fun ht=>?_) (fun ht=>?_)
 ·have h4:=A0 ht
  refine k2 ?_
  refine A4 (A3 (A6 Z Z) Z (A7 ?_))
  refine k1 (k10 (k12 (k11 ?_)))
  exact B8 (I2 rfl rfl rfl) (by unfold J1;rw [if_neg (by rw [h];decide),if_neg (by omega),if_neg (by rw [h2];decide),if_neg (by rw [h3];decide),if_pos (by omega)])
 have h4:=A1 ht
 refine k5 (k2 ?_)
 refine A4 (A3 (A6 Z Z) Z (A7 ?_))
 refine k1 (k10 ?_)
 exact B8 (I2 rfl rfl rfl) (by unfold J1;rw [if_neg (by rw [h];decide),if_neg (by omega),if_neg (by rw [h2];decide),if_neg (by rw [h3];decide),if_neg (by omega)])
theorem E71 {c:Comb} (h:J1 c=0) (hz:szC c.Hunks≤268435456) (hr:∀h∈c.Hunks,K3 h.Rows):CFit c:=by
 obtain ⟨h1,h2,h3,h4,h5⟩:=B21 h
 have hp:=A0 h5
 have hg:W0 c.Parents.toNat c.Hunks=true:=by
  cases hb:W0 c.Parents.toNat c.Hunks with
  | true=>rfl
  | false =>
   exfalso
   unfold J1 at h
   rw [hb] at h
   rw [if_neg (by rw [h5];decide),if_neg (by omega)] at h
   split at h
   ·cases h
   ·cases h
 exact F96 (by omega) (by omega) hz hr hg
theorem E72 (c:Comb) (hz:szC c.Hunks≤268435456) (hr:∀h∈c.Hunks,K3 h.Rows):FnOk Tryz.prog 42 [N4 c] (fun rs=>rs=if J1 c=0 then [G7 (S0 c),F2 0] else [G7 [],F2 (J1 c)]):=by
 by_cases hck:J1 c=0
 rotate_left
 ·rw [if_neg hck]
  refine FnOk.intro Tryz.func42 (by decide) Z Z Z Z ?_
  refine k2 ?_
  refine A4 (C7 (R1 1 Z Z Z) Z (A3 (A6 Z Z) Z (A3 (A6 Z Z) Z (A7 ?_))))
  refine k1 (k2 (k2 ?_))
  refine A4 (A3 (D5 Z Z Z) Z (C1 (D42 c hz hr) Z Z Z ?_));rintro _ rfl;refine A3 (A6 Z Z) Z (A7 ?_)
  refine k1 (k2 ?_)
  refine A4 (A3 (A5 Z Z) Z (A3 (O6 Z Z) Z (A7 ?_)))
  refine k1 ?_
  refine B4 rfl (fun ht=>?_) (fun ht=>?_)
  rotate_left
  ·exact absurd (Decidable.not_not.1 (A1 ht)) hck
  refine k2 ?_
  refine A4 (A3 (A5 Z Z) Z (A3 (A6 Z Z) Z (A3 (A6 Z Z) Z (A7 ?_))))
  refine k1 (k10 (k11 ?_))
  exact B8 (j9 rfl rfl rfl rfl rfl) rfl
 rw [if_pos hck]
 have hcc:=D42 c hz hr
 rw [hck] at hcc
 obtain ⟨h1,h2,_,h4,h5⟩:=E71 hck hz hr
 have hzl:=C03 c.Hunks
 obtain ⟨n,hN⟩:∃n,n=c.Parents.toNat:=⟨_,rfl⟩
 have hNc:c.Parents=(n:Int):=by omega
 have hn:n≤32:=by omega
 have hct:=fun k=>J02 c (by omega) k
 have hcs:=fun k h=>H77 c k h
 rw [←hN] at h5 hcs
 refine FnOk.intro Tryz.func42 (by decide) Z Z Z Z ?_
 refine k2 ?_
 refine A4 (C7 (R1 1 Z Z Z) Z (A3 (A6 Z Z) Z (A3 (A6 Z Z) Z (A7 ?_))))
 refine k1 (k2 (k2 ?_))
 refine A4 (A3 (D5 Z Z Z) Z (C1 (hcc) Z Z Z ?_));rintro _ rfl;refine A3 (A6 Z Z) Z (A7 ?_)
 refine k1 (k2 ?_)
 refine A4 (A3 (A5 Z Z) Z (A3 (O6 Z Z) Z (A7 ?_)))
 refine k1 ?_
 refine B4 rfl (fun ht=>?_) (fun ht=>?_)
 ·cases ht
 refine k5 (k1 (k2 ?_))
 refine A4 (C7 (E35 700 Z) Z (A7 ?_))
 refine k1 (k2 ?_)
 refine E8 (K73 701 UInt8 1 u8C 5 (kb:=700) (o:=1) Z Z Z) ?_
 have hct0:=hct 0
 rw [F15] at hct0
 refine A4 (A3 (D5 Z Z Z) Z (C1 (F95 c (by omega)) Z Z Z ?_));rintro _ rfl;refine T3 (P5 (xs:=[]) (s:=B24 c) ⟨⟨_,.inl rfl,rfl⟩,rfl⟩ (by simp only [L02];omega)) Z Z Z ?_;rintro _ _ ⟨rfl,rfl⟩;refine A7 ?_
 refine k1 (k2 (k2 ?_))
 refine A4 (A3 (A8 Z) Z (A3 (A9 Z Z Z) Z (A3 (F1 Z (.pure _ _ _ _)) Z (A3 (A5 Z Z) Z (A7 ?_)))))
 refine k1 (k3 ?_)
 refine E1 (X:=Nat) (fun k=>([(1,.s (.one (.ref 1 0))),(5,.s (.one (.ref 700 0))),(19,D2 CHunk 2 L2 c.Hunks),(20,C0 c.Hunks.length),(21,C0 k)],[(1,E07 c),(700,.tbx 144 [.ref 700 0,.buf 701 UInt8 1 u8C (cTo c k)]),(701,.spare (cTo c k).length 1 5)])) (fun k=>k≤c.Hunks.length) (fun k=>c.Hunks.length - k) 0 (Nat.zero_le _) (by rw [F15];exact K60 ⟨le1 rfl,le1 rfl,le1 rfl,le1 rfl,le1 rfl,trivial⟩ ⟨rfl,rfl,rfl,trivial⟩) ?_
 intro k hk
 dsimp only at hk ⊢
 have hck:=hct k
 refine k2 ?_
 refine A4 (A3 (E6 Z Z) Z (A7 ?_))
 refine k1 (k2 ?_)
 refine B4 rfl (fun ht=>?_) (fun ht=>?_)
 ·have hlt:k < c.Hunks.length:=by have:=A0 ht;omega
  have hv:c.Hunks[k]?=some c.Hunks[k]:=by simp [hlt]
  have hmem:=L15 hlt
  have hrw:=h4 _ hmem
  have hat:=h5 _ hmem
  have hzm:=C02 hmem
  have hsucc:=hcs k hlt
  obtain ⟨h,hx⟩:∃x,x=c.Hunks[k]:=⟨_,rfl⟩
  rw [←hx] at hv hrw hat hzm hsucc
  have hz1:=j6 h.Rows
  have hz2:=C57 h.Rows
  unfold D13 at hzm
  have hh:=E70 h n hn hrw (by omega) hat.1 hat.2
  rw [←hNc] at hh
  have hhl:=D60 hn h
  obtain ⟨base,hbase⟩:∃base,base=cTo c k:=⟨_,rfl⟩
  rw [G17,←hbase] at hsucc
  rw [←hbase] at hck ⊢
  obtain ⟨hd,hhd⟩:∃hd,hd=Y8 n h++[10]:=⟨_,rfl⟩
  have hdl:hd.length≤926:=by rw [hhd,K96];simp only [K99,L02];omega
  rw [←hhd] at hh hsucc
  refine k5 (k1 (k2 (k3 (k2 ?_))))
  refine A4 (A3 (B9 Z (.pure _ _ _ _) Z (by omega) hv) Z (A3 (F4 Z Z) Z (C7 (F9 7 Z) Z (E5 (B7 TySz.out Z Z Z Z Z Z) (A7 ?_)))))
  refine k1 (k2 ?_)
  refine A4 (A3 (D5 Z Z Z) Z (A3 (A8 Z) Z (A3 (A9 Z Z Z) Z (C1 (hh) Z Z Z ?_))));rintro _ rfl;refine T3 (P5 (xs:=base) (s:=hd) ⟨⟨_,.inr rfl,rfl⟩,rfl⟩ (by omega)) Z Z Z ?_;rintro _ _ ⟨rfl,rfl⟩;refine A7 ?_
  refine k1 (k2 ?_)
  refine A4 (A3 (A8 Z) Z (A3 (A9 Z Z Z) Z (A3 (F1 Z (.pure _ _ _ _)) Z (A3 (A5 Z Z) Z (A7 ?_)))))
  refine k1 (k3 ?_)
  refine E1 (X:=Nat) (fun j=>([(1,.s (.one (.ref 1 0))),(5,.s (.one (.ref 700 0))),(19,D2 CHunk 2 L2 c.Hunks),(20,C0 c.Hunks.length),(21,C0 k),(31,D2 Row 3 rowC h.Rows),(32,C0 h.Rows.length),(33,C0 j)],[(1,E07 c),(700,.tbx 144 [.ref 700 0,.buf 701 UInt8 1 u8C (base++hd++rTo n h.Rows j)]),(701,.spare (base++hd++rTo n h.Rows j).length 1 5)])) (fun j=>j≤h.Rows.length) (fun j=>h.Rows.length - j) 0 (Nat.zero_le _) ?_ ?_
  ·rw [H78,L21]
   exact K60 ⟨le1 rfl,le1 rfl,le1 rfl,le1 rfl,le1 rfl,le1 rfl,le1 rfl,le1 rfl,trivial⟩ ⟨rfl,rfl,rfl,trivial⟩
  intro j hj
  dsimp only at hj ⊢
  have hrl:=J00 hn h.Rows j
  refine k2 ?_
  refine A4 (A3 (E6 Z Z) Z (A7 ?_))
  refine k1 (k2 ?_)
  refine B4 rfl (fun ht=>?_) (fun ht=>?_)
  ·have hlt2:j < h.Rows.length:=by have:=A0 ht;omega
   have hv2:h.Rows[j]?=some h.Rows[j]:=by simp [hlt2]
   have hmem2:=L15 hlt2
   have hrm:=D59 hmem2
   have hmm:=hrw _ hmem2
   have hsucc2:=H79 n h.Rows j hlt2
   obtain ⟨r,hy⟩:∃x,x=h.Rows[j]:=⟨_,rfl⟩
   rw [←hy] at hv2 hrm hsucc2 hmm
   have hrp:=G16 hn r
   have hrk:=crow_ok r n hn hmm (by have hrm:r.Text.length+96≤(h.Rows.map Q6).sum:=hrm;omega)
   rw [←hNc] at hrk
   obtain ⟨bs,hbs⟩:∃bs,bs=base++hd++rTo n h.Rows j:=⟨_,rfl⟩
   have hbl:bs.length≤16777216+48+268435456+926+268435456:=by rw [hbs,K96,K96];omega
   rw [←hbs]
   refine k5 (k1 (k2 (k3 (k2 ?_))))
   refine A4 (A3 (B9 Z (.pure _ _ _ _) Z (by omega) hv2) Z (A3 (F4 Z Z) Z (C7 (F9 9 Z) Z (E5 (B7 TySz.out Z Z Z Z Z Z) (A7 ?_)))))
   refine k1 ?_
   refine A4 (A3 (D5 Z Z Z) Z (A3 (A8 Z) Z (A3 (A9 Z Z Z) Z (C1 (hrk) Z Z Z ?_))));rintro _ rfl;refine T3 (P5 (xs:=bs) (s:=(A15 n r).flatten) ⟨⟨_,.inr rfl,rfl⟩,rfl⟩ (by omega)) Z Z Z ?_;rintro _ _ ⟨rfl,rfl⟩;refine A7 ?_
   refine k4 (k1 ?_)
   refine A4 (A3 (C6 Z Z (by omega)) Z (A3 (A5 Z Z) Z (A7 ?_)))
   refine k1 ?_
   refine ⟨j+1,by omega,by omega,?_⟩
   rw [hsucc2,←L09,←hbs]
   exact K60 ⟨le1 rfl,le1 rfl,le1 rfl,le1 rfl,le1 rfl,le1 rfl,le1 rfl,le1 rfl,trivial⟩ ⟨rfl,rfl,rfl,trivial⟩
  ·have hjl:j=h.Rows.length:=by have:=A1 ht;omega
   subst hjl
   have e:base++hd++rTo n h.Rows h.Rows.length=cTo c (k+1):=by rw [hsucc,L09]
   rw [e]
   refine k6 (k7 (k7 (k8 Z (k4 (k1 ?_)))))
   refine A4 (A3 (C6 Z Z (by omega)) Z (A3 (A5 Z Z) Z (A7 ?_)))
   refine k1 ?_
   exact ⟨k+1,by omega,by omega,K60 ⟨le1 rfl,le1 rfl,le1 rfl,le1 rfl,le1 rfl,trivial⟩ ⟨rfl,rfl,rfl,trivial⟩⟩
 ·have hkl:k=c.Hunks.length:=by have:=A1 ht;omega
  subst hkl
  rw [F16]
  refine k6 (k2 ?_)
  refine A4 (D26 (k:=700) (k':=701) ⟨_,rfl,rfl,rfl⟩ A66 Z Z Z Z Z (.inr Z) Z (A3 (A6 Z Z) Z (A3 (A6 Z Z) Z (A7 ?_))))
  refine k1 (k10 ?_)
  exact B8 (j9 rfl rfl rfl rfl rfl) rfl
end Go.Proofs.YtgejaedjnbjpoaaGreatDoor
