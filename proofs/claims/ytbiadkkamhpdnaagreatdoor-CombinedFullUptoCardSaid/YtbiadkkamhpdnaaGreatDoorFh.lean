/- Walks of the program's functions. -/
import Derived.Test.YtbiadkkamhpdnaaGreatDoorFg
import Derived.Test.YtbiadkkamhpdnaaGreatDoorFe
import Derived.Test.YtbiadkkamhpdnaaGreatDoorFs
import Derived.Test.YtbiadkkamhpdnaaGreatDoorFc
import Derived.Test.YtbiadkkamhpdnaaGreatDoorFa
import Derived.Test.YtbiadkkamhpdnaaGreatDoorFf
import Derived.Test.YtbiadkkamhpdnaaGreatDoorAn
set_option linter.unusedSimpArgs false
namespace Go.Proofs.YtbiadkkamhpdnaaGreatDoor
open Go Go.AL
set_option maxRecDepth 100000
set_option maxHeartbeats 1000000
end Go.Proofs.YtbiadkkamhpdnaaGreatDoor
namespace Go.Proofs.YtbiadkkamhpdnaaGreatDoor
open Go Go.AL
set_option maxRecDepth 100000
set_option maxHeartbeats 1000000
set_option maxHeartbeats 2000000
end Go.Proofs.YtbiadkkamhpdnaaGreatDoor
namespace Go.Proofs.YtbiadkkamhpdnaaGreatDoor
open Go Go.AL
set_option maxRecDepth 100000
set_option maxHeartbeats 1000000
set_option maxHeartbeats 1000000
set_option maxHeartbeats 1000000
def p5 (raw:List Int) (n:Int):List Str:=X7 raw (2+T7 n 4).toNat 7
theorem G06 (raw:List Int) (n:Int):∃x r,p5 raw n=x::r∧x.length≤140∧∀b∈r,b.length≤140:=by
 have hm:=g9 n (n:=4) (by omega)
 have hl:(p5 raw n).length=(2+T7 n 4).toNat:=by simp [p5,X7]
 have hb:∀b∈p5 raw n,b.length≤140:=by
  intro b hb
  obtain ⟨p,_,rfl⟩:=List.mem_map.1 hb
  have:=D59 raw 7 p (by omega);omega
 cases h:p5 raw n with
 | nil=>rw [h] at hl;simp at hl;omega
 | cons x r=>exact ⟨x,r,rfl,hb x (by rw [h];simp),fun b hb'=>hb b (by rw [h];simp [hb'])⟩
def A61 (path result:Str) (parents:List Str) (ctx:Int) (d:Bool):Comb × Int :=
 if R6 path=false then (comb0,120) else if (F3 result parents).2≠0 then (comb0,(F3 result parents).2) else
 if (O1 (F3 result parents).1 ctx d).2≠0 then (comb0,(O1 (F3 result parents).1 ctx d).2) else Y6 path (F3 result parents).1 (O1 (F3 result parents).1 ctx d).1 d
theorem G07:∀s∈lineTab,s.count 10=0:=by decide
theorem D69 (k:Int):(n7 k).count 10=0:=by
 unfold n7
 rw [J17]
 cases h:lineTab[(T7 k 10).toNat]? with
 | none=>rfl
 | some s=>exact G07 s (J30 h)
theorem E40 (raw:List Int) (from' kinds:Int) (m:Nat):(S7 raw from' kinds m).count 10=m:=by
 induction m with
 | zero=>simp [S7]
 | succ m ih=>rw [z8,List.count_append,List.count_append,ih,D69];rfl
theorem D70 (raw:List Int) (from' n kinds:Int) (h1:0≤n):((W1 raw from' n kinds).count 10:Int)≤n:=by
 have h:=g9 (i6 raw from') (n:=n+1) (by omega)
 have h2:=E40 raw from' kinds (T7 (i6 raw from') (n+1)).toNat
 have h3:=(List.take_sublist ((S7 raw from' kinds (T7 (i6 raw from') (n+1)).toNat).length - 1) (S7 raw from' kinds (T7 (i6 raw from') (n+1)).toNat)).count_le (a:=(10:UInt8))
 unfold W1
 simp only
 split
 ·omega
 ·omega
theorem A62 (raw:List Int) (from':Int):∀(l:List Str) (i:Nat) (s:Str),(i7 raw from' i s l).count 10≤s.count 10+l.flatten.count 10+l.length
 | [],i,s=>by simp [i7]
 | x::r,i,s=>by
  have h1:=A62 raw from' r (i+1) s
  have h2:=A62 raw from' r (i+1) (s++n7 (i6 raw (from'+40+(i:Int)))++[10]++x)
  have h3:=A62 raw from' r (i+1) (s++x)
  have h4:=D69 (i6 raw (from'+40+(i:Int)))
  have h5:List.count (10:UInt8) [10]=1:=rfl
  simp only [List.count_append,h4,h5] at h2 h3
  unfold i7
  simp only [J33,List.count_append,J16]
  split
  ·omega
  ·split<;>omega
theorem G94 (raw:List Int) (p:Nat):(n8 raw 7 p).count 10≤15:=by
 have h1:=D70 raw (600+50*(p:Int)) 7 4 (by omega)
 have h2:=D70 raw 0 7 5 (by omega)
 have h3:=A62 raw (600+50*(p:Int)) (B8 (W1 raw 0 7 5)) 0 []
 have h4:=D09 (W1 raw 0 7 5)
 rw [V3] at h3
 have h5:List.count (10:UInt8) ([]:Str)=0:=rfl
 unfold n8
 split
 ·omega
 ·split
  ·omega
  ·unfold B91;omega
theorem D71 (raw:List Int) (n:Int):∀b∈p5 raw n,(B8 b).length≤16∧b.length≤140:=by
 intro b hb
 obtain ⟨p,_,rfl⟩:=List.mem_map.1 hb
 have h1:=D59 raw 7 p (by omega)
 have h2:=G94 raw p
 have h3:=D09 (n8 raw 7 p)
 omega
theorem G08 (raw:List Int) (n:Int) {x:Str} {r:List Str} (h:p5 raw n=x::r):1≤r.length∧r.length≤4:=by
 have hm:=g9 n (n:=4) (by omega)
 have hl:(p5 raw n).length=(2+T7 n 4).toNat:=by simp [p5,X7]
 rw [h,J16] at hl
 omega
structure Small16 (x:Str) (r:List Str):Prop where
 n:r.length≤32
 hx:x.length≤140
 hr:∀b∈r,b.length≤140
 rows:L3 (F3 x r).1.Rows
 len:(F3 x r).1.Rows.length≤1105
 txt:∀q∈(F3 x r).1.Rows,q.Text.length≤140
theorem G95 {raw:List Int} {n:Int} {x:Str} {r:List Str} (h:p5 raw n=x::r):Small16 x r:=by
 have h1:=G08 raw n h
 have h2:=D71 raw n
 rw [h] at h2
 have hx:=h2 x (by simp)
 have hr:∀b∈r,(B8 b).length≤16∧b.length≤140:=fun b hb=>h2 b (by simp [hb])
 obtain ⟨k1,k2,k3⟩:=C44 x r 16 140 hx hr
 have h4:r.length*16+1≤65:=by omega
 exact ⟨by omega,hx.2,fun b hb=>(hr b hb).2,k1,by omega,k3⟩
theorem textsLen_le {rows:List Row} {B:Nat} (h:∀q∈rows,q.Text.length≤B):V6 rows≤rows.length*B∧(rows.map W5).sum≤rows.length*(B+96)∧∀n,(rows.map (C78 n)).sum≤rows.length*(B+n+29):=by
 unfold V6
 induction rows with
 | nil=>simp
 | cons x r ih =>
  obtain ⟨i1,i2,i3⟩:=ih fun q hq=>h q (by simp [hq])
  have hx:=h x (by simp)
  simp only [J24,J33,J15,J47,J16,J37,Nat.one_mul]
  simp only [Nat.mul_add] at i2 i3 ⊢
  refine ⟨by omega,by unfold W5 at i2 ⊢;omega,fun n=>?_⟩
  have:=i3 n
  unfold C78 at this ⊢
  omega
theorem Small16.sums {x:Str} {r:List Str} (h:Small16 x r):V6 (F3 x r).1.Rows≤154700∧((F3 x r).1.Rows.map W5).sum≤260780∧∀n,n≤32→((F3 x r).1.Rows.map (C78 n)).sum≤1105*201:=by
 obtain ⟨h1,h2,h3⟩:=textsLen_le h.txt
 have h4:=h.len
 refine ⟨by omega,by omega,fun n hn=>?_⟩
 refine Nat.le_trans (h3 n) ?_
 exact Nat.mul_le_mul h4 (by omega)
set_option maxHeartbeats 1000000
theorem H45 {n:Nat} {rows:List Row}:∀{sp:List Span} {e:Int} {hs:List CHunk},D68 rows.length e sp=false→n4 n rows e hs sp=none
 | [],e,hs,h=>by cases h
 | s::r,e,hs,h=>by
  rw [D68] at h
  rw [n4]
  by_cases hc:s.From < e∨s.To≤s.From∨(rows.length:Int) < s.To
  ·rw [if_pos hc]
  ·rw [if_neg hc] at h ⊢
   exact H45 h
abbrev z59:Ob:=.box [.p (.v (.string ⟨#[]⟩)),.p (.v (.bool false)),.p (.v (.int .i64 0)),.p (.v (.slice none 0 0))]
set_option maxHeartbeats 1000000
theorem H46 (path:Str) (t:Table) (sp:List Span) (d:Bool) (hr:L3 t.Rows) (hW:(t.Rows.map W5).sum≤8388608) (hx:V6 t.Rows≤8388608) (hsp:sp.length≤536870912) :
  FnOk Tryz.prog 98 [P8 path,pTable t,pSpans sp,N1 d] (fun rs=>rs=[U6 (Y6 path t sp d).1,J0 (Y6 path t sp d).2]):=by
 have hl:=r5 t.Rows
 have hll:t.Rows.length≤8388608:=by omega
 refine FnOk.intro Tryz.func98 (by decide) Z Z Z Z ?_
 refine k2 (A3 (C2 (T8 5 Z Z Z) Z (C2 (H3 8 Z) Z (A7 Z Z (A5 ?_)))));refine k1 (k2 (k2 (A3 (A4 Z Z (C6 (B47 path) Z Z Z ?_)))));rintro _ rfl;refine A6 (M3 Z) Z (A5 ?_);refine k1 ?_;refine B5 rfl (fun ht=>?_) (fun ht=>?_)
 ·have h:R6 path=false:=by simpa using ht
  refine k2 (A3 (A6 (I1 Z) Z (G1 (B7 TySz.out Z Z Z Z Z Z) (A7 Z Z (A5 ?_)))));refine k1 (H5 (I85 CHunk 2 Q8 8 3 Z Z) ?_)
  refine k10 (k11 ?_)
  exact B9 (rs:=[U6 comb0,J0 120]) (m8 rfl rfl rfl rfl rfl rfl rfl) (by unfold Y6;rw [if_pos h])
 have h:R6 path=true:=by simpa using ht
 refine k5 (k1 (k2 (k2 (A3 (A6 (D6 Z Z Z) Z (C6 (E71 t hr (by omega) (by omega)) Z Z Z ?_))))));rintro _ rfl;refine A7 Z Z (A5 ?_);refine k1 (k2 (A3 (A4 Z Z (A6 (O6 Z Z) Z (A5 ?_)))));refine k1 ?_;refine B5 rfl (fun ht=>?_) (fun ht=>?_)
 ·have h1:=A0 ht
  refine k2 (A3 (A6 (I1 Z) Z (A4 Z Z (G1 (B7 TySz.out Z Z Z Z Z Z) (A7 Z Z (A5 ?_))))));refine k1 (H5 (I85 CHunk 2 Q8 8 3 Z Z) ?_)
  refine k10 (k11 ?_)
  exact B9 (rs:=[U6 comb0,J0 (J2 t)]) (m8 rfl rfl rfl rfl rfl rfl rfl) (by unfold Y6;rw [if_neg (by rw [h];decide),if_pos h1])
 have h1:=A1 ht
 have h10:J2 t=0:=by omega
 obtain ⟨hn1,hn2⟩:=G03 h10
 obtain ⟨n,hn⟩:∃n:Nat,t.Parents=n:=⟨t.Parents.toNat,by omega⟩
 obtain ⟨tp,rows⟩:=t
 have hn:tp=(n:Int):=hn
 subst hn
 dsimp only at hr hW hx hl hll hn1 hn2
 have hcut:Y6 path ⟨n,rows⟩ sp d=match n4 n rows 0 [] sp with
  | none=>(comb0,3)
  | some hs=>if L5 ⟨path,d,(n:Int),hs⟩≠0 then (comb0,L5 ⟨path,d,(n:Int),hs⟩) else (⟨path,d,(n:Int),hs⟩,0):=by
  unfold Y6;rw [if_neg (by rw [h];decide),if_neg (by omega)];rfl
 rw [hcut]
 obtain ⟨W,hWd⟩:∃W,W=n4 n rows 0 [] sp:=⟨_,rfl⟩
 have hcs:∀hs,W=some hs→szC hs≤268435456∧∀x∈hs,L3 x.Rows:=fun hs e=>H44 (n:=n) (by omega) hr hW (by rw [←hWd];exact e)
 have hord0:=H45 (n:=n) (rows:=rows) (sp:=sp) (e:=0) (hs:=[])
 rw [←hWd] at hord0 ⊢
 refine k5 (k1 (k2 (k2 (A3 (A4 Z Z (A6 (A8 Z) Z (E9 Z Z Z Z (E4 Z Z (C6 (G02 sp rows.length hsp) Z Z Z ?_)))))))));rintro _ rfl;refine A6 (M3 Z) Z (A5 ?_);refine k1 ?_;refine B5 rfl (fun ht=>?_) (fun ht=>?_)
 ·have hno:D68 rows.length 0 sp=false:=by simpa using ht
  rw [hord0 hno]
  refine k2 (A3 (A6 (I1 Z) Z (G1 (B7 TySz.out Z Z Z Z Z Z) (A7 Z Z (A5 ?_)))));refine k1 (H5 (I85 CHunk 2 Q8 8 3 Z Z) ?_)
  refine k10 (k11 ?_)
  exact B9 (rs:=[U6 comb0,J0 3]) (m8 rfl rfl rfl rfl rfl rfl rfl) rfl
 have hord:D68 rows.length 0 sp=true:=by simpa using ht
 refine k5 (k1 (k2 (A3 (A4 Z Z (A4 Z Z (A6 (A8 Z) Z (E9 Z Z Z Z (A6 (I1 Z) Z (C2 (H3 11 Z) Z (G1 (B7 TySz.out Z Z Z Z Z Z) (A5 ?_)))))))))));refine H5 (I89 754 CHunk 2 Q8 59 (kb:=11) (o:=3) Z Z Z) ?_
 refine k2 ?_
 have e0:((n:Int)+1).toNat=n+1:=by omega
 have hz:List.replicate (n+1) (0:Int)=F7 (rows.take 0) n:=by
  refine List.ext_getElem (by simp [F7]) fun q h1 h2=>?_
  simp [F7,N7,M8]
 refine A3 (A6 (A8 Z) Z (E9 Z Z Z Z (C5 Z Z Z (C2 (W2 720 Int G3 0 Z Z (by omega) (by omega) (fun _=>by first | exact ⟨⟨rfl,rfl⟩,trivial⟩ | exact ⟨N3 _ _ _,trivial⟩) (by first | rfl | (simp [H6,I4,Ob.free,SV.free,S1.free,TC.free]<;>rfl))) Z ?_))));refine C2 (H3 12 Z) Z (G1 (B7 TySz.out Z Z Z Z Z Z) (A5 ?_))
 rw [e0,hz]
 refine k1 (k2 (A3 (C2 (H3 13 Z) Z (G1 (B7 TySz.out Z Z Z Z Z Z) (A5 ?_)))));refine k1 (k2 (A3 (A6 (z7 Z Z) Z (A7 Z Z (A5 ?_)))));refine k1 (k2 (k2 (A3 (A4 Z Z (E4 Z Z (A4 Z Z (A5 ?_)))))));refine k1 (k3 (D2 (X:=Nat × Nat × List CHunk) (fun x=>([(5,.s (.one (.ref 5 0))),(8,.s (.one (.ref 8 0))),(11,.s (.one (.ref 11 0))),(12,.s (.one (.ref 12 0))),(14,.s (.one (.clo 165 [] [(5,0),(13,0),(12,0)]))),(45,C0 Span 2 spanC sp),(46,B6 sp.length),(47,B6 x.1)],[(5,.box (pTable ⟨n,rows⟩).s1.cells),(8,z59),(11,.box [.p (.v (.string ⟨path.toArray⟩)),.p (.v (.bool d)),.p (.v (.int .i64 n)),.buf 754 CHunk 2 Q8 x.2.2]),(754,.spare x.2.2.length 2 59),(12,.box [.mut 720]),(13,i8 x.2.1),(720,.arr Int 1 G3 (F7 (rows.take x.2.1) n))])) (fun x=>x.1≤sp.length∧x.2.1≤rows.length∧x.2.2.length≤x.1∧W=n4 n rows x.2.1 x.2.2 (sp.drop x.1)∧D68 rows.length x.2.1 (sp.drop x.1)=true) (fun x=>sp.length - x.1) (0,0,[]) ⟨Nat.zero_le _,Nat.zero_le _,Nat.le_refl _,hWd,hord⟩ (I81 ⟨le1 rfl,le1 rfl,le1 rfl,le1 rfl,le1 rfl,le1 rfl,le1 rfl,le1 rfl,trivial⟩ ⟨rfl,rfl,rfl,rfl,rfl,rfl,rfl,trivial⟩) ?_))
 rintro ⟨k,e,hs⟩ ⟨hk,he,hsl,hp,ho⟩
 dsimp only at hk he hsl hp ho ⊢
 refine k2 (A3 (F4 Z Z Z (A5 ?_)));refine k1 (k2 ?_);refine B5 rfl (fun ht=>?_) (fun ht=>?_)
 rotate_left
 ·have hkl:k=sp.length:=by have:=A1 ht;omega
  rw [hkl,J23 (Nat.le_refl _)] at hp
  have hp:W=some hs:=hp
  obtain ⟨z1,z2⟩:=hcs hs hp
  rw [hp]
  dsimp only
  refine k6 (k2 (k2 (A3 (A6 (D6 Z Z Z) Z (C6 (C63 ⟨path,d,n,hs⟩ z1 z2) Z Z Z ?_)))));rintro _ rfl;refine A7 Z Z (A5 ?_);refine k1 (k2 (A3 (A4 Z Z (A6 (O6 Z Z) Z (A5 ?_)))));refine k1 ?_;refine B5 rfl (fun ht=>?_) (fun ht=>?_)
  ·have h2:=A0 ht
   refine k2 (A3 (A6 (I1 Z) Z (A4 Z Z (G1 (B7 TySz.out Z Z Z Z Z Z) (A7 Z Z (A5 ?_))))));refine k1 (H5 (I85 CHunk 2 Q8 8 3 Z Z) ?_)
   refine k10 (k11 ?_)
   exact B9 (rs:=[U6 comb0,J0 (L5 ⟨path,d,n,hs⟩)]) (m8 rfl rfl rfl rfl rfl rfl rfl) (by rw [if_pos h2])
  ·have h2:=A1 ht
   refine k5 (k1 (k2 (A3 (A6 (D6 Z Z Z) Z (G1 (B7 TySz.out Z Z Z Z Z Z) (A7 Z Z (A5 ?_)))))));refine k1 (k10 ?_)
   exact B9 (rs:=[U6 ⟨path,d,n,hs⟩,J0 0]) (m8 rfl rfl rfl rfl rfl rfl rfl) (by rw [if_neg h2])
 have hlt:k < sp.length:=by have:=A0 ht;omega
 have hv:sp[k]?=some sp[k]:=by simp [hlt]
 rw [J20 hlt,n4] at hp
 rw [J20 hlt,D68] at ho
 obtain ⟨s,hsd⟩:∃s,s=sp[k]:=⟨_,rfl⟩
 rw [←hsd] at hp hv ho
 have hc:¬(s.From < (e:Int)∨s.To≤s.From∨(rows.length:Int) < s.To):=by
  intro hc
  rw [if_pos hc] at ho;cases ho
 rw [if_neg hc] at hp ho
 simp only [not_or,Int.not_lt,Int.not_le] at hc
 obtain ⟨c1,c2,c3⟩:=hc
 obtain ⟨F,hF⟩:∃F:Nat,s.From=F:=⟨s.From.toNat,by omega⟩
 obtain ⟨T,hT⟩:∃T:Nat,s.To=T:=⟨s.To.toNat,by omega⟩
 obtain ⟨sF,sT⟩:=s
 have hF:sF=(F:Int):=hF
 have hT:sT=(T:Int):=hT
 subst hF hT
 dsimp only at c1 c2 c3 hp ho
 rw [J21,J21] at hp
 have hsub:((rows.drop F).take (T - F)).length=T - F:=by rw [J36,J31];omega
 have hcl:(F7 (rows.take F) n).length=n+1:=by simp [F7]
 refine k5 (k1 (k2 (k3 (k2 (A3 (A6 (A9 Z (.pure _ _ _ _) Z (by omega) hv) Z (A6 (F5 Z Z) Z (C2 (H3 16 Z) Z (G1 (B7 TySz.out Z Z Z Z Z Z) (A5 ?_))))))))));refine L6 [(5,.s (.one (.ref 5 0))),(8,.s (.one (.ref 8 0))),(11,.s (.one (.ref 11 0))),(12,.s (.one (.ref 12 0))),(14,.s (.one (.clo 165 [] [(5,0),(13,0),(12,0)]))),(16,.s (.one (.ref 16 0))),(45,C0 Span 2 spanC sp),(46,B6 sp.length),(47,B6 k)] [(5,.box (pTable ⟨n,rows⟩).s1.cells),(8,z59),(11,.box [.p (.v (.string ⟨path.toArray⟩)),.p (.v (.bool d)),.p (.v (.int .i64 n)),.buf 754 CHunk 2 Q8 hs]),(754,.spare hs.length 2 59),(12,.box [.mut 720]),(13,i8 e),(720,.arr Int 1 G3 (F7 (rows.take e) n)),(16,.box [.p (.v (.int .i64 F)),.p (.v (.int .i64 T))])] (I81 ⟨le1 rfl,le1 rfl,le1 rfl,le1 rfl,le1 rfl,le1 rfl,le1 rfl,le1 rfl,le1 rfl,trivial⟩ ⟨rfl,rfl,rfl,rfl,rfl,rfl,rfl,rfl,trivial⟩) ?_
 refine k2 (A3 (A4 Z Z (A6 (A8 Z) Z (E9 Z Z Z Z (A32 (D67 ⟨n,rows⟩ n e F Z (by omega) hr (by dsimp only;omega) (by omega) (by dsimp only;omega) Z Z Z Z) Z Z Z Z ?_)))));rintro _ _ ⟨rfl,rfl⟩;refine A5 ?_;refine L6 [(5,.s (.one (.ref 5 0))),(8,.s (.one (.ref 8 0))),(11,.s (.one (.ref 11 0))),(12,.s (.one (.ref 12 0))),(14,.s (.one (.clo 165 [] [(5,0),(13,0),(12,0)]))),(16,.s (.one (.ref 16 0))),(45,C0 Span 2 spanC sp),(46,B6 sp.length),(47,B6 k)] [(5,.box (pTable ⟨n,rows⟩).s1.cells),(8,z59),(11,.box [.p (.v (.string ⟨path.toArray⟩)),.p (.v (.bool d)),.p (.v (.int .i64 n)),.buf 754 CHunk 2 Q8 hs]),(754,.spare hs.length 2 59),(12,.box [.mut 720]),(13,i8 F),(720,.arr Int 1 G3 (F7 (rows.take F) n)),(16,.box [.p (.v (.int .i64 F)),.p (.v (.int .i64 T))])] (I81 ⟨le1 rfl,le1 rfl,le1 rfl,le1 rfl,le1 rfl,le1 rfl,le1 rfl,le1 rfl,le1 rfl,trivial⟩ ⟨rfl,rfl,rfl,rfl,rfl,rfl,rfl,rfl,trivial⟩) ?_
 refine k2 ?_
 have hCR:=H92 ((rows.drop F).take (T - F)) (by omega)
 have hCI:=fun gf ob h=>G88 (gf:=gf) (ob:=ob) (F7 (rows.take F) n) (by omega) h
 refine U8 [16,14,3] [[],[3],[14,3],[16,14,3]] [(3,([],[])),(14,([754],[56])),(16,([],[]))] [(0,[]),(1,[]),(2,[]),(3,[]),(4,[]),(5,[]),(6,[]),(7,[]),(8,[]),(9,[]),(10,[]),(11,[3]),(12,[3]),(13,[3]),(14,[3]),(15,[14,3]),(16,[14,3])] [(0,[3]),(1,[3]),(4,[3]),(5,[3]),(6,[3]),(7,[3]),(8,[3]),(9,[3]),(10,[3])] (by kernel_rfl) (by kernel_rfl) (E5 Z Z (by kernel_rfl) Z Z (A8 Z) (E5 Z Z (by kernel_rfl) Z Z (B4 Z Z Z) (E5 Z Z (by kernel_rfl) Z Z (B4 Z Z Z) (d9 Z Z (by kernel_rfl) Z Z (r_met (fun gf=>hCI gf _ Z) Z Z) Z (E5 Z Z (by kernel_rfl) Z Z (A8 Z) (E5 Z Z (by kernel_rfl) Z Z (B4 Z Z Z) (E5 Z Z (by kernel_rfl) Z Z (A8 Z) (E5 Z Z (by kernel_rfl) Z Z (B4 Z Z Z) (E5 Z Z (by kernel_rfl) Z Z (A8 Z) (E5 Z Z (by kernel_rfl) Z Z (B4 Z Z Z) (E5 Z Z (by kernel_rfl) Z Z (X1 Z (.pure _ _ _ _) Z Z (by (first | omega | (dsimp only;omega))) (by (first | omega | (dsimp only;omega))) (by (first | omega | (dsimp only;omega)))) (E5 Z Z (by kernel_rfl) Z Z (O4 (hCR) Z Z) (E5 Z Z (by kernel_rfl) Z Z (I1 Z) (E5 Z Z (by kernel_rfl) Z Z (C9 (c:=Q8) (ys:=[⟨F7 (rows.take F) n,(rows.drop F).take (T - F)⟩]) (E0 Z Z Z Z G6) Z Z Z) (d9 Z Z (by kernel_rfl) Z Z (C60 (fun frc hU=>H4 (Z6 hU Z) Z (Z6 hU Z) (.pure _ _ _ _) (by (simp only [J16,J19];omega)) Z)) Z (E5 Z Z (by kernel_rfl) Z Z (A8 Z) (d9 Z Z (by kernel_rfl) Z Z (E62 (fun frc hU=>B7 TySz.out (Z6 hU Z) Z (Z6 hU Z) Z Z Z)) Z ?_)))))))))))))))));refine E61 (by kernel_rfl) rfl ?_ ?_
 ·refine L7 Z Z (by kernel_rfl) Z Z (A8 Z) (L7 Z Z (by kernel_rfl) Z Z (B4 Z Z Z) (L7 Z Z (by kernel_rfl) Z Z (A8 Z) (L7 Z Z (by kernel_rfl) Z Z (B4 Z Z Z) (L7 Z Z (by kernel_rfl) Z Z (A8 Z) (L7 Z Z (by kernel_rfl) Z Z (B4 Z Z Z) (L7 Z Z (by kernel_rfl) Z Z (A8 Z) (L7 Z Z (by kernel_rfl) Z Z (B4 Z Z Z) (L7 Z Z (by kernel_rfl) Z Z (X1 Z (.pure _ _ _ _) Z Z (by (first | omega | (dsimp only;omega))) (by (first | omega | (dsimp only;omega))) (by (first | omega | (dsimp only;omega)))) ?_))))))));exact D54
 refine L6 [(5,.s (.one (.ref 5 0))),(8,.s (.one (.ref 8 0))),(11,.s (.one (.ref 11 0))),(12,.s (.one (.ref 12 0))),(14,.s (.one (.clo 165 [] [(5,0),(13,0),(12,0)]))),(16,.s (.one (.ref 16 0))),(45,C0 Span 2 spanC sp),(46,B6 sp.length),(47,B6 k)] [(5,.box (pTable ⟨n,rows⟩).s1.cells),(8,z59),(11,.box [.p (.v (.string ⟨path.toArray⟩)),.p (.v (.bool d)),.p (.v (.int .i64 n)),.buf 754 CHunk 2 Q8 (hs++[⟨F7 (rows.take F) n,(rows.drop F).take (T - F)⟩])]),(754,.spare (hs++[(⟨F7 (rows.take F) n,(rows.drop F).take (T - F)⟩:CHunk)]).length 2 59),(12,.box [.mut 720]),(13,i8 F),(720,.arr Int 1 G3 (F7 (rows.take F) n)),(16,.box [.p (.v (.int .i64 F)),.p (.v (.int .i64 T))])] (I81 ⟨le1 rfl,le1 rfl,le1 rfl,le1 rfl,le1 rfl,le1 rfl,le1 rfl,le1 rfl,le1 rfl,trivial⟩ ⟨rfl,rfl,rfl,rfl,rfl,rfl,rfl,rfl,trivial⟩) ?_
 skip
 refine A3 (A4 Z Z (A6 (A8 Z) Z (E9 Z Z Z Z (A32 (D67 ⟨n,rows⟩ n F T Z (by omega) hr (by dsimp only;omega) (by omega) (by dsimp only;omega) Z Z Z Z) Z Z Z Z ?_))));rintro _ _ ⟨rfl,rfl⟩;refine A5 ?_;refine k4 (k1 (A3 (C5 Z Z Z (A4 Z Z (A5 ?_)))));refine k1 ?_
 exact ⟨(k+1,T,hs++[⟨F7 (rows.take F) n,(rows.drop F).take (T - F)⟩]),⟨by dsimp only;omega,by dsimp only;omega,by dsimp only;rw [J15];simp;omega,hp,ho⟩,by dsimp only;omega,I81 ⟨le1 rfl,le1 rfl,le1 rfl,le1 rfl,le1 rfl,le1 rfl,le1 rfl,le1 rfl,trivial⟩ ⟨rfl,rfl,rfl,rfl,rfl,rfl,rfl,trivial⟩⟩
theorem G96 (path x:Str) (r:List Str) (ctx:Int) (d:Bool) (h:Small16 x r) (hL:∀b∈x::r,(B8 b).length≤16):FnOk Tryz.prog 42 [P8 path,P8 x,A12 r,J0 ctx,N1 d] (fun rs=>rs=[U6 (A61 path x r ctx d).1,J0 (A61 path x r ctx d).2]):=by
 have hx:=h.hx
 obtain ⟨s1,s2,s3⟩:=h.sums
 have hl:=h.len
 have hrows:=h.rows
 have hrn:=h.n
 have hm:=F97 x r 16 (by omega) (by omega) ⟨hL x (by simp),by omega⟩ (fun b hb=>⟨hL b (by simp [hb]),by have:=h.hr b hb;omega⟩)
 obtain ⟨t,e,hte⟩:∃t e,F3 x r=(t,e):=⟨_,_,rfl⟩
 rw [hte] at s1 s2 hl hrows hm
 dsimp only at s1 s2 hl hrows hm
 have hh:=H90 t ctx d hrows (by omega) (by omega)
 have hin:=I66 t ctx d
 obtain ⟨sp,e2,hsp⟩:∃sp e2,O1 t ctx d=(sp,e2):=⟨_,_,rfl⟩
 rw [hsp] at hh hin
 dsimp only at hh hin
 have hc:=H46 path t sp d hrows (by omega) (by omega) (by have:=hin.1;omega)
 have hres:A61 path x r ctx d=if R6 path=false then (comb0,120) else if e≠0 then (comb0,e) else if e2≠0 then (comb0,e2) else Y6 path t sp d:=by
  unfold A61;rw [hte];dsimp only;rw [hsp]
 rw [hres]
 refine FnOk.intro Tryz.func42 (by decide) Z Z Z Z ?_
 refine k2 (A3 (C2 (H3 10 Z) Z (A7 Z Z (A5 ?_))));refine k1 (k2 (k2 (A3 (A4 Z Z (C6 (B47 path) Z Z Z ?_)))));rintro _ rfl;refine A6 (M3 Z) Z (A5 ?_);refine k1 ?_;refine B5 rfl (fun ht=>?_) (fun ht=>?_)
 ·have h:R6 path=false:=by simpa using ht
  refine k2 (A3 (A6 (I1 Z) Z (G1 (B7 TySz.out Z Z Z Z Z Z) (A7 Z Z (A5 ?_)))));refine k1 (H5 (I85 CHunk 2 Q8 10 3 Z Z) ?_)
  refine k10 (k11 ?_)
  exact B9 (rs:=[U6 comb0,J0 120]) (m8 rfl rfl rfl rfl rfl rfl rfl) (by rw [if_pos h])
 have h1:R6 path=true:=by simpa using ht
 rw [if_neg (by rw [h1];decide)]
 refine k5 (k1 (k2 (A3 (A4 Z Z (A4 Z Z (C6 (hm) Z Z Z ?_))))));rintro _ rfl;refine A4 Z Z (J4 Z Z Z (J4 Z Z Z (C2 (H3 12 Z) Z (G1 (B7 TySz.out Z Z Z Z Z Z) (A7 Z Z (A5 ?_))))));refine k1 (k2 (k2 (A3 (A4 Z Z (A6 (O6 Z Z) Z (A5 ?_))))));refine k1 ?_;refine B5 rfl (fun ht=>?_) (fun ht=>?_)
 ·have h2:=A0 ht
  refine k2 (A3 (A6 (I1 Z) Z (A4 Z Z (G1 (B7 TySz.out Z Z Z Z Z Z) (A7 Z Z (A5 ?_))))));refine k1 (H5 (I85 CHunk 2 Q8 10 3 Z Z) ?_)
  refine k10 (k11 ?_)
  exact B9 (rs:=[U6 comb0,J0 e]) (m8 rfl rfl rfl rfl rfl rfl rfl) (by rw [if_pos h2])
 have h2:=A1 ht
 rw [if_neg h2]
 refine k5 (k1 (k2 (A3 (A6 (D6 Z Z Z) Z (A4 Z Z (A4 Z Z (C6 (hh) Z Z Z ?_)))))));rintro _ rfl;refine A4 Z Z (J4 Z Z Z (J4 Z Z Z (A7 Z Z (A7 Z Z (A5 ?_)))));refine k1 (k2 (k2 (A3 (A4 Z Z (A6 (O6 Z Z) Z (A5 ?_))))));refine k1 ?_;refine B5 rfl (fun ht=>?_) (fun ht=>?_)
 ·have h3:=A0 ht
  refine k2 (A3 (A6 (I1 Z) Z (A4 Z Z (G1 (B7 TySz.out Z Z Z Z Z Z) (A7 Z Z (A5 ?_))))));refine k1 (H5 (I85 CHunk 2 Q8 10 3 Z Z) ?_)
  refine k10 (k11 ?_)
  exact B9 (rs:=[U6 comb0,J0 e2]) (m8 rfl rfl rfl rfl rfl rfl rfl) (by rw [if_pos h3])
 have h3:=A1 ht
 rw [if_neg h3]
 refine k5 (k1 (k2 (A3 (A4 Z Z (A6 (D6 Z Z Z) Z (A4 Z Z (A4 Z Z (C6 (hc) Z Z Z ?_))))))));rintro _ rfl;refine J4 Z Z Z (J4 Z Z Z (G1 (B7 TySz.out Z Z Z Z Z Z) (A7 Z Z (A5 ?_))));refine k1 (k10 ?_)
 exact B9 (m8 rfl rfl rfl rfl rfl rfl rfl) rfl
def C26 (t:Table):List Span:=if 0 < t.Rows.length then [⟨0,t.Rows.length⟩] else []
def p6 (path x:Str) (r:List Str):Comb × Int :=
 if R6 path=false then (comb0,120) else if (F3 x r).2≠0 then (comb0,(F3 x r).2) else Y6 path (F3 x r).1 (C26 (F3 x r).1) false
set_option maxHeartbeats 1000000
theorem G09 (path x:Str) (r:List Str) (h:Small16 x r) (hL:∀b∈x::r,(B8 b).length≤16):FnOk Tryz.prog 43 [P8 path,P8 x,A12 r] (fun rs=>rs=[U6 (p6 path x r).1,J0 (p6 path x r).2]):=by
 have hx:=h.hx
 obtain ⟨s1,s2,s3⟩:=h.sums
 have hl:=h.len
 have hrows:=h.rows
 have hrn:=h.n
 have hm:=F97 x r 16 (by omega) (by omega) ⟨hL x (by simp),by omega⟩ (fun b hb=>⟨hL b (by simp [hb]),by have:=h.hr b hb;omega⟩)
 obtain ⟨t,e,hte⟩:∃t e,F3 x r=(t,e):=⟨_,_,rfl⟩
 rw [hte] at s1 s2 hl hrows hm
 dsimp only at s1 s2 hl hrows hm
 have hc:=H46 path t (C26 t) false hrows (by omega) (by omega) (by unfold C26;split<;>simp)
 have hres:p6 path x r=if R6 path=false then (comb0,120) else if e≠0 then (comb0,e) else Y6 path t (C26 t) false:=by
  unfold p6;rw [hte]
 rw [hres]
 refine FnOk.intro Tryz.func43 (by decide) Z Z Z Z ?_
 refine k2 (A3 (C2 (H3 6 Z) Z (A7 Z Z (A5 ?_))));refine k1 (k2 (k2 (A3 (A4 Z Z (C6 (B47 path) Z Z Z ?_)))));rintro _ rfl;refine A6 (M3 Z) Z (A5 ?_);refine k1 ?_;refine B5 rfl (fun ht=>?_) (fun ht=>?_)
 ·have h:R6 path=false:=by simpa using ht
  refine k2 (A3 (A6 (I1 Z) Z (G1 (B7 TySz.out Z Z Z Z Z Z) (A7 Z Z (A5 ?_)))));refine k1 (H5 (I85 CHunk 2 Q8 6 3 Z Z) ?_)
  refine k10 (k11 ?_)
  exact B9 (rs:=[U6 comb0,J0 120]) (m8 rfl rfl rfl rfl rfl rfl rfl) (by rw [if_pos h])
 have h1:R6 path=true:=by simpa using ht
 rw [if_neg (by rw [h1];decide)]
 refine k5 (k1 (k2 (A3 (A4 Z Z (A4 Z Z (C6 (hm) Z Z Z ?_))))));rintro _ rfl;refine A4 Z Z (J4 Z Z Z (J4 Z Z Z (C2 (H3 8 Z) Z (G1 (B7 TySz.out Z Z Z Z Z Z) (A7 Z Z (A5 ?_))))));refine k1 (k2 (k2 (A3 (A4 Z Z (A6 (O6 Z Z) Z (A5 ?_))))));refine k1 ?_;refine B5 rfl (fun ht=>?_) (fun ht=>?_)
 ·have h2:=A0 ht
  refine k2 (A3 (A6 (I1 Z) Z (A4 Z Z (G1 (B7 TySz.out Z Z Z Z Z Z) (A7 Z Z (A5 ?_))))));refine k1 (H5 (I85 CHunk 2 Q8 6 3 Z Z) ?_)
  refine k10 (k11 ?_)
  exact B9 (rs:=[U6 comb0,J0 e]) (m8 rfl rfl rfl rfl rfl rfl rfl) (by rw [if_pos h2])
 have h2:=A1 ht
 rw [if_neg h2]
 refine k5 (k1 (k2 (A3 (A6 (M5 _ 2 spanC) Z (A5 ?_)))));refine k1 (k2 (k2 (A3 (A6 (A8 Z) Z (E9 Z Z Z Z (E4 Z Z (A6 (R0 Z Z) Z (A5 ?_))))))));refine k1 ?_;refine B5 rfl (fun ht=>?_) (fun ht=>?_)
 ·have h3:=A0 ht
  have hsp:C26 t=[⟨0,t.Rows.length⟩]:=by unfold C26;rw [if_pos (by omega)]
  rw [hsp] at hc ⊢
  skip
  refine A3 (A6 (A8 Z) Z (E9 Z Z Z Z (E4 Z Z (A6 (I1 Z) Z (A6 (C9 (c:=spanC) (ys:=[⟨0,(t.Rows.length:Int)⟩]) (E0 Z Z Z Z G6) Z Z Z) Z (A7 Z Z (A5 ?_)))))));refine k1 (k2 (A3 (A4 Z Z (A6 (D6 Z Z Z) Z (A4 Z Z (C6 (hc) Z Z Z ?_))))));rintro _ rfl;refine J4 Z Z Z (J4 Z Z Z (G1 (B7 TySz.out Z Z Z Z Z Z) (A7 Z Z (A5 ?_))));refine k1 (k10 ?_)
  exact B9 (m8 rfl rfl rfl rfl rfl rfl rfl) rfl
 ·have h3:=A1 ht
  have hsp:C26 t=[]:=by unfold C26;rw [if_neg (by omega)]
  rw [hsp] at hc ⊢
  refine k5 (k1 (k2 (A3 (A4 Z Z (A6 (D6 Z Z Z) Z (A4 Z Z (C6 (hc) Z Z Z ?_)))))));rintro _ rfl;refine J4 Z Z Z (J4 Z Z Z (G1 (B7 TySz.out Z Z Z Z Z Z) (A7 Z Z (A5 ?_))));refine k1 (k10 ?_)
  exact B9 (m8 rfl rfl rfl rfl rfl rfl rfl) rfl
def exX:Str:=[97,10,99,10]
def exR:List Str:=[[97,10,98,10],[97,10,99,10]]
def exC:Comb:=⟨[120],false,2,[⟨[0,0,0],[⟨false,0,[97,10]⟩,⟨true,1,[98,10]⟩,⟨false,1,[99,10]⟩]⟩]⟩
def exS:Str:=[100,105,102,102,32,45,45,99,111,109,98,105,110,101,100,32,120,10,112,97,114,101,110,116,115,32,50,10,64,64,64,32,45,49,44,50,32,45,49,44,50,32,43,49,44,50,32,64,64,64,10,32,32,97,10,45,32,98,10,43,32,99,10]
theorem ex_c0:D9 [[],[]]=([],0):=by simp [D9,G5,O7,N6,E6,F0]
theorem ex_c1:D9 [[2],[]]=([⟨2,1⟩],0):=by
 have hb:G4 0=1:=by decide
 simp [D9,G5,O7,N6,E6,F0,hb]
def j4:List (List Int):=[[0,1],[0,2],[0,1]]
theorem ex_loom:(M9 j4 2 2 2).1=[0,1]∧(M9 j4 2 2 2).2 0=[[],[]]∧(M9 j4 2 2 2).2 1=[[2],[]]∧(M9 j4 2 2 2).2 2=[[],[]]:=by
 have w0:J7 [0,2] [0,1]=[⟨1,1,1,1⟩]:=by simp [J7,F0,dist,Y0,L9]
 have w1:J7 [0,1] [0,1]=[]:=by simp [J7,F0,Y0,L9]
 have h0:K7 j4 (u6 2 2) 0=((O9 [⟨1,1,1,1⟩] 2).foldl (K1 0) ((u6 2 2).1.map (I8 · (G4 0))),[(⟨1,1,1,1⟩:Change)].foldl (J3 0 [0,2]) (u6 2 2).2):=by
  rw [←w0];rfl
 have h1:M9 j4 2 2 2=((O9 [] 2).foldl (K1 1) ((K7 j4 (u6 2 2) 0).1.map (I8 · (G4 1))),(K7 j4 (u6 2 2) 0).2):=by
  show K7 j4 (K7 j4 (u6 2 2) 0) 1=_
  have:K7 j4 (K7 j4 (u6 2 2) 0) 1=((O9 (J7 [0,1] [0,1]) 2).foldl (K1 1) ((K7 j4 (u6 2 2) 0).1.map (I8 · (G4 1))),(J7 [0,1] [0,1]).foldl (J3 1 [0,1]) (K7 j4 (u6 2 2) 0).2):=rfl
  rw [this,w1];rfl
 rw [h1,h0]
 refine ⟨by decide,by decide,by decide,by decide⟩
theorem ex_make:F3 exX exR=(⟨2,[⟨false,0,[97,10]⟩,⟨true,1,[98,10]⟩,⟨false,1,[99,10]⟩]⟩,0):=by
 have e0:B8 exX=[[97,10],[99,10]]:=by decide
 have e1:exR.map B8=[[[97,10],[98,10]],[[97,10],[99,10]]]:=by decide
 have e2:D8 [[[97,10],[99,10]],[[97,10],[98,10]],[[97,10],[99,10]]]=[[97,10],[99,10],[98,10]]:=by decide
 have e3:[[[97,10],[99,10]],[[97,10],[98,10]],[[97,10],[99,10]]].map (J6 [[97,10],[99,10],[98,10]])=j4:=by decide
 obtain ⟨l1,l2,l3,l4⟩:=ex_loom
 have hR:exR.length=2:=rfl
 have hc:∀k,k < 3→D9 ((M9 j4 2 2 2).2 k)=if k=1 then ([⟨2,1⟩],0) else ([],0):=by
  intro k hk
  match k,hk with
  | 0,_=>rw [l2,ex_c0];rfl
  | 1,_=>rw [l3,ex_c1];rfl
  | 2,_=>rw [l4,ex_c0];rfl
 unfold F3
 rw [if_neg (by decide)]
 dsimp only
 rw [e0,e1,e2,e3]
 have hno:¬∃k,k < 3∧(D9 ((M9 j4 2 2 2).2 k)).2≠0:=by
  rintro ⟨k,hk,h⟩
  rw [hc k hk] at h
  split at h<;>exact h rfl
 refine (if_neg hno).trans ?_
 show ((⟨2,S3 [[97,10],[99,10],[98,10]] [[97,10],[99,10]] (M9 j4 2 2 2) 3⟩:Table),(0:Int))=_
 have hr:∀k,k < 3→P0 [[97,10],[99,10],[98,10]] [[97,10],[99,10]] (M9 j4 2 2 2) k=if k=0 then [⟨false,0,[97,10]⟩] else if k=1 then [⟨true,1,[98,10]⟩,⟨false,1,[99,10]⟩] else []:=by
  intro k hk
  unfold P0
  rw [hc k hk,l1]
  match k,hk with
  | 0,_=>rfl
  | 1,_=>rfl
  | 2,_=>rfl
 rw [a8,a8,a8,hr 0 (by omega),hr 1 (by omega),hr 2 (by omega)]
 rfl
theorem G10:L5 exC=0:=by kernel_rfl
theorem ex_full:p6 [120] exX exR=(exC,0):=by
 unfold p6
 rw [ex_make,if_neg (by decide),if_neg (by decide)]
 dsimp only
 have h1:J2 ⟨2,[⟨false,0,[97,10]⟩,⟨true,1,[98,10]⟩,⟨false,1,[99,10]⟩]⟩=0:=by decide
 have h2:n4 (Int.toNat 2) [⟨false,0,[97,10]⟩,⟨true,1,[98,10]⟩,⟨false,1,[99,10]⟩] 0 [] (C26 ⟨2,[⟨false,0,[97,10]⟩,⟨true,1,[98,10]⟩,⟨false,1,[99,10]⟩]⟩)=some exC.Hunks:=by decide
 unfold Y6
 rw [if_neg (by decide),h1,if_neg (by decide)]
 dsimp only
 rw [h2]
 dsimp only
 rw [show L5 ⟨[120],false,2,exC.Hunks⟩=0 from G10,if_neg (by decide)]
 rfl
theorem I52:A37 exC=exS:=by kernel_rfl
theorem ex_small:Small16 exX exR∧∀b∈exX::exR,(B8 b).length≤16:=by
 have hall:∀b∈exX::exR,(B8 b).length≤16∧b.length≤140:=by
  intro b hb
  have h1:b.length≤4:=by
   have:∀b∈exX::exR,b.length≤4:=by decide
   exact this b hb
  have h2:=R5 b
  omega
 obtain ⟨k1,k2,k3⟩:=C44 exX exR 16 140 (hall exX (by simp)) (fun b hb=>hall b (by simp [hb]))
 exact ⟨⟨by decide,by decide,fun b hb=>(hall b (by simp [hb])).2,k1,Nat.le_trans k2 (by decide),k3⟩,fun b hb=>(hall b hb).1⟩
theorem D72:FnOk Tryz.prog 35 [] (fun rs=>rs=[N1 true]):=by
 have h1:=G09 [120] exX exR ex_small.1 ex_small.2
 rw [ex_full] at h1
 have h2:=G86 exC (by decide) (by intro h hh;simp [exC] at hh;subst hh;intro r hr;simp at hr;rcases hr with rfl | rfl | rfl<;>decide)
 rw [if_pos G10,I52] at h2
 refine FnOk.intro Tryz.func35 (by decide) Z Z Z Z ?_
 refine k2 (A3 (A7 Z Z (A5 ?_)));refine k1 (k2 (A3 (A6 (C9 (c:=M6) (ys:=exR) (E0 Z Z Z Z (E0 Z Z Z Z G6)) Z Z Z) Z (C6 (h1) Z Z Z ?_))));rintro _ rfl;refine A4 Z Z (J4 Z Z Z (J4 Z Z Z (C2 (H3 1 Z) Z (G1 (B7 TySz.out Z Z Z Z Z Z) (A7 Z Z (A5 ?_))))));refine k1 (k2 (A3 (A6 (D6 Z Z Z) Z (C6 (h2) Z Z Z ?_))));rintro _ rfl;refine A4 Z Z (J4 Z Z Z (J4 Z Z Z (A7 Z Z (A7 Z Z (A5 ?_)))));refine k1 (k2 (A3 (A4 Z Z (A6 (Q0 Z Z) Z (A4 Z Z (B2 Z Z Z Z (fun hg=>by rw [hg];exact C3 Z Z) ?_))))));refine B2 Z Z Z Z (fun hg=>by rw [hg];exact Q0 Z Z) ?_;refine J5 Z Z ?_;refine A4 Z Z (B2 Z Z Z Z (fun hg=>by rw [hg];exact C3 Z Z) ?_);refine B2 Z Z Z Z (fun hg=>by rw [hg];exact D23 Z Z) ?_;refine J5 Z Z ?_;refine A7 Z Z (A5 ?_);refine k1 (k10 ?_)
 exact B9 (rs:=[N1 true]) (I5 rfl rfl rfl) rfl
theorem I00 (raw:List Int) (n:Int) (x:Str) (r:List Str) (h:p5 raw n=x::r):FnOk Tryz.prog 36 [M7 raw,J0 n] (fun rs=>rs=[P8 x,A12 r]):=by
 have hm:=g9 n (n:=4) (by omega)
 have hlen:(x::r).length=(2+T7 n 4).toNat:=by rw [←h];simp [p5,X7]
 have hb:=I40 raw (2+T7 n 4).toNat 7 (by omega) (by omega)
 have hcast:(((2+T7 n 4).toNat:Nat):Int)=2+T7 n 4:=by omega
 rw [hcast] at hb
 have hbr:X7 raw (2+T7 n 4).toNat 7=x::r:=h
 rw [hbr] at hb
 refine FnOk.intro Tryz.func36 (by decide) Z Z Z Z ?_
 refine k2 (A3 (A7 Z Z (A7 Z Z (A5 ?_))));refine k1 (k2 (A3 (A4 Z Z (A4 Z Z (C6 (F25 n 4 (by omega) (by omega)) Z Z Z ?_)))));rintro _ rfl;refine C5 Z Z Z (C6 (hb) Z Z Z ?_);rintro _ rfl;refine A7 Z Z (A5 ?_);refine k1 (k2 (D5 (by kernel_rfl) (by kernel_rfl) (D3 Z Z (B1 (A9 Z (.pure _ _ _ _) Z (by omega) (show (x::r)[(0:Int).toNat]?=some x from Z)) Z Z (B1 (B3 Z Z) Z Z (D3 Z Z (B1 (C53 Z (.pure _ _ _ _) Z (by (first | omega | (simp only [J16];omega))) (by (first | omega | (simp only [J16];omega)))) Z Z (B1 (K8 Z Z) Z Z (B1 (K8 Z Z) Z Z (O2 ?_))))))))));refine k1 (k10 (B9 (y7 Z Z Z Z Z) ?_))
 rfl
theorem I53 {raw:List Int} {n:Int} {x:Str} {r:List Str} (h:p5 raw n=x::r):∀b∈x::r,(B8 b).length≤16:=by rw [←h];exact fun b hb=>(D71 raw n b hb).1
theorem x7 {x:Str} {r:List Str} (h:Small16 x r) (h1:1≤r.length) (hL:∀b∈x::r,(B8 b).length≤16):(F3 x r).2=0∧J2 (F3 x r).1=0∧(F3 x r).1.Parents=r.length∧Made16 x r (F3 x r).1.Rows:=by
 have hn:=h.n
 have hz:(F3 x r).2=0:=G56 (B:=16) ⟨h1,hn⟩ (hL x (by simp)) (fun b hb=>hL b (by simp [hb])) (by omega)
 have hx1:=hL x (by simp)
 have h2:∀b∈r,(B8 b).length≤4096:=fun b hb=>by have:=hL b (by simp [hb]);omega
 have h3:=D12 (by omega) h2 hz
 exact ⟨hz,F57 (by omega) h2 hz,h3.2⟩
theorem C93 {path:Str} {x:Str} {r:List Str} {sp:List Span} (d:Bool) (hp:R6 path=true) (hpl:path.length≤400) (h:Small16 x r) (h1:1≤r.length) (hL:∀b∈x::r,(B8 b).length≤16) (hsp:CutSp (F3 x r).1.Rows.length 0 sp) :
  Y6 path (F3 x r).1 sp d=(⟨path,d,r.length,U0 r.length (F3 x r).1.Rows sp⟩,0)∧L5 ⟨path,d,r.length,U0 r.length (F3 x r).1.Rows sp⟩=0:=by
 obtain ⟨_,g2,g3,_⟩:=x7 h h1 hL
 have hl:=h.len
 have hs:=h.sums.2.2 r.length (by have:=h.n;omega)
 have hg:=H24 (path:=path) (sp:=sp) (d:=d) hp g2 (by omega) hsp (by rw [g3,J21];omega)
 rw [g3,J21] at hg
 exact ⟨hg.1,hg.2.1⟩
theorem G11 {path x:Str} {r:List Str} {ctx:Int} (d:Bool) (hp:R6 path=true) (hpl:path.length≤400) (h:Small16 x r) (h1:1≤r.length) (hL:∀b∈x::r,(B8 b).length≤16) (hc:0≤ctx∧ctx≤1048576) :
  A61 path x r ctx d=(⟨path,d,r.length,U0 r.length (F3 x r).1.Rows (O1 (F3 x r).1 ctx d).1⟩,0)∧L5 (A61 path x r ctx d).1=0∧A61 path x r ctx d=Y6 path (F3 x r).1 (O1 (F3 x r).1 ctx d).1 d∧CutSp (F3 x r).1.Rows.length 0 (O1 (F3 x r).1 ctx d).1:=by
 obtain ⟨g1,g2,_,_⟩:=x7 h h1 hL
 obtain ⟨k1,k2⟩:=F59 (t:=(F3 x r).1) d g2 hc
 obtain ⟨c1,c2⟩:=C93 d hp hpl h h1 hL k2
 have e:A61 path x r ctx d=Y6 path (F3 x r).1 (O1 (F3 x r).1 ctx d).1 d:=by
  unfold A61
  rw [if_neg (by rw [hp];decide),g1,if_neg (by decide),k1,if_neg (by decide)]
 refine ⟨e.trans c1,?_,e,k2⟩
 rw [e,c1];exact c2
theorem G12 {path x:Str} {r:List Str} (hp:R6 path=true) (hpl:path.length≤400) (h:Small16 x r) (h1:1≤r.length) (hL:∀b∈x::r,(B8 b).length≤16) :
  p6 path x r=(⟨path,false,r.length,U0 r.length (F3 x r).1.Rows (W6 (F3 x r).1.Rows.length)⟩,0)∧L5 ⟨path,false,r.length,U0 r.length (F3 x r).1.Rows (W6 (F3 x r).1.Rows.length)⟩=0∧p6 path x r=Y6 path (F3 x r).1 (W6 (F3 x r).1.Rows.length) false:=by
 obtain ⟨g1,g2,_,_⟩:=x7 h h1 hL
 obtain ⟨c1,c2⟩:=C93 (path:=path) false hp hpl h h1 hL (G58 _)
 have e:p6 path x r=Y6 path (F3 x r).1 (W6 (F3 x r).1.Rows.length) false:=by
  unfold p6
  rw [if_neg (by rw [hp];decide),g1,if_neg (by decide)]
  rfl
 exact ⟨e.trans c1,c2,e⟩
theorem I01 {path x:Str} {r:List Str} (h:Small16 x r):szC (p6 path x r).1.Hunks≤268435456∧∀y∈(p6 path x r).1.Hunks,L3 y.Rows:=by
 unfold p6
 split
 ·exact ⟨Nat.zero_le _,fun y hy=>by cases hy⟩
 ·split
  ·exact ⟨Nat.zero_le _,fun y hy=>by cases hy⟩
  ·exact I50 h.rows (by have:=h.sums.2.1;omega)
set_option maxHeartbeats 1000000
section
open Go.RowKit
attribute [local semireducible] Go.AL.Neu Go.AL.Eff Go.AL.EffV Go.AL.WpL Go.AL.WpC Go.AL.FnOk Go.AL.LexD Go.AL.Sees Go.AL.RetOk Go.AL.FnIo Go.AL.Met Go.AL.RetS
set_option linter.unusedVariables false
def p7:Op→Bool
 | .makeSlice ..=>false
 | op=>turns op
def B73 (ops:Array Oper) (o:Oper):List Nat:=A51 ops o.guard++t7 o.op
section
variable {P:Program} {dst:Option Tmp} {ty:TypeId} {pos:String} {af:Array Edge} {gd:Option (Nat × Bool)} {fr:Fr} {ob:Obs}
theorem n_makeZ {t e:TypeId} {ec bytes:Nat} {x y:Operand} {kx ky:IntKind} {n:Int} (α:Type) (c:α→Nat→Cell) (y0:α) {zs:List Value} [ht:TySl P t e ec bytes]
  (hx:opv fr x=some (I9 (.int kx n))) (hy:opv fr y=some (I9 (.int ky n))) (h0:0≤n) (hn:n≤1073741824) (hz:((P.info? e).bind (·.zero)).map (fun z=>z.cells.toList)=some zs)
  (hy0:∀rd:Rd,All2 (Cell.rep rd) (cellsOf c y0 0 ec) zs) :
  Neu P ⟨dst,.makeSlice t x y,ty,pos,af,gd⟩ fr ob (fun s'=>s'=C0 α ec c (List.replicate n.toNat y0)):=by
 intro S G a w h
 obtain ⟨hts,hinfo,hec,hby,hzero⟩:=ht.out
 cases hi:P.info? e with
 | none=>simp [hi] at hinfo
 | some i =>
 simp [hi] at hinfo
 obtain ⟨hsz,hbytes⟩:=hinfo
 cases hzz:i.zero with
 | none=>simp [hi,hzz] at hzero
 | some z =>
 simp [hi,hzz] at hzero hz
 have hbig:(i.bytes:Int)*n≤281474976710656:=by
  have h1:(i.bytes:Int)≤4096:=by omega
  have h2:(i.bytes:Int)*n≤4096*1073741824:=by
   have:i.bytes*n.toNat≤4096*1073741824:=Nat.mul_le_mul (by omega) (by omega)
   have h3:((i.bytes*n.toNat:Nat):Int)≤((4096*1073741824:Nat):Int):=by exact_mod_cast this
   rw [Int.natCast_mul] at h3
   have h4:(n.toNat:Int)=n:=by omega
   rw [h4] at h3
   omega
  omega
 have hr:=run_make (P:=P) w t e i z hts hi hzz kx ky n n h0 (Int.le_refl _) hbig (by omega)
 rw [hsz] at hr
 refine H8 (w':=w.alloc (.cells (madeCells z.cells (n.toNat*ec)) e)) (v:=.slice (some ⟨w.heap.size,0,none⟩) n.toNat n.toNat) ?_ ?_
 ·simp only [execOp,F6 h hx,F6 h hy]
  exact L1 hr
 ·have hxw:Below w.heap.size w (w.alloc (.cells (madeCells z.cells (n.toNat*ec)) e)):=(Below.refl _ _).alloc (Nat.le_refl _) _
  refine ⟨hxw,_,rfl,?_⟩
  show (Cell.list α ec c (List.replicate n.toNat y0)).rep _ _
  simp only [Cell.rep]
  refine ⟨some ⟨w.heap.size,0,none⟩,n.toNat,by rw [List.length_replicate],⟨by simp,by simp⟩,by (try simp);omega,.inr ⟨w.heap.size,0,rfl,fun m hm j hj=>?_⟩⟩
  have hm':m < n.toNat:=by simpa using hm
  have hzl:=hy0 (E7 (Mut S ob G) (w.alloc (.cells (madeCells z.cells (n.toNat*ec)) e)))
  have hget:(cellsOf c y0 0 ec)[j]?=some (c y0 j):=by
   have hlt:j < (cellsOf c y0 0 ec).length:=by rw [L2];exact hj
   rw [J14 hlt]
   have:=U4 c y0 ec 0 j _ (J14 hlt)
   rw [this.1,Nat.zero_add]
  obtain ⟨u,hu1,hu2⟩:=hzl.get j _ hget
  refine ⟨u,⟨?_,fun hmut=>?_⟩,hm,by simpa using hu2⟩
  ·rw [Nat.zero_add]
   exact cell_of_heap (heap_alloc_new w _) (by rw [B62 hzero hm' hj,←Array.getElem?_toList,hz];exact hu1)
  ·have:=h.mut_lt hmut
   omega
end
section
variable {P:Program} {dst:Option Tmp} {ty:TypeId} {pos:String} {af:Array Edge} {gd:Option (Nat × Bool)} {fr:Fr} {ob:Obs}
theorem n_makeP {t e:TypeId} {ec bytes:Nat} {x y:Operand} {kx ky:IntKind} {n:Int} (α:Type) (c:α→Nat→Cell) (y0:α) {z:Value} [ht:TySl P t e ec bytes] [hz:TyZero P e z]
  (hx:opv fr x=some (I9 (.int kx n))) (hy:opv fr y=some (I9 (.int ky n))) (h0:0≤n) (hn:n≤1073741824)
  (hy0:∀rd:Rd,All2 (Cell.rep rd) (cellsOf c y0 0 ec) z.cells.toList) :
  Neu P ⟨dst,.makeSlice t x y,ty,pos,af,gd⟩ fr ob (fun s'=>s'=C0 α ec c (List.replicate n.toNat y0)) :=
 n_makeZ α c y0 hx hy h0 hn (by rw [hz.out.1];rfl) hy0
end
def YieldsZ (P:Program) (nt:Nat) (ops:Array Oper) (o:Oper) (φ:Fa) (ob:Obs) (s:SV):Prop :=
 ∃d,o.dst=some d∧d < nt ∧
  ((Wanted ops φ o true∧∃fr0,(∀i s,D7 fr0 i=some s→φ i=some s∧i∈B73 ops o)∧Neu P o fr0 ob (fun s'=>s'=s))∨(Wanted ops φ o false∧s=.un))
def StepE (P:Program) (nt:Nat) (ops:Array Oper) (o:Oper) (φ:Fa) (ob:Obs) (K:Fa→Obs→Prop):Prop :=
 o.guard=none∧∀S G a w,S.nt=nt→SimF P S φ ob G a w→Does P o a w (fun v w'=>∃φ' ob' G',K φ' ob'∧SimF P S φ' ob' G' (a.put o.dst v) w')
def StepXZ (P:Program) (nt:Nat) (ops:Array Oper) (i:Nat) (φ:Fa) (ob:Obs) (K:Fa→Obs→Prop):Prop :=
 ∃o,ops[i]?=some o∧cond (p7 o.op) (StepE P nt ops o φ ob K) (∃s d,o.dst=some d∧YieldsZ P nt ops o φ ob s∧K (W7 φ d s) ob)
def C94 (P:Program) (nt:Nat) (ops:Array Oper) (K:Fa→Obs→Prop):Nat→Array Bool→Fa→Obs→Prop
 | 0,listed,φ,ob=>Region.ready .any ops listed=[]∧K φ ob
 | fuel+1,listed,φ,ob=>(Region.ready .any ops listed=[]→K φ ob)∧∀i∈Region.ready .any ops listed,StepXZ P nt ops i φ ob (C94 P nt ops K fuel (listed.setIfInBounds i true))
section
variable {P:Program} {nt:Nat} {ops:Array Oper}
theorem A63 {K:Fa→Obs→Prop} {S:Ctx} {Q:Exit→Act→World→Prop} (hn:S.nt=nt) (hdst:∀(j t:Nat),(ops[j]?).bind (fun o=>o.dst)=some t→t < nt) (hK:∀φ ob G a w,K φ ob→SimF P S φ ob G a w→Q .normal a w) :
  ∀(fuel:Nat) (listed:Array Bool) (φ:Fa) (ob:Obs) (G:Gh) (a:Act) (w:World),C94 P nt ops K fuel listed φ ob→SimF P S φ ob G a w→wpAny P .any ops Q fuel listed a w
 | 0,_,φ,ob,G,a,w,h,hs=>⟨h.1,hK φ ob G a w h.2 hs⟩
 | fuel+1,listed,φ,ob,G,a,w,h,hs=>by
  refine ⟨fun h0=>hK φ ob G a w (h.1 h0) hs,fun i hi=>?_⟩
  obtain ⟨o,ho,hstep⟩:=h.2 i hi
  unfold wpOp
  simp only [ho]
  cases ht:p7 o.op with
  | true =>
   rw [ht] at hstep
   obtain ⟨hg,hstep⟩:=hstep
   rw [if_pos (by simp [Region.wanted,hg])]
   refine .inl (L8 (hstep S G a w hn hs) ?_)
   rintro v w' ⟨φ',ob',G',hK',hs'⟩
   exact A63 hn hdst hK fuel _ φ' ob' G' _ w' hK' hs'
  | false =>
   rw [ht] at hstep
   obtain ⟨s,d,hd,⟨d',hd',hlt,hy⟩,hK'⟩:=hstep
   rw [hd] at hd';cases hd'
   rcases hy with ⟨hw,fr0,hfr,hneu⟩ | ⟨hw,rfl⟩
   ·rw [y1 hn hs hw hdst,if_pos rfl]
    refine .inl (L8 (hneu S G a w (hs.sub fun i s hi=>(hfr i s hi).1)) ?_)
    rintro v w' ⟨hx,s',rfl,hv⟩
    rw [hd]
    exact A63 hn hdst hK fuel _ _ ob G _ w' hK' ((hs.ext hx).put (by rw [hn];exact hlt) hv)
   ·rw [y1 hn hs hw hdst,if_neg (by simp),hd]
    exact A63 hn hdst hK fuel _ _ ob G _ w hK' (hs.put (by rw [hn];exact hlt) rfl)
def D73 (ops:Array Oper) (x y:Oper):Bool :=
 match x.dst,y.dst with
 | some d,some e=>!(B73 ops y).contains d&&!(B73 ops x).contains e&&!(Nat.beq d e)
 | _,_=>false
theorem A19 {φ:Fa} {o:Oper} {b:Bool} {d:Nat} {s:SV} (hd:d∉B73 ops o):Wanted ops (W7 φ d s) o b↔Wanted ops φ o b:=by
 unfold Wanted
 cases hg:o.guard with
 | none=>simp
 | some g =>
  obtain ⟨j,want⟩:=g
  simp only
  constructor
  ·rintro ⟨t,x,ht,hx,hb⟩
   have hne:t≠d:=fun e=>hd (by subst e;simp [B73,hg,A51,ht])
   exact ⟨t,x,ht,by simpa [W7,hne] using hx,hb⟩
  ·rintro ⟨t,x,ht,hx,hb⟩
   have hne:t≠d:=fun e=>hd (by subst e;simp [B73,hg,A51,ht])
   exact ⟨t,x,ht,by simpa [W7,hne] using hx,hb⟩
theorem YieldsZ.put {φ:Fa} {ob:Obs} {o:Oper} {s:SV} {d:Nat} {t:SV} (hd:d∉B73 ops o) (h:YieldsZ P nt ops o φ ob s):YieldsZ P nt ops o (W7 φ d t) ob s:=by
 obtain ⟨e,he,hlt,h⟩:=h
 refine ⟨e,he,hlt,?_⟩
 rcases h with ⟨hw,fr0,hfr,hn⟩ | ⟨hw,rfl⟩
 ·refine .inl ⟨(A19 hd).2 hw,fr0,fun i s hi=>?_,hn⟩
  obtain ⟨h1,h2⟩:=hfr i s hi
  have hne:i≠d:=fun e=>hd (e ▸ h2)
  exact ⟨by simpa [W7,hne] using h1,h2⟩
 ·exact .inr ⟨(A19 hd).2 hw,rfl⟩
theorem YieldsZ.unput {φ:Fa} {ob:Obs} {o:Oper} {s:SV} {d:Nat} {t:SV} (hd:d∉B73 ops o) (h:YieldsZ P nt ops o (W7 φ d t) ob s):YieldsZ P nt ops o φ ob s:=by
 obtain ⟨e,he,hlt,h⟩:=h
 refine ⟨e,he,hlt,?_⟩
 rcases h with ⟨hw,fr0,hfr,hn⟩ | ⟨hw,rfl⟩
 ·refine .inl ⟨(A19 hd).1 hw,fr0,fun i s hi=>?_,hn⟩
  obtain ⟨h1,h2⟩:=hfr i s hi
  have hne:i≠d:=fun e=>hd (e ▸ h2)
  exact ⟨by simpa [W7,hne] using h1,h2⟩
 ·exact .inr ⟨(A19 hd).1 hw,rfl⟩
theorem G97 {K:Fa→Obs→Prop} {i d:Nat} {oi:Oper} {s:SV} (hi:ops[i]?=some oi) (hti:p7 oi.op=false) (hdi:oi.dst=some d) :
  ∀(fuel:Nat) (listed:Array Bool) (φ:Fa) (ob:Obs),Closed ops listed →
   (∀j oj,ops[j]?=some oj→j≠i→listed.getD j true=false→p7 oj.op=true→Bef ops j i=true) →
   (∀j oj,ops[j]?=some oj→j≠i→listed.getD j true=false→p7 oj.op=false→(∃e∈oj.after.toList,Region.binds .any e=true∧e.on=i)∨D73 ops oi oj=true) →
   i∈Region.ready .any ops listed→YieldsZ P nt ops oi φ ob s →
   C94 P nt ops K fuel (listed.setIfInBounds i true) (W7 φ d s) ob→C94 P nt ops K (fuel+1) listed φ ob:=by
 have hself:∀(fuel:Nat) (listed:Array Bool) (φ:Fa) (ob:Obs),YieldsZ P nt ops oi φ ob s→C94 P nt ops K fuel (listed.setIfInBounds i true) (W7 φ d s) ob→StepXZ P nt ops i φ ob (C94 P nt ops K fuel (listed.setIfInBounds i true)):=by
  intro fuel listed φ ob hy H
  exact ⟨oi,hi,by rw [hti];exact ⟨s,d,hdi,hy,H⟩⟩
 have hunl:∀(listed:Array Bool),i∈Region.ready .any ops listed→listed.getD i false=false:=by
  intro listed hr
  have h0:=(mem_ready.1 hr).1
  simp only [Array.getD_eq_getD_getElem?] at h0 ⊢
  rcases Nat.lt_or_ge i listed.size with h' | h'
  ·rw [Array.getElem?_eq_getElem h'] at h0 ⊢;simpa using h0
  ·rw [Array.getElem?_eq_none h'] at h0;simp at h0
 intro fuel
 induction fuel with
 | zero =>
  intro listed φ ob hc hE hN hr hy H
  refine ⟨fun h=>(by rw [h] at hr;cases hr),fun j hj=>?_⟩
  by_cases hji:j=i
  ·subst hji;exact hself 0 listed φ ob hy H
  ·have:=ready_mono hj hji
   rw [H.1] at this
   cases this
 | succ fuel ih =>
  intro listed φ ob hc hE hN hr hy H
  refine ⟨fun h=>(by rw [h] at hr;cases hr),fun j hj=>?_⟩
  by_cases hji:j=i
  ·subst hji;exact hself (fuel+1) listed φ ob hy H
  ·obtain ⟨hjun,oj,hoj,hall⟩:=mem_ready.1 hj
   have hiun:=hunl listed hr
   cases htj:p7 oj.op with
   | true =>
    have hb:=hE j oj hoj hji hjun htj
    have:=y8 hc j hb (fun o ho e he hbd=>by rw [hoj] at ho;cases ho;exact hall e (Array.mem_toList_iff.1 he) hbd)
    rw [hiun] at this;cases this
   | false =>
    have hap:D73 ops oi oj=true:=by
     rcases hN j oj hoj hji hjun htj with ⟨e,he,hbd,hon⟩ | h
     ·have:=hall e (Array.mem_toList_iff.1 he) hbd
      rw [hon] at this
      have h2:listed.getD i false=true:=this
      rw [hiun] at h2;cases h2
     ·exact h
    obtain ⟨o',ho',hstep⟩:=H.2 j (ready_mono hj hji)
    rw [hoj] at ho';cases ho'
    rw [htj] at hstep
    obtain ⟨sj,dj,hdj,hyj,HK⟩:=hstep
    simp only [D73,hdi,hdj,J18,Bool.not_eq_true',List.contains_eq_mem,decide_eq_false_iff_not] at hap
    obtain ⟨⟨h1,h2⟩,h3⟩:=hap
    have h3:d≠dj:=fun e=>by subst e;simp at h3
    refine ⟨oj,hoj,by
     rw [htj]
     refine ⟨sj,dj,hdj,hyj.unput h1,?_⟩
     refine ih (listed.setIfInBounds j true) _ ob (T3 hc hj) ?_ ?_ (ready_mono hr (Ne.symm hji)) (hy.put h2) ?_
     ·intro k ok hk hki hun htk
      refine hE k ok hk hki ?_ htk
      by_cases hjk:j=k
      ·subst hjk;exact hjun
      ·rwa [getD_set_ne true hjk] at hun
     ·intro k ok hk hki hun htk
      refine hN k ok hk hki ?_ htk
      by_cases hjk:j=k
      ·subst hjk;exact hjun
      ·rwa [getD_set_ne true hjk] at hun
     ·rw [Array.setIfInBounds_comm _ _ hji,←C57 h3]
      exact HK⟩
def A20 (P:Program) (nt:Nat) (ops:Array Oper) (K:Fr→Obs→Prop):List Oper→Fr→Obs→Prop
 | [],fr,ob=>K fr ob
 | o::rest,fr,ob=>cond (p7 o.op) (StepE P nt ops o (D7 fr) ob (fun φ' ob'=>∃fr',φ'=D7 fr'∧A20 P nt ops K rest fr' ob'))
   (∃s d,o.dst=some d∧YieldsZ P nt ops o (D7 fr) ob s∧A20 P nt ops K rest ((d,s)::fr) ob)
def D74 (ops:Array Oper):Nat→Nat→Array Bool→Bool
 | 0,_,listed=>(Region.ready .any ops listed).isEmpty
 | fuel+1,k,listed =>
  (match ops[k]? with
   | some o=>(Region.ready .any ops listed).contains k&&cond (p7 o.op) ((Region.ready .any ops listed).all fun j=>Nat.beq j k)
    ((List.range ops.size).all fun j=>Nat.beq j k||listed.getD j true||match ops[j]? with
     | some oj=>cond (p7 oj.op) (Bef ops j k) (oj.after.toList.any (fun e=>Region.binds .any e&&Nat.beq e.on k)||D73 ops o oj)
     | none=>true)
   | none=>false)&&D74 ops fuel (k+1) (listed.setIfInBounds k true)
theorem D75 {K:Fr→Obs→Prop}:∀(l:List Oper) (k:Nat) (listed:Array Bool) (fr:Fr) (ob:Obs),(∀j,l[j]?=ops[k+j]?)→Closed ops listed→D74 ops l.length k listed=true→A20 P nt ops K l fr ob →
  C94 P nt ops (fun φ ob=>∃fr',φ=D7 fr'∧K fr' ob) l.length listed (D7 fr) ob
 | [],k,listed,fr,ob,hl,hc,hB,h=>⟨by simpa [D74] using hB,fr,rfl,h⟩
 | o :: l,k,listed,fr,ob,hl,hc,hB,h=>by
  have h0:ops[k]?=some o:=by simpa using (hl 0).symm
  simp only [J16,D74,h0,J18] at hB
  obtain ⟨⟨hr,hf⟩,hB'⟩:=hB
  have hr':k∈Region.ready .any ops listed:=by simpa using hr
  have hl':∀j,l[j]?=ops[k+1+j]?:=fun j=>by have:=hl (j+1);simpa [Nat.add_assoc,Nat.add_comm 1 j] using this
  simp only [A20] at h
  cases ht:p7 o.op with
  | true =>
   rw [ht] at h hf
   simp only [cond] at hf h
   have honly:∀j∈Region.ready .any ops listed,j=k:=fun j hj=>by
    have:=List.all_eq_true.1 hf j hj
    exact Nat.eq_of_beq_eq_true this
   refine ⟨fun he=>(by rw [he] at hr';cases hr'),fun j hj=>?_⟩
   have:=honly j hj
   subst this
   refine ⟨o,h0,?_⟩
   rw [ht]
   refine ⟨h.1,fun S G a w hn hs=>?_⟩
   have hd:=h.2 S G a w hn hs
   unfold Does at hd ⊢
   have imp:∀v w',(∃φ' ob' G',(∃fr',φ'=D7 fr'∧A20 P nt ops K l fr' ob')∧SimF P S φ' ob' G' (a.put o.dst v) w') →
     (∃φ' ob' G',C94 P nt ops (fun φ ob=>∃fr',φ=D7 fr'∧K fr' ob) l.length (listed.setIfInBounds j true) φ' ob'∧SimF P S φ' ob' G' (a.put o.dst v) w'):=by
    rintro v w' ⟨φ',ob',G',⟨fr',rfl,hL⟩,hs'⟩
    exact ⟨_,ob',G',D75 l (j+1) _ fr' ob' hl' (T3 hc hj) hB' hL,hs'⟩
   generalize (execOp a.eval o).run P w=r at *
   cases r with
   | ok n w' =>
    cases n<;>simp only at hd ⊢<;>try exact hd.elim
    case value v=>exact imp _ _ hd
    case skip=>exact imp _ _ hd
    case enter f args=>exact hd.mono fun e w'' ⟨v,he,hv⟩=>⟨v,he,imp _ _ hv⟩
   | halt x w'=>exact hd
  | false =>
   rw [ht] at h hf
   simp only [cond] at hf h
   obtain ⟨s,d,hd,hy,hL⟩:=h
   have hall:∀j oj,ops[j]?=some oj→j≠k→listed.getD j true=false→cond (p7 oj.op) (Bef ops j k) (oj.after.toList.any (fun e=>Region.binds .any e&&Nat.beq e.on k)||D73 ops o oj)=true:=by
    intro j oj hoj hjk hun
    have hlt:j < ops.size:=(Array.getElem?_eq_some_iff.1 hoj).1
    have:=List.all_eq_true.1 hf j (List.mem_range.2 hlt)
    rw [I2 hjk,hun,hoj] at this
    simp only [Bool.false_or] at this
    exact this
   refine G97 h0 ht hd l.length listed _ ob hc ?_ ?_ hr' hy ?_
   ·intro j oj hoj hjk hun htj
    have:=hall j oj hoj hjk hun
    rw [htj] at this;exact this
   ·intro j oj hoj hjk hun htj
    have:=hall j oj hoj hjk hun
    rw [htj] at this
    simp only [cond,J55,List.any_eq_true,J18] at this
    rcases this with ⟨e,he,hb,hon⟩ | h
    ·exact .inl ⟨e,he,hb,Nat.eq_of_beq_eq_true hon⟩
    ·exact .inr h
   ·rw [←y9]
    exact D75 l (k+1) _ _ ob hl' (T3 hc hr') hB' hL
theorem G98 {id:Nat} {l:List Oper} {fr:Fr} {ob:Obs} {Q:Post} (hm:P.follows .mixedOrders=true) (hB:(D74 l.toArray l.length 0 (Array.replicate l.length false)&&G65 nt l.toArray)=true)
  (h:A20 P nt l.toArray (fun fr ob=>Q .normal fr ob) l fr ob):WpC P nt (.region id l.toArray true) fr ob Q:=by
 intro S G a w hn hs
 simp only [J18] at hB
 have hdst:∀(j t:Nat),(l.toArray[j]?).bind (fun o=>o.dst)=some t→t < nt:=by
  intro j t ht
  cases ho:l.toArray[j]? with
  | none=>simp [ho] at ht
  | some o =>
   simp [ho] at ht
   have hmem:o∈l:=by
    rw [List.getElem?_toArray] at ho
    exact J30 ho
   have:=List.all_eq_true.1 hB.2 o (by simpa using hmem)
   rw [ht] at this
   simpa using this
 refine wp_region_any hm ?_
 have hc:Closed l.toArray (Array.replicate l.length false):=by
  intro j o ho hl
  simp only [Array.getD_eq_getD_getElem?] at hl
  rcases Nat.lt_or_ge j l.length with h' | h'
  ·simp [h'] at hl
  ·simp [h'] at hl
 have key:=D75 (P:=P) (nt:=nt) (ops:=l.toArray) (K:=fun fr ob=>Q .normal fr ob) l 0 (Array.replicate l.length false) fr ob (by simp) hc hB.1 h
 have hx:Below w.heap.size w { w with drawn:=w.drawn+1 }:=⟨rfl,rfl,rfl,Nat.le_refl _,fun _ _=>rfl⟩
 have hs':SimF P S (D7 fr) ob G a { w with drawn:=w.drawn+1 }:=(simF_iff.2 hs).ext hx
 have:=A63 (Q:=PostOf P S Q) hn hdst (fun φ ob' G' a' w' ⟨fr',he,hq⟩ hsf=>⟨fr',ob',G',hq,simF_iff.1 (he ▸ hsf)⟩) l.length _ _ ob G a _ key hs'
 simpa using this
end
section
variable {P:Program} {nt:Nat} {ops:Array Oper} {rest:List Oper} {fr:Fr} {ob:Obs} {K:Fr→Obs→Prop} {d:Nat}
theorem dz_nil (h:K fr ob):A20 P nt ops K [] fr ob:=h
theorem Q5 {op:Op} {ty:TypeId} {pos:String} {af:Array Edge} {s:SV} (h:Neu P ⟨some d,op,ty,pos,af,none⟩ (W9 fr (t7 op)) ob (fun s'=>s'=s)) (ht:p7 op=false) (hd:Nat.blt d nt=true) (k:A20 P nt ops K rest ((d,s)::fr) ob) :
  A20 P nt ops K (⟨some d,op,ty,pos,af,none⟩::rest) fr ob:=by
 simp only [A20,ht,cond]
 refine ⟨s,d,rfl,⟨d,rfl,by simpa using hd,.inl ⟨rfl,_,fun i s hi=>⟨n5 hi,?_⟩,h⟩⟩,k⟩
 simpa [B73,A51] using y2 hi
theorem A94 {op:Op} {ty:TypeId} {pos:String} {af:Array Edge} {j t:Nat} {b x:Bool} (hj:(ops[j]?).bind (·.dst)=some t) (hx:D7 fr t=some (.s (.one (.p (.v (.bool x)))))) (hb:x=b) (ht:p7 op=false)
  (k:A20 P nt ops K (⟨some d,op,ty,pos,af,none⟩::rest) fr ob):A20 P nt ops K (⟨some d,op,ty,pos,af,some (j,b)⟩::rest) fr ob:=by
 simp only [A20,ht,cond] at k ⊢
 obtain ⟨s,e,he,⟨e',he',hlt,hy⟩,hL⟩:=k
 have hw:Wanted ops (D7 fr) (⟨some d,op,ty,pos,af,some (j,b)⟩:Oper) true:=⟨t,_,hj,hx,by have:=Wants.val (b:=b) x;rwa [show (x == b)=true by simp [hb]] at this⟩
 rcases hy with ⟨_,fr0,h1,h2⟩ | ⟨hw2,_⟩
 ·exact ⟨s,e,he,⟨e',he',hlt,.inl ⟨hw,fr0,fun i q hi=>⟨(h1 i q hi).1,List.mem_append.2 (.inr (by
   have:=(h1 i q hi).2
   unfold B73 at this
   simpa [A51] using this))⟩,h2⟩⟩,hL⟩
 ·unfold Wanted at hw2;cases hw2
end
end
attribute [irreducible] A20
set_option maxHeartbeats 1000000
def j5 (rows:List Row):Bool:=rows.any fun r=>decide (r.Marks≠0)
theorem F34 (rows:List Row) (i:Nat) (h:i < rows.length):j5 (rows.take (i+1))=(j5 (rows.take i)||decide (rows[i].Marks≠0)):=by
 unfold j5
 rw [J22 h,List.any_append];simp
theorem G13 (raw:List Int) (n:Int):FnOk Tryz.prog 8 [M7 raw,J0 n] (fun rs=>rs=[N1 true]):=by
 obtain ⟨x,r,hpk,hxl,_⟩:=G06 raw n
 have hsm:=G95 hpk
 have hL:=I53 hpk
 obtain ⟨h1,h4⟩:=G08 raw n hpk
 have hP:=I00 raw n x r hpk
 have hF:=G09 [120] x r hsm hL
 have hM:=H99 x r (by omega) (fun b hb=>by have:=hsm.hr b hb;omega)
 have hD:=G96 [120] x r 1048576 false hsm hL
 have hFz:=(I01 (path:=[120]) hsm).1
 obtain ⟨F1,F2,_⟩:=G12 (path:=[120]) (by decide) (by decide) hsm h1 hL
 obtain ⟨D1,_,_,_⟩:=G11 (path:=[120]) (ctx:=1048576) false (by decide) (by decide) hsm h1 hL (by omega)
 obtain ⟨g1,g2,g3,_⟩:=x7 hsm h1 hL
 have hl:=hsm.len
 obtain ⟨_,K2⟩:=H26 g2 (by omega)
 rw [K2] at D1
 rw [F1] at hF hFz
 rw [D1] at hD
 obtain ⟨t,e,hte⟩:∃t e,F3 x r=(t,e):=⟨_,_,rfl⟩
 rw [hte] at hM hF hD hl g1 g3 hFz
 obtain ⟨tp,rows⟩:=t
 dsimp only at hM hF hD hl g1 g3 hFz
 subst g1 g3
 rw [E20] at hF hFz
 obtain ⟨hs,hhs⟩:∃hs:List CHunk,hs=if 0 < rows.length then [⟨List.replicate (r.length+1) 0,rows⟩] else []:=⟨_,rfl⟩
 rw [←hhs] at hF hFz
 have hsl:(hs.length:Int)=if 1 < (rows.length:Int) then 1 else (rows.length:Int):=by rw [hhs];split<;>split<;>simp<;>omega
 have hsv:∀k,k < hs.length→k=0∧hs[k]?=some ⟨List.replicate (r.length+1) 0,rows⟩:=by
  intro k hk
  rw [hhs] at hk ⊢
  split at hk
  ·rename_i hp;rw [if_pos hp];simp at hk;subst hk;exact ⟨rfl,rfl⟩
  ·exact absurd hk (Nat.not_lt_zero _)
 have hG:=I51 ⟨[120],false,r.length,hs⟩ (by dsimp only;omega)
 have hdh:(j5 rows=true∧U0 r.length rows (if ∃r∈rows,r.Marks≠0 then W6 rows.length else [])=hs)∨(j5 rows=false∧U0 r.length rows (if ∃r∈rows,r.Marks≠0 then W6 rows.length else [])=[]):=by
  by_cases hm:∃r∈rows,r.Marks≠0
  ·left
   rw [if_pos hm,E20,hhs]
   obtain ⟨w,hw,hw2⟩:=hm
   exact ⟨List.any_eq_true.2 ⟨w,hw,decide_eq_true hw2⟩,rfl⟩
  ·right
   rw [if_neg hm]
   refine ⟨?_,rfl⟩
   cases hb:j5 rows with
   | false=>rfl
   | true =>
    obtain ⟨w,hw,hw2⟩:=List.any_eq_true.1 hb
    exact absurd ⟨w,hw,A0 hw2⟩ hm
 obtain ⟨hd,hdd⟩:∃hd,hd=U0 r.length rows (if ∃r∈rows,r.Marks≠0 then W6 rows.length else []):=⟨_,rfl⟩
 rw [←hdd] at hdh hD
 refine FnOk.intro Tryz.func8 (by decide) Z Z Z Z ?_
 refine k2 (A3 (A7 Z Z (A5 ?_)));refine k1 (k2 (A3 (A4 Z Z (A4 Z Z (C6 (hP) Z Z Z ?_)))));rintro _ rfl;refine A4 Z Z (J4 Z Z Z (J4 Z Z Z (A7 Z Z (A7 Z Z (A5 ?_)))));refine K4 ?_
 refine L6 [(5,X0 x),(6,C0 Str 1 M6 r)] [] (I81 ⟨le1 rfl,le1 rfl,trivial⟩ trivial) ?_
 refine k2 (A3 (A4 Z Z (A4 Z Z (C6 (hF) Z Z Z ?_))));rintro _ rfl;refine A4 Z Z (J4 Z Z Z (J4 Z Z Z (C2 (H3 7 Z) Z (G1 (B7 TySz.out Z Z Z Z Z Z) (A7 Z Z (A5 ?_))))));refine k1 (k2 (A3 (A4 Z Z (A4 Z Z (C6 (hM) Z Z Z ?_)))));rintro _ rfl;refine A4 Z Z (J4 Z Z Z (J4 Z Z Z (C2 (H3 9 Z) Z (G1 (B7 TySz.out Z Z Z Z Z Z) (A7 Z Z (A5 ?_))))));refine k1 (k2 (A3 (A4 Z Z (A4 Z Z (C6 (hD) Z Z Z ?_)))));rintro _ rfl;refine A4 Z Z (J4 Z Z Z (J4 Z Z Z (C2 (H3 11 Z) Z (G1 (B7 TySz.out Z Z Z Z Z Z) (A7 Z Z (A5 ?_))))));refine k1 (k2 (k2 (A3 (A4 Z Z (A6 (O6 Z Z) Z (A4 Z Z (B2 Z Z Z Z (fun hg=>by rw [hg];exact C3 Z Z) ?_)))))));refine B2 Z Z Z Z (fun hg=>by rw [hg];exact O6 Z Z) ?_;refine J5 Z Z ?_;refine A4 Z Z (B2 Z Z Z Z (fun hg=>by rw [hg];exact A8 Z) ?_);refine B2 Z Z Z Z (fun hg=>by rw [hg];exact B4 Z Z Z) ?_;refine B2 Z Z Z Z (fun hg=>by rw [hg];exact V1 Z (.pure _ _ _ _)) ?_;refine B2 Z Z Z Z (fun hg=>by rw [hg];exact A8 Z) ?_;refine B2 Z Z Z Z (fun hg=>by rw [hg];exact B4 Z Z Z) ?_;refine B2 Z Z Z Z (fun hg=>by rw [hg];exact V1 Z (.pure _ _ _ _)) ?_;refine B2 Z Z Z Z (fun hg=>by rw [hg];exact F69 Z Z) ?_;refine B2 Z Z Z Z (fun hg=>by rw [hg];exact O6 Z Z) ?_;refine J5 Z Z ?_;refine A4 Z Z (B2 Z Z Z Z (fun hg=>by rw [hg];exact A8 Z) ?_);refine B2 Z Z Z Z (fun hg=>by rw [hg];exact B4 Z Z Z) ?_;refine J5 Z Z ?_;refine A5 ?_;refine k1 ?_;refine B5 rfl (fun ht=>?_) (fun ht=>?_)
 ·exfalso;dsimp only at ht;rw [←hsl] at ht;simp at ht
 refine k5 (k1 (k2 (A3 (A7 Z Z (A5 ?_)))));refine k1 (k2 (k2 (A3 (A7 Z Z (A5 ?_)))));refine k1 (k3 (D2 (X:=Nat) (fun i=>([(6,C0 Str 1 M6 r),(7,.s (.one (.ref 7 0))),(9,.s (.one (.ref 9 0))),(11,.s (.one (.ref 11 0))),(13,N0 (j5 (rows.take i))),(14,B6 i)],[(7,.box (U6 ⟨[120],false,r.length,hs⟩).s1.cells),(9,.box (pTable ⟨r.length,rows⟩).s1.cells),(11,.box (U6 ⟨[120],false,r.length,hd⟩).s1.cells)])) (fun i=>i≤rows.length) (fun i=>rows.length - i) 0 (Nat.zero_le _) (I81 ⟨le1 rfl,le1 rfl,le1 rfl,le1 rfl,le1 rfl,le1 rfl,trivial⟩ ⟨rfl,rfl,rfl,trivial⟩) ?_))
 intro i hi
 dsimp only at hi ⊢
 refine k2 (k2 (A3 (A4 Z Z (A6 (A8 Z) Z (E9 Z Z Z Z (E4 Z Z (F4 Z Z Z (A5 ?_))))))));refine k1 ?_;refine B5 rfl (fun ht=>?_) (fun ht=>?_)
 ·have hlt:i < rows.length:=by have:=A0 ht;(try dsimp only at this);omega
  have hv:rows[i]?=some rows[i]:=by simp [hlt]
  have hsucc:=F34 rows i hlt
  obtain ⟨w,hw⟩:∃w,w=rows[i]:=⟨_,rfl⟩
  rw [←hw] at hv hsucc
  refine k5 (k1 (k2 (k3 (A3 (A4 Z Z (A4 Z Z (B2 Z Z Z Z (fun hg=>by rw [hg];exact A8 Z) ?_)))))));refine B2 Z Z Z Z (fun hg=>by rw [hg];exact B4 Z Z Z) ?_;refine B2 Z Z Z Z (fun hg=>by rw [hg];exact C3 Z Z) ?_;refine B2 Z Z Z Z (fun hg=>by have hq:=hg;(try simp at hq);rw [hg];exact A9 Z (.pure _ _ _ _) Z (by omega) hv) ?_;refine B2 Z Z Z Z (fun hg=>by rw [hg];exact G7 Z) ?_;refine B2 Z Z Z Z (fun hg=>by rw [hg];exact B3 Z Z) ?_;refine B2 Z Z Z Z (fun hg=>by rw [hg];exact O6 Z Z) ?_;refine J5 Z Z ?_;refine A7 Z Z (A5 ?_);refine k4 (k1 (A3 (A4 Z Z (C5 Z Z Z (A7 Z Z (A5 ?_))))));refine k1 ?_;refine ⟨i+1,by omega,by omega,?_⟩
  rw [hsucc]
  have e:(if j5 (rows.take i)=true then true else decide (w.Marks≠0))=(j5 (rows.take i)||decide (w.Marks≠0)):=by cases j5 (rows.take i)<;>rfl
  rw [e]
  exact I81 ⟨le1 rfl,le1 rfl,le1 rfl,le1 rfl,le1 rfl,le1 rfl,trivial⟩ ⟨rfl,rfl,rfl,trivial⟩
 have hi':i=rows.length:=by have:=A1 ht;(try dsimp only at this);omega
 subst hi'
 rw [J32]
 refine k6 (k2 (k2 (A3 (A7 Z Z (A5 ?_)))));refine k1 (k3 (D2 (X:=Nat) (fun k=>([(6,C0 Str 1 M6 r),(7,.s (.one (.ref 7 0))),(9,.s (.one (.ref 9 0))),(11,.s (.one (.ref 11 0))),(13,N0 (j5 rows)),(15,B6 k)],[(7,.box (U6 ⟨[120],false,r.length,hs⟩).s1.cells),(9,.box (pTable ⟨r.length,rows⟩).s1.cells),(11,.box (U6 ⟨[120],false,r.length,hd⟩).s1.cells)])) (fun k=>k≤hs.length) (fun k=>hs.length - k) 0 (Nat.zero_le _) (I81 ⟨le1 rfl,le1 rfl,le1 rfl,le1 rfl,le1 rfl,le1 rfl,trivial⟩ ⟨rfl,rfl,rfl,trivial⟩) ?_))
 intro k hk
 dsimp only at hk ⊢
 refine k2 (k2 (A3 (A4 Z Z (A6 (A8 Z) Z (E9 Z Z Z Z (E4 Z Z (F4 Z Z Z (A5 ?_))))))));refine k1 ?_;refine B5 rfl (fun ht=>?_) (fun ht=>?_)
 ·have hlt:k < hs.length:=by have:=A0 ht;(try dsimp only at this);omega
  obtain ⟨_,hv⟩:=hsv k hlt
  have e0:((r.length:Int)+1).toNat=r.length+1:=by omega
  refine k5 (k1 (k2 (k3 (k2 (G98 (by kernel_rfl) (by kernel_rfl) (Q5 (A8 Z) Z Z (Q5 (B4 Z Z Z) Z Z (Q5 (C3 Z Z) Z Z (Q5 (A9 Z (.pure _ _ _ _) Z (by omega) hv) Z Z (Q5 (G7 Z) Z Z (Q5 (B3 Z Z) Z Z (Q5 (A8 Z) Z Z (Q5 (B4 Z Z Z) Z Z (Q5 (O4 (G05 rows (by omega)) Z Z) Z Z (Q5 (M3 Z) Z Z (Q5 (C3 Z Z) Z Z (A94 Z Z Z Z (Q5 (A8 Z) Z Z (A94 Z Z Z Z (Q5 (B4 Z Z Z) Z Z (A94 Z Z Z Z (Q5 (C3 Z Z) Z Z (A94 Z Z Z Z ?_)))))))))))))))))))))));refine Q5 (A9 Z (.pure _ _ _ _) Z (by omega) hv) Z Z (A94 Z Z Z Z (Q5 (G7 Z) Z Z (A94 Z Z Z Z (Q5 (B3 Z Z) Z Z (A94 Z Z Z Z (Q5 (C3 Z Z) Z Z (A94 Z Z Z Z (Q5 (V1 Z (.pure _ _ _ _)) Z Z (A94 Z Z Z Z (Q5 (U2 Z Z (by omega)) Z Z (A94 Z Z Z Z (Q5 (n_makeP (Int) G3 0 Z Z (by omega) (by omega) (fun _=>by first | exact ⟨⟨rfl,rfl⟩,trivial⟩ | exact ⟨N3 _ _ _,trivial⟩)) Z Z ?_))))))))))));rw [e0];refine A94 Z Z Z Z (Q5 (O4 (G04 (List.replicate (r.length+1) 0) (by simp;omega)) Z Z) Z Z (A94 Z Z Z Z (Q5 (M3 Z) Z Z (Q5 (K6 Z (fun h=>by first | rfl | (rw [h];rfl)) (fun h=>by first | rfl | (rw [h];rfl))) Z Z ?_))));refine dz_nil ?_
  refine k1 ?_;refine B5 rfl (fun ht=>?_) (fun ht=>?_)
  ·exfalso;simp at ht
  refine k5 (k4 (k1 (A3 (A4 Z Z (C5 Z Z Z (A7 Z Z (A5 ?_)))))));refine k1 ?_
  exact ⟨k+1,by omega,by omega,I81 ⟨le1 rfl,le1 rfl,le1 rfl,le1 rfl,le1 rfl,le1 rfl,trivial⟩ ⟨rfl,rfl,rfl,trivial⟩⟩
 rcases hdh with ⟨m1,m2⟩ | ⟨m1,m2⟩
 ·rw [m1,m2]
  refine k6 (k2 (A3 (A4 Z Z (A4 Z Z (O5 Z Z Z Z (A6 (D6 Z Z Z) Z (O5 Z Z Z Z (A6 (D6 Z Z Z) Z (O5 Z Z Z Z (C6 (hG) Z Z Z ?_))))))))));rintro _ rfl;refine A6 (B09 Z (rfl) Z) Z (A4 Z Z (O8 Z Z Z (by decide) Z (O8 Z Z Z (by decide) Z (O8 Z Z Z (by decide) Z (P3 (s:=.any) Z Z Z .un Z (fun h=>absurd h (by decide)) (P3 (s:=.any) Z Z Z .un Z (fun h=>absurd h (by decide)) (P3 (s:=.any) Z Z Z .un Z (fun h=>absurd h (by decide)) (P3 (s:=.any) Z Z Z .un Z (fun h=>absurd h (by decide)) (O8 Z Z Z (by decide) Z (A6 (B09 Z (rfl) Z) Z (A4 Z Z (O5 Z Z Z Z (C6 (D72) Z Z Z ?_)))))))))))));rintro _ rfl;refine A6 (B09 Z (rfl) Z) Z (A7 Z Z (A5 ?_));refine k1 (k10 ?_)
  exact B9 (rs:=[N1 true]) (I5 rfl rfl rfl) rfl
 ·rw [m1,m2]
  refine k6 (k2 (A3 (A4 Z Z (A4 Z Z (O8 Z Z Z (by decide) Z (O8 Z Z Z (by decide) Z (O8 Z Z Z (by decide) Z (A6 (C13 Z (rfl) Z) Z (A4 Z Z (O5 Z Z Z Z (A4 Z Z (O5 Z Z Z Z (A6 (M3 Z) Z (O5 Z Z Z Z (A4 Z Z (O5 Z Z Z Z (A6 (A8 Z) Z (O5 Z Z Z Z (E9 Z Z Z Z (O5 Z Z Z Z (E4 Z Z (O5 Z Z Z Z (A6 (Q0 Z Z) Z ?_)))))))))))))))))))))));refine O5 Z Z Z Z (A6 (B09 Z (rfl) Z) Z (A6 (C13 Z (rfl) Z) Z (A4 Z Z (O5 Z Z Z Z (C6 (D72) Z Z Z ?_)))));rintro _ rfl;refine A6 (B09 Z (rfl) Z) Z (A7 Z Z (A5 ?_));refine k1 (k10 ?_)
  exact B9 (rs:=[N1 true]) (I5 rfl rfl rfl) rfl
end Go.Proofs.YtbiadkkamhpdnaaGreatDoor
