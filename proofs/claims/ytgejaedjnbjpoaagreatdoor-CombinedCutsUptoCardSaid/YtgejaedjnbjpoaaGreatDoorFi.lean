/- Walks of the program's functions. -/
import Derived.Test.YtgejaedjnbjpoaaGreatDoorFh
import Derived.Test.YtgejaedjnbjpoaaGreatDoorFf
import Derived.Test.YtgejaedjnbjpoaaGreatDoorFs
import Derived.Test.YtgejaedjnbjpoaaGreatDoorFc
import Derived.Test.YtgejaedjnbjpoaaGreatDoorFg
import Derived.Test.YtgejaedjnbjpoaaGreatDoorFa
namespace Go.Proofs.YtgejaedjnbjpoaaGreatDoor
open Go Go.AL
set_option maxRecDepth 100000
end Go.Proofs.YtgejaedjnbjpoaaGreatDoor
namespace Go.Proofs.YtgejaedjnbjpoaaGreatDoor
open Go Go.AL
set_option maxRecDepth 100000
set_option maxHeartbeats 1000000
end Go.Proofs.YtgejaedjnbjpoaaGreatDoor
namespace Go.Proofs.YtgejaedjnbjpoaaGreatDoor
open Go Go.AL
set_option maxRecDepth 100000
set_option maxHeartbeats 1000000
set_option maxHeartbeats 2000000
end Go.Proofs.YtgejaedjnbjpoaaGreatDoor
namespace Go.Proofs.YtgejaedjnbjpoaaGreatDoor
open Go Go.AL
set_option maxRecDepth 100000
set_option maxHeartbeats 1000000
set_option maxHeartbeats 1000000
set_option maxHeartbeats 1000000
def r9 (raw:List Int) (n:Int):List Str:=W7 raw (2+N1 n 4).toNat 7
theorem F46 (raw:List Int) (n:Int):∃x r,r9 raw n=x::r∧x.length≤140∧∀b∈r,b.length≤140:=by
 have hm:=Y3 n (n:=4) (by omega)
 have hl:(r9 raw n).length=(2+N1 n 4).toNat:=by simp [r9,W7]
 have hb:∀b∈r9 raw n,b.length≤140:=by
  intro b hb
  obtain ⟨p,_,rfl⟩:=List.mem_map.1 hb
  have:=D25 raw 7 p (by omega);omega
 cases h:r9 raw n with
 | nil=>rw [h] at hl;simp at hl;omega
 | cons x r=>exact ⟨x,r,rfl,hb x (by rw [h];simp),fun b hb'=>hb b (by rw [h];simp [hb'])⟩
theorem F47:∀s∈lineTab,s.count 10=0:=by decide
theorem D37 (k:Int):(l5 k).count 10=0:=by
 unfold l5
 rw [I00]
 cases h:lineTab[(N1 k 10).toNat]? with
 | none=>rfl
 | some s=>exact F47 s (I12 h)
theorem D88 (raw:List Int) (from' kinds:Int) (m:Nat):(R6 raw from' kinds m).count 10=m:=by
 induction m with
 | zero=>simp [R6]
 | succ m ih=>rw [w8,List.count_append,List.count_append,ih,D37];rfl
theorem D38 (raw:List Int) (from' n kinds:Int) (h1:0≤n):((V1 raw from' n kinds).count 10:Int)≤n:=by
 have h:=Y3 (i6 raw from') (n:=n+1) (by omega)
 have h2:=D88 raw from' kinds (N1 (i6 raw from') (n+1)).toNat
 have h3:=(List.take_sublist ((R6 raw from' kinds (N1 (i6 raw from') (n+1)).toNat).length - 1) (R6 raw from' kinds (N1 (i6 raw from') (n+1)).toNat)).count_le (a:=(10:UInt8))
 unfold V1
 simp only
 split
 ·omega
 ·omega
theorem A44 (raw:List Int) (from':Int):∀(l:List Str) (i:Nat) (s:Str),(i7 raw from' i s l).count 10≤s.count 10+l.flatten.count 10+l.length
 | [],i,s=>by simp [i7]
 | x::r,i,s=>by
  have h1:=A44 raw from' r (i+1) s
  have h2:=A44 raw from' r (i+1) (s++l5 (i6 raw (from'+40+(i:Int)))++[10]++x)
  have h3:=A44 raw from' r (i+1) (s++x)
  have h4:=D37 (i6 raw (from'+40+(i:Int)))
  have h5:List.count (10:UInt8) [10]=1:=rfl
  simp only [List.count_append,h4,h5] at h2 h3
  unfold i7
  simp only [I11,List.count_append,H96]
  split
  ·omega
  ·split<;>omega
theorem G17 (raw:List Int) (p:Nat):(l6 raw 7 p).count 10≤15:=by
 have h1:=D38 raw (600+50*(p:Int)) 7 4 (by omega)
 have h2:=D38 raw 0 7 5 (by omega)
 have h3:=A44 raw (600+50*(p:Int)) (C4 (V1 raw 0 7 5)) 0 []
 have h4:=C77 (V1 raw 0 7 5)
 rw [U2] at h3
 have h5:List.count (10:UInt8) ([]:Str)=0:=rfl
 unfold l6
 split
 ·omega
 ·split
  ·omega
  ·unfold B60;omega
theorem G18 (raw:List Int) (n:Int):∀b∈r9 raw n,(C4 b).length≤16∧b.length≤140:=by
 intro b hb
 obtain ⟨p,_,rfl⟩:=List.mem_map.1 hb
 have h1:=D25 raw 7 p (by omega)
 have h2:=G17 raw p
 have h3:=C77 (l6 raw 7 p)
 omega
theorem H49 (raw:List Int) (n:Int) {x:Str} {r:List Str} (h:r9 raw n=x::r):1≤r.length∧r.length≤4:=by
 have hm:=Y3 n (n:=4) (by omega)
 have hl:(r9 raw n).length=(2+N1 n 4).toNat:=by simp [r9,W7]
 rw [h,H96] at hl
 omega
structure Small16 (x:Str) (r:List Str):Prop where
 n:1≤r.length∧r.length≤4
 hx:x.length≤140
 hr:∀b∈r,b.length≤140
 rows:I7 (M5 x r).1.Rows
 len:(M5 x r).1.Rows.length≤1105
 txt:∀q∈(M5 x r).1.Rows,q.Text.length≤140
theorem G19 {raw:List Int} {n:Int} {x:Str} {r:List Str} (h:r9 raw n=x::r):Small16 x r:=by
 have h1:=H49 raw n h
 have h2:=G18 raw n
 rw [h] at h2
 have hx:=h2 x (by simp)
 have hr:∀b∈r,(C4 b).length≤16∧b.length≤140:=fun b hb=>h2 b (by simp [hb])
 obtain ⟨k1,k2,k3⟩:=C14 x r 16 140 hx hr
 have h4:r.length*16+1≤65:=by omega
 exact ⟨h1,hx.2,fun b hb=>(hr b hb).2,k1,by omega,k3⟩
theorem textsLen_le {rows:List Row} {B:Nat} (h:∀q∈rows,q.Text.length≤B):P6 rows≤rows.length*B∧(rows.map Q7).sum≤rows.length*(B+96)∧∀n,(rows.map (wRow n)).sum≤rows.length*(B+n+29):=by
 unfold P6
 induction rows with
 | nil=>simp
 | cons x r ih =>
  obtain ⟨i1,i2,i3⟩:=ih fun q hq=>h q (by simp [hq])
  have hx:=h x (by simp)
  simp only [I05,I11,H95,I27,H96,I18,Nat.one_mul]
  simp only [Nat.mul_add] at i2 i3 ⊢
  refine ⟨by omega,by unfold Q7 at i2 ⊢;omega,fun n=>?_⟩
  have:=i3 n
  unfold wRow at this ⊢
  omega
theorem Small16.sums {x:Str} {r:List Str} (h:Small16 x r):P6 (M5 x r).1.Rows≤154700∧((M5 x r).1.Rows.map Q7).sum≤260780∧∀n,n≤32→((M5 x r).1.Rows.map (wRow n)).sum≤1105*201:=by
 obtain ⟨h1,h2,h3⟩:=textsLen_le h.txt
 have h4:=h.len
 refine ⟨by omega,by omega,fun n hn=>?_⟩
 refine Nat.le_trans (h3 n) ?_
 exact Nat.mul_le_mul h4 (by omega)
set_option maxHeartbeats 1000000
theorem G65 {n:Nat} {rows:List Row}:∀{sp:List Span} {e:Int} {hs:List CHunk},D35 rows.length e sp=false→X4 n rows e hs sp=none
 | [],e,hs,h=>by cases h
 | s::r,e,hs,h=>by
  rw [D35] at h
  rw [X4]
  by_cases hc:s.From < e∨s.To≤s.From∨(rows.length:Int) < s.To
  ·rw [if_pos hc]
  ·rw [if_neg hc] at h ⊢
   exact G65 h
abbrev z59:Ob:=.box [.p (.v (.string ⟨#[]⟩)),.p (.v (.bool false)),.p (.v (.int .i64 0)),.p (.v (.slice none 0 0))]
set_option maxHeartbeats 1000000
theorem C90 (path:Str) (t:Table) (sp:List Span) (d:Bool) (hr:I7 t.Rows) (hW:(t.Rows.map Q7).sum≤8388608) (hx:P6 t.Rows≤8388608) (hsp:sp.length≤536870912) :
  FnOk Tryz.prog 52 [L4 path,pTable t,pSpans sp,J5 d] (fun rs=>rs=[R2 (V5 path t sp d).1,G8 (V5 path t sp d).2]):=by
 have hl:=R7 t.Rows
 have hll:t.Rows.length≤8388608:=by omega
 refine FnOk.intro Tryz.func52 (by decide) Z Z Z Z ?_
 refine k2 ?_
 refine A3 (C1 (Q4 5 Z Z Z) Z (C1 (G3 8 Z) Z (A2 (A5 Z Z) Z (A6 ?_))))
 refine k1 (k2 (k2 ?_))
 refine A3 (A2 (A4 Z Z) Z (C3 (C29 path) Z Z Z ?_));rintro _ rfl;refine A2 (K9 Z) Z (A6 ?_)
 refine k1 ?_
 refine B4 rfl (fun ht=>?_) (fun ht=>?_)
 ·have h:S7 path=false:=by simpa using ht
  refine k2 ?_
  refine A3 (A2 (G6 Z) Z (F6 (B8 TySz.out Z Z Z Z Z Z) (A2 (A5 Z Z) Z (A6 ?_))))
  refine k1 ?_
  refine G4 (H65 CHunk 2 M6 8 3 Z Z) ?_
  refine k10 (k11 ?_)
  exact B5 (rs:=[R2 comb0,G8 120]) (c9 rfl rfl rfl rfl rfl rfl rfl) (by unfold V5;rw [if_pos h])
 have h:S7 path=true:=by simpa using ht
 refine k5 (k1 (k2 (k2 ?_)))
 refine A3 (A2 (D2 Z Z Z) Z (C3 (G85 t hr (by omega) (by omega)) Z Z Z ?_));rintro _ rfl;refine A2 (A5 Z Z) Z (A6 ?_)
 refine k1 (k2 ?_)
 refine A3 (A2 (A4 Z Z) Z (A2 (O3 Z Z) Z (A6 ?_)))
 refine k1 ?_
 refine B4 rfl (fun ht=>?_) (fun ht=>?_)
 ·have h1:=A0 ht
  refine k2 ?_
  refine A3 (A2 (G6 Z) Z (A2 (A4 Z Z) Z (F6 (B8 TySz.out Z Z Z Z Z Z) (A2 (A5 Z Z) Z (A6 ?_)))))
  refine k1 ?_
  refine G4 (H65 CHunk 2 M6 8 3 Z Z) ?_
  refine k10 (k11 ?_)
  exact B5 (rs:=[R2 comb0,G8 (N4 t)]) (c9 rfl rfl rfl rfl rfl rfl rfl) (by unfold V5;rw [if_neg (by rw [h];decide),if_pos h1])
 have h1:=A1 ht
 have h10:N4 t=0:=by omega
 obtain ⟨hn1,hn2⟩:=C58 h10
 obtain ⟨n,hn⟩:∃n:Nat,t.Parents=n:=⟨t.Parents.toNat,by omega⟩
 obtain ⟨tp,rows⟩:=t
 have hn:tp=(n:Int):=hn
 subst hn
 dsimp only at hr hW hx hl hll hn1 hn2
 have hcut:V5 path ⟨n,rows⟩ sp d=match X4 n rows 0 [] sp with
  | none=>(comb0,3)
  | some hs=>if I5 ⟨path,d,(n:Int),hs⟩≠0 then (comb0,I5 ⟨path,d,(n:Int),hs⟩) else (⟨path,d,(n:Int),hs⟩,0):=by
  unfold V5;rw [if_neg (by rw [h];decide),if_neg (by omega)];rfl
 rw [hcut]
 obtain ⟨W,hWd⟩:∃W,W=X4 n rows 0 [] sp:=⟨_,rfl⟩
 have hcs:∀hs,W=some hs→szC hs≤268435456∧∀x∈hs,I7 x.Rows:=fun hs e=>E76 (n:=n) (by omega) hr hW (by rw [←hWd];exact e)
 have hord0:=G65 (n:=n) (rows:=rows) (sp:=sp) (e:=0) (hs:=[])
 rw [←hWd] at hord0 ⊢
 refine k5 (k1 (k2 (k2 ?_)))
 refine A3 (A2 (A4 Z Z) Z (A2 (A7 Z) Z (A2 (A8 Z Z Z) Z (A2 (D4 Z (.pure _ _ _ _)) Z (C3 (F36 sp rows.length hsp) Z Z Z ?_)))));rintro _ rfl;refine A2 (K9 Z) Z (A6 ?_)
 refine k1 ?_
 refine B4 rfl (fun ht=>?_) (fun ht=>?_)
 ·have hno:D35 rows.length 0 sp=false:=by simpa using ht
  rw [hord0 hno]
  refine k2 ?_
  refine A3 (A2 (G6 Z) Z (F6 (B8 TySz.out Z Z Z Z Z Z) (A2 (A5 Z Z) Z (A6 ?_))))
  refine k1 ?_
  refine G4 (H65 CHunk 2 M6 8 3 Z Z) ?_
  refine k10 (k11 ?_)
  exact B5 (rs:=[R2 comb0,G8 3]) (c9 rfl rfl rfl rfl rfl rfl rfl) rfl
 have hord:D35 rows.length 0 sp=true:=by simpa using ht
 refine k5 (k1 (k2 ?_))
 refine A3 (A2 (A4 Z Z) Z (A2 (A4 Z Z) Z (A2 (A7 Z) Z (A2 (A8 Z Z Z) Z (A2 (G6 Z) Z (C1 (G3 11 Z) Z (F6 (B8 TySz.out Z Z Z Z Z Z) (A6 ?_))))))))
 refine G4 (H68 754 CHunk 2 M6 82 (kb:=11) (o:=3) Z Z Z) ?_
 refine k2 ?_
 have e0:((n:Int)+1).toNat=n+1:=by omega
 have hz:List.replicate (n+1) (0:Int)=H9 (rows.take 0) n:=by
  refine List.ext_getElem (by simp [H9]) fun q h1 h2=>?_
  simp [H9,L7,O1]
 refine A3 (A2 (A7 Z) Z (A2 (A8 Z Z Z) Z (A2 (B9 Z Z (by omega)) Z (C1 (V3 720 Int F5 0 Z Z (by omega) (by omega) (fun _=>by first | exact ⟨⟨rfl,rfl⟩,trivial⟩ | exact ⟨M9 _ _ _,trivial⟩) (by first | rfl | (simp [F9,H0,Ob.free,SV.free,S1.free,TC.free]<;>rfl))) Z ?_))));refine C1 (G3 12 Z) Z (F6 (B8 TySz.out Z Z Z Z Z Z) (A6 ?_))
 rw [e0,hz]
 refine k1 (k2 ?_)
 refine A3 (C1 (G3 13 Z) Z (F6 (B8 TySz.out Z Z Z Z Z Z) (A6 ?_)))
 refine k1 (k2 ?_)
 refine A3 (A2 (B56 Z Z) Z (A2 (A5 Z Z) Z (A6 ?_)))
 refine k1 (k2 (k2 ?_))
 refine A3 (A2 (A4 Z Z) Z (A2 (D4 Z (.pure _ _ _ _)) Z (A2 (A4 Z Z) Z (A6 ?_))))
 refine k1 (k3 ?_)
 refine C9 (X:=Nat × Nat × List CHunk) (fun x=>([(5,.s (.one (.ref 5 0))),(8,.s (.one (.ref 8 0))),(11,.s (.one (.ref 11 0))),(12,.s (.one (.ref 12 0))),(14,.s (.one (.clo 111 [] [(5,0),(13,0),(12,0)]))),(45,C0 Span 2 spanC sp),(46,B7 sp.length),(47,B7 x.1)],[(5,.box (pTable ⟨n,rows⟩).s1.cells),(8,z59),(11,.box [.p (.v (.string ⟨path.toArray⟩)),.p (.v (.bool d)),.p (.v (.int .i64 n)),.buf 754 CHunk 2 M6 x.2.2]),(754,.spare x.2.2.length 2 82),(12,.box [.mut 720]),(13,i8 x.2.1),(720,.arr Int 1 F5 (H9 (rows.take x.2.1) n))])) (fun x=>x.1≤sp.length∧x.2.1≤rows.length∧x.2.2.length≤x.1∧W=X4 n rows x.2.1 x.2.2 (sp.drop x.1)∧D35 rows.length x.2.1 (sp.drop x.1)=true) (fun x=>sp.length - x.1) (0,0,[]) ⟨Nat.zero_le _,Nat.zero_le _,Nat.le_refl _,hWd,hord⟩ (H62 ⟨le1 rfl,le1 rfl,le1 rfl,le1 rfl,le1 rfl,le1 rfl,le1 rfl,le1 rfl,trivial⟩ ⟨rfl,rfl,rfl,rfl,rfl,rfl,rfl,trivial⟩) ?_
 rintro ⟨k,e,hs⟩ ⟨hk,he,hsl,hp,ho⟩
 dsimp only at hk he hsl hp ho ⊢
 refine k2 ?_
 refine A3 (A2 (D8 Z Z) Z (A6 ?_))
 refine k1 (k2 ?_)
 refine B4 rfl (fun ht=>?_) (fun ht=>?_)
 rotate_left
 ·have hkl:k=sp.length:=by have:=A1 ht;omega
  rw [hkl,I02 (Nat.le_refl _)] at hp
  have hp:W=some hs:=hp
  obtain ⟨z1,z2⟩:=hcs hs hp
  rw [hp]
  dsimp only
  refine k6 (k2 (k2 ?_))
  refine A3 (A2 (D2 Z Z Z) Z (C3 (C31 ⟨path,d,n,hs⟩ z1 z2) Z Z Z ?_));rintro _ rfl;refine A2 (A5 Z Z) Z (A6 ?_)
  refine k1 (k2 ?_)
  refine A3 (A2 (A4 Z Z) Z (A2 (O3 Z Z) Z (A6 ?_)))
  refine k1 ?_
  refine B4 rfl (fun ht=>?_) (fun ht=>?_)
  ·have h2:=A0 ht
   refine k2 ?_
   refine A3 (A2 (G6 Z) Z (A2 (A4 Z Z) Z (F6 (B8 TySz.out Z Z Z Z Z Z) (A2 (A5 Z Z) Z (A6 ?_)))))
   refine k1 ?_
   refine G4 (H65 CHunk 2 M6 8 3 Z Z) ?_
   refine k10 (k11 ?_)
   exact B5 (rs:=[R2 comb0,G8 (I5 ⟨path,d,n,hs⟩)]) (c9 rfl rfl rfl rfl rfl rfl rfl) (by rw [if_pos h2])
  ·have h2:=A1 ht
   refine k5 (k1 (k2 ?_))
   refine A3 (A2 (D2 Z Z Z) Z (F6 (B8 TySz.out Z Z Z Z Z Z) (A2 (A5 Z Z) Z (A6 ?_))))
   refine k1 (k10 ?_)
   exact B5 (rs:=[R2 ⟨path,d,n,hs⟩,G8 0]) (c9 rfl rfl rfl rfl rfl rfl rfl) (by rw [if_neg h2])
 have hlt:k < sp.length:=by have:=A0 ht;omega
 have hv:sp[k]?=some sp[k]:=by simp [hlt]
 rw [I01 hlt,X4] at hp
 rw [I01 hlt,D35] at ho
 obtain ⟨s,hsd⟩:∃s,s=sp[k]:=⟨_,rfl⟩
 rw [←hsd] at hp hv ho
 have hc:¬(s.From < (e:Int)∨s.To≤s.From∨(rows.length:Int) < s.To):=by
  intro hc
  rw [if_pos hc] at ho;cases ho
 rw [if_neg hc] at hp ho
 simp only [not_or,Int.not_lt,Int.not_le] at hc
 obtain ⟨c1,c2,c3⟩:=hc
 obtain ⟨F,hF⟩:∃F:Nat,s.From=F:=⟨s.From.toNat,by omega⟩
 obtain ⟨T,hT⟩:∃T:Nat,s.To=T:=⟨s.To.toNat,by omega⟩
 obtain ⟨sF,sT⟩:=s
 have hF:sF=(F:Int):=hF
 have hT:sT=(T:Int):=hT
 subst hF hT
 dsimp only at c1 c2 c3 hp ho
 rw [I03,I03] at hp
 have hsub:((rows.drop F).take (T - F)).length=T - F:=by rw [I13,I10];omega
 have hcl:(H9 (rows.take F) n).length=n+1:=by simp [H9]
 refine k5 (k1 (k2 (k3 (k2 ?_))))
 refine A3 (A2 (B0 Z (.pure _ _ _ _) Z (by omega) hv) Z (A2 (E8 Z Z) Z (C1 (G3 16 Z) Z (F6 (B8 TySz.out Z Z Z Z Z Z) (A6 ?_)))))
 refine L1 [(5,.s (.one (.ref 5 0))),(8,.s (.one (.ref 8 0))),(11,.s (.one (.ref 11 0))),(12,.s (.one (.ref 12 0))),(14,.s (.one (.clo 111 [] [(5,0),(13,0),(12,0)]))),(16,.s (.one (.ref 16 0))),(45,C0 Span 2 spanC sp),(46,B7 sp.length),(47,B7 k)] [(5,.box (pTable ⟨n,rows⟩).s1.cells),(8,z59),(11,.box [.p (.v (.string ⟨path.toArray⟩)),.p (.v (.bool d)),.p (.v (.int .i64 n)),.buf 754 CHunk 2 M6 hs]),(754,.spare hs.length 2 82),(12,.box [.mut 720]),(13,i8 e),(720,.arr Int 1 F5 (H9 (rows.take e) n)),(16,.box [.p (.v (.int .i64 F)),.p (.v (.int .i64 T))])] (H62 ⟨le1 rfl,le1 rfl,le1 rfl,le1 rfl,le1 rfl,le1 rfl,le1 rfl,le1 rfl,le1 rfl,trivial⟩ ⟨rfl,rfl,rfl,rfl,rfl,rfl,rfl,rfl,trivial⟩) ?_
 refine k2 ?_
 refine A3 (A2 (A4 Z Z) Z (A2 (A7 Z) Z (A2 (A8 Z Z Z) Z (C23 (D34 ⟨n,rows⟩ n e F Z (by omega) hr (by dsimp only;omega) (by omega) (by dsimp only;omega) Z Z Z Z) Z Z Z Z ?_))));rintro _ _ ⟨rfl,rfl⟩;refine A6 ?_
 refine L1 [(5,.s (.one (.ref 5 0))),(8,.s (.one (.ref 8 0))),(11,.s (.one (.ref 11 0))),(12,.s (.one (.ref 12 0))),(14,.s (.one (.clo 111 [] [(5,0),(13,0),(12,0)]))),(16,.s (.one (.ref 16 0))),(45,C0 Span 2 spanC sp),(46,B7 sp.length),(47,B7 k)] [(5,.box (pTable ⟨n,rows⟩).s1.cells),(8,z59),(11,.box [.p (.v (.string ⟨path.toArray⟩)),.p (.v (.bool d)),.p (.v (.int .i64 n)),.buf 754 CHunk 2 M6 hs]),(754,.spare hs.length 2 82),(12,.box [.mut 720]),(13,i8 F),(720,.arr Int 1 F5 (H9 (rows.take F) n)),(16,.box [.p (.v (.int .i64 F)),.p (.v (.int .i64 T))])] (H62 ⟨le1 rfl,le1 rfl,le1 rfl,le1 rfl,le1 rfl,le1 rfl,le1 rfl,le1 rfl,le1 rfl,trivial⟩ ⟨rfl,rfl,rfl,rfl,rfl,rfl,rfl,rfl,trivial⟩) ?_
 refine k2 ?_
 have hCR:=G99 ((rows.drop F).take (T - F)) (by omega)
 have hCI:=fun gf ob h=>G09 (gf:=gf) (ob:=ob) (H9 (rows.take F) n) (by omega) h
 refine S2 [16,14,3] [[],[3],[14,3],[16,14,3]] [(3,([],[])),(14,([754],[56])),(16,([],[]))] [(0,[]),(1,[]),(2,[]),(3,[]),(4,[]),(5,[]),(6,[]),(7,[]),(8,[]),(9,[]),(10,[]),(11,[3]),(12,[3]),(13,[3]),(14,[3]),(15,[14,3]),(16,[14,3])] [(0,[3]),(1,[3]),(4,[3]),(5,[3]),(6,[3]),(7,[3]),(8,[3]),(9,[3]),(10,[3])] (by kernel_rfl) (by kernel_rfl) (D9 Z Z (by kernel_rfl) Z Z (A7 Z) (D9 Z Z (by kernel_rfl) Z Z (A8 Z Z Z) (D9 Z Z (by kernel_rfl) Z Z (A8 Z Z Z) (X3 Z Z (by kernel_rfl) Z Z (r_met (fun gf=>hCI gf _ Z) Z Z) Z (D9 Z Z (by kernel_rfl) Z Z (A7 Z) (D9 Z Z (by kernel_rfl) Z Z (A8 Z Z Z) (D9 Z Z (by kernel_rfl) Z Z (A7 Z) (D9 Z Z (by kernel_rfl) Z Z (A8 Z Z Z) (D9 Z Z (by kernel_rfl) Z Z (A7 Z) (D9 Z Z (by kernel_rfl) Z Z (A8 Z Z Z) (D9 Z Z (by kernel_rfl) Z Z (T7 Z (.pure _ _ _ _) Z Z (by (first | omega | (dsimp only;omega))) (by (first | omega | (dsimp only;omega))) (by (first | omega | (dsimp only;omega)))) (D9 Z Z (by kernel_rfl) Z Z (H6 (hCR) Z Z) (D9 Z Z (by kernel_rfl) Z Z (G6 Z) (D9 Z Z (by kernel_rfl) Z Z (C8 (c:=M6) (ys:=[⟨H9 (rows.take F) n,(rows.drop F).take (T - F)⟩]) (D7 Z Z Z Z E7) Z Z Z) (X3 Z Z (by kernel_rfl) Z Z (C25 (fun frc hU=>F3 (V0 hU Z) Z (V0 hU Z) (.pure _ _ _ _) (by (simp only [H96,H98];omega)) Z)) Z (D9 Z Z (by kernel_rfl) Z Z (A7 Z) (X3 Z Z (by kernel_rfl) Z Z (D20 (fun frc hU=>B8 TySz.out (V0 hU Z) Z (V0 hU Z) Z Z Z)) Z ?_)))))))))))))))));refine D18 (by kernel_rfl) rfl ?_ ?_
 ·refine I3 Z Z (by kernel_rfl) Z Z (A7 Z) (I3 Z Z (by kernel_rfl) Z Z (A8 Z Z Z) (I3 Z Z (by kernel_rfl) Z Z (A7 Z) (I3 Z Z (by kernel_rfl) Z Z (A8 Z Z Z) (I3 Z Z (by kernel_rfl) Z Z (A7 Z) (I3 Z Z (by kernel_rfl) Z Z (A8 Z Z Z) (I3 Z Z (by kernel_rfl) Z Z (A7 Z) (I3 Z Z (by kernel_rfl) Z Z (A8 Z Z Z) (I3 Z Z (by kernel_rfl) Z Z (T7 Z (.pure _ _ _ _) Z Z (by (first | omega | (dsimp only;omega))) (by (first | omega | (dsimp only;omega))) (by (first | omega | (dsimp only;omega)))) ?_))))))));exact C51
 refine L1 [(5,.s (.one (.ref 5 0))),(8,.s (.one (.ref 8 0))),(11,.s (.one (.ref 11 0))),(12,.s (.one (.ref 12 0))),(14,.s (.one (.clo 111 [] [(5,0),(13,0),(12,0)]))),(16,.s (.one (.ref 16 0))),(45,C0 Span 2 spanC sp),(46,B7 sp.length),(47,B7 k)] [(5,.box (pTable ⟨n,rows⟩).s1.cells),(8,z59),(11,.box [.p (.v (.string ⟨path.toArray⟩)),.p (.v (.bool d)),.p (.v (.int .i64 n)),.buf 754 CHunk 2 M6 (hs++[⟨H9 (rows.take F) n,(rows.drop F).take (T - F)⟩])]),(754,.spare (hs++[(⟨H9 (rows.take F) n,(rows.drop F).take (T - F)⟩:CHunk)]).length 2 82),(12,.box [.mut 720]),(13,i8 F),(720,.arr Int 1 F5 (H9 (rows.take F) n)),(16,.box [.p (.v (.int .i64 F)),.p (.v (.int .i64 T))])] (H62 ⟨le1 rfl,le1 rfl,le1 rfl,le1 rfl,le1 rfl,le1 rfl,le1 rfl,le1 rfl,le1 rfl,trivial⟩ ⟨rfl,rfl,rfl,rfl,rfl,rfl,rfl,rfl,trivial⟩) ?_
 skip
 refine A3 (A2 (A4 Z Z) Z (A2 (A7 Z) Z (A2 (A8 Z Z Z) Z (C23 (D34 ⟨n,rows⟩ n F T Z (by omega) hr (by dsimp only;omega) (by omega) (by dsimp only;omega) Z Z Z Z) Z Z Z Z ?_))));rintro _ _ ⟨rfl,rfl⟩;refine A6 ?_
 refine k4 (k1 ?_)
 refine A3 (A2 (B9 Z Z (by omega)) Z (A2 (A4 Z Z) Z (A6 ?_)))
 refine k1 ?_
 exact ⟨(k+1,T,hs++[⟨H9 (rows.take F) n,(rows.drop F).take (T - F)⟩]),⟨by dsimp only;omega,by dsimp only;omega,by dsimp only;rw [H95];simp;omega,hp,ho⟩,by dsimp only;omega,H62 ⟨le1 rfl,le1 rfl,le1 rfl,le1 rfl,le1 rfl,le1 rfl,le1 rfl,le1 rfl,trivial⟩ ⟨rfl,rfl,rfl,rfl,rfl,rfl,rfl,trivial⟩⟩
def B97 (t:Table):List Span:=if 0 < t.Rows.length then [⟨0,t.Rows.length⟩] else []
def C32 (path x:Str) (r:List Str):Comb × Int :=
 if S7 path=false then (comb0,120) else if (M5 x r).2≠0 then (comb0,(M5 x r).2) else V5 path (M5 x r).1 (B97 (M5 x r).1) false
set_option maxHeartbeats 1000000
theorem H50 (path x:Str) (r:List Str) (h:Small16 x r) (hL:∀b∈x::r,(C4 b).length≤16):FnOk Tryz.prog 99 [L4 path,L4 x,t6 r] (fun rs=>rs=[R2 (C32 path x r).1,G8 (C32 path x r).2]):=by
 have hx:=h.hx
 obtain ⟨s1,s2,s3⟩:=h.sums
 have hl:=h.len
 have hrows:=h.rows
 have hrn:=h.n
 have hm:=H44 x r 16 (by omega) (by omega) ⟨hL x (by simp),by omega⟩ (fun b hb=>⟨hL b (by simp [hb]),by have:=h.hr b hb;omega⟩)
 obtain ⟨t,e,hte⟩:∃t e,M5 x r=(t,e):=⟨_,_,rfl⟩
 rw [hte] at s1 s2 hl hrows hm
 dsimp only at s1 s2 hl hrows hm
 have hc:=C90 path t (B97 t) false hrows (by omega) (by omega) (by unfold B97;split<;>simp)
 have hres:C32 path x r=if S7 path=false then (comb0,120) else if e≠0 then (comb0,e) else V5 path t (B97 t) false:=by
  unfold C32;rw [hte]
 rw [hres]
 refine FnOk.intro Tryz.func99 (by decide) Z Z Z Z ?_
 refine k2 ?_
 refine A3 (C1 (G3 6 Z) Z (A2 (A5 Z Z) Z (A6 ?_)))
 refine k1 (k2 (k2 ?_))
 refine A3 (A2 (A4 Z Z) Z (C3 (C29 path) Z Z Z ?_));rintro _ rfl;refine A2 (K9 Z) Z (A6 ?_)
 refine k1 ?_
 refine B4 rfl (fun ht=>?_) (fun ht=>?_)
 ·have h:S7 path=false:=by simpa using ht
  refine k2 ?_
  refine A3 (A2 (G6 Z) Z (F6 (B8 TySz.out Z Z Z Z Z Z) (A2 (A5 Z Z) Z (A6 ?_))))
  refine k1 ?_
  refine G4 (H65 CHunk 2 M6 6 3 Z Z) ?_
  refine k10 (k11 ?_)
  exact B5 (rs:=[R2 comb0,G8 120]) (c9 rfl rfl rfl rfl rfl rfl rfl) (by rw [if_pos h])
 have h1:S7 path=true:=by simpa using ht
 rw [if_neg (by rw [h1];decide)]
 refine k5 (k1 (k2 ?_))
 refine A3 (A2 (A4 Z Z) Z (A2 (A4 Z Z) Z (C3 (hm) Z Z Z ?_)));rintro _ rfl;refine A2 (A4 Z Z) Z (A2 (D5 Z Z) Z (A2 (D5 Z Z) Z (C1 (G3 8 Z) Z (F6 (B8 TySz.out Z Z Z Z Z Z) (A2 (A5 Z Z) Z (A6 ?_))))))
 refine k1 (k2 (k2 ?_))
 refine A3 (A2 (A4 Z Z) Z (A2 (O3 Z Z) Z (A6 ?_)))
 refine k1 ?_
 refine B4 rfl (fun ht=>?_) (fun ht=>?_)
 ·have h2:=A0 ht
  refine k2 ?_
  refine A3 (A2 (G6 Z) Z (A2 (A4 Z Z) Z (F6 (B8 TySz.out Z Z Z Z Z Z) (A2 (A5 Z Z) Z (A6 ?_)))))
  refine k1 ?_
  refine G4 (H65 CHunk 2 M6 6 3 Z Z) ?_
  refine k10 (k11 ?_)
  exact B5 (rs:=[R2 comb0,G8 e]) (c9 rfl rfl rfl rfl rfl rfl rfl) (by rw [if_pos h2])
 have h2:=A1 ht
 rw [if_neg h2]
 refine k5 (k1 (k2 ?_))
 refine A3 (A2 (O4 _ 2 spanC) Z (A6 ?_))
 refine k1 (k2 (k2 ?_))
 refine A3 (A2 (A7 Z) Z (A2 (A8 Z Z Z) Z (A2 (D4 Z (.pure _ _ _ _)) Z (A2 (M7 Z Z) Z (A6 ?_)))))
 refine k1 ?_
 refine B4 rfl (fun ht=>?_) (fun ht=>?_)
 ·have h3:=A0 ht
  have hsp:B97 t=[⟨0,t.Rows.length⟩]:=by unfold B97;rw [if_pos (by omega)]
  rw [hsp] at hc ⊢
  skip
  refine A3 (A2 (A7 Z) Z (A2 (A8 Z Z Z) Z (A2 (D4 Z (.pure _ _ _ _)) Z (A2 (G6 Z) Z (A2 (C8 (c:=spanC) (ys:=[⟨0,(t.Rows.length:Int)⟩]) (D7 Z Z Z Z E7) Z Z Z) Z (A2 (A5 Z Z) Z (A6 ?_)))))))
  refine k1 (k2 ?_)
  refine A3 (A2 (A4 Z Z) Z (A2 (D2 Z Z Z) Z (A2 (A4 Z Z) Z (C3 (hc) Z Z Z ?_))));rintro _ rfl;refine A2 (D5 Z Z) Z (A2 (D5 Z Z) Z (F6 (B8 TySz.out Z Z Z Z Z Z) (A2 (A5 Z Z) Z (A6 ?_))))
  refine k1 (k10 ?_)
  exact B5 (c9 rfl rfl rfl rfl rfl rfl rfl) rfl
 ·have h3:=A1 ht
  have hsp:B97 t=[]:=by unfold B97;rw [if_neg (by omega)]
  rw [hsp] at hc ⊢
  refine k5 (k1 (k2 ?_))
  refine A3 (A2 (A4 Z Z) Z (A2 (D2 Z Z Z) Z (A2 (A4 Z Z) Z (C3 (hc) Z Z Z ?_))));rintro _ rfl;refine A2 (D5 Z Z) Z (A2 (D5 Z Z) Z (F6 (B8 TySz.out Z Z Z Z Z Z) (A2 (A5 Z Z) Z (A6 ?_))))
  refine k1 (k10 ?_)
  exact B5 (c9 rfl rfl rfl rfl rfl rfl rfl) rfl
def exX:Str:=[97,10,99,10]
def exR:List Str:=[[97,10,98,10],[97,10,99,10]]
def exC:Comb:=⟨[120],false,2,[⟨[0,0,0],[⟨false,0,[97,10]⟩,⟨true,1,[98,10]⟩,⟨false,1,[99,10]⟩]⟩]⟩
def exS:Str:=[100,105,102,102,32,45,45,99,111,109,98,105,110,101,100,32,120,10,112,97,114,101,110,116,115,32,50,10,64,64,64,32,45,49,44,50,32,45,49,44,50,32,43,49,44,50,32,64,64,64,10,32,32,97,10,45,32,98,10,43,32,99,10]
theorem ex_c0:E9 [[],[]]=([],0):=by simp [E9,I4,S9,P5,F4,F1]
theorem ex_c1:E9 [[2],[]]=([⟨2,1⟩],0):=by
 have hb:H3 0=1:=by decide
 simp [E9,I4,S9,P5,F4,F1,hb]
def j1:List (List Int):=[[0,1],[0,2],[0,1]]
theorem ex_loom:(P9 j1 2 2 2).1=[0,1]∧(P9 j1 2 2 2).2 0=[[],[]]∧(P9 j1 2 2 2).2 1=[[2],[]]∧(P9 j1 2 2 2).2 2=[[],[]]:=by
 have w0:K5 [0,2] [0,1]=[⟨1,1,1,1⟩]:=by simp [K5,F1,dist,X8,N2]
 have w1:K5 [0,1] [0,1]=[]:=by simp [K5,F1,X8,N2]
 have h0:K7 j1 (u0 2 2) 0=((O2 [⟨1,1,1,1⟩] 2).foldl (J1 0) ((u0 2 2).1.map (K6 · (H3 0))),[(⟨1,1,1,1⟩:Change)].foldl (I8 0 [0,2]) (u0 2 2).2):=by
  rw [←w0];rfl
 have h1:P9 j1 2 2 2=((O2 [] 2).foldl (J1 1) ((K7 j1 (u0 2 2) 0).1.map (K6 · (H3 1))),(K7 j1 (u0 2 2) 0).2):=by
  show K7 j1 (K7 j1 (u0 2 2) 0) 1=_
  have:K7 j1 (K7 j1 (u0 2 2) 0) 1=((O2 (K5 [0,1] [0,1]) 2).foldl (J1 1) ((K7 j1 (u0 2 2) 0).1.map (K6 · (H3 1))),(K5 [0,1] [0,1]).foldl (I8 1 [0,1]) (K7 j1 (u0 2 2) 0).2):=rfl
  rw [this,w1];rfl
 rw [h1,h0]
 refine ⟨by decide,by decide,by decide,by decide⟩
theorem ex_make:M5 exX exR=(⟨2,[⟨false,0,[97,10]⟩,⟨true,1,[98,10]⟩,⟨false,1,[99,10]⟩]⟩,0):=by
 have e0:C4 exX=[[97,10],[99,10]]:=by decide
 have e1:exR.map C4=[[[97,10],[98,10]],[[97,10],[99,10]]]:=by decide
 have e2:E1 [[[97,10],[99,10]],[[97,10],[98,10]],[[97,10],[99,10]]]=[[97,10],[99,10],[98,10]]:=by decide
 have e3:[[[97,10],[99,10]],[[97,10],[98,10]],[[97,10],[99,10]]].map (K3 [[97,10],[99,10],[98,10]])=j1:=by decide
 obtain ⟨l1,l2,l3,l4⟩:=ex_loom
 have hR:exR.length=2:=rfl
 have hc:∀k,k < 3→E9 ((P9 j1 2 2 2).2 k)=if k=1 then ([⟨2,1⟩],0) else ([],0):=by
  intro k hk
  match k,hk with
  | 0,_=>rw [l2,ex_c0];rfl
  | 1,_=>rw [l3,ex_c1];rfl
  | 2,_=>rw [l4,ex_c0];rfl
 unfold M5
 rw [if_neg (by decide)]
 dsimp only
 rw [e0,e1,e2,e3]
 have hno:¬∃k,k < 3∧(E9 ((P9 j1 2 2 2).2 k)).2≠0:=by
  rintro ⟨k,hk,h⟩
  rw [hc k hk] at h
  split at h<;>exact h rfl
 refine (if_neg hno).trans ?_
 show ((⟨2,U0 [[97,10],[99,10],[98,10]] [[97,10],[99,10]] (P9 j1 2 2 2) 3⟩:Table),(0:Int))=_
 have hr:∀k,k < 3→U9 [[97,10],[99,10],[98,10]] [[97,10],[99,10]] (P9 j1 2 2 2) k=if k=0 then [⟨false,0,[97,10]⟩] else if k=1 then [⟨true,1,[98,10]⟩,⟨false,1,[99,10]⟩] else []:=by
  intro k hk
  unfold U9
  rw [hc k hk,l1]
  match k,hk with
  | 0,_=>rfl
  | 1,_=>rfl
  | 2,_=>rfl
 rw [a7,a7,a7,hr 0 (by omega),hr 1 (by omega),hr 2 (by omega)]
 rfl
theorem F48:I5 exC=0:=by kernel_rfl
theorem ex_full:C32 [120] exX exR=(exC,0):=by
 unfold C32
 rw [ex_make,if_neg (by decide),if_neg (by decide)]
 dsimp only
 have h1:N4 ⟨2,[⟨false,0,[97,10]⟩,⟨true,1,[98,10]⟩,⟨false,1,[99,10]⟩]⟩=0:=by decide
 have h2:X4 (Int.toNat 2) [⟨false,0,[97,10]⟩,⟨true,1,[98,10]⟩,⟨false,1,[99,10]⟩] 0 [] (B97 ⟨2,[⟨false,0,[97,10]⟩,⟨true,1,[98,10]⟩,⟨false,1,[99,10]⟩]⟩)=some exC.Hunks:=by decide
 unfold V5
 rw [if_neg (by decide),h1,if_neg (by decide)]
 dsimp only
 rw [h2]
 dsimp only
 rw [show I5 ⟨[120],false,2,exC.Hunks⟩=0 from F48,if_neg (by decide)]
 rfl
theorem H51:A16 exC=exS:=by kernel_rfl
theorem ex_small:Small16 exX exR∧∀b∈exX::exR,(C4 b).length≤16:=by
 have hall:∀b∈exX::exR,(C4 b).length≤16∧b.length≤140:=by
  intro b hb
  have h1:b.length≤4:=by
   have:∀b∈exX::exR,b.length≤4:=by decide
   exact this b hb
  have h2:=Q5 b
  omega
 obtain ⟨k1,k2,k3⟩:=C14 exX exR 16 140 (hall exX (by simp)) (fun b hb=>hall b (by simp [hb]))
 exact ⟨⟨by decide,by decide,fun b hb=>(hall b (by simp [hb])).2,k1,Nat.le_trans k2 (by decide),k3⟩,fun b hb=>(hall b hb).1⟩
theorem D39:FnOk Tryz.prog 46 [] (fun rs=>rs=[J5 true]):=by
 have h1:=H50 [120] exX exR ex_small.1 ex_small.2
 rw [ex_full] at h1
 have h2:=G07 exC (by decide) (by intro h hh;simp [exC] at hh;subst hh;intro r hr;simp at hr;rcases hr with rfl | rfl | rfl<;>decide)
 rw [if_pos F48,H51] at h2
 refine FnOk.intro Tryz.func46 (by decide) Z Z Z Z ?_
 refine k2 ?_
 refine A3 (A2 (A5 Z Z) Z (A6 ?_))
 refine k1 (k2 ?_)
 refine A3 (A2 (C8 (c:=J9) (ys:=exR) (D7 Z Z Z Z (D7 Z Z Z Z E7)) Z Z Z) Z (C3 (h1) Z Z Z ?_));rintro _ rfl;refine A2 (A4 Z Z) Z (A2 (D5 Z Z) Z (A2 (D5 Z Z) Z (C1 (G3 1 Z) Z (F6 (B8 TySz.out Z Z Z Z Z Z) (A2 (A5 Z Z) Z (A6 ?_))))))
 refine k1 (k2 ?_)
 refine A3 (A2 (D2 Z Z Z) Z (C3 (h2) Z Z Z ?_));rintro _ rfl;refine A2 (A4 Z Z) Z (A2 (D5 Z Z) Z (A2 (D5 Z Z) Z (A2 (A5 Z Z) Z (A2 (A5 Z Z) Z (A6 ?_)))))
 refine k1 (k2 ?_)
 refine A3 (A2 (A4 Z Z) Z (A2 (K1 Z Z) Z (A2 (A4 Z Z) Z (B1 Z Z Z Z (fun hg=>by rw [hg];exact A4 Z Z) ?_))));refine B1 Z Z Z Z (fun hg=>by rw [hg];exact K1 Z Z) ?_;refine A2 (B6 Z (fun h=>by first | rfl | (rw [h];rfl)) (fun h=>by first | rfl | (rw [h];rfl))) Z ?_;refine A2 (A4 Z Z) Z (B1 Z Z Z Z (fun hg=>by rw [hg];exact A4 Z Z) ?_);refine B1 Z Z Z Z (fun hg=>by rw [hg];exact B74 Z Z) ?_;refine A2 (B6 Z (fun h=>by first | rfl | (rw [h];rfl)) (fun h=>by first | rfl | (rw [h];rfl))) Z ?_;refine A2 (A5 Z Z) Z (A6 ?_)
 refine k1 (k10 ?_)
 exact B5 (rs:=[J5 true]) (F2 rfl rfl rfl) rfl
theorem H08 (raw:List Int) (n:Int) (x:Str) (r:List Str) (h:r9 raw n=x::r):FnOk Tryz.prog 47 [L8 raw,G8 n] (fun rs=>rs=[L4 x,t6 r]):=by
 have hm:=Y3 n (n:=4) (by omega)
 have hlen:(x::r).length=(2+N1 n 4).toNat:=by rw [←h];simp [r9,W7]
 have hb:=H39 raw (2+N1 n 4).toNat 7 (by omega) (by omega)
 have hcast:(((2+N1 n 4).toNat:Nat):Int)=2+N1 n 4:=by omega
 rw [hcast] at hb
 have hbr:W7 raw (2+N1 n 4).toNat 7=x::r:=h
 rw [hbr] at hb
 refine FnOk.intro Tryz.func47 (by decide) Z Z Z Z ?_
 refine k2 ?_
 refine A3 (A2 (A5 Z Z) Z (A2 (A5 Z Z) Z (A6 ?_)))
 refine k1 (k2 ?_)
 refine A3 (A2 (A4 Z Z) Z (A2 (A4 Z Z) Z (C3 (C26 n 4 (by omega) (by omega)) Z Z Z ?_)));rintro _ rfl;refine A2 (B9 Z Z (by omega)) Z (C3 (hb) Z Z Z ?_);rintro _ rfl;refine A2 (A5 Z Z) Z (A6 ?_)
 refine k1 (k2 ?_)
 refine C6 (by kernel_rfl) (by kernel_rfl) (A9 (A4 Z Z) Z Z (A9 (B0 Z (.pure _ _ _ _) Z (by omega) (show (x::r)[(0:Int).toNat]?=some x from Z)) Z Z (A9 (B2 Z Z) Z Z (A9 (A4 Z Z) Z Z (A9 (C19 Z (.pure _ _ _ _) Z (by (first | omega | (simp only [H96];omega))) (by (first | omega | (simp only [H96];omega)))) Z Z (A9 (A5 Z Z) Z Z (A9 (A5 Z Z) Z Z (K0 ?_))))))))
 refine k1 (k10 ?_)
 refine B5 (A20 Z Z Z Z Z) ?_
 rfl
theorem modOf4 (k:Int):0≤N1 k 4∧N1 k 4 < 4:=Y3 k (n:=4) (by omega)
theorem F49 (raw:List Int) (n:Int) (l:List Span) (fit d:Bool) (path:Str):FnOk Tryz.prog 12 [L8 raw,G8 n,pSpans l,J5 fit,J5 d,L4 path] (fun rs=>rs=[J5 true]):=by
 obtain ⟨x,r,hpk,hxl,_⟩:=F46 raw n
 have hsm:=G19 hpk
 have hP:=H08 raw n x r hpk
 obtain ⟨s1,s2,s3⟩:=hsm.sums
 have hrows:=hsm.rows
 have hM:=H07 x r (by omega) (fun b hb=>by have:=hsm.hr b hb;omega)
 obtain ⟨t,e,hte⟩:∃t e,M5 x r=(t,e):=⟨_,_,rfl⟩
 rw [hte] at s1 s2 hrows hM
 dsimp only at s1 s2 hrows hM
 have c1:=fun M (hM:(M:List Span).length≤536870912)=>C90 path t M d hrows (by omega) (by omega) hM
 have c2:=fun M (hM:(M:List Span).length≤536870912)=>G64 path t M d hrows (by omega) (by omega) hM
 have c3:=fun M (hM:(M:List Span).length≤536870912)=>C90 [112] t M d hrows (by omega) (by omega) hM
 have c4:=fun M (hM:(M:List Span).length≤536870912)=>G64 [112] t M d hrows (by omega) (by omega) hM
 have c5:=fun M (hM:(M:List Span).length≤536870912)=>C90 [112] ⟨0,t.Rows⟩ M d hrows (by dsimp only;omega) (by dsimp only;omega) hM
 have h0:∀M,V5 [112] ⟨0,t.Rows⟩ M d=(comb0,2):=fun M=>by
  have hc:N4 ⟨0,t.Rows⟩=2:=by unfold N4;rw [if_pos (by dsimp only;omega)]
  unfold V5
  rw [if_neg (by decide),hc,if_pos (by decide)]
 have g1:=fun M=>F45 (V5 path t M d).1 (by have:=(F43 (path:=path) (sp:=M) (d:=d) hrows (by omega)).1;omega)
 have g2:=fun M=>F45 (V5 [112] t M d).1 (by have:=(F43 (path:=[112]) (sp:=M) (d:=d) hrows (by omega)).1;omega)
 refine FnOk.intro Tryz.func12 (by decide) Z Z Z Z ?_
 refine k2 ?_
 refine A3 (A2 (A5 Z Z) Z (A6 ?_))
 refine k1 (k2 (k2 ?_))
 refine A3 (A2 (A4 Z Z) Z (A2 (D4 Z (.pure _ _ _ _)) Z (A2 (M7 Z Z) Z (A2 (A4 Z Z) Z (B1 Z Z Z Z (fun hg=>by rw [hg];exact A4 Z Z) ?_)))));refine B1 Z Z Z Z (fun hg=>by rw [hg];exact L0 Z) ?_;refine B1 Z Z Z Z (fun hg=>by rw [hg];exact M7 Z Z) ?_;refine A2 (B6 Z (fun h=>by first | rfl | (rw [h];rfl)) (fun h=>by first | rfl | (rw [h];rfl))) Z ?_;refine A6 ?_
 refine k1 ?_
 refine B4 rfl (fun ht=>?_) (fun ht=>?_)
 ·refine k2 ?_
  refine A3 (C3 (D39) Z Z Z ?_);rintro _ rfl;refine A2 (A5 Z Z) Z (A6 ?_)
  refine k1 (k10 (k11 ?_))
  exact B5 (F2 rfl rfl rfl) rfl
 have h1:=A1 (or_pick.symm.trans ht)
 have hll:l.length≤5:=by omega
 refine k5 (k1 (k2 ?_))
 refine A3 (A2 (A4 Z Z) Z (A2 (A4 Z Z) Z (C3 (hP) Z Z Z ?_)));rintro _ rfl;refine A2 (A4 Z Z) Z (A2 (D5 Z Z) Z (A2 (D5 Z Z) Z (A2 (A5 Z Z) Z (A2 (A5 Z Z) Z (A6 ?_)))))
 refine G4 (fr':=[(2,C0 Span 2 spanC l),(3,O7 fit),(4,O7 d),(5,R3 path),(13,R3 x),(14,C0 Str 1 J9 r)]) (ob':=[]) (H62 ⟨le1 rfl,le1 rfl,le1 rfl,le1 rfl,le1 rfl,le1 rfl,trivial⟩ trivial) ?_
 refine k2 ?_
 refine A3 (A2 (A4 Z Z) Z (A2 (A4 Z Z) Z (C3 (hM) Z Z Z ?_)));rintro _ rfl;refine A2 (A4 Z Z) Z (A2 (D5 Z Z) Z (A2 (D5 Z Z) Z (C1 (G3 15 Z) Z (F6 (B8 TySz.out Z Z Z Z Z Z) (A2 (A5 Z Z) Z (A6 ?_))))))
 refine k1 (k2 ?_)
 refine A3 (C1 (H36 770 _ spanC Z (by first | rfl | (simp [F9,H0,Ob.free,SV.free,S1.free,TC.free]<;>rfl))) Z ?_);refine A2 (A4 Z Z) Z (C1 (F92 Z Z Z (.pure _ _ _ _) (by (simp;omega)) Z) Z (A2 (A5 Z Z) Z (A6 ?_)))
 rw [I28]
 refine k1 (k2 ?_)
 refine A3 (A2 (A5 Z Z) Z (A6 ?_))
 refine k1 (k2 (k2 ?_))
 refine A3 (A2 (A5 Z Z) Z (A6 ?_))
 refine k1 (k3 ?_)
 refine C9 (X:=Nat × Int × List Span) (fun x=>([(3,O7 fit),(4,O7 d),(5,R3 path),(15,.s (.one (.ref 15 0))),(17,.s (.one (.mut 770))),(18,B7 x.2.1),(19,B7 x.1)],[(15,.box (pTable t).s1.cells),(770,.grow 95 Span 2 spanC x.2.2)])) (fun x=>x.1≤5∧(0≤x.2.1∧x.2.1≤x.1*8)∧x.2.2.length=l.length) (fun x=>5 - x.1) (0,0,l) ⟨Nat.zero_le _,⟨Int.le_refl _,by dsimp only;omega⟩,rfl⟩ (H62 ⟨le1 rfl,le1 rfl,le1 rfl,le1 rfl,le1 rfl,le1 rfl,le1 rfl,trivial⟩ ⟨rfl,rfl,trivial⟩) ?_
 rintro ⟨i,en,M⟩ ⟨hi,he,hMl⟩
 dsimp only at hi he hMl ⊢
 refine k2 (k2 ?_)
 refine A3 (A2 (A4 Z Z) Z (A2 (A4 Z Z) Z (A2 (n_len_g Z Z) Z (A2 (D8 Z Z) Z (A2 (A4 Z Z) Z (B1 Z Z Z Z (fun hg=>by rw [hg];exact A4 Z Z) ?_))))));refine A2 (B6 Z (fun h=>by first | rfl | (rw [h];rfl)) (fun h=>by first | rfl | (rw [h];rfl))) Z ?_;refine A6 ?_
 refine k1 ?_
 refine B4 rfl (fun ht=>?_) (fun ht=>?_)
 ·have hlt:i < M.length:=by
   by_cases q:(i:Int) < M.length
   ·omega
   ·simp [q] at ht
  have hv:M[i]?=some M[i]:=by simp [hlt]
  obtain ⟨s,hs⟩:∃s,s=M[i]:=⟨_,rfl⟩
  rw [←hs] at hv
  have m1:=modOf4 s.From
  have m2:=modOf4 s.To
  obtain ⟨s',hs'⟩:∃s':Span,s'=⟨en+N1 s.From 4,s.To⟩:=⟨_,rfl⟩
  have hv':(M.set i s')[i]?=some s':=I42 hlt
  obtain ⟨s'',hs''⟩:∃s'':Span,s''=⟨en+N1 s.From 4,en+N1 s.From 4+1+N1 s.To 4⟩:=⟨_,rfl⟩
  have hv'':((M.set i s').set i s'')[i]?=some s'':=I42 (by simpa using hlt)
  have hl1:(M.set i s').length=M.length:=by simp
  have hl2:((M.set i s').set i s'').length=M.length:=by simp
  refine k5 (k1 (k2 (k3 (k2 ?_))))
  refine A3 (A2 (A4 Z Z) Z (A2 (A4 Z Z) Z (A2 (A4 Z Z) Z (A2 (A4 Z Z) Z (A2 (A4 Z Z) Z (A2 (U8 Z Z Z (by omega) (by omega)) Z (A2 (W6 Z) Z (A2 (B88 Z Z hv Z) Z (C3 (C26 s.From 4 (by omega) (by omega)) Z Z Z ?_)))))))));rintro _ rfl;refine A2 (B9 Z Z (by omega)) Z (A2 (U8 Z Z Z (by omega) (by omega)) Z (A2 (W6 Z) Z (F6 (E06 ((⟨en+N1 s.From 4,s.To⟩:Span)) TySz.out Z Z hv Z Z Z Z (fun _ _ _ h=>D07 h) (by intro j h1 h2;rcases j with _ | _ | _ | _ | _ | _ | _ | j<;>first | rfl | omega)) ?_)));refine A6 ?_
  rw [I03,←hs']
  have hv1:(M.set i s')[((i:Nat):Int).toNat]?=some s':=by rw [I03];exact hv'
  refine L1 [(3,O7 fit),(4,O7 d),(5,R3 path),(15,.s (.one (.ref 15 0))),(17,.s (.one (.mut 770))),(19,B7 i)] [(15,.box (pTable t).s1.cells),(770,.grow 95 Span 2 spanC (M.set i s'))] (H62 ⟨le1 rfl,le1 rfl,le1 rfl,le1 rfl,le1 rfl,le1 rfl,trivial⟩ ⟨rfl,rfl,trivial⟩) ?_
  subst hs'
  refine k2 ?_
  refine C6 (by kernel_rfl) (by kernel_rfl) (A9 (A4 Z Z) Z Z (A9 (A4 Z Z) Z Z (A9 (A4 Z Z) Z Z (A9 (A4 Z Z) Z Z (A9 (U8 Z Z Z (by omega) (by (rw [hl1];omega))) Z Z ?_)))));refine A9 (W6 Z) Z Z (A9 (B88 Z Z hv1 Z) Z Z (A9 (B9 Z Z (by (dsimp only;omega))) Z Z ?_));refine A9 (A4 Z Z) Z Z (A9 (A4 Z Z) Z Z (A9 (U8 Z Z Z (by omega) (by (rw [hl1];omega))) Z Z ?_));refine A9 (W6 Z) Z Z (A9 (B88 Z Z hv1 Z) Z Z (A9 (H6 (C26 s.To 4 (by omega) (by omega)) Z Z) Z Z (A9 (B9 Z Z (by (dsimp only;omega))) Z Z ?_)));refine A9 (U8 Z Z Z (by omega) (by (rw [hl1];omega))) Z Z ?_;refine A9 (W6 Z) Z Z (v8 (E06 ((⟨en+N1 s.From 4,en+N1 s.From 4+1+N1 s.To 4⟩:Span)) TySz.out Z Z hv1 Z Z Z Z (fun _ _ _ h=>D07 h) (by intro j h1 h2;rcases j with _ | _ | _ | _ | _ | _ | _ | j<;>first | rfl | omega)) Z ?_);refine K0 ?_
  rw [I03,←hs'']
  refine k1 ?_
  refine A3 (A2 (A4 Z Z) Z (A2 (A4 Z Z) Z (A2 (U8 Z Z Z (by omega) (by (rw [hl2];omega))) Z ?_)));refine A2 (W6 Z) Z (A2 (B88 Z Z hv'' Z) Z (A2 (A5 Z Z) Z (A6 ?_)))
  refine k4 (k1 ?_)
  refine A3 (A2 (A4 Z Z) Z (A2 (B9 Z Z (by omega)) Z (A2 (A5 Z Z) Z (A6 ?_))))
  refine k1 ?_
  refine ⟨(i+1,s''.To,(M.set i ⟨en+N1 s.From 4,s.To⟩).set i s''),⟨by dsimp only;omega,by rw [hs''];dsimp only;omega,by dsimp only;rw [hl2];exact hMl⟩,by dsimp only;omega,H62 ⟨le1 rfl,le1 rfl,le1 rfl,le1 rfl,le1 rfl,le1 rfl,le1 rfl,trivial⟩ ⟨rfl,rfl,trivial⟩⟩
 refine G4 (Sees.freezeG (k:=770) Z Z) ?_
 refine L1 [(4,O7 d),(5,R3 path),(15,.s (.one (.ref 15 0))),(17,C0 Span 2 spanC M)] [(15,.box (pTable t).s1.cells)] (H62 ⟨le1 rfl,le1 rfl,le1 rfl,le1 rfl,trivial⟩ ⟨rfl,trivial⟩) ?_
 have c1:=c1 M (by omega)
 have c2:=c2 M (by omega)
 have c3:=c3 M (by omega)
 have c4:=c4 M (by omega)
 have c5:=c5 M (by omega)
 have g1:=g1 M
 have g2:=g2 M
 rw [h0 M] at c5
 obtain ⟨q1,e1,hq1⟩:∃c e,V5 path t M d=(c,e):=⟨_,_,rfl⟩
 obtain ⟨q2,e2,hq2⟩:∃c e,V5 [112] t M d=(c,e):=⟨_,_,rfl⟩
 rw [hq1] at c1 c2 g1
 rw [hq2] at c3 c4 g2
 dsimp only at c1 c2 c3 c4 c5 g1 g2
 refine k6 (k2 ?_)
 refine A3 (A2 (A4 Z Z) Z (A2 (D2 Z Z Z) Z (A2 (A4 Z Z) Z (A2 (A4 Z Z) Z (C3 (c1) Z Z Z ?_)))));rintro _ rfl;refine A2 (A4 Z Z) Z (A2 (D5 Z Z) Z (A2 (D5 Z Z) Z (C1 (G3 20 Z) Z (F6 (B8 TySz.out Z Z Z Z Z Z) (A2 (A5 Z Z) Z (A6 ?_))))))
 refine k1 (k2 ?_)
 refine A3 (A2 (A4 Z Z) Z (A2 (D2 Z Z Z) Z (A2 (A4 Z Z) Z (A2 (A4 Z Z) Z (C3 (c2) Z Z Z ?_)))));rintro _ rfl;refine A2 (A4 Z Z) Z (A2 (D5 Z Z) Z (A2 (D5 Z Z) Z (C1 (G3 22 Z) Z (F6 (B8 TySz.out Z Z Z Z Z Z) (A2 (A5 Z Z) Z (A6 ?_))))))
 refine k1 (k2 ?_)
 refine A3 (A2 (D2 Z Z Z) Z (A2 (A4 Z Z) Z (A2 (A4 Z Z) Z (C3 (c3) Z Z Z ?_))));rintro _ rfl;refine A2 (A4 Z Z) Z (A2 (D5 Z Z) Z (A2 (D5 Z Z) Z (C1 (G3 24 Z) Z (F6 (B8 TySz.out Z Z Z Z Z Z) (A2 (A5 Z Z) Z (A6 ?_))))))
 refine k1 (k2 ?_)
 refine A3 (A2 (D2 Z Z Z) Z (A2 (A4 Z Z) Z (A2 (A4 Z Z) Z (C3 (c4) Z Z Z ?_))));rintro _ rfl;refine A2 (A4 Z Z) Z (A2 (D5 Z Z) Z (A2 (D5 Z Z) Z (C1 (G3 26 Z) Z (F6 (B8 TySz.out Z Z Z Z Z Z) (A2 (A5 Z Z) Z (A6 ?_))))))
 refine k1 (k2 ?_)
 refine A3 (A2 (A7 Z) Z (F6 (B8 TySz.out Z Z Z Z Z Z) (A6 ?_)))
 refine k1 (k2 ?_)
 refine A3 (A2 (D2 Z Z Z) Z (A2 (A4 Z Z) Z (A2 (A4 Z Z) Z (C3 (c5) Z Z Z ?_))));rintro _ rfl;refine A2 (A4 Z Z) Z (A2 (D5 Z Z) Z (A2 (D5 Z Z) Z (C1 (G3 28 Z) Z (F6 (B8 TySz.out Z Z Z Z Z Z) (A2 (A5 Z Z) Z (A6 ?_))))))
 refine k1 (k2 ?_)
 refine A3 (A2 (D2 Z Z Z) Z (A2 (D2 Z Z Z) Z (C3 (g1) Z Z Z ?_)));rintro _ rfl;refine A2 (A4 Z Z) Z (B1 Z Z Z Z (fun hg=>by rw [hg];exact A4 Z Z) ?_);refine B1 Z Z Z Z (fun hg=>by rw [hg];exact A4 Z Z) ?_;refine B1 Z Z Z Z (fun hg=>by rw [hg];exact K1 Z Z) ?_;refine A2 (B6 Z (fun h=>by first | rfl | (rw [h];rfl)) (fun h=>by first | rfl | (rw [h];rfl))) Z ?_;refine A2 (A4 Z Z) Z (B1 Z Z Z Z (fun hg=>by rw [hg];exact D2 Z Z Z) ?_);refine B1 Z Z Z Z (fun hg=>by rw [hg];exact D2 Z Z Z) ?_;refine B1 Z Z Z Z (fun hg=>by have hq:=hg;(try simp at hq);rw [hg];exact H6 (g2) Z Z) ?_;refine A2 (B6 Z (fun h=>by first | rfl | (rw [h];rfl)) (fun h=>by first | rfl | (rw [h];rfl))) Z ?_;refine A2 (A4 Z Z) Z (B1 Z Z Z Z (fun hg=>by rw [hg];exact A4 Z Z) ?_);refine B1 Z Z Z Z (fun hg=>by rw [hg];exact A4 Z Z) ?_;refine B1 Z Z Z Z (fun hg=>by rw [hg];exact K1 Z Z) ?_;refine A2 (B6 Z (fun h=>by first | rfl | (rw [h];rfl)) (fun h=>by first | rfl | (rw [h];rfl))) Z ?_;refine A2 (A4 Z Z) Z (B1 Z Z Z Z (fun hg=>by rw [hg];exact A4 Z Z) ?_);refine B1 Z Z Z Z (fun hg=>by rw [hg];exact K1 Z Z) ?_;refine A2 (B6 Z (fun h=>by first | rfl | (rw [h];rfl)) (fun h=>by first | rfl | (rw [h];rfl))) Z ?_;refine A2 (A4 Z Z) Z (B1 Z Z Z Z (fun hg=>by have hq:=hg;(try simp at hq);rw [hg];exact H6 (D39) Z Z) ?_);refine A2 (B6 Z (fun h=>by first | rfl | (rw [h];rfl)) (fun h=>by first | rfl | (rw [h];rfl))) Z ?_;refine A2 (A5 Z Z) Z (A6 ?_)
 refine k1 (k10 ?_)
 exact B5 (F2 rfl rfl rfl) (by simp)
end Go.Proofs.YtgejaedjnbjpoaaGreatDoor
