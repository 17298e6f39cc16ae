/- Walks of the program's functions. -/
import Derived.Test.YtbiadkkamhpdnaaGreatDoorFg
import Derived.Test.YtbiadkkamhpdnaaGreatDoorFe
import Derived.Test.YtbiadkkamhpdnaaGreatDoorFs
import Derived.Test.YtbiadkkamhpdnaaGreatDoorFc
import Derived.Test.YtbiadkkamhpdnaaGreatDoorFa
import Derived.Test.YtbiadkkamhpdnaaGreatDoorFf
set_option linter.unusedSimpArgs false
namespace Go.Proofs.YtbiadkkamhpdnaaGreatDoor
open Go Go.AL
set_option maxRecDepth 100000
set_option maxHeartbeats 1000000
end Go.Proofs.YtbiadkkamhpdnaaGreatDoor
namespace Go.Proofs.YtbiadkkamhpdnaaGreatDoor
open Go Go.AL
set_option maxRecDepth 100000
set_option maxHeartbeats 1000000
set_option maxHeartbeats 2000000
end Go.Proofs.YtbiadkkamhpdnaaGreatDoor
namespace Go.Proofs.YtbiadkkamhpdnaaGreatDoor
open Go Go.AL
set_option maxRecDepth 100000
set_option maxHeartbeats 1000000
set_option maxHeartbeats 1000000
set_option maxHeartbeats 1000000
def m7 (raw:List Int) (n:Int):List Str:=X2 raw (2+S6 n 4).toNat 7
theorem F97 (raw:List Int) (n:Int):∃x r,m7 raw n=x::r∧x.length≤140∧∀b∈r,b.length≤140:=by
 have hm:=Y1 n (n:=4) (by omega)
 have hl:(m7 raw n).length=(2+S6 n 4).toNat:=by simp [m7,X2]
 have hb:∀b∈m7 raw n,b.length≤140:=by
  intro b hb
  obtain ⟨p,_,rfl⟩:=List.mem_map.1 hb
  have:=D48 raw 7 p (by omega);omega
 cases h:m7 raw n with
 | nil=>rw [h] at hl;simp at hl;omega
 | cons x r=>exact ⟨x,r,rfl,hb x (by rw [h];simp),fun b hb'=>hb b (by rw [h];simp [hb'])⟩
def A52 (path result:Str) (parents:List Str) (ctx:Int) (d:Bool):Comb × Int :=
 if S0 path=false then (V2,120) else if (F7 result parents).2≠0 then (V2,(F7 result parents).2) else
 if (L6 (F7 result parents).1 ctx d).2≠0 then (V2,(L6 (F7 result parents).1 ctx d).2) else v8 path (F7 result parents).1 (L6 (F7 result parents).1 ctx d).1 d
theorem F98:∀s∈lineTab,s.count 10=0:=by decide
theorem D58 (k:Int):(l8 k).count 10=0:=by
 unfold l8
 rw [J08]
 cases h:lineTab[(S6 k 10).toNat]? with
 | none=>rfl
 | some s=>exact F98 s (J26 h)
theorem E24 (raw:List Int) (from' kinds:Int) (m:Nat):(S4 raw from' kinds m).count 10=m:=by
 induction m with
 | zero=>simp [S4]
 | succ m ih=>rw [y5,List.count_append,List.count_append,ih,D58];rfl
theorem D59 (raw:List Int) (from' n kinds:Int) (h1:0≤n):((V8 raw from' n kinds).count 10:Int)≤n:=by
 have h:=Y1 (d5 raw from') (n:=n+1) (by omega)
 have h2:=E24 raw from' kinds (S6 (d5 raw from') (n+1)).toNat
 have h3:=(List.take_sublist ((S4 raw from' kinds (S6 (d5 raw from') (n+1)).toNat).length - 1) (S4 raw from' kinds (S6 (d5 raw from') (n+1)).toNat)).count_le (a:=(10:UInt8))
 unfold V8
 simp only
 split
 ·omega
 ·omega
theorem A53 (raw:List Int) (from':Int):∀(l:List Str) (i:Nat) (s:Str),(d6 raw from' i s l).count 10≤s.count 10+l.flatten.count 10+l.length
 | [],i,s=>by simp [d6]
 | x::r,i,s=>by
  have h1:=A53 raw from' r (i+1) s
  have h2:=A53 raw from' r (i+1) (s++l8 (d5 raw (from'+40+(i:Int)))++[10]++x)
  have h3:=A53 raw from' r (i+1) (s++x)
  have h4:=D58 (d5 raw (from'+40+(i:Int)))
  have h5:List.count (10:UInt8) [10]=1:=rfl
  simp only [List.count_append,h4,h5] at h2 h3
  unfold d6
  simp only [J24,List.count_append,J07]
  split
  ·omega
  ·split<;>omega
theorem G84 (raw:List Int) (p:Nat):(l9 raw 7 p).count 10≤15:=by
 have h1:=D59 raw (600+50*(p:Int)) 7 4 (by omega)
 have h2:=D59 raw 0 7 5 (by omega)
 have h3:=A53 raw (600+50*(p:Int)) (C1 (V8 raw 0 7 5)) 0 []
 have h4:=C98 (V8 raw 0 7 5)
 rw [U8] at h3
 have h5:List.count (10:UInt8) ([]:Str)=0:=rfl
 unfold l9
 split
 ·omega
 ·split
  ·omega
  ·unfold B84;omega
theorem D60 (raw:List Int) (n:Int):∀b∈m7 raw n,(C1 b).length≤16∧b.length≤140:=by
 intro b hb
 obtain ⟨p,_,rfl⟩:=List.mem_map.1 hb
 have h1:=D48 raw 7 p (by omega)
 have h2:=G84 raw p
 have h3:=C98 (l9 raw 7 p)
 omega
theorem F99 (raw:List Int) (n:Int) {x:Str} {r:List Str} (h:m7 raw n=x::r):1≤r.length∧r.length≤4:=by
 have hm:=Y1 n (n:=4) (by omega)
 have hl:(m7 raw n).length=(2+S6 n 4).toNat:=by simp [m7,X2]
 rw [h,J07] at hl
 omega
structure Small16 (x:Str) (r:List Str):Prop where
 n:r.length≤32
 hx:x.length≤140
 hr:∀b∈r,b.length≤140
 rows:K4 (F7 x r).1.Rows
 len:(F7 x r).1.Rows.length≤1105
 txt:∀q∈(F7 x r).1.Rows,q.Text.length≤140
theorem G85 {raw:List Int} {n:Int} {x:Str} {r:List Str} (h:m7 raw n=x::r):Small16 x r:=by
 have h1:=F99 raw n h
 have h2:=D60 raw n
 rw [h] at h2
 have hx:=h2 x (by simp)
 have hr:∀b∈r,(C1 b).length≤16∧b.length≤140:=fun b hb=>h2 b (by simp [hb])
 obtain ⟨k1,k2,k3⟩:=C38 x r 16 140 hx hr
 have h4:r.length*16+1≤65:=by omega
 exact ⟨by omega,hx.2,fun b hb=>(hr b hb).2,k1,by omega,k3⟩
theorem textsLen_le {rows:List Row} {B:Nat} (h:∀q∈rows,q.Text.length≤B):O0 rows≤rows.length*B∧(rows.map W9).sum≤rows.length*(B+96)∧∀n,(rows.map (C69 n)).sum≤rows.length*(B+n+29):=by
 unfold O0
 induction rows with
 | nil=>simp
 | cons x r ih =>
  obtain ⟨i1,i2,i3⟩:=ih fun q hq=>h q (by simp [hq])
  have hx:=h x (by simp)
  simp only [J16,J24,J06,J39,J07,J28,Nat.one_mul]
  simp only [Nat.mul_add] at i2 i3 ⊢
  refine ⟨by omega,by unfold W9 at i2 ⊢;omega,fun n=>?_⟩
  have:=i3 n
  unfold C69 at this ⊢
  omega
theorem Small16.sums {x:Str} {r:List Str} (h:Small16 x r):O0 (F7 x r).1.Rows≤154700∧((F7 x r).1.Rows.map W9).sum≤260780∧∀n,n≤32→((F7 x r).1.Rows.map (C69 n)).sum≤1105*201:=by
 obtain ⟨h1,h2,h3⟩:=textsLen_le h.txt
 have h4:=h.len
 refine ⟨by omega,by omega,fun n hn=>?_⟩
 refine Nat.le_trans (h3 n) ?_
 exact Nat.mul_le_mul h4 (by omega)
set_option maxHeartbeats 1000000
theorem H34 {n:Nat} {rows:List Row}:∀{sp:List Span} {e:Int} {hs:List CHunk},D57 rows.length e sp=false→s9 n rows e hs sp=none
 | [],e,hs,h=>by cases h
 | s::r,e,hs,h=>by
  rw [D57] at h
  rw [s9]
  by_cases hc:s.From < e∨s.To≤s.From∨(rows.length:Int) < s.To
  ·rw [if_pos hc]
  ·rw [if_neg hc] at h ⊢
   exact H34 h
abbrev z59:Ob:=.box [.p (.v (.string ⟨#[]⟩)),.p (.v (.bool false)),.p (.v (.int .i64 0)),.p (.v (.slice none 0 0))]
set_option maxHeartbeats 1000000
theorem H35 (path:Str) (t:Table) (sp:List Span) (d:Bool) (hr:K4 t.Rows) (hW:(t.Rows.map W9).sum≤8388608) (hx:O0 t.Rows≤8388608) (hsp:sp.length≤536870912) :
  FnOk Tryz.prog 98 [P5 path,pTable t,pSpans sp,K7 d] (fun rs=>rs=[V1 (v8 path t sp d).1,I7 (v8 path t sp d).2]):=by
 have hl:=x8 t.Rows
 have hll:t.Rows.length≤8388608:=by omega
 refine FnOk.intro Tryz.func98 (by decide) Z Z Z Z ?_
 refine k2 ?_
 refine A4 (C3 (Q0 5 Z Z Z) Z (C3 (H7 8 Z) Z (A3 (A6 Z Z) Z (A7 ?_))))
 refine k1 (k2 (k2 ?_))
 refine A4 (A3 (A5 Z Z) Z (C5 (B42 path) Z Z Z ?_));rintro _ rfl;refine A3 (K5 Z) Z (A7 ?_)
 refine k1 ?_
 refine B5 rfl (fun ht=>?_) (fun ht=>?_)
 ·have h:S0 path=false:=by simpa using ht
  refine k2 ?_
  refine A4 (A3 (H6 Z) Z (F8 (C0 TySz.out Z Z Z Z Z Z) (A3 (A6 Z Z) Z (A7 ?_))))
  refine k1 ?_
  refine H3 (I76 CHunk 2 Q6 8 3 Z Z) ?_
  refine k10 (k11 ?_)
  exact B6 (rs:=[V1 V2,I7 120]) (l5 rfl rfl rfl rfl rfl rfl rfl) (by unfold v8;rw [if_pos h])
 have h:S0 path=true:=by simpa using ht
 refine k5 (k1 (k2 (k2 ?_)))
 refine A4 (A3 (D7 Z Z Z) Z (C5 (E60 t hr (by omega) (by omega)) Z Z Z ?_));rintro _ rfl;refine A3 (A6 Z Z) Z (A7 ?_)
 refine k1 (k2 ?_)
 refine A4 (A3 (A5 Z Z) Z (A3 (O3 Z Z) Z (A7 ?_)))
 refine k1 ?_
 refine B5 rfl (fun ht=>?_) (fun ht=>?_)
 ·have h1:=A0 ht
  refine k2 ?_
  refine A4 (A3 (H6 Z) Z (A3 (A5 Z Z) Z (F8 (C0 TySz.out Z Z Z Z Z Z) (A3 (A6 Z Z) Z (A7 ?_)))))
  refine k1 ?_
  refine H3 (I76 CHunk 2 Q6 8 3 Z Z) ?_
  refine k10 (k11 ?_)
  exact B6 (rs:=[V1 V2,I7 (I2 t)]) (l5 rfl rfl rfl rfl rfl rfl rfl) (by unfold v8;rw [if_neg (by rw [h];decide),if_pos h1])
 have h1:=A1 ht
 have h10:I2 t=0:=by omega
 obtain ⟨hn1,hn2⟩:=F96 h10
 obtain ⟨n,hn⟩:∃n:Nat,t.Parents=n:=⟨t.Parents.toNat,by omega⟩
 obtain ⟨tp,rows⟩:=t
 have hn:tp=(n:Int):=hn
 subst hn
 dsimp only at hr hW hx hl hll hn1 hn2
 have hcut:v8 path ⟨n,rows⟩ sp d=match s9 n rows 0 [] sp with
  | none=>(V2,3)
  | some hs=>if M4 ⟨path,d,(n:Int),hs⟩≠0 then (V2,M4 ⟨path,d,(n:Int),hs⟩) else (⟨path,d,(n:Int),hs⟩,0):=by
  unfold v8;rw [if_neg (by rw [h];decide),if_neg (by omega)];rfl
 rw [hcut]
 obtain ⟨W,hWd⟩:∃W,W=s9 n rows 0 [] sp:=⟨_,rfl⟩
 have hcs:∀hs,W=some hs→szC hs≤268435456∧∀x∈hs,K4 x.Rows:=fun hs e=>cut_szC (n:=n) (by omega) hr hW (by rw [←hWd];exact e)
 have hord0:=H34 (n:=n) (rows:=rows) (sp:=sp) (e:=0) (hs:=[])
 rw [←hWd] at hord0 ⊢
 refine k5 (k1 (k2 (k2 ?_)))
 refine A4 (A3 (A5 Z Z) Z (A3 (A8 Z) Z (A3 (A9 Z Z Z) Z (A3 (D5 Z (.pure _ _ _ _)) Z (C5 (F92 sp rows.length hsp) Z Z Z ?_)))));rintro _ rfl;refine A3 (K5 Z) Z (A7 ?_)
 refine k1 ?_
 refine B5 rfl (fun ht=>?_) (fun ht=>?_)
 ·have hno:D57 rows.length 0 sp=false:=by simpa using ht
  rw [hord0 hno]
  refine k2 ?_
  refine A4 (A3 (H6 Z) Z (F8 (C0 TySz.out Z Z Z Z Z Z) (A3 (A6 Z Z) Z (A7 ?_))))
  refine k1 ?_
  refine H3 (I76 CHunk 2 Q6 8 3 Z Z) ?_
  refine k10 (k11 ?_)
  exact B6 (rs:=[V1 V2,I7 3]) (l5 rfl rfl rfl rfl rfl rfl rfl) rfl
 have hord:D57 rows.length 0 sp=true:=by simpa using ht
 refine k5 (k1 (k2 ?_))
 refine A4 (A3 (A5 Z Z) Z (A3 (A5 Z Z) Z (A3 (A8 Z) Z (A3 (A9 Z Z Z) Z (A3 (H6 Z) Z (C3 (H7 11 Z) Z (F8 (C0 TySz.out Z Z Z Z Z Z) (A7 ?_))))))))
 refine H3 (I80 754 CHunk 2 Q6 59 (kb:=11) (o:=3) Z Z Z) ?_
 refine k2 ?_
 have e0:((n:Int)+1).toNat=n+1:=by omega
 have hz:List.replicate (n+1) (0:Int)=F5 (rows.take 0) n:=by
  refine List.ext_getElem (by simp [F5]) fun q h1 h2=>?_
  simp [F5,N7,J0]
 refine A4 (A3 (A8 Z) Z (A3 (A9 Z Z Z) Z (A3 (C2 Z Z (by omega)) Z (C3 (U1 720 Int G4 0 Z Z (by omega) (by omega) (fun _=>by first | exact ⟨⟨rfl,rfl⟩,trivial⟩ | exact ⟨N1 _ _ _,trivial⟩) (by first | rfl | (simp [H4,I3,Ob.free,SV.free,S1.free,TC.free]<;>rfl))) Z ?_))));refine C3 (H7 12 Z) Z (F8 (C0 TySz.out Z Z Z Z Z Z) (A7 ?_))
 rw [e0,hz]
 refine k1 (k2 ?_)
 refine A4 (C3 (H7 13 Z) Z (F8 (C0 TySz.out Z Z Z Z Z Z) (A7 ?_)))
 refine k1 (k2 ?_)
 refine A4 (A3 (y4 Z Z) Z (A3 (A6 Z Z) Z (A7 ?_)))
 refine k1 (k2 (k2 ?_))
 refine A4 (A3 (A5 Z Z) Z (A3 (D5 Z (.pure _ _ _ _)) Z (A3 (A5 Z Z) Z (A7 ?_))))
 refine k1 (k3 ?_)
 refine C7 (X:=Nat × Nat × List CHunk) (fun x=>([(5,.s (.one (.ref 5 0))),(8,.s (.one (.ref 8 0))),(11,.s (.one (.ref 11 0))),(12,.s (.one (.ref 12 0))),(14,.s (.one (.clo 165 [] [(5,0),(13,0),(12,0)]))),(45,B9 Span 2 spanC sp),(46,B7 sp.length),(47,B7 x.1)],[(5,.box (pTable ⟨n,rows⟩).s1.cells),(8,z59),(11,.box [.p (.v (.string ⟨path.toArray⟩)),.p (.v (.bool d)),.p (.v (.int .i64 n)),.buf 754 CHunk 2 Q6 x.2.2]),(754,.spare x.2.2.length 2 59),(12,.box [.mut 720]),(13,d7 x.2.1),(720,.arr Int 1 G4 (F5 (rows.take x.2.1) n))])) (fun x=>x.1≤sp.length∧x.2.1≤rows.length∧x.2.2.length≤x.1∧W=s9 n rows x.2.1 x.2.2 (sp.drop x.1)∧D57 rows.length x.2.1 (sp.drop x.1)=true) (fun x=>sp.length - x.1) (0,0,[]) ⟨Nat.zero_le _,Nat.zero_le _,Nat.le_refl _,hWd,hord⟩ (I72 ⟨le1 rfl,le1 rfl,le1 rfl,le1 rfl,le1 rfl,le1 rfl,le1 rfl,le1 rfl,trivial⟩ ⟨rfl,rfl,rfl,rfl,rfl,rfl,rfl,trivial⟩) ?_
 rintro ⟨k,e,hs⟩ ⟨hk,he,hsl,hp,ho⟩
 dsimp only at hk he hsl hp ho ⊢
 refine k2 ?_
 refine A4 (A3 (D9 Z Z) Z (A7 ?_))
 refine k1 (k2 ?_)
 refine B5 rfl (fun ht=>?_) (fun ht=>?_)
 rotate_left
 ·have hkl:k=sp.length:=by have:=A1 ht;omega
  rw [hkl,J14 (Nat.le_refl _)] at hp
  have hp:W=some hs:=hp
  obtain ⟨z1,z2⟩:=hcs hs hp
  rw [hp]
  dsimp only
  refine k6 (k2 (k2 ?_))
  refine A4 (A3 (D7 Z Z Z) Z (C5 (C54 ⟨path,d,n,hs⟩ z1 z2) Z Z Z ?_));rintro _ rfl;refine A3 (A6 Z Z) Z (A7 ?_)
  refine k1 (k2 ?_)
  refine A4 (A3 (A5 Z Z) Z (A3 (O3 Z Z) Z (A7 ?_)))
  refine k1 ?_
  refine B5 rfl (fun ht=>?_) (fun ht=>?_)
  ·have h2:=A0 ht
   refine k2 ?_
   refine A4 (A3 (H6 Z) Z (A3 (A5 Z Z) Z (F8 (C0 TySz.out Z Z Z Z Z Z) (A3 (A6 Z Z) Z (A7 ?_)))))
   refine k1 ?_
   refine H3 (I76 CHunk 2 Q6 8 3 Z Z) ?_
   refine k10 (k11 ?_)
   exact B6 (rs:=[V1 V2,I7 (M4 ⟨path,d,n,hs⟩)]) (l5 rfl rfl rfl rfl rfl rfl rfl) (by rw [if_pos h2])
  ·have h2:=A1 ht
   refine k5 (k1 (k2 ?_))
   refine A4 (A3 (D7 Z Z Z) Z (F8 (C0 TySz.out Z Z Z Z Z Z) (A3 (A6 Z Z) Z (A7 ?_))))
   refine k1 (k10 ?_)
   exact B6 (rs:=[V1 ⟨path,d,n,hs⟩,I7 0]) (l5 rfl rfl rfl rfl rfl rfl rfl) (by rw [if_neg h2])
 have hlt:k < sp.length:=by have:=A0 ht;omega
 have hv:sp[k]?=some sp[k]:=by simp [hlt]
 rw [J11 hlt,s9] at hp
 rw [J11 hlt,D57] at ho
 obtain ⟨s,hsd⟩:∃s,s=sp[k]:=⟨_,rfl⟩
 rw [←hsd] at hp hv ho
 have hc:¬(s.From < (e:Int)∨s.To≤s.From∨(rows.length:Int) < s.To):=by
  intro hc
  rw [if_pos hc] at ho;cases ho
 rw [if_neg hc] at hp ho
 simp only [not_or,Int.not_lt,Int.not_le] at hc
 obtain ⟨c1,c2,c3⟩:=hc
 obtain ⟨F,hF⟩:∃F:Nat,s.From=F:=⟨s.From.toNat,by omega⟩
 obtain ⟨T,hT⟩:∃T:Nat,s.To=T:=⟨s.To.toNat,by omega⟩
 obtain ⟨sF,sT⟩:=s
 have hF:sF=(F:Int):=hF
 have hT:sT=(T:Int):=hT
 subst hF hT
 dsimp only at c1 c2 c3 hp ho
 rw [J12,J12] at hp
 have hsub:((rows.drop F).take (T - F)).length=T - F:=by rw [J20,J22];omega
 have hcl:(F5 (rows.take F) n).length=n+1:=by simp [F5]
 refine k5 (k1 (k2 (k3 (k2 ?_))))
 refine A4 (A3 (B1 Z (.pure _ _ _ _) Z (by omega) hv) Z (A3 (E5 Z Z) Z (C3 (H7 16 Z) Z (F8 (C0 TySz.out Z Z Z Z Z Z) (A7 ?_)))))
 refine L7 [(5,.s (.one (.ref 5 0))),(8,.s (.one (.ref 8 0))),(11,.s (.one (.ref 11 0))),(12,.s (.one (.ref 12 0))),(14,.s (.one (.clo 165 [] [(5,0),(13,0),(12,0)]))),(16,.s (.one (.ref 16 0))),(45,B9 Span 2 spanC sp),(46,B7 sp.length),(47,B7 k)] [(5,.box (pTable ⟨n,rows⟩).s1.cells),(8,z59),(11,.box [.p (.v (.string ⟨path.toArray⟩)),.p (.v (.bool d)),.p (.v (.int .i64 n)),.buf 754 CHunk 2 Q6 hs]),(754,.spare hs.length 2 59),(12,.box [.mut 720]),(13,d7 e),(720,.arr Int 1 G4 (F5 (rows.take e) n)),(16,.box [.p (.v (.int .i64 F)),.p (.v (.int .i64 T))])] (I72 ⟨le1 rfl,le1 rfl,le1 rfl,le1 rfl,le1 rfl,le1 rfl,le1 rfl,le1 rfl,le1 rfl,trivial⟩ ⟨rfl,rfl,rfl,rfl,rfl,rfl,rfl,rfl,trivial⟩) ?_
 refine k2 ?_
 refine A4 (A3 (A5 Z Z) Z (A3 (A8 Z) Z (A3 (A9 Z Z Z) Z (A22 (D56 ⟨n,rows⟩ n e F Z (by omega) hr (by dsimp only;omega) (by omega) (by dsimp only;omega) Z Z Z Z) Z Z Z Z ?_))));rintro _ _ ⟨rfl,rfl⟩;refine A7 ?_
 refine L7 [(5,.s (.one (.ref 5 0))),(8,.s (.one (.ref 8 0))),(11,.s (.one (.ref 11 0))),(12,.s (.one (.ref 12 0))),(14,.s (.one (.clo 165 [] [(5,0),(13,0),(12,0)]))),(16,.s (.one (.ref 16 0))),(45,B9 Span 2 spanC sp),(46,B7 sp.length),(47,B7 k)] [(5,.box (pTable ⟨n,rows⟩).s1.cells),(8,z59),(11,.box [.p (.v (.string ⟨path.toArray⟩)),.p (.v (.bool d)),.p (.v (.int .i64 n)),.buf 754 CHunk 2 Q6 hs]),(754,.spare hs.length 2 59),(12,.box [.mut 720]),(13,d7 F),(720,.arr Int 1 G4 (F5 (rows.take F) n)),(16,.box [.p (.v (.int .i64 F)),.p (.v (.int .i64 T))])] (I72 ⟨le1 rfl,le1 rfl,le1 rfl,le1 rfl,le1 rfl,le1 rfl,le1 rfl,le1 rfl,le1 rfl,trivial⟩ ⟨rfl,rfl,rfl,rfl,rfl,rfl,rfl,rfl,trivial⟩) ?_
 refine k2 ?_
 have hCR:=H76 ((rows.drop F).take (T - F)) (by omega)
 have hCI:=fun gf ob h=>G78 (gf:=gf) (ob:=ob) (F5 (rows.take F) n) (by omega) h
 refine U2 [16,14,3] [[],[3],[14,3],[16,14,3]] [(3,([],[])),(14,([754],[56])),(16,([],[]))] [(0,[]),(1,[]),(2,[]),(3,[]),(4,[]),(5,[]),(6,[]),(7,[]),(8,[]),(9,[]),(10,[]),(11,[3]),(12,[3]),(13,[3]),(14,[3]),(15,[14,3]),(16,[14,3])] [(0,[3]),(1,[3]),(4,[3]),(5,[3]),(6,[3]),(7,[3]),(8,[3]),(9,[3]),(10,[3])] (by kernel_rfl) (by kernel_rfl) (E8 Z Z (by kernel_rfl) Z Z (A8 Z) (E8 Z Z (by kernel_rfl) Z Z (A9 Z Z Z) (E8 Z Z (by kernel_rfl) Z Z (A9 Z Z Z) (c9 Z Z (by kernel_rfl) Z Z (r_met (fun gf=>hCI gf _ Z) Z Z) Z (E8 Z Z (by kernel_rfl) Z Z (A8 Z) (E8 Z Z (by kernel_rfl) Z Z (A9 Z Z Z) (E8 Z Z (by kernel_rfl) Z Z (A8 Z) (E8 Z Z (by kernel_rfl) Z Z (A9 Z Z Z) (E8 Z Z (by kernel_rfl) Z Z (A8 Z) (E8 Z Z (by kernel_rfl) Z Z (A9 Z Z Z) (E8 Z Z (by kernel_rfl) Z Z (U0 Z (.pure _ _ _ _) Z Z (by (first | omega | (dsimp only;omega))) (by (first | omega | (dsimp only;omega))) (by (first | omega | (dsimp only;omega)))) (E8 Z Z (by kernel_rfl) Z Z (P1 (hCR) Z Z) (E8 Z Z (by kernel_rfl) Z Z (H6 Z) (E8 Z Z (by kernel_rfl) Z Z (C8 (c:=Q6) (ys:=[⟨F5 (rows.take F) n,(rows.drop F).take (T - F)⟩]) (E0 Z Z Z Z F6) Z Z Z) (c9 Z Z (by kernel_rfl) Z Z (C51 (fun frc hU=>G9 (Z2 hU Z) Z (Z2 hU Z) (.pure _ _ _ _) (by (simp only [J07,J10];omega)) Z)) Z (E8 Z Z (by kernel_rfl) Z Z (A8 Z) (c9 Z Z (by kernel_rfl) Z Z (E51 (fun frc hU=>C0 TySz.out (Z2 hU Z) Z (Z2 hU Z) Z Z Z)) Z ?_)))))))))))))))));refine E50 (by kernel_rfl) rfl ?_ ?_
 ·refine L8 Z Z (by kernel_rfl) Z Z (A8 Z) (L8 Z Z (by kernel_rfl) Z Z (A9 Z Z Z) (L8 Z Z (by kernel_rfl) Z Z (A8 Z) (L8 Z Z (by kernel_rfl) Z Z (A9 Z Z Z) (L8 Z Z (by kernel_rfl) Z Z (A8 Z) (L8 Z Z (by kernel_rfl) Z Z (A9 Z Z Z) (L8 Z Z (by kernel_rfl) Z Z (A8 Z) (L8 Z Z (by kernel_rfl) Z Z (A9 Z Z Z) (L8 Z Z (by kernel_rfl) Z Z (U0 Z (.pure _ _ _ _) Z Z (by (first | omega | (dsimp only;omega))) (by (first | omega | (dsimp only;omega))) (by (first | omega | (dsimp only;omega)))) ?_))))))));exact D42
 refine L7 [(5,.s (.one (.ref 5 0))),(8,.s (.one (.ref 8 0))),(11,.s (.one (.ref 11 0))),(12,.s (.one (.ref 12 0))),(14,.s (.one (.clo 165 [] [(5,0),(13,0),(12,0)]))),(16,.s (.one (.ref 16 0))),(45,B9 Span 2 spanC sp),(46,B7 sp.length),(47,B7 k)] [(5,.box (pTable ⟨n,rows⟩).s1.cells),(8,z59),(11,.box [.p (.v (.string ⟨path.toArray⟩)),.p (.v (.bool d)),.p (.v (.int .i64 n)),.buf 754 CHunk 2 Q6 (hs++[⟨F5 (rows.take F) n,(rows.drop F).take (T - F)⟩])]),(754,.spare (hs++[(⟨F5 (rows.take F) n,(rows.drop F).take (T - F)⟩:CHunk)]).length 2 59),(12,.box [.mut 720]),(13,d7 F),(720,.arr Int 1 G4 (F5 (rows.take F) n)),(16,.box [.p (.v (.int .i64 F)),.p (.v (.int .i64 T))])] (I72 ⟨le1 rfl,le1 rfl,le1 rfl,le1 rfl,le1 rfl,le1 rfl,le1 rfl,le1 rfl,le1 rfl,trivial⟩ ⟨rfl,rfl,rfl,rfl,rfl,rfl,rfl,rfl,trivial⟩) ?_
 skip
 refine A4 (A3 (A5 Z Z) Z (A3 (A8 Z) Z (A3 (A9 Z Z Z) Z (A22 (D56 ⟨n,rows⟩ n F T Z (by omega) hr (by dsimp only;omega) (by omega) (by dsimp only;omega) Z Z Z Z) Z Z Z Z ?_))));rintro _ _ ⟨rfl,rfl⟩;refine A7 ?_
 refine k4 (k1 ?_)
 refine A4 (A3 (C2 Z Z (by omega)) Z (A3 (A5 Z Z) Z (A7 ?_)))
 refine k1 ?_
 exact ⟨(k+1,T,hs++[⟨F5 (rows.take F) n,(rows.drop F).take (T - F)⟩]),⟨by dsimp only;omega,by dsimp only;omega,by dsimp only;rw [J06];simp;omega,hp,ho⟩,by dsimp only;omega,I72 ⟨le1 rfl,le1 rfl,le1 rfl,le1 rfl,le1 rfl,le1 rfl,le1 rfl,le1 rfl,trivial⟩ ⟨rfl,rfl,rfl,rfl,rfl,rfl,rfl,trivial⟩⟩
theorem G86 (path x:Str) (r:List Str) (ctx:Int) (d:Bool) (h:Small16 x r) (hL:∀b∈x::r,(C1 b).length≤16):FnOk Tryz.prog 42 [P5 path,P5 x,u9 r,I7 ctx,K7 d] (fun rs=>rs=[V1 (A52 path x r ctx d).1,I7 (A52 path x r ctx d).2]):=by
 have hx:=h.hx
 obtain ⟨s1,s2,s3⟩:=h.sums
 have hl:=h.len
 have hrows:=h.rows
 have hrn:=h.n
 have hm:=F87 x r 16 (by omega) (by omega) ⟨hL x (by simp),by omega⟩ (fun b hb=>⟨hL b (by simp [hb]),by have:=h.hr b hb;omega⟩)
 obtain ⟨t,e,hte⟩:∃t e,F7 x r=(t,e):=⟨_,_,rfl⟩
 rw [hte] at s1 s2 hl hrows hm
 dsimp only at s1 s2 hl hrows hm
 have hh:=H74 t ctx d hrows (by omega) (by omega)
 have hin:=G36 t ctx d
 obtain ⟨sp,e2,hsp⟩:∃sp e2,L6 t ctx d=(sp,e2):=⟨_,_,rfl⟩
 rw [hsp] at hh hin
 dsimp only at hh hin
 have hc:=H35 path t sp d hrows (by omega) (by omega) (by have:=hin.1;omega)
 have hres:A52 path x r ctx d=if S0 path=false then (V2,120) else if e≠0 then (V2,e) else if e2≠0 then (V2,e2) else v8 path t sp d:=by
  unfold A52;rw [hte];dsimp only;rw [hsp]
 rw [hres]
 refine FnOk.intro Tryz.func42 (by decide) Z Z Z Z ?_
 refine k2 ?_
 refine A4 (C3 (H7 10 Z) Z (A3 (A6 Z Z) Z (A7 ?_)))
 refine k1 (k2 (k2 ?_))
 refine A4 (A3 (A5 Z Z) Z (C5 (B42 path) Z Z Z ?_));rintro _ rfl;refine A3 (K5 Z) Z (A7 ?_)
 refine k1 ?_
 refine B5 rfl (fun ht=>?_) (fun ht=>?_)
 ·have h:S0 path=false:=by simpa using ht
  refine k2 ?_
  refine A4 (A3 (H6 Z) Z (F8 (C0 TySz.out Z Z Z Z Z Z) (A3 (A6 Z Z) Z (A7 ?_))))
  refine k1 ?_
  refine H3 (I76 CHunk 2 Q6 10 3 Z Z) ?_
  refine k10 (k11 ?_)
  exact B6 (rs:=[V1 V2,I7 120]) (l5 rfl rfl rfl rfl rfl rfl rfl) (by rw [if_pos h])
 have h1:S0 path=true:=by simpa using ht
 rw [if_neg (by rw [h1];decide)]
 refine k5 (k1 (k2 ?_))
 refine A4 (A3 (A5 Z Z) Z (A3 (A5 Z Z) Z (C5 (hm) Z Z Z ?_)));rintro _ rfl;refine A3 (A5 Z Z) Z (A3 (D2 Z Z) Z (A3 (D2 Z Z) Z (C3 (H7 12 Z) Z (F8 (C0 TySz.out Z Z Z Z Z Z) (A3 (A6 Z Z) Z (A7 ?_))))))
 refine k1 (k2 (k2 ?_))
 refine A4 (A3 (A5 Z Z) Z (A3 (O3 Z Z) Z (A7 ?_)))
 refine k1 ?_
 refine B5 rfl (fun ht=>?_) (fun ht=>?_)
 ·have h2:=A0 ht
  refine k2 ?_
  refine A4 (A3 (H6 Z) Z (A3 (A5 Z Z) Z (F8 (C0 TySz.out Z Z Z Z Z Z) (A3 (A6 Z Z) Z (A7 ?_)))))
  refine k1 ?_
  refine H3 (I76 CHunk 2 Q6 10 3 Z Z) ?_
  refine k10 (k11 ?_)
  exact B6 (rs:=[V1 V2,I7 e]) (l5 rfl rfl rfl rfl rfl rfl rfl) (by rw [if_pos h2])
 have h2:=A1 ht
 rw [if_neg h2]
 refine k5 (k1 (k2 ?_))
 refine A4 (A3 (D7 Z Z Z) Z (A3 (A5 Z Z) Z (A3 (A5 Z Z) Z (C5 (hh) Z Z Z ?_))));rintro _ rfl;refine A3 (A5 Z Z) Z (A3 (D2 Z Z) Z (A3 (D2 Z Z) Z (A3 (A6 Z Z) Z (A3 (A6 Z Z) Z (A7 ?_)))))
 refine k1 (k2 (k2 ?_))
 refine A4 (A3 (A5 Z Z) Z (A3 (O3 Z Z) Z (A7 ?_)))
 refine k1 ?_
 refine B5 rfl (fun ht=>?_) (fun ht=>?_)
 ·have h3:=A0 ht
  refine k2 ?_
  refine A4 (A3 (H6 Z) Z (A3 (A5 Z Z) Z (F8 (C0 TySz.out Z Z Z Z Z Z) (A3 (A6 Z Z) Z (A7 ?_)))))
  refine k1 ?_
  refine H3 (I76 CHunk 2 Q6 10 3 Z Z) ?_
  refine k10 (k11 ?_)
  exact B6 (rs:=[V1 V2,I7 e2]) (l5 rfl rfl rfl rfl rfl rfl rfl) (by rw [if_pos h3])
 have h3:=A1 ht
 rw [if_neg h3]
 refine k5 (k1 (k2 ?_))
 refine A4 (A3 (A5 Z Z) Z (A3 (D7 Z Z Z) Z (A3 (A5 Z Z) Z (A3 (A5 Z Z) Z (C5 (hc) Z Z Z ?_)))));rintro _ rfl;refine A3 (D2 Z Z) Z (A3 (D2 Z Z) Z (F8 (C0 TySz.out Z Z Z Z Z Z) (A3 (A6 Z Z) Z (A7 ?_))))
 refine k1 (k10 ?_)
 exact B6 (l5 rfl rfl rfl rfl rfl rfl rfl) rfl
def C21 (t:Table):List Span:=if 0 < t.Rows.length then [⟨0,t.Rows.length⟩] else []
def C55 (path x:Str) (r:List Str):Comb × Int :=
 if S0 path=false then (V2,120) else if (F7 x r).2≠0 then (V2,(F7 x r).2) else v8 path (F7 x r).1 (C21 (F7 x r).1) false
set_option maxHeartbeats 1000000
theorem I42 (path x:Str) (r:List Str) (h:Small16 x r) (hL:∀b∈x::r,(C1 b).length≤16):FnOk Tryz.prog 43 [P5 path,P5 x,u9 r] (fun rs=>rs=[V1 (C55 path x r).1,I7 (C55 path x r).2]):=by
 have hx:=h.hx
 obtain ⟨s1,s2,s3⟩:=h.sums
 have hl:=h.len
 have hrows:=h.rows
 have hrn:=h.n
 have hm:=F87 x r 16 (by omega) (by omega) ⟨hL x (by simp),by omega⟩ (fun b hb=>⟨hL b (by simp [hb]),by have:=h.hr b hb;omega⟩)
 obtain ⟨t,e,hte⟩:∃t e,F7 x r=(t,e):=⟨_,_,rfl⟩
 rw [hte] at s1 s2 hl hrows hm
 dsimp only at s1 s2 hl hrows hm
 have hc:=H35 path t (C21 t) false hrows (by omega) (by omega) (by unfold C21;split<;>simp)
 have hres:C55 path x r=if S0 path=false then (V2,120) else if e≠0 then (V2,e) else v8 path t (C21 t) false:=by
  unfold C55;rw [hte]
 rw [hres]
 refine FnOk.intro Tryz.func43 (by decide) Z Z Z Z ?_
 refine k2 ?_
 refine A4 (C3 (H7 6 Z) Z (A3 (A6 Z Z) Z (A7 ?_)))
 refine k1 (k2 (k2 ?_))
 refine A4 (A3 (A5 Z Z) Z (C5 (B42 path) Z Z Z ?_));rintro _ rfl;refine A3 (K5 Z) Z (A7 ?_)
 refine k1 ?_
 refine B5 rfl (fun ht=>?_) (fun ht=>?_)
 ·have h:S0 path=false:=by simpa using ht
  refine k2 ?_
  refine A4 (A3 (H6 Z) Z (F8 (C0 TySz.out Z Z Z Z Z Z) (A3 (A6 Z Z) Z (A7 ?_))))
  refine k1 ?_
  refine H3 (I76 CHunk 2 Q6 6 3 Z Z) ?_
  refine k10 (k11 ?_)
  exact B6 (rs:=[V1 V2,I7 120]) (l5 rfl rfl rfl rfl rfl rfl rfl) (by rw [if_pos h])
 have h1:S0 path=true:=by simpa using ht
 rw [if_neg (by rw [h1];decide)]
 refine k5 (k1 (k2 ?_))
 refine A4 (A3 (A5 Z Z) Z (A3 (A5 Z Z) Z (C5 (hm) Z Z Z ?_)));rintro _ rfl;refine A3 (A5 Z Z) Z (A3 (D2 Z Z) Z (A3 (D2 Z Z) Z (C3 (H7 8 Z) Z (F8 (C0 TySz.out Z Z Z Z Z Z) (A3 (A6 Z Z) Z (A7 ?_))))))
 refine k1 (k2 (k2 ?_))
 refine A4 (A3 (A5 Z Z) Z (A3 (O3 Z Z) Z (A7 ?_)))
 refine k1 ?_
 refine B5 rfl (fun ht=>?_) (fun ht=>?_)
 ·have h2:=A0 ht
  refine k2 ?_
  refine A4 (A3 (H6 Z) Z (A3 (A5 Z Z) Z (F8 (C0 TySz.out Z Z Z Z Z Z) (A3 (A6 Z Z) Z (A7 ?_)))))
  refine k1 ?_
  refine H3 (I76 CHunk 2 Q6 6 3 Z Z) ?_
  refine k10 (k11 ?_)
  exact B6 (rs:=[V1 V2,I7 e]) (l5 rfl rfl rfl rfl rfl rfl rfl) (by rw [if_pos h2])
 have h2:=A1 ht
 rw [if_neg h2]
 refine k5 (k1 (k2 ?_))
 refine A4 (A3 (J6 _ 2 spanC) Z (A7 ?_))
 refine k1 (k2 (k2 ?_))
 refine A4 (A3 (A8 Z) Z (A3 (A9 Z Z Z) Z (A3 (D5 Z (.pure _ _ _ _)) Z (A3 (P6 Z Z) Z (A7 ?_)))))
 refine k1 ?_
 refine B5 rfl (fun ht=>?_) (fun ht=>?_)
 ·have h3:=A0 ht
  have hsp:C21 t=[⟨0,t.Rows.length⟩]:=by unfold C21;rw [if_pos (by omega)]
  rw [hsp] at hc ⊢
  skip
  refine A4 (A3 (A8 Z) Z (A3 (A9 Z Z Z) Z (A3 (D5 Z (.pure _ _ _ _)) Z (A3 (H6 Z) Z (A3 (C8 (c:=spanC) (ys:=[⟨0,(t.Rows.length:Int)⟩]) (E0 Z Z Z Z F6) Z Z Z) Z (A3 (A6 Z Z) Z (A7 ?_)))))))
  refine k1 (k2 ?_)
  refine A4 (A3 (A5 Z Z) Z (A3 (D7 Z Z Z) Z (A3 (A5 Z Z) Z (C5 (hc) Z Z Z ?_))));rintro _ rfl;refine A3 (D2 Z Z) Z (A3 (D2 Z Z) Z (F8 (C0 TySz.out Z Z Z Z Z Z) (A3 (A6 Z Z) Z (A7 ?_))))
  refine k1 (k10 ?_)
  exact B6 (l5 rfl rfl rfl rfl rfl rfl rfl) rfl
 ·have h3:=A1 ht
  have hsp:C21 t=[]:=by unfold C21;rw [if_neg (by omega)]
  rw [hsp] at hc ⊢
  refine k5 (k1 (k2 ?_))
  refine A4 (A3 (A5 Z Z) Z (A3 (D7 Z Z Z) Z (A3 (A5 Z Z) Z (C5 (hc) Z Z Z ?_))));rintro _ rfl;refine A3 (D2 Z Z) Z (A3 (D2 Z Z) Z (F8 (C0 TySz.out Z Z Z Z Z Z) (A3 (A6 Z Z) Z (A7 ?_))))
  refine k1 (k10 ?_)
  exact B6 (l5 rfl rfl rfl rfl rfl rfl rfl) rfl
def exX:Str:=[97,10,99,10]
def exR:List Str:=[[97,10,98,10],[97,10,99,10]]
def exC:Comb:=⟨[120],false,2,[⟨[0,0,0],[⟨false,0,[97,10]⟩,⟨true,1,[98,10]⟩,⟨false,1,[99,10]⟩]⟩]⟩
def exS:Str:=[100,105,102,102,32,45,45,99,111,109,98,105,110,101,100,32,120,10,112,97,114,101,110,116,115,32,50,10,64,64,64,32,45,49,44,50,32,45,49,44,50,32,43,49,44,50,32,64,64,64,10,32,32,97,10,45,32,98,10,43,32,99,10]
theorem ex_c0:E3 [[],[]]=([],0):=by simp [E3,G6,O8,N5,E9,F3]
theorem ex_c1:E3 [[2],[]]=([⟨2,1⟩],0):=by
 have hb:G3 0=1:=by decide
 simp [E3,G6,O8,N5,E9,F3,hb]
def d8:List (List Int):=[[0,1],[0,2],[0,1]]
theorem ex_loom:(M8 d8 2 2 2).1=[0,1]∧(M8 d8 2 2 2).2 0=[[],[]]∧(M8 d8 2 2 2).2 1=[[2],[]]∧(M8 d8 2 2 2).2 2=[[],[]]:=by
 have w0:J5 [0,2] [0,1]=[⟨1,1,1,1⟩]:=by simp [J5,F3,dist,X5,L9]
 have w1:J5 [0,1] [0,1]=[]:=by simp [J5,F3,X5,L9]
 have h0:K6 d8 (r9 2 2) 0=((O9 [⟨1,1,1,1⟩] 2).foldl (K0 0) ((r9 2 2).1.map (I8 · (G3 0))),[(⟨1,1,1,1⟩:Change)].foldl (J2 0 [0,2]) (r9 2 2).2):=by
  rw [←w0];rfl
 have h1:M8 d8 2 2 2=((O9 [] 2).foldl (K0 1) ((K6 d8 (r9 2 2) 0).1.map (I8 · (G3 1))),(K6 d8 (r9 2 2) 0).2):=by
  show K6 d8 (K6 d8 (r9 2 2) 0) 1=_
  have:K6 d8 (K6 d8 (r9 2 2) 0) 1=((O9 (J5 [0,1] [0,1]) 2).foldl (K0 1) ((K6 d8 (r9 2 2) 0).1.map (I8 · (G3 1))),(J5 [0,1] [0,1]).foldl (J2 1 [0,1]) (K6 d8 (r9 2 2) 0).2):=rfl
  rw [this,w1];rfl
 rw [h1,h0]
 refine ⟨by decide,by decide,by decide,by decide⟩
theorem ex_make:F7 exX exR=(⟨2,[⟨false,0,[97,10]⟩,⟨true,1,[98,10]⟩,⟨false,1,[99,10]⟩]⟩,0):=by
 have e0:C1 exX=[[97,10],[99,10]]:=by decide
 have e1:exR.map C1=[[[97,10],[98,10]],[[97,10],[99,10]]]:=by decide
 have e2:E2 [[[97,10],[99,10]],[[97,10],[98,10]],[[97,10],[99,10]]]=[[97,10],[99,10],[98,10]]:=by decide
 have e3:[[[97,10],[99,10]],[[97,10],[98,10]],[[97,10],[99,10]]].map (J3 [[97,10],[99,10],[98,10]])=d8:=by decide
 obtain ⟨l1,l2,l3,l4⟩:=ex_loom
 have hR:exR.length=2:=rfl
 have hc:∀k,k < 3→E3 ((M8 d8 2 2 2).2 k)=if k=1 then ([⟨2,1⟩],0) else ([],0):=by
  intro k hk
  match k,hk with
  | 0,_=>rw [l2,ex_c0];rfl
  | 1,_=>rw [l3,ex_c1];rfl
  | 2,_=>rw [l4,ex_c0];rfl
 unfold F7
 rw [if_neg (by decide)]
 dsimp only
 rw [e0,e1,e2,e3]
 have hno:¬∃k,k < 3∧(E3 ((M8 d8 2 2 2).2 k)).2≠0:=by
  rintro ⟨k,hk,h⟩
  rw [hc k hk] at h
  split at h<;>exact h rfl
 refine (if_neg hno).trans ?_
 show ((⟨2,R9 [[97,10],[99,10],[98,10]] [[97,10],[99,10]] (M8 d8 2 2 2) 3⟩:Table),(0:Int))=_
 have hr:∀k,k < 3→P0 [[97,10],[99,10],[98,10]] [[97,10],[99,10]] (M8 d8 2 2 2) k=if k=0 then [⟨false,0,[97,10]⟩] else if k=1 then [⟨true,1,[98,10]⟩,⟨false,1,[99,10]⟩] else []:=by
  intro k hk
  unfold P0
  rw [hc k hk,l1]
  match k,hk with
  | 0,_=>rfl
  | 1,_=>rfl
  | 2,_=>rfl
 rw [Z8,Z8,Z8,hr 0 (by omega),hr 1 (by omega),hr 2 (by omega)]
 rfl
theorem G00:M4 exC=0:=by kernel_rfl
theorem ex_full:C55 [120] exX exR=(exC,0):=by
 unfold C55
 rw [ex_make,if_neg (by decide),if_neg (by decide)]
 dsimp only
 have h1:I2 ⟨2,[⟨false,0,[97,10]⟩,⟨true,1,[98,10]⟩,⟨false,1,[99,10]⟩]⟩=0:=by decide
 have h2:s9 (Int.toNat 2) [⟨false,0,[97,10]⟩,⟨true,1,[98,10]⟩,⟨false,1,[99,10]⟩] 0 [] (C21 ⟨2,[⟨false,0,[97,10]⟩,⟨true,1,[98,10]⟩,⟨false,1,[99,10]⟩]⟩)=some exC.Hunks:=by decide
 unfold v8
 rw [if_neg (by decide),h1,if_neg (by decide)]
 dsimp only
 rw [h2]
 dsimp only
 rw [show M4 ⟨[120],false,2,exC.Hunks⟩=0 from G00,if_neg (by decide)]
 rfl
theorem I43:A27 exC=exS:=by kernel_rfl
theorem ex_small:Small16 exX exR∧∀b∈exX::exR,(C1 b).length≤16:=by
 have hall:∀b∈exX::exR,(C1 b).length≤16∧b.length≤140:=by
  intro b hb
  have h1:b.length≤4:=by
   have:∀b∈exX::exR,b.length≤4:=by decide
   exact this b hb
  have h2:=R1 b
  omega
 obtain ⟨k1,k2,k3⟩:=C38 exX exR 16 140 (hall exX (by simp)) (fun b hb=>hall b (by simp [hb]))
 exact ⟨⟨by decide,by decide,fun b hb=>(hall b (by simp [hb])).2,k1,Nat.le_trans k2 (by decide),k3⟩,fun b hb=>(hall b hb).1⟩
theorem G87:FnOk Tryz.prog 35 [] (fun rs=>rs=[K7 true]):=by
 have h1:=I42 [120] exX exR ex_small.1 ex_small.2
 rw [ex_full] at h1
 have h2:=G76 exC (by decide) (by intro h hh;simp [exC] at hh;subst hh;intro r hr;simp at hr;rcases hr with rfl | rfl | rfl<;>decide)
 rw [if_pos G00,I43] at h2
 refine FnOk.intro Tryz.func35 (by decide) Z Z Z Z ?_
 refine k2 ?_
 refine A4 (A3 (A6 Z Z) Z (A7 ?_))
 refine k1 (k2 ?_)
 refine A4 (A3 (C8 (c:=L1) (ys:=exR) (E0 Z Z Z Z (E0 Z Z Z Z F6)) Z Z Z) Z (C5 (h1) Z Z Z ?_));rintro _ rfl;refine A3 (A5 Z Z) Z (A3 (D2 Z Z) Z (A3 (D2 Z Z) Z (C3 (H7 1 Z) Z (F8 (C0 TySz.out Z Z Z Z Z Z) (A3 (A6 Z Z) Z (A7 ?_))))))
 refine k1 (k2 ?_)
 refine A4 (A3 (D7 Z Z Z) Z (C5 (h2) Z Z Z ?_));rintro _ rfl;refine A3 (A5 Z Z) Z (A3 (D2 Z Z) Z (A3 (D2 Z Z) Z (A3 (A6 Z Z) Z (A3 (A6 Z Z) Z (A7 ?_)))))
 refine k1 (k2 ?_)
 refine A4 (A3 (A5 Z Z) Z (A3 (M1 Z Z) Z (A3 (A5 Z Z) Z (B4 Z Z Z Z (fun hg=>by rw [hg];exact A5 Z Z) ?_))));refine B4 Z Z Z Z (fun hg=>by rw [hg];exact M1 Z Z) ?_;refine A3 (B8 Z (fun h=>by first | rfl | (rw [h];rfl)) (fun h=>by first | rfl | (rw [h];rfl))) Z ?_;refine A3 (A5 Z Z) Z (B4 Z Z Z Z (fun hg=>by rw [hg];exact A5 Z Z) ?_);refine B4 Z Z Z Z (fun hg=>by rw [hg];exact B98 Z Z) ?_;refine A3 (B8 Z (fun h=>by first | rfl | (rw [h];rfl)) (fun h=>by first | rfl | (rw [h];rfl))) Z ?_;refine A3 (A6 Z Z) Z (A7 ?_)
 refine k1 (k10 ?_)
 exact B6 (rs:=[K7 true]) (H2 rfl rfl rfl) rfl
theorem H89 (raw:List Int) (n:Int) (x:Str) (r:List Str) (h:m7 raw n=x::r):FnOk Tryz.prog 36 [N6 raw,I7 n] (fun rs=>rs=[P5 x,u9 r]):=by
 have hm:=Y1 n (n:=4) (by omega)
 have hlen:(x::r).length=(2+S6 n 4).toNat:=by rw [←h];simp [m7,X2]
 have hb:=I29 raw (2+S6 n 4).toNat 7 (by omega) (by omega)
 have hcast:(((2+S6 n 4).toNat:Nat):Int)=2+S6 n 4:=by omega
 rw [hcast] at hb
 have hbr:X2 raw (2+S6 n 4).toNat 7=x::r:=h
 rw [hbr] at hb
 refine FnOk.intro Tryz.func36 (by decide) Z Z Z Z ?_
 refine k2 ?_
 refine A4 (A3 (A6 Z Z) Z (A3 (A6 Z Z) Z (A7 ?_)))
 refine k1 (k2 ?_)
 refine A4 (A3 (A5 Z Z) Z (A3 (A5 Z Z) Z (C5 (D47 n 4 (by omega) (by omega)) Z Z Z ?_)));rintro _ rfl;refine A3 (C2 Z Z (by omega)) Z (C5 (hb) Z Z Z ?_);rintro _ rfl;refine A3 (A6 Z Z) Z (A7 ?_)
 refine k1 (k2 ?_)
 refine D8 (by kernel_rfl) (by kernel_rfl) (B0 (A5 Z Z) Z Z (B0 (B1 Z (.pure _ _ _ _) Z (by omega) (show (x::r)[(0:Int).toNat]?=some x from Z)) Z Z (B0 (B3 Z Z) Z Z (B0 (A5 Z Z) Z Z (B0 (C46 Z (.pure _ _ _ _) Z (by (first | omega | (simp only [J07];omega))) (by (first | omega | (simp only [J07];omega)))) Z Z (B0 (A6 Z Z) Z Z (B0 (A6 Z Z) Z Z (O5 ?_))))))))
 refine k1 (k10 ?_)
 refine B6 (Z9 Z Z Z Z Z) ?_
 rfl
theorem I44 {raw:List Int} {n:Int} {x:Str} {r:List Str} (h:m7 raw n=x::r):∀b∈x::r,(C1 b).length≤16:=by rw [←h];exact fun b hb=>(D60 raw n b hb).1
theorem A54 {x:Str} {r:List Str} (h:Small16 x r) (h1:1≤r.length) (hL:∀b∈x::r,(C1 b).length≤16):(F7 x r).2=0∧I2 (F7 x r).1=0∧(F7 x r).1.Parents=r.length∧Made16 x r (F7 x r).1.Rows:=by
 have hn:=h.n
 have hz:(F7 x r).2=0:=G45 (B:=16) ⟨h1,hn⟩ (hL x (by simp)) (fun b hb=>hL b (by simp [hb])) (by omega)
 have hx1:=hL x (by simp)
 have h2:∀b∈r,(C1 b).length≤4096:=fun b hb=>by have:=hL b (by simp [hb]);omega
 have h3:=C99 (by omega) h2 hz
 exact ⟨hz,F49 (by omega) h2 hz,h3.2⟩
theorem G01 {path:Str} {x:Str} {r:List Str} {sp:List Span} (d:Bool) (hp:S0 path=true) (hpl:path.length≤400) (h:Small16 x r) (h1:1≤r.length) (hL:∀b∈x::r,(C1 b).length≤16) (hsp:CutSp (F7 x r).1.Rows.length 0 sp) :
  v8 path (F7 x r).1 sp d=(⟨path,d,r.length,X0 r.length (F7 x r).1.Rows sp⟩,0)∧M4 ⟨path,d,r.length,X0 r.length (F7 x r).1.Rows sp⟩=0:=by
 obtain ⟨_,g2,g3,_⟩:=A54 h h1 hL
 have hl:=h.len
 have hs:=h.sums.2.2 r.length (by have:=h.n;omega)
 have hg:=H13 (path:=path) (sp:=sp) (d:=d) hp g2 (by omega) hsp (by rw [g3,J12];omega)
 rw [g3,J12] at hg
 exact ⟨hg.1,hg.2.1⟩
theorem G02 {path x:Str} {r:List Str} {ctx:Int} (d:Bool) (hp:S0 path=true) (hpl:path.length≤400) (h:Small16 x r) (h1:1≤r.length) (hL:∀b∈x::r,(C1 b).length≤16) (hc:0≤ctx∧ctx≤1048576) :
  A52 path x r ctx d=(⟨path,d,r.length,X0 r.length (F7 x r).1.Rows (L6 (F7 x r).1 ctx d).1⟩,0)∧M4 (A52 path x r ctx d).1=0∧A52 path x r ctx d=v8 path (F7 x r).1 (L6 (F7 x r).1 ctx d).1 d∧CutSp (F7 x r).1.Rows.length 0 (L6 (F7 x r).1 ctx d).1:=by
 obtain ⟨g1,g2,_,_⟩:=A54 h h1 hL
 obtain ⟨k1,k2⟩:=C43 (t:=(F7 x r).1) d g2 hc
 obtain ⟨c1,c2⟩:=G01 d hp hpl h h1 hL k2
 have e:A52 path x r ctx d=v8 path (F7 x r).1 (L6 (F7 x r).1 ctx d).1 d:=by
  unfold A52
  rw [if_neg (by rw [hp];decide),g1,if_neg (by decide),k1,if_neg (by decide)]
 refine ⟨e.trans c1,?_,e,k2⟩
 rw [e,c1];exact c2
set_option maxHeartbeats 1000000
theorem E69 {m:Nat}:∀{sp:List Span} {e:Int},CutSp m e sp→∀s∈sp,e≤s.From∧s.From < s.To∧s.To≤m
 | [],_,_,s,h=>by cases h
 | x::r,e,⟨h1,h2,h3,h4⟩,s,h=>by
  rcases List.mem_cons.1 h with rfl | h
  ·exact ⟨h1,h2,h3⟩
  ·obtain ⟨a,b,c⟩:=E69 h4 s h
   exact ⟨by omega,b,c⟩
theorem G03 (rows:List Row) (c:Int) (i:Nat) (h:i < rows.length):(J0 (rows.take (i+1)) c).length=(J0 (rows.take i) c).length+if U4 rows[i] c=true then 1 else 0:=by
 unfold J0
 rw [J13 h,J48,J19,J06]
 congr 1
 rw [J47]
 split<;>simp
theorem H90 (rows:List Row) (c:Int):(J0 rows c).length≤rows.length:=by
 unfold J0;rw [J21];exact List.length_filter_le _ _
set_option maxHeartbeats 1000000
theorem F26 (raw:List Int) (n ctx:Int) (d:Bool):FnOk Tryz.prog 9 [N6 raw,I7 n,I7 ctx,K7 d] (fun rs=>rs=[K7 true]):=by
 obtain ⟨x,r,hpk,hxl,_⟩:=F97 raw n
 have hsm:=G85 hpk
 have hL:=I44 hpk
 obtain ⟨h1,h4⟩:=F99 raw n hpk
 have hmc:=Y1 ctx (n:=4) (by omega)
 have hP:=H89 raw n x r hpk
 have hM:=H88 x r (by omega) (fun b hb=>by have:=hsm.hr b hb;omega)
 have hmod:=D47 ctx 4 (by omega) (by omega)
 obtain ⟨cx,hcx⟩:∃cx,cx=S6 ctx 4:=⟨_,rfl⟩
 rw [←hcx] at hmc hmod
 have hD:=G86 [120] x r cx d hsm hL
 obtain ⟨D1,_,_,D4⟩:=G02 (path:=[120]) (ctx:=cx) d (by decide) (by decide) hsm h1 hL (by omega)
 obtain ⟨g1,g2,g3,_⟩:=A54 hsm h1 hL
 have hl:=hsm.len
 have hrw:=hsm.rows
 obtain ⟨s1,s2,_⟩:=hsm.sums
 obtain ⟨k1,_⟩:=C43 (t:=(F7 x r).1) (ctx:=cx) d g2 (by omega)
 rw [D1] at hD
 obtain ⟨t,e,hte⟩:∃t e,F7 x r=(t,e):=⟨_,_,rfl⟩
 rw [hte] at hM hD hl g1 g3 D4 k1 hrw s1 s2
 obtain ⟨tp,rows⟩:=t
 dsimp only at hM hD hl g1 g3 D4 k1 hrw s1 s2
 subst g1 g3
 have hH:=F95 ⟨r.length,rows⟩ cx d hrw (by dsimp only;omega) (by dsimp only;omega)
 obtain ⟨sp,e2,hsp⟩:∃sp e2,L6 ⟨r.length,rows⟩ cx d=(sp,e2):=⟨_,_,rfl⟩
 have hin:=G36 ⟨r.length,rows⟩ cx d
 rw [hsp] at hH D4 hD k1 hin
 dsimp only at hH D4 hD k1 hin
 have hin:=hin.1
 subst k1
 obtain ⟨hs,hhs⟩:∃hs,hs=X0 r.length rows sp:=⟨_,rfl⟩
 rw [←hhs] at hD
 have hsl:hs.length=sp.length:=by rw [hhs];simp [X0]
 have hsv:∀(k:Nat) (s:Span),sp[k]?=some s→hs[k]?=some (cutH r.length rows s):=by
  intro k s h
  rw [hhs,X0,J30,h];rfl
 refine FnOk.intro Tryz.func9 (by decide) Z Z Z Z ?_
 refine k2 ?_
 refine A4 (A3 (A6 Z Z) Z (A7 ?_))
 refine k1 (k2 ?_)
 refine A4 (A3 (A5 Z Z) Z (A3 (A5 Z Z) Z (C5 (hP) Z Z Z ?_)));rintro _ rfl;refine A3 (A5 Z Z) Z (A3 (D2 Z Z) Z (A3 (D2 Z Z) Z (A3 (A6 Z Z) Z (A3 (A6 Z Z) Z (A7 ?_)))))
 refine k1 (k2 ?_)
 refine A4 (A3 (A5 Z Z) Z (C5 (hmod) Z Z Z ?_));rintro _ rfl;refine A3 (A6 Z Z) Z (A7 ?_)
 refine k1 (k2 ?_)
 refine A4 (A3 (A5 Z Z) Z (A3 (A5 Z Z) Z (A3 (A5 Z Z) Z (A3 (A5 Z Z) Z (C5 (hD) Z Z Z ?_)))));rintro _ rfl;refine A3 (A5 Z Z) Z (A3 (D2 Z Z) Z (A3 (D2 Z Z) Z (C3 (H7 11 Z) Z (F8 (C0 TySz.out Z Z Z Z Z Z) (A3 (A6 Z Z) Z (A7 ?_))))))
 refine k1 (k2 ?_)
 refine A4 (A3 (A5 Z Z) Z (A3 (A5 Z Z) Z (C5 (hM) Z Z Z ?_)));rintro _ rfl;refine A3 (A5 Z Z) Z (A3 (D2 Z Z) Z (A3 (D2 Z Z) Z (C3 (H7 13 Z) Z (F8 (C0 TySz.out Z Z Z Z Z Z) (A3 (A6 Z Z) Z (A7 ?_))))))
 refine k1 (k2 ?_)
 refine A4 (A3 (D7 Z Z Z) Z (A3 (A5 Z Z) Z (A3 (A5 Z Z) Z (C5 (hH) Z Z Z ?_))));rintro _ rfl;refine A3 (A5 Z Z) Z (A3 (D2 Z Z) Z (A3 (D2 Z Z) Z (A3 (A6 Z Z) Z (A3 (A6 Z Z) Z (A7 ?_)))))
 refine k1 (k2 (k2 ?_))
 refine A4 (A3 (A5 Z Z) Z (A3 (O3 Z Z) Z (A3 (A5 Z Z) Z (B4 Z Z Z Z (fun hg=>by rw [hg];exact A8 Z) ?_))));refine B4 Z Z Z Z (fun hg=>by rw [hg];exact A9 Z Z Z) ?_;refine B4 Z Z Z Z (fun hg=>by rw [hg];exact D5 Z (.pure _ _ _ _)) ?_;refine B4 Z Z Z Z (fun hg=>by rw [hg];exact A5 Z Z) ?_;refine B4 Z Z Z Z (fun hg=>by rw [hg];exact D5 Z (.pure _ _ _ _)) ?_;refine B4 Z Z Z Z (fun hg=>by rw [hg];exact O3 Z Z) ?_;refine A3 (B8 Z (fun h=>by first | rfl | (rw [h];rfl)) (fun h=>by first | rfl | (rw [h];rfl))) Z ?_;refine A3 (A5 Z Z) Z (B4 Z Z Z Z (fun hg=>by rw [hg];exact A8 Z) ?_);refine B4 Z Z Z Z (fun hg=>by rw [hg];exact A9 Z Z Z) ?_;refine B4 Z Z Z Z (fun hg=>by rw [hg];exact A5 Z Z) ?_;refine B4 Z Z Z Z (fun hg=>by rw [hg];exact D5 Z (.pure _ _ _ _)) ?_;refine B4 Z Z Z Z (fun hg=>by rw [hg];exact O3 Z Z) ?_;refine A3 (B8 Z (fun h=>by first | rfl | (rw [h];rfl)) (fun h=>by first | rfl | (rw [h];rfl))) Z ?_;refine A3 (A5 Z Z) Z (B4 Z Z Z Z (fun hg=>by rw [hg];exact A8 Z) ?_);refine B4 Z Z Z Z (fun hg=>by rw [hg];exact A9 Z Z Z) ?_;refine B4 Z Z Z Z (fun hg=>by rw [hg];exact A5 Z Z) ?_;refine B4 Z Z Z Z (fun hg=>by rw [hg];exact n_neq_b Z Z TyBool.out) ?_;refine A3 (B8 Z (fun h=>by first | rfl | (rw [h];rfl)) (fun h=>by first | rfl | (rw [h];rfl))) Z ?_;refine A3 (A5 Z Z) Z (B4 Z Z Z Z (fun hg=>by rw [hg];exact A8 Z) ?_);refine B4 Z Z Z Z (fun hg=>by rw [hg];exact A9 Z Z Z) ?_;refine B4 Z Z Z Z (fun hg=>by rw [hg];exact B33 Z Z) ?_;refine A3 (B8 Z (fun h=>by first | rfl | (rw [h];rfl)) (fun h=>by first | rfl | (rw [h];rfl))) Z ?_;refine A7 ?_
 refine k1 ?_
 refine B5 rfl (fun ht=>?_) (fun ht=>?_)
 ·exfalso;simp [hsl] at ht
 refine k5 (k1 (k2 (k2 ?_)))
 refine A4 (A3 (A6 Z Z) Z (A7 ?_))
 refine k1 (k3 ?_)
 refine C7 (X:=Nat) (fun k=>([(10,B9 Str 1 L1 r),(11,.s (.one (.ref 11 0))),(13,.s (.one (.ref 13 0))),(15,B9 Span 2 spanC sp),(17,B7 k)],[(11,.box (V1 ⟨[120],d,r.length,hs⟩).s1.cells),(13,.box (pTable ⟨r.length,rows⟩).s1.cells)])) (fun k=>k≤sp.length) (fun k=>sp.length - k) 0 (Nat.zero_le _) (I72 ⟨le1 rfl,le1 rfl,le1 rfl,le1 rfl,le1 rfl,trivial⟩ ⟨rfl,rfl,trivial⟩) ?_
 intro k hk
 dsimp only at hk ⊢
 refine k2 (k2 ?_)
 refine A4 (A3 (A5 Z Z) Z (A3 (A5 Z Z) Z (A3 (D5 Z (.pure _ _ _ _)) Z (A3 (D9 Z Z) Z (A7 ?_)))))
 refine k1 ?_
 refine B5 rfl (fun ht=>?_) (fun ht=>?_)
 rotate_left
 ·refine k6 (k2 ?_)
  refine A4 (C5 (G87) Z Z Z ?_);rintro _ rfl;refine A3 (A6 Z Z) Z (A7 ?_)
  refine k1 (k10 ?_)
  exact B6 (H2 rfl rfl rfl) rfl
 have hlt:k < sp.length:=by have:=A0 ht;(try dsimp only at this);omega
 have hv:sp[k]?=some sp[k]:=by simp [hlt]
 have hv2:=hsv k _ hv
 obtain ⟨c1,c2,c3⟩:=E69 D4 _ (J15 hlt)
 obtain ⟨s,hse⟩:∃s,s=sp[k]:=⟨_,rfl⟩
 rw [←hse] at hv hv2 c1 c2 c3
 obtain ⟨F,hF⟩:∃F:Nat,s.From=F:=⟨s.From.toNat,by omega⟩
 obtain ⟨T,hT⟩:∃T:Nat,s.To=T:=⟨s.To.toNat,by omega⟩
 obtain ⟨sF,sT⟩:=s
 have hF:sF=(F:Int):=hF
 have hT:sT=(T:Int):=hT
 subst hF hT
 dsimp only at c1 c2 c3
 have hv2:hs[k]?=some ⟨F5 (rows.take F) r.length,(rows.drop F).take (T - F)⟩:=hv2
 have hcl:(F5 (rows.take F) r.length).length=r.length+1:=by simp [F5]
 have hsub:((rows.drop F).take (T - F)).length≤4096:=by rw [J20,J22];omega
 refine k5 (k1 (k2 (k3 (k2 (k2 ?_)))))
 refine D8 (by kernel_rfl) (by kernel_rfl) (B0 (A8 Z) Z Z (B0 (A9 Z Z Z) Z Z (B0 (A5 Z Z) Z Z (B0 (B1 Z (.pure _ _ _ _) Z (by omega) hv2) Z Z (B0 (F1 Z) Z Z (B0 (B3 Z Z) Z Z (B0 (A8 Z) Z Z (B0 (A9 Z Z Z) Z Z (B0 (A5 Z Z) Z Z (B0 (A5 Z Z) Z Z (B0 (B1 Z (.pure _ _ _ _) Z (by omega) hv) Z Z (B0 (F1 Z) Z Z (B0 (B3 Z Z) Z Z (B0 (A5 Z Z) Z Z (B0 (A5 Z Z) Z Z (B0 (B1 Z (.pure _ _ _ _) Z (by omega) hv) Z Z (B0 (F1 Z) Z Z (B0 (B3 Z Z) Z Z (B0 (U0 Z (.pure _ _ _ _) Z Z (by (first | omega | (dsimp only;omega))) (by (first | omega | (dsimp only;omega))) (by (first | omega | (dsimp only;omega)))) Z Z (B0 (P1 (I41 ((rows.drop F).take (T - F)) (by omega)) Z Z) Z Z (B0 (K5 Z) Z Z (B0 (A5 Z Z) Z Z (D6 Z Z (fun hg=>by rw [hg];exact A8 Z) Z Z ?_)))))))))))))))))))))));refine D6 Z Z (fun hg=>by rw [hg];exact A9 Z Z Z) Z Z ?_;refine D6 Z Z (fun hg=>by rw [hg];exact A5 Z Z) Z Z ?_;refine D6 Z Z (fun hg=>by have hq:=hg;(try simp at hq);rw [hg];exact B1 Z (.pure _ _ _ _) Z (by omega) hv2) Z Z ?_;refine D6 Z Z (fun hg=>by rw [hg];exact F1 Z) Z Z ?_;refine D6 Z Z (fun hg=>by rw [hg];exact B3 Z Z) Z Z ?_;refine D6 Z Z (fun hg=>by rw [hg];exact D5 Z (.pure _ _ _ _)) Z Z ?_;refine D6 Z Z (fun hg=>by rw [hg];exact A5 Z Z) Z Z ?_;refine D6 Z Z (fun hg=>by rw [hg];exact D5 Z (.pure _ _ _ _)) Z Z ?_;refine D6 Z Z (fun hg=>by have hq:=hg;(try simp at hq);rw [hg];exact C2 Z Z (by omega)) Z Z ?_;refine D6 Z Z (fun hg=>by rw [hg];exact O3 Z Z) Z Z ?_;refine B0 (B8 Z (fun h=>by first | rfl | (rw [h];rfl)) (fun h=>by first | rfl | (rw [h];rfl))) Z Z ?_;refine O5 ?_
 refine k1 ?_
 refine B5 rfl (fun ht=>?_) (fun ht=>?_)
 ·exfalso;simp [hcl] at ht
 refine k5 (k1 (k2 ?_))
 refine A4 (A3 (A6 Z Z) Z (A7 ?_))
 refine k1 (k3 ?_)
 refine C7 (X:=Nat) (fun q=>([(10,B9 Str 1 L1 r),(11,.s (.one (.ref 11 0))),(13,.s (.one (.ref 13 0))),(15,B9 Span 2 spanC sp),(17,B7 k),(18,B7 q)],[(11,.box (V1 ⟨[120],d,r.length,hs⟩).s1.cells),(13,.box (pTable ⟨r.length,rows⟩).s1.cells)])) (fun q=>q≤r.length+1) (fun q=>r.length+1 - q) 0 (Nat.zero_le _) (I72 ⟨le1 rfl,le1 rfl,le1 rfl,le1 rfl,le1 rfl,le1 rfl,trivial⟩ ⟨rfl,rfl,trivial⟩) ?_
 intro q hq
 dsimp only at hq ⊢
 refine k2 (k2 ?_)
 refine A4 (A3 (A5 Z Z) Z (A3 (A5 Z Z) Z (A3 (D5 Z (.pure _ _ _ _)) Z (A3 (A04 Z Z) Z (A7 ?_)))))
 refine k1 ?_
 refine B5 rfl (fun ht=>?_) (fun ht=>?_)
 rotate_left
 ·refine k6 (k7 (k7 (k8 Z (k4 (k1 ?_)))))
  refine A4 (A3 (A5 Z Z) Z (A3 (C2 Z Z (by omega)) Z (A3 (A6 Z Z) Z (A7 ?_))))
  refine k1 ?_
  exact ⟨k+1,by omega,by omega,I72 ⟨le1 rfl,le1 rfl,le1 rfl,le1 rfl,le1 rfl,trivial⟩ ⟨rfl,rfl,trivial⟩⟩
 have hql:q < r.length+1:=by have:=A0 ht;(try dsimp only at this);omega
 refine k5 (k1 (k2 (k3 (k2 ?_))))
 refine A4 (A3 (A5 Z Z) Z (A3 (A6 Z Z) Z (A7 ?_)))
 refine K2 ?_
 refine L7 [(10,B9 Str 1 L1 r),(11,.s (.one (.ref 11 0))),(13,.s (.one (.ref 13 0))),(15,B9 Span 2 spanC sp),(17,B7 k),(18,B7 q),(19,B7 q)] [(11,.box (V1 ⟨[120],d,r.length,hs⟩).s1.cells),(13,.box (pTable ⟨r.length,rows⟩).s1.cells)] (I72 ⟨le1 rfl,le1 rfl,le1 rfl,le1 rfl,le1 rfl,le1 rfl,le1 rfl,trivial⟩ ⟨rfl,rfl,trivial⟩) ?_
 refine t7 [(10,B9 Str 1 L1 r),(11,.s (.one (.ref 11 0))),(13,.s (.one (.ref 13 0))),(15,B9 Span 2 spanC sp),(17,B7 k),(18,B7 q),(19,B7 (X6 r.length q))] [(11,.box (V1 ⟨[120],d,r.length,hs⟩).s1.cells),(13,.box (pTable ⟨r.length,rows⟩).s1.cells)] ?_ ?_
 ·refine k2 ?_
  refine A4 (A3 (A5 Z Z) Z (A3 (A5 Z Z) Z (A3 (D5 Z (.pure _ _ _ _)) Z (A3 (M1 Z Z) Z (A7 ?_)))))
  refine k1 ?_
  refine B5 rfl (fun ht=>?_) (fun ht=>?_)
  ·have hqn:q=r.length:=by have:=A0 ht;(try dsimp only at this);omega
   have e:X6 r.length q = -1:=if_pos hqn
   rw [e]
   skip
   refine A4 (A3 (A6 Z Z) Z (A7 ?_))
   refine k1 ?_
   exact I72 ⟨le1 rfl,le1 rfl,le1 rfl,le1 rfl,le1 rfl,le1 rfl,le1 rfl,trivial⟩ ⟨rfl,rfl,trivial⟩
  ·have hqn:q≠r.length:=by have:=A1 ht;(try dsimp only at this);omega
   have e:X6 r.length q=q:=if_neg hqn
   rw [e]
   refine k5 (k1 ?_)
   exact I72 ⟨le1 rfl,le1 rfl,le1 rfl,le1 rfl,le1 rfl,le1 rfl,le1 rfl,trivial⟩ ⟨rfl,rfl,trivial⟩
 obtain ⟨col,hcol⟩:∃col,col=X6 r.length q:=⟨_,rfl⟩
 rw [←hcol]
 have hat:(F5 (rows.take F) r.length)[q]?=some ((J0 (rows.take F) col).length:Int):=by
  rw [F5,J30,J37 hql,hcol];rfl
 refine k2 ?_
 refine A4 (A3 (A6 Z Z) Z (A7 ?_))
 refine k1 (k2 (k2 ?_))
 refine A4 (A3 (A6 Z Z) Z (A7 ?_))
 refine k1 (k3 ?_)
 refine C7 (X:=Nat) (fun i=>([(10,B9 Str 1 L1 r),(11,.s (.one (.ref 11 0))),(13,.s (.one (.ref 13 0))),(15,B9 Span 2 spanC sp),(17,B7 k),(18,B7 q),(19,B7 col),(20,B7 (J0 (rows.take i) col).length),(21,B7 i)],[(11,.box (V1 ⟨[120],d,r.length,hs⟩).s1.cells),(13,.box (pTable ⟨r.length,rows⟩).s1.cells)])) (fun i=>i≤F) (fun i=>F - i) 0 (Nat.zero_le _) (I72 ⟨le1 rfl,le1 rfl,le1 rfl,le1 rfl,le1 rfl,le1 rfl,le1 rfl,le1 rfl,le1 rfl,trivial⟩ ⟨rfl,rfl,trivial⟩) ?_
 intro i hi
 dsimp only at hi ⊢
 refine k2 (k2 ?_)
 refine A4 (A3 (A5 Z Z) Z (A3 (A5 Z Z) Z (A3 (A5 Z Z) Z (A3 (B1 Z (.pure _ _ _ _) Z (by omega) hv) Z (A3 (F1 Z) Z (A3 (B3 Z Z) Z (A3 (D9 Z Z) Z (A7 ?_))))))))
 refine k1 ?_
 refine B5 rfl (fun ht=>?_) (fun ht=>?_)
 ·have hiF:i < F:=by have:=A0 ht;(try dsimp only at this);omega
  have hlt2:i < rows.length:=by omega
  have hw:rows[i]?=some rows[i]:=by simp [hlt2]
  have hsucc:=G03 rows col i hlt2
  have hle:=H90 (rows.take i) col
  rw [J20] at hle
  have hin:=hrw _ (J15 hlt2)
  obtain ⟨w,hwe⟩:∃w,w=rows[i]:=⟨_,rfl⟩
  rw [←hwe] at hw hsucc hin
  refine k5 (k1 (k2 (k3 (k2 ?_))))
  refine A4 (A3 (A8 Z) Z (A3 (A9 Z Z Z) Z (A3 (A5 Z Z) Z (A3 (B1 Z (.pure _ _ _ _) Z (by omega) hw) Z (A3 (E5 Z Z) Z (A3 (A5 Z Z) Z (C5 (C17 w col hin) Z Z Z ?_)))))));rintro _ rfl;refine A7 ?_
  refine k1 ?_
  refine B5 rfl (fun ht=>?_) (fun ht=>?_)
  ·have hb:U4 w col=true:=ht
   rw [if_pos hb] at hsucc
   skip
   refine A4 (A3 (A5 Z Z) Z (A3 (C2 Z Z (by omega)) Z (A3 (A6 Z Z) Z (A7 ?_))))
   refine k4 (k1 ?_)
   refine A4 (A3 (A5 Z Z) Z (A3 (C2 Z Z (by omega)) Z (A3 (A6 Z Z) Z (A7 ?_))))
   refine k1 ?_
   refine ⟨i+1,by omega,by omega,?_⟩
   rw [hsucc]
   exact I72 ⟨le1 rfl,le1 rfl,le1 rfl,le1 rfl,le1 rfl,le1 rfl,le1 rfl,le1 rfl,le1 rfl,trivial⟩ ⟨rfl,rfl,trivial⟩
  ·have hb:U4 w col=false:=ht
   rw [if_neg (by rw [hb];decide)] at hsucc
   refine k5 (k4 (k1 ?_))
   refine A4 (A3 (A5 Z Z) Z (A3 (C2 Z Z (by omega)) Z (A3 (A6 Z Z) Z (A7 ?_))))
   refine k1 ?_
   refine ⟨i+1,by omega,by omega,?_⟩
   rw [hsucc]
   exact I72 ⟨le1 rfl,le1 rfl,le1 rfl,le1 rfl,le1 rfl,le1 rfl,le1 rfl,le1 rfl,le1 rfl,trivial⟩ ⟨rfl,rfl,trivial⟩
 have hiF:i=F:=by have:=A1 ht;(try dsimp only at this);omega
 subst hiF
 refine k6 (k2 ?_)
 refine A4 (A3 (A8 Z) Z (A3 (A9 Z Z Z) Z (A3 (A5 Z Z) Z (A3 (B1 Z (.pure _ _ _ _) Z (by omega) hv2) Z (A3 (F1 Z) Z (A3 (B3 Z Z) Z (A3 (A5 Z Z) Z (A3 (B1 Z (.pure _ _ _ _) Z (by omega) hat) Z (A3 (B3 Z Z) Z (A3 (A5 Z Z) Z (A3 (O3 Z Z) Z (A7 ?_))))))))))))
 refine k1 ?_
 refine B5 rfl (fun ht=>?_) (fun ht=>?_)
 ·exfalso;simp at ht
 refine k5 (k4 (k1 ?_))
 refine A4 (A3 (A5 Z Z) Z (A3 (C2 Z Z (by omega)) Z (A3 (A6 Z Z) Z (A7 ?_))))
 refine k1 ?_
 exact ⟨q+1,by omega,by omega,I72 ⟨le1 rfl,le1 rfl,le1 rfl,le1 rfl,le1 rfl,le1 rfl,trivial⟩ ⟨rfl,rfl,trivial⟩⟩
set_option maxHeartbeats 1000000
end Go.Proofs.YtbiadkkamhpdnaaGreatDoor
