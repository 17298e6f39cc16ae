/- Walks of the program's functions. -/
import Derived.Test.YtbiadkkamhpdnaaGreatDoorFg
import Derived.Test.YtbiadkkamhpdnaaGreatDoorFe
import Derived.Test.YtbiadkkamhpdnaaGreatDoorFs
import Derived.Test.YtbiadkkamhpdnaaGreatDoorFc
import Derived.Test.YtbiadkkamhpdnaaGreatDoorFa
import Derived.Test.YtbiadkkamhpdnaaGreatDoorFf
set_option linter.unusedSimpArgs false
namespace Go.Proofs.YtbiadkkamhpdnaaGreatDoor
open Go Go.AL
set_option maxRecDepth 100000
set_option maxHeartbeats 1000000
end Go.Proofs.YtbiadkkamhpdnaaGreatDoor
namespace Go.Proofs.YtbiadkkamhpdnaaGreatDoor
open Go Go.AL
set_option maxRecDepth 100000
set_option maxHeartbeats 1000000
set_option maxHeartbeats 2000000
end Go.Proofs.YtbiadkkamhpdnaaGreatDoor
namespace Go.Proofs.YtbiadkkamhpdnaaGreatDoor
open Go Go.AL
set_option maxRecDepth 100000
set_option maxHeartbeats 1000000
set_option maxHeartbeats 1000000
set_option maxHeartbeats 1000000
def d8 (raw:List Int) (n:Int):List Str:=V5 raw (2+Q3 n 4).toNat 7
theorem F80 (raw:List Int) (n:Int):∃x r,d8 raw n=x::r∧x.length≤140∧∀b∈r,b.length≤140:=by
 have hm:=W3 n (n:=4) (by omega)
 have hl:(d8 raw n).length=(2+Q3 n 4).toNat:=by simp [d8,V5]
 have hb:∀b∈d8 raw n,b.length≤140:=by
  intro b hb
  obtain ⟨p,_,rfl⟩:=List.mem_map.1 hb
  have:=D30 raw 7 p (by omega);omega
 cases h:d8 raw n with
 | nil=>rw [h] at hl;simp at hl;omega
 | cons x r=>exact ⟨x,r,rfl,hb x (by rw [h];simp),fun b hb'=>hb b (by rw [h];simp [hb'])⟩
def Q9 (path result:Str) (parents:List Str) (ctx:Int) (d:Bool):Comb × Int :=
 if O8 path=false then (comb0,120) else if (D9 result parents).2≠0 then (comb0,(D9 result parents).2) else
 if (K7 (D9 result parents).1 ctx d).2≠0 then (comb0,(K7 (D9 result parents).1 ctx d).2) else U2 path (D9 result parents).1 (K7 (D9 result parents).1 ctx d).1 d
theorem F81:∀s∈lineTab,s.count 10=0:=by decide
theorem D42 (k:Int):(d5 k).count 10=0:=by
 unfold d5
 rw [I98]
 cases h:lineTab[(Q3 k 10).toNat]? with
 | none=>rfl
 | some s=>exact F81 s (J10 h)
theorem E20 (raw:List Int) (from' kinds:Int) (m:Nat):(P9 raw from' kinds m).count 10=m:=by
 induction m with
 | zero=>simp [P9]
 | succ m ih=>rw [u9,List.count_append,List.count_append,ih,D42];rfl
theorem D43 (raw:List Int) (from' n kinds:Int) (h1:0≤n):((T9 raw from' n kinds).count 10:Int)≤n:=by
 have h:=W3 (Z3 raw from') (n:=n+1) (by omega)
 have h2:=E20 raw from' kinds (Q3 (Z3 raw from') (n+1)).toNat
 have h3:=(List.take_sublist ((P9 raw from' kinds (Q3 (Z3 raw from') (n+1)).toNat).length - 1) (P9 raw from' kinds (Q3 (Z3 raw from') (n+1)).toNat)).count_le (a:=(10:UInt8))
 unfold T9
 simp only
 split
 ·omega
 ·omega
theorem A28 (raw:List Int) (from':Int):∀(l:List Str) (i:Nat) (s:Str),(Z4 raw from' i s l).count 10≤s.count 10+l.flatten.count 10+l.length
 | [],i,s=>by simp [Z4]
 | x::r,i,s=>by
  have h1:=A28 raw from' r (i+1) s
  have h2:=A28 raw from' r (i+1) (s++d5 (Z3 raw (from'+40+(i:Int)))++[10]++x)
  have h3:=A28 raw from' r (i+1) (s++x)
  have h4:=D42 (Z3 raw (from'+40+(i:Int)))
  have h5:List.count (10:UInt8) [10]=1:=rfl
  simp only [List.count_append,h4,h5] at h2 h3
  unfold Z4
  simp only [J05,List.count_append,I95]
  split
  ·omega
  ·split<;>omega
theorem G60 (raw:List Int) (p:Nat):(d6 raw 7 p).count 10≤15:=by
 have h1:=D43 raw (600+50*(p:Int)) 7 4 (by omega)
 have h2:=D43 raw 0 7 5 (by omega)
 have h3:=A28 raw (600+50*(p:Int)) (B7 (T9 raw 0 7 5)) 0 []
 have h4:=C78 (T9 raw 0 7 5)
 rw [n7] at h3
 have h5:List.count (10:UInt8) ([]:Str)=0:=rfl
 unfold d6
 split
 ·omega
 ·split
  ·omega
  ·unfold B52;omega
theorem D44 (raw:List Int) (n:Int):∀b∈d8 raw n,(B7 b).length≤16∧b.length≤140:=by
 intro b hb
 obtain ⟨p,_,rfl⟩:=List.mem_map.1 hb
 have h1:=D30 raw 7 p (by omega)
 have h2:=G60 raw p
 have h3:=C78 (d6 raw 7 p)
 omega
theorem F82 (raw:List Int) (n:Int) {x:Str} {r:List Str} (h:d8 raw n=x::r):1≤r.length∧r.length≤4:=by
 have hm:=W3 n (n:=4) (by omega)
 have hl:(d8 raw n).length=(2+Q3 n 4).toNat:=by simp [d8,V5]
 rw [h,I95] at hl
 omega
structure Small16 (x:Str) (r:List Str):Prop where
 n:r.length≤32
 hx:x.length≤140
 hr:∀b∈r,b.length≤140
 rows:J6 (D9 x r).1.Rows
 len:(D9 x r).1.Rows.length≤1105
 txt:∀q∈(D9 x r).1.Rows,q.Text.length≤140
theorem G61 {raw:List Int} {n:Int} {x:Str} {r:List Str} (h:d8 raw n=x::r):Small16 x r:=by
 have h1:=F82 raw n h
 have h2:=D44 raw n
 rw [h] at h2
 have hx:=h2 x (by simp)
 have hr:∀b∈r,(B7 b).length≤16∧b.length≤140:=fun b hb=>h2 b (by simp [hb])
 obtain ⟨k1,k2,k3⟩:=C08 x r 16 140 hx hr
 have h4:r.length*16+1≤65:=by omega
 exact ⟨by omega,hx.2,fun b hb=>(hr b hb).2,k1,by omega,k3⟩
theorem textsLen_le {rows:List Row} {B:Nat} (h:∀q∈rows,q.Text.length≤B):T4 rows≤rows.length*B∧(rows.map T5).sum≤rows.length*(B+96)∧∀n,(rows.map (C07 n)).sum≤rows.length*(B+n+29):=by
 unfold T4
 induction rows with
 | nil=>simp
 | cons x r ih =>
  obtain ⟨i1,i2,i3⟩:=ih fun q hq=>h q (by simp [hq])
  have hx:=h x (by simp)
  simp only [J01,J05,I93,J26,I95,J11,Nat.one_mul]
  simp only [Nat.mul_add] at i2 i3 ⊢
  refine ⟨by omega,by unfold T5 at i2 ⊢;omega,fun n=>?_⟩
  have:=i3 n
  unfold C07 at this ⊢
  omega
theorem Small16.sums {x:Str} {r:List Str} (h:Small16 x r):T4 (D9 x r).1.Rows≤154700∧((D9 x r).1.Rows.map T5).sum≤260780∧∀n,n≤32→((D9 x r).1.Rows.map (C07 n)).sum≤1105*201:=by
 obtain ⟨h1,h2,h3⟩:=textsLen_le h.txt
 have h4:=h.len
 refine ⟨by omega,by omega,fun n hn=>?_⟩
 refine Nat.le_trans (h3 n) ?_
 exact Nat.mul_le_mul h4 (by omega)
theorem cut18_w {path:Str} {t:Table} {sp:List Span} {d:Bool} (h:(U2 path t sp d).2=0):O8 path=true∧H3 t=0∧∃hs,W6 t.Parents.toNat t.Rows 0 [] sp=some hs∧I4 ⟨path,d,t.Parents,hs⟩=0∧U2 path t sp d=(⟨path,d,t.Parents,hs⟩,0):=by
 unfold U2 at h ⊢
 split at h
 ·cases h
 ·rename_i h1
  rw [if_neg h1]
  split at h
  ·rename_i h2;exact absurd h h2
  ·rename_i h2
   rw [if_neg h2]
   refine ⟨by simpa using h1,by omega,?_⟩
   cases hg:W6 t.Parents.toNat t.Rows 0 [] sp with
   | none=>rw [hg] at h;cases h
   | some hs =>
    rw [hg] at h
    dsimp only at h ⊢
    split at h
    ·rename_i h3;exact absurd h h3
    ·rename_i h3
     exact ⟨hs,rfl,by omega,by rw [if_neg h3]⟩
theorem E56 {path x:Str} {r:List Str} {ctx:Int} {d:Bool} (h:(Q9 path x r ctx d).2=0):(D9 x r).2=0∧(K7 (D9 x r).1 ctx d).2=0∧Q9 path x r ctx d=U2 path (D9 x r).1 (K7 (D9 x r).1 ctx d).1 d:=by
 unfold Q9 at h ⊢
 split at h
 ·cases h
 ·rename_i h1
  rw [if_neg h1]
  split at h
  ·rename_i h2;exact absurd h h2
  ·rename_i h2
   rw [if_neg h2]
   split at h
   ·rename_i h3;exact absurd h h3
   ·rename_i h3
    rw [if_neg h3]
    exact ⟨by omega,by omega,rfl⟩
theorem D45 {path x:Str} {r:List Str} {ctx:Int} {d:Bool} (h:(Q9 path x r ctx d).2≠0):(Q9 path x r ctx d).1=comb0:=by
 unfold Q9 at h ⊢
 split
 ·rfl
 ·rename_i h1
  rw [if_neg h1] at h
  split
  ·rfl
  ·rename_i h2
   rw [if_neg h2] at h
   split
   ·rfl
   ·rename_i h3
    rw [if_neg h3] at h
    unfold U2 at h ⊢
    split
    ·rfl
    ·rename_i h4
     rw [if_neg h4] at h
     split
     ·rfl
     ·rename_i h5
      rw [if_neg h5] at h
      cases hg:W6 (D9 x r).1.Parents.toNat (D9 x r).1.Rows 0 [] (K7 (D9 x r).1 ctx d).1 with
      | none=>rfl
      | some hs =>
       rw [hg] at h
       dsimp only at h ⊢
       split
       ·rfl
       ·rename_i h6
        rw [if_neg h6] at h;exact absurd rfl h
theorem H70:CFit comb0:=⟨⟨by decide,by decide⟩,by decide,by decide,(fun h hh=>by cases hh),fun h hh=>by cases hh⟩
theorem G62 {path x:Str} {r:List Str} {ctx:Int} {d:Bool} (hp:path.length≤400) (h:Small16 x r) (h4:r.length≤4):CFit (Q9 path x r ctx d).1∧(V9 (Q9 path x r ctx d).1).length≤420000:=by
 by_cases he:(Q9 path x r ctx d).2=0
 ·obtain ⟨_,_,e1⟩:=E56 he
  rw [e1] at he ⊢
  obtain ⟨_,c1,hs,c2,c3,e2⟩:=cut18_w he
  obtain ⟨s1,s2,s3⟩:=h.sums
  obtain ⟨n1,n2⟩:=C58 c1
  obtain ⟨z1,z2⟩:=F12 (n:=(D9 x r).1.Parents.toNat) (by omega) h.rows (by omega) c2
  rw [e2]
  dsimp only
  refine ⟨D38 c3 z1 z2,?_⟩
  have hw:=D88 ⟨path,d,(D9 x r).1.Parents,hs⟩
  dsimp only at hw
  obtain ⟨n,hn⟩:∃n:Nat,(D9 x r).1.Parents=n:=⟨(D9 x r).1.Parents.toNat,by omega⟩
  have hnr:(D9 x r).1.Parents=r.length∨(D9 x r).1.Parents=0:=by
   unfold D9
   split
   ·exact .inr rfl
   ·dsimp only
    split
    ·exact .inr rfl
    ·exact .inl rfl
  have hr4:=h.n
  rw [hn,I99] at hw c2
  rw [hn]
  have hn4:n≤4:=by omega
  have h1:=D02 (C07 n) (28*(n+1)+2) n (D9 x r).1.Rows (K7 (D9 x r).1 ctx d).1 0 [] hs (Int.le_refl _) c2 (by simp) (by simp)
  have h2:=h1.1
  have h3:=h1.2
  have h4:=s3 n (by omega)
  have h5:=h.len
  simp only [I97] at h3
  have h6:(28*(n+1)+2)*hs.length≤142*1105:=Nat.mul_le_mul (by omega) (by omega)
  omega
 ·rw [D45 he]
  exact ⟨H70,by have:=D88 comb0;have e1:comb0.Path.length=0:=rfl;have e2:comb0.Hunks=[]:=rfl;rw [e1,e2] at this;simp only [J36,List.sum_nil] at this;omega⟩
set_option maxHeartbeats 1000000
theorem H18 {n:Nat} {rows:List Row}:∀{sp:List Span} {e:Int} {hs:List CHunk},D41 rows.length e sp=false→W6 n rows e hs sp=none
 | [],e,hs,h=>by cases h
 | s::r,e,hs,h=>by
  rw [D41] at h
  rw [W6]
  by_cases hc:s.From < e∨s.To≤s.From∨(rows.length:Int) < s.To
  ·rw [if_pos hc]
  ·rw [if_neg hc] at h ⊢
   exact H18 h
abbrev z59:Ob:=.box [.p (.v (.string ⟨#[]⟩)),.p (.v (.bool false)),.p (.v (.int .i64 0)),.p (.v (.slice none 0 0))]
set_option maxHeartbeats 1000000
theorem H19 (path:Str) (t:Table) (sp:List Span) (d:Bool) (hr:J6 t.Rows) (hW:(t.Rows.map T5).sum≤8388608) (hx:T4 t.Rows≤8388608) (hsp:sp.length≤536870912) :
  FnOk Tryz.prog 98 [N6 path,pTable t,pSpans sp,N0 d] (fun rs=>rs=[V0 (U2 path t sp d).1,J0 (U2 path t sp d).2]):=by
 have hl:=i8 t.Rows
 have hll:t.Rows.length≤8388608:=by omega
 refine FnOk.intro Tryz.func98 (by decide) Z Z Z Z ?_
 refine k2 ?_
 refine A4 (C4 (S9 5 Z Z Z) Z (C4 (G6 8 Z) Z (A3 (A6 Z Z) Z (A7 ?_))))
 refine k1 (k2 (k2 ?_))
 refine A4 (A3 (A5 Z Z) Z (C8 (B12 path) Z Z Z ?_));rintro _ rfl;refine A3 (L6 Z) Z (A7 ?_)
 refine k1 ?_
 refine B3 rfl (fun ht=>?_) (fun ht=>?_)
 ·have h:O8 path=false:=by simpa using ht
  refine k2 ?_
  refine A4 (A3 (J5 Z) Z (F6 (B6 TySz.out Z Z Z Z Z Z) (A3 (A6 Z Z) Z (A7 ?_))))
  refine k1 ?_
  refine H4 (I66 CHunk 2 O1 8 3 Z Z) ?_
  refine k10 (k11 ?_)
  exact C0 (rs:=[V0 comb0,J0 120]) (u0 rfl rfl rfl rfl rfl rfl rfl) (by unfold U2;rw [if_pos h])
 have h:O8 path=true:=by simpa using ht
 refine k5 (k1 (k2 (k2 ?_)))
 refine A4 (A3 (C9 Z Z Z) Z (C8 (E48 t hr (by omega) (by omega)) Z Z Z ?_));rintro _ rfl;refine A3 (A6 Z Z) Z (A7 ?_)
 refine k1 (k2 ?_)
 refine A4 (A3 (A5 Z Z) Z (A3 (R4 Z Z) Z (A7 ?_)))
 refine k1 ?_
 refine B3 rfl (fun ht=>?_) (fun ht=>?_)
 ·have h1:=A0 ht
  refine k2 ?_
  refine A4 (A3 (J5 Z) Z (A3 (A5 Z Z) Z (F6 (B6 TySz.out Z Z Z Z Z Z) (A3 (A6 Z Z) Z (A7 ?_)))))
  refine k1 ?_
  refine H4 (I66 CHunk 2 O1 8 3 Z Z) ?_
  refine k10 (k11 ?_)
  exact C0 (rs:=[V0 comb0,J0 (H3 t)]) (u0 rfl rfl rfl rfl rfl rfl rfl) (by unfold U2;rw [if_neg (by rw [h];decide),if_pos h1])
 have h1:=A1 ht
 have h10:H3 t=0:=by omega
 obtain ⟨hn1,hn2⟩:=C58 h10
 obtain ⟨n,hn⟩:∃n:Nat,t.Parents=n:=⟨t.Parents.toNat,by omega⟩
 obtain ⟨tp,rows⟩:=t
 have hn:tp=(n:Int):=hn
 subst hn
 dsimp only at hr hW hx hl hll hn1 hn2
 have hcut:U2 path ⟨n,rows⟩ sp d=match W6 n rows 0 [] sp with
  | none=>(comb0,3)
  | some hs=>if I4 ⟨path,d,(n:Int),hs⟩≠0 then (comb0,I4 ⟨path,d,(n:Int),hs⟩) else (⟨path,d,(n:Int),hs⟩,0):=by
  unfold U2;rw [if_neg (by rw [h];decide),if_neg (by omega)];rfl
 rw [hcut]
 obtain ⟨W,hWd⟩:∃W,W=W6 n rows 0 [] sp:=⟨_,rfl⟩
 have hcs:∀hs,W=some hs→szC hs≤268435456∧∀x∈hs,J6 x.Rows:=fun hs e=>F12 (n:=n) (by omega) hr hW (by rw [←hWd];exact e)
 have hord0:=H18 (n:=n) (rows:=rows) (sp:=sp) (e:=0) (hs:=[])
 rw [←hWd] at hord0 ⊢
 refine k5 (k1 (k2 (k2 ?_)))
 refine A4 (A3 (A5 Z Z) Z (A3 (A8 Z) Z (A3 (A9 Z Z Z) Z (A3 (E3 Z (.pure _ _ _ _)) Z (C8 (F79 sp rows.length hsp) Z Z Z ?_)))));rintro _ rfl;refine A3 (L6 Z) Z (A7 ?_)
 refine k1 ?_
 refine B3 rfl (fun ht=>?_) (fun ht=>?_)
 ·have hno:D41 rows.length 0 sp=false:=by simpa using ht
  rw [hord0 hno]
  refine k2 ?_
  refine A4 (A3 (J5 Z) Z (F6 (B6 TySz.out Z Z Z Z Z Z) (A3 (A6 Z Z) Z (A7 ?_))))
  refine k1 ?_
  refine H4 (I66 CHunk 2 O1 8 3 Z Z) ?_
  refine k10 (k11 ?_)
  exact C0 (rs:=[V0 comb0,J0 3]) (u0 rfl rfl rfl rfl rfl rfl rfl) rfl
 have hord:D41 rows.length 0 sp=true:=by simpa using ht
 refine k5 (k1 (k2 ?_))
 refine A4 (A3 (A5 Z Z) Z (A3 (A5 Z Z) Z (A3 (A8 Z) Z (A3 (A9 Z Z Z) Z (A3 (J5 Z) Z (C4 (G6 11 Z) Z (F6 (B6 TySz.out Z Z Z Z Z Z) (A7 ?_))))))))
 refine H4 (I72 754 CHunk 2 O1 59 (kb:=11) (o:=3) Z Z Z) ?_
 refine k2 ?_
 have e0:((n:Int)+1).toNat=n+1:=by omega
 have hz:List.replicate (n+1) (0:Int)=E8 (rows.take 0) n:=by
  refine List.ext_getElem (by simp [E8]) fun q h1 h2=>?_
  simp [E8,L1,K6]
 refine A4 (A3 (A8 Z) Z (A3 (A9 Z Z Z) Z (A3 (C2 Z Z (by omega)) Z (C4 (r8 720 Int G5 0 Z Z (by omega) (by omega) (fun _=>by first | exact ⟨⟨rfl,rfl⟩,trivial⟩ | exact ⟨P0 _ _ _,trivial⟩) (by first | rfl | (simp [H1,H8,Ob.free,SV.free,S1.free,TC.free]<;>rfl))) Z ?_))));refine C4 (G6 12 Z) Z (F6 (B6 TySz.out Z Z Z Z Z Z) (A7 ?_))
 rw [e0,hz]
 refine k1 (k2 ?_)
 refine A4 (C4 (G6 13 Z) Z (F6 (B6 TySz.out Z Z Z Z Z Z) (A7 ?_)))
 refine k1 (k2 ?_)
 refine A4 (A3 (u7 Z Z) Z (A3 (A6 Z Z) Z (A7 ?_)))
 refine k1 (k2 (k2 ?_))
 refine A4 (A3 (A5 Z Z) Z (A3 (E3 Z (.pure _ _ _ _)) Z (A3 (A5 Z Z) Z (A7 ?_))))
 refine k1 (k3 ?_)
 refine E2 (X:=Nat × Nat × List CHunk) (fun x=>([(5,.s (.one (.ref 5 0))),(8,.s (.one (.ref 8 0))),(11,.s (.one (.ref 11 0))),(12,.s (.one (.ref 12 0))),(14,.s (.one (.clo 165 [] [(5,0),(13,0),(12,0)]))),(45,C7 Span 2 spanC sp),(46,B8 sp.length),(47,B8 x.1)],[(5,.box (pTable ⟨n,rows⟩).s1.cells),(8,z59),(11,.box [.p (.v (.string ⟨path.toArray⟩)),.p (.v (.bool d)),.p (.v (.int .i64 n)),.buf 754 CHunk 2 O1 x.2.2]),(754,.spare x.2.2.length 2 59),(12,.box [.mut 720]),(13,Z5 x.2.1),(720,.arr Int 1 G5 (E8 (rows.take x.2.1) n))])) (fun x=>x.1≤sp.length∧x.2.1≤rows.length∧x.2.2.length≤x.1∧W=W6 n rows x.2.1 x.2.2 (sp.drop x.1)∧D41 rows.length x.2.1 (sp.drop x.1)=true) (fun x=>sp.length - x.1) (0,0,[]) ⟨Nat.zero_le _,Nat.zero_le _,Nat.le_refl _,hWd,hord⟩ (I62 ⟨le1 rfl,le1 rfl,le1 rfl,le1 rfl,le1 rfl,le1 rfl,le1 rfl,le1 rfl,trivial⟩ ⟨rfl,rfl,rfl,rfl,rfl,rfl,rfl,trivial⟩) ?_
 rintro ⟨k,e,hs⟩ ⟨hk,he,hsl,hp,ho⟩
 dsimp only at hk he hsl hp ho ⊢
 refine k2 ?_
 refine A4 (A3 (F1 Z Z) Z (A7 ?_))
 refine k1 (k2 ?_)
 refine B3 rfl (fun ht=>?_) (fun ht=>?_)
 rotate_left
 ·have hkl:k=sp.length:=by have:=A1 ht;omega
  rw [hkl,J04 (Nat.le_refl _)] at hp
  have hp:W=some hs:=hp
  obtain ⟨z1,z2⟩:=hcs hs hp
  rw [hp]
  dsimp only
  refine k6 (k2 (k2 ?_))
  refine A4 (A3 (C9 Z Z Z) Z (C8 (C25 ⟨path,d,n,hs⟩ z1 z2) Z Z Z ?_));rintro _ rfl;refine A3 (A6 Z Z) Z (A7 ?_)
  refine k1 (k2 ?_)
  refine A4 (A3 (A5 Z Z) Z (A3 (R4 Z Z) Z (A7 ?_)))
  refine k1 ?_
  refine B3 rfl (fun ht=>?_) (fun ht=>?_)
  ·have h2:=A0 ht
   refine k2 ?_
   refine A4 (A3 (J5 Z) Z (A3 (A5 Z Z) Z (F6 (B6 TySz.out Z Z Z Z Z Z) (A3 (A6 Z Z) Z (A7 ?_)))))
   refine k1 ?_
   refine H4 (I66 CHunk 2 O1 8 3 Z Z) ?_
   refine k10 (k11 ?_)
   exact C0 (rs:=[V0 comb0,J0 (I4 ⟨path,d,n,hs⟩)]) (u0 rfl rfl rfl rfl rfl rfl rfl) (by rw [if_pos h2])
  ·have h2:=A1 ht
   refine k5 (k1 (k2 ?_))
   refine A4 (A3 (C9 Z Z Z) Z (F6 (B6 TySz.out Z Z Z Z Z Z) (A3 (A6 Z Z) Z (A7 ?_))))
   refine k1 (k10 ?_)
   exact C0 (rs:=[V0 ⟨path,d,n,hs⟩,J0 0]) (u0 rfl rfl rfl rfl rfl rfl rfl) (by rw [if_neg h2])
 have hlt:k < sp.length:=by have:=A0 ht;omega
 have hv:sp[k]?=some sp[k]:=by simp [hlt]
 rw [J00 hlt,W6] at hp
 rw [J00 hlt,D41] at ho
 obtain ⟨s,hsd⟩:∃s,s=sp[k]:=⟨_,rfl⟩
 rw [←hsd] at hp hv ho
 have hc:¬(s.From < (e:Int)∨s.To≤s.From∨(rows.length:Int) < s.To):=by
  intro hc
  rw [if_pos hc] at ho;cases ho
 rw [if_neg hc] at hp ho
 simp only [not_or,Int.not_lt,Int.not_le] at hc
 obtain ⟨c1,c2,c3⟩:=hc
 obtain ⟨F,hF⟩:∃F:Nat,s.From=F:=⟨s.From.toNat,by omega⟩
 obtain ⟨T,hT⟩:∃T:Nat,s.To=T:=⟨s.To.toNat,by omega⟩
 obtain ⟨sF,sT⟩:=s
 have hF:sF=(F:Int):=hF
 have hT:sT=(T:Int):=hT
 subst hF hT
 dsimp only at c1 c2 c3 hp ho
 rw [I99,I99] at hp
 have hsub:((rows.drop F).take (T - F)).length=T - F:=by rw [J12,J15];omega
 have hcl:(E8 (rows.take F) n).length=n+1:=by simp [E8]
 refine k5 (k1 (k2 (k3 (k2 ?_))))
 refine A4 (A3 (B4 Z (.pure _ _ _ _) Z (by omega) hv) Z (A3 (F0 Z Z) Z (C4 (G6 16 Z) Z (F6 (B6 TySz.out Z Z Z Z Z Z) (A7 ?_)))))
 refine M2 [(5,.s (.one (.ref 5 0))),(8,.s (.one (.ref 8 0))),(11,.s (.one (.ref 11 0))),(12,.s (.one (.ref 12 0))),(14,.s (.one (.clo 165 [] [(5,0),(13,0),(12,0)]))),(16,.s (.one (.ref 16 0))),(45,C7 Span 2 spanC sp),(46,B8 sp.length),(47,B8 k)] [(5,.box (pTable ⟨n,rows⟩).s1.cells),(8,z59),(11,.box [.p (.v (.string ⟨path.toArray⟩)),.p (.v (.bool d)),.p (.v (.int .i64 n)),.buf 754 CHunk 2 O1 hs]),(754,.spare hs.length 2 59),(12,.box [.mut 720]),(13,Z5 e),(720,.arr Int 1 G5 (E8 (rows.take e) n)),(16,.box [.p (.v (.int .i64 F)),.p (.v (.int .i64 T))])] (I62 ⟨le1 rfl,le1 rfl,le1 rfl,le1 rfl,le1 rfl,le1 rfl,le1 rfl,le1 rfl,le1 rfl,trivial⟩ ⟨rfl,rfl,rfl,rfl,rfl,rfl,rfl,rfl,trivial⟩) ?_
 refine k2 ?_
 refine A4 (A3 (A5 Z Z) Z (A3 (A8 Z) Z (A3 (A9 Z Z Z) Z (A02 (D40 ⟨n,rows⟩ n e F Z (by omega) hr (by dsimp only;omega) (by omega) (by dsimp only;omega) Z Z Z Z) Z Z Z Z ?_))));rintro _ _ ⟨rfl,rfl⟩;refine A7 ?_
 refine M2 [(5,.s (.one (.ref 5 0))),(8,.s (.one (.ref 8 0))),(11,.s (.one (.ref 11 0))),(12,.s (.one (.ref 12 0))),(14,.s (.one (.clo 165 [] [(5,0),(13,0),(12,0)]))),(16,.s (.one (.ref 16 0))),(45,C7 Span 2 spanC sp),(46,B8 sp.length),(47,B8 k)] [(5,.box (pTable ⟨n,rows⟩).s1.cells),(8,z59),(11,.box [.p (.v (.string ⟨path.toArray⟩)),.p (.v (.bool d)),.p (.v (.int .i64 n)),.buf 754 CHunk 2 O1 hs]),(754,.spare hs.length 2 59),(12,.box [.mut 720]),(13,Z5 F),(720,.arr Int 1 G5 (E8 (rows.take F) n)),(16,.box [.p (.v (.int .i64 F)),.p (.v (.int .i64 T))])] (I62 ⟨le1 rfl,le1 rfl,le1 rfl,le1 rfl,le1 rfl,le1 rfl,le1 rfl,le1 rfl,le1 rfl,trivial⟩ ⟨rfl,rfl,rfl,rfl,rfl,rfl,rfl,rfl,trivial⟩) ?_
 refine k2 ?_
 have hCR:=H66 ((rows.drop F).take (T - F)) (by omega)
 have hCI:=fun gf ob h=>G56 (gf:=gf) (ob:=ob) (E8 (rows.take F) n) (by omega) h
 refine S4 [16,14,3] [[],[3],[14,3],[16,14,3]] [(3,([],[])),(14,([754],[56])),(16,([],[]))] [(0,[]),(1,[]),(2,[]),(3,[]),(4,[]),(5,[]),(6,[]),(7,[]),(8,[]),(9,[]),(10,[]),(11,[3]),(12,[3]),(13,[3]),(14,[3]),(15,[14,3]),(16,[14,3])] [(0,[3]),(1,[3]),(4,[3]),(5,[3]),(6,[3]),(7,[3]),(8,[3]),(9,[3]),(10,[3])] (by kernel_rfl) (by kernel_rfl) (D7 Z Z (by kernel_rfl) Z Z (A8 Z) (D7 Z Z (by kernel_rfl) Z Z (A9 Z Z Z) (D7 Z Z (by kernel_rfl) Z Z (A9 Z Z Z) (Z2 Z Z (by kernel_rfl) Z Z (r_met (fun gf=>hCI gf _ Z) Z Z) Z (D7 Z Z (by kernel_rfl) Z Z (A8 Z) (D7 Z Z (by kernel_rfl) Z Z (A9 Z Z Z) (D7 Z Z (by kernel_rfl) Z Z (A8 Z) (D7 Z Z (by kernel_rfl) Z Z (A9 Z Z Z) (D7 Z Z (by kernel_rfl) Z Z (A8 Z) (D7 Z Z (by kernel_rfl) Z Z (A9 Z Z Z) (D7 Z Z (by kernel_rfl) Z Z (X5 Z (.pure _ _ _ _) Z Z (by (first | omega | (dsimp only;omega))) (by (first | omega | (dsimp only;omega))) (by (first | omega | (dsimp only;omega)))) (D7 Z Z (by kernel_rfl) Z Z (Q1 (hCR) Z Z) (D7 Z Z (by kernel_rfl) Z Z (J5 Z) (D7 Z Z (by kernel_rfl) Z Z (E1 (c:=O1) (ys:=[⟨E8 (rows.take F) n,(rows.drop F).take (T - F)⟩]) (E6 Z Z Z Z I0) Z Z Z) (Z2 Z Z (by kernel_rfl) Z Z (C22 (fun frc hU=>J8 (X7 hU Z) Z (X7 hU Z) (.pure _ _ _ _) (by (simp only [I95,I97];omega)) Z)) Z (D7 Z Z (by kernel_rfl) Z Z (A8 Z) (Z2 Z Z (by kernel_rfl) Z Z (E42 (fun frc hU=>B6 TySz.out (X7 hU Z) Z (X7 hU Z) Z Z Z)) Z ?_)))))))))))))))));refine E41 (by kernel_rfl) rfl ?_ ?_
 ·refine J9 Z Z (by kernel_rfl) Z Z (A8 Z) (J9 Z Z (by kernel_rfl) Z Z (A9 Z Z Z) (J9 Z Z (by kernel_rfl) Z Z (A8 Z) (J9 Z Z (by kernel_rfl) Z Z (A9 Z Z Z) (J9 Z Z (by kernel_rfl) Z Z (A8 Z) (J9 Z Z (by kernel_rfl) Z Z (A9 Z Z Z) (J9 Z Z (by kernel_rfl) Z Z (A8 Z) (J9 Z Z (by kernel_rfl) Z Z (A9 Z Z Z) (J9 Z Z (by kernel_rfl) Z Z (X5 Z (.pure _ _ _ _) Z Z (by (first | omega | (dsimp only;omega))) (by (first | omega | (dsimp only;omega))) (by (first | omega | (dsimp only;omega)))) ?_))))))));exact D25
 refine M2 [(5,.s (.one (.ref 5 0))),(8,.s (.one (.ref 8 0))),(11,.s (.one (.ref 11 0))),(12,.s (.one (.ref 12 0))),(14,.s (.one (.clo 165 [] [(5,0),(13,0),(12,0)]))),(16,.s (.one (.ref 16 0))),(45,C7 Span 2 spanC sp),(46,B8 sp.length),(47,B8 k)] [(5,.box (pTable ⟨n,rows⟩).s1.cells),(8,z59),(11,.box [.p (.v (.string ⟨path.toArray⟩)),.p (.v (.bool d)),.p (.v (.int .i64 n)),.buf 754 CHunk 2 O1 (hs++[⟨E8 (rows.take F) n,(rows.drop F).take (T - F)⟩])]),(754,.spare (hs++[(⟨E8 (rows.take F) n,(rows.drop F).take (T - F)⟩:CHunk)]).length 2 59),(12,.box [.mut 720]),(13,Z5 F),(720,.arr Int 1 G5 (E8 (rows.take F) n)),(16,.box [.p (.v (.int .i64 F)),.p (.v (.int .i64 T))])] (I62 ⟨le1 rfl,le1 rfl,le1 rfl,le1 rfl,le1 rfl,le1 rfl,le1 rfl,le1 rfl,le1 rfl,trivial⟩ ⟨rfl,rfl,rfl,rfl,rfl,rfl,rfl,rfl,trivial⟩) ?_
 skip
 refine A4 (A3 (A5 Z Z) Z (A3 (A8 Z) Z (A3 (A9 Z Z Z) Z (A02 (D40 ⟨n,rows⟩ n F T Z (by omega) hr (by dsimp only;omega) (by omega) (by dsimp only;omega) Z Z Z Z) Z Z Z Z ?_))));rintro _ _ ⟨rfl,rfl⟩;refine A7 ?_
 refine k4 (k1 ?_)
 refine A4 (A3 (C2 Z Z (by omega)) Z (A3 (A5 Z Z) Z (A7 ?_)))
 refine k1 ?_
 exact ⟨(k+1,T,hs++[⟨E8 (rows.take F) n,(rows.drop F).take (T - F)⟩]),⟨by dsimp only;omega,by dsimp only;omega,by dsimp only;rw [I93];simp;omega,hp,ho⟩,by dsimp only;omega,I62 ⟨le1 rfl,le1 rfl,le1 rfl,le1 rfl,le1 rfl,le1 rfl,le1 rfl,le1 rfl,trivial⟩ ⟨rfl,rfl,rfl,rfl,rfl,rfl,rfl,trivial⟩⟩
theorem G63 (path x:Str) (r:List Str) (ctx:Int) (d:Bool) (h:Small16 x r) (hL:∀b∈x::r,(B7 b).length≤16):FnOk Tryz.prog 42 [N6 path,N6 x,A64 r,J0 ctx,N0 d] (fun rs=>rs=[V0 (Q9 path x r ctx d).1,J0 (Q9 path x r ctx d).2]):=by
 have hx:=h.hx
 obtain ⟨s1,s2,s3⟩:=h.sums
 have hl:=h.len
 have hrows:=h.rows
 have hrn:=h.n
 have hm:=F74 x r 16 (by omega) (by omega) ⟨hL x (by simp),by omega⟩ (fun b hb=>⟨hL b (by simp [hb]),by have:=h.hr b hb;omega⟩)
 obtain ⟨t,e,hte⟩:∃t e,D9 x r=(t,e):=⟨_,_,rfl⟩
 rw [hte] at s1 s2 hl hrows hm
 dsimp only at s1 s2 hl hrows hm
 have hh:=H64 t ctx d hrows (by omega) (by omega)
 have hin:=I47 t ctx d
 obtain ⟨sp,e2,hsp⟩:∃sp e2,K7 t ctx d=(sp,e2):=⟨_,_,rfl⟩
 rw [hsp] at hh hin
 dsimp only at hh hin
 have hc:=H19 path t sp d hrows (by omega) (by omega) (by have:=hin.1;omega)
 have hres:Q9 path x r ctx d=if O8 path=false then (comb0,120) else if e≠0 then (comb0,e) else if e2≠0 then (comb0,e2) else U2 path t sp d:=by
  unfold Q9;rw [hte];dsimp only;rw [hsp]
 rw [hres]
 refine FnOk.intro Tryz.func42 (by decide) Z Z Z Z ?_
 refine k2 ?_
 refine A4 (C4 (G6 10 Z) Z (A3 (A6 Z Z) Z (A7 ?_)))
 refine k1 (k2 (k2 ?_))
 refine A4 (A3 (A5 Z Z) Z (C8 (B12 path) Z Z Z ?_));rintro _ rfl;refine A3 (L6 Z) Z (A7 ?_)
 refine k1 ?_
 refine B3 rfl (fun ht=>?_) (fun ht=>?_)
 ·have h:O8 path=false:=by simpa using ht
  refine k2 ?_
  refine A4 (A3 (J5 Z) Z (F6 (B6 TySz.out Z Z Z Z Z Z) (A3 (A6 Z Z) Z (A7 ?_))))
  refine k1 ?_
  refine H4 (I66 CHunk 2 O1 10 3 Z Z) ?_
  refine k10 (k11 ?_)
  exact C0 (rs:=[V0 comb0,J0 120]) (u0 rfl rfl rfl rfl rfl rfl rfl) (by rw [if_pos h])
 have h1:O8 path=true:=by simpa using ht
 rw [if_neg (by rw [h1];decide)]
 refine k5 (k1 (k2 ?_))
 refine A4 (A3 (A5 Z Z) Z (A3 (A5 Z Z) Z (C8 (hm) Z Z Z ?_)));rintro _ rfl;refine A3 (A5 Z Z) Z (A3 (D6 Z Z) Z (A3 (D6 Z Z) Z (C4 (G6 12 Z) Z (F6 (B6 TySz.out Z Z Z Z Z Z) (A3 (A6 Z Z) Z (A7 ?_))))))
 refine k1 (k2 (k2 ?_))
 refine A4 (A3 (A5 Z Z) Z (A3 (R4 Z Z) Z (A7 ?_)))
 refine k1 ?_
 refine B3 rfl (fun ht=>?_) (fun ht=>?_)
 ·have h2:=A0 ht
  refine k2 ?_
  refine A4 (A3 (J5 Z) Z (A3 (A5 Z Z) Z (F6 (B6 TySz.out Z Z Z Z Z Z) (A3 (A6 Z Z) Z (A7 ?_)))))
  refine k1 ?_
  refine H4 (I66 CHunk 2 O1 10 3 Z Z) ?_
  refine k10 (k11 ?_)
  exact C0 (rs:=[V0 comb0,J0 e]) (u0 rfl rfl rfl rfl rfl rfl rfl) (by rw [if_pos h2])
 have h2:=A1 ht
 rw [if_neg h2]
 refine k5 (k1 (k2 ?_))
 refine A4 (A3 (C9 Z Z Z) Z (A3 (A5 Z Z) Z (A3 (A5 Z Z) Z (C8 (hh) Z Z Z ?_))));rintro _ rfl;refine A3 (A5 Z Z) Z (A3 (D6 Z Z) Z (A3 (D6 Z Z) Z (A3 (A6 Z Z) Z (A3 (A6 Z Z) Z (A7 ?_)))))
 refine k1 (k2 (k2 ?_))
 refine A4 (A3 (A5 Z Z) Z (A3 (R4 Z Z) Z (A7 ?_)))
 refine k1 ?_
 refine B3 rfl (fun ht=>?_) (fun ht=>?_)
 ·have h3:=A0 ht
  refine k2 ?_
  refine A4 (A3 (J5 Z) Z (A3 (A5 Z Z) Z (F6 (B6 TySz.out Z Z Z Z Z Z) (A3 (A6 Z Z) Z (A7 ?_)))))
  refine k1 ?_
  refine H4 (I66 CHunk 2 O1 10 3 Z Z) ?_
  refine k10 (k11 ?_)
  exact C0 (rs:=[V0 comb0,J0 e2]) (u0 rfl rfl rfl rfl rfl rfl rfl) (by rw [if_pos h3])
 have h3:=A1 ht
 rw [if_neg h3]
 refine k5 (k1 (k2 ?_))
 refine A4 (A3 (A5 Z Z) Z (A3 (C9 Z Z Z) Z (A3 (A5 Z Z) Z (A3 (A5 Z Z) Z (C8 (hc) Z Z Z ?_)))));rintro _ rfl;refine A3 (D6 Z Z) Z (A3 (D6 Z Z) Z (F6 (B6 TySz.out Z Z Z Z Z Z) (A3 (A6 Z Z) Z (A7 ?_))))
 refine k1 (k10 ?_)
 exact C0 (u0 rfl rfl rfl rfl rfl rfl rfl) rfl
def B85 (t:Table):List Span:=if 0 < t.Rows.length then [⟨0,t.Rows.length⟩] else []
def C26 (path x:Str) (r:List Str):Comb × Int :=
 if O8 path=false then (comb0,120) else if (D9 x r).2≠0 then (comb0,(D9 x r).2) else U2 path (D9 x r).1 (B85 (D9 x r).1) false
set_option maxHeartbeats 1000000
theorem I25 (path x:Str) (r:List Str) (h:Small16 x r) (hL:∀b∈x::r,(B7 b).length≤16):FnOk Tryz.prog 43 [N6 path,N6 x,A64 r] (fun rs=>rs=[V0 (C26 path x r).1,J0 (C26 path x r).2]):=by
 have hx:=h.hx
 obtain ⟨s1,s2,s3⟩:=h.sums
 have hl:=h.len
 have hrows:=h.rows
 have hrn:=h.n
 have hm:=F74 x r 16 (by omega) (by omega) ⟨hL x (by simp),by omega⟩ (fun b hb=>⟨hL b (by simp [hb]),by have:=h.hr b hb;omega⟩)
 obtain ⟨t,e,hte⟩:∃t e,D9 x r=(t,e):=⟨_,_,rfl⟩
 rw [hte] at s1 s2 hl hrows hm
 dsimp only at s1 s2 hl hrows hm
 have hc:=H19 path t (B85 t) false hrows (by omega) (by omega) (by unfold B85;split<;>simp)
 have hres:C26 path x r=if O8 path=false then (comb0,120) else if e≠0 then (comb0,e) else U2 path t (B85 t) false:=by
  unfold C26;rw [hte]
 rw [hres]
 refine FnOk.intro Tryz.func43 (by decide) Z Z Z Z ?_
 refine k2 ?_
 refine A4 (C4 (G6 6 Z) Z (A3 (A6 Z Z) Z (A7 ?_)))
 refine k1 (k2 (k2 ?_))
 refine A4 (A3 (A5 Z Z) Z (C8 (B12 path) Z Z Z ?_));rintro _ rfl;refine A3 (L6 Z) Z (A7 ?_)
 refine k1 ?_
 refine B3 rfl (fun ht=>?_) (fun ht=>?_)
 ·have h:O8 path=false:=by simpa using ht
  refine k2 ?_
  refine A4 (A3 (J5 Z) Z (F6 (B6 TySz.out Z Z Z Z Z Z) (A3 (A6 Z Z) Z (A7 ?_))))
  refine k1 ?_
  refine H4 (I66 CHunk 2 O1 6 3 Z Z) ?_
  refine k10 (k11 ?_)
  exact C0 (rs:=[V0 comb0,J0 120]) (u0 rfl rfl rfl rfl rfl rfl rfl) (by rw [if_pos h])
 have h1:O8 path=true:=by simpa using ht
 rw [if_neg (by rw [h1];decide)]
 refine k5 (k1 (k2 ?_))
 refine A4 (A3 (A5 Z Z) Z (A3 (A5 Z Z) Z (C8 (hm) Z Z Z ?_)));rintro _ rfl;refine A3 (A5 Z Z) Z (A3 (D6 Z Z) Z (A3 (D6 Z Z) Z (C4 (G6 8 Z) Z (F6 (B6 TySz.out Z Z Z Z Z Z) (A3 (A6 Z Z) Z (A7 ?_))))))
 refine k1 (k2 (k2 ?_))
 refine A4 (A3 (A5 Z Z) Z (A3 (R4 Z Z) Z (A7 ?_)))
 refine k1 ?_
 refine B3 rfl (fun ht=>?_) (fun ht=>?_)
 ·have h2:=A0 ht
  refine k2 ?_
  refine A4 (A3 (J5 Z) Z (A3 (A5 Z Z) Z (F6 (B6 TySz.out Z Z Z Z Z Z) (A3 (A6 Z Z) Z (A7 ?_)))))
  refine k1 ?_
  refine H4 (I66 CHunk 2 O1 6 3 Z Z) ?_
  refine k10 (k11 ?_)
  exact C0 (rs:=[V0 comb0,J0 e]) (u0 rfl rfl rfl rfl rfl rfl rfl) (by rw [if_pos h2])
 have h2:=A1 ht
 rw [if_neg h2]
 refine k5 (k1 (k2 ?_))
 refine A4 (A3 (S2 _ 2 spanC) Z (A7 ?_))
 refine k1 (k2 (k2 ?_))
 refine A4 (A3 (A8 Z) Z (A3 (A9 Z Z Z) Z (A3 (E3 Z (.pure _ _ _ _)) Z (A3 (R1 Z Z) Z (A7 ?_)))))
 refine k1 ?_
 refine B3 rfl (fun ht=>?_) (fun ht=>?_)
 ·have h3:=A0 ht
  have hsp:B85 t=[⟨0,t.Rows.length⟩]:=by unfold B85;rw [if_pos (by omega)]
  rw [hsp] at hc ⊢
  skip
  refine A4 (A3 (A8 Z) Z (A3 (A9 Z Z Z) Z (A3 (E3 Z (.pure _ _ _ _)) Z (A3 (J5 Z) Z (A3 (E1 (c:=spanC) (ys:=[⟨0,(t.Rows.length:Int)⟩]) (E6 Z Z Z Z I0) Z Z Z) Z (A3 (A6 Z Z) Z (A7 ?_)))))))
  refine k1 (k2 ?_)
  refine A4 (A3 (A5 Z Z) Z (A3 (C9 Z Z Z) Z (A3 (A5 Z Z) Z (C8 (hc) Z Z Z ?_))));rintro _ rfl;refine A3 (D6 Z Z) Z (A3 (D6 Z Z) Z (F6 (B6 TySz.out Z Z Z Z Z Z) (A3 (A6 Z Z) Z (A7 ?_))))
  refine k1 (k10 ?_)
  exact C0 (u0 rfl rfl rfl rfl rfl rfl rfl) rfl
 ·have h3:=A1 ht
  have hsp:B85 t=[]:=by unfold B85;rw [if_neg (by omega)]
  rw [hsp] at hc ⊢
  refine k5 (k1 (k2 ?_))
  refine A4 (A3 (A5 Z Z) Z (A3 (C9 Z Z Z) Z (A3 (A5 Z Z) Z (C8 (hc) Z Z Z ?_))));rintro _ rfl;refine A3 (D6 Z Z) Z (A3 (D6 Z Z) Z (F6 (B6 TySz.out Z Z Z Z Z Z) (A3 (A6 Z Z) Z (A7 ?_))))
  refine k1 (k10 ?_)
  exact C0 (u0 rfl rfl rfl rfl rfl rfl rfl) rfl
def exX:Str:=[97,10,99,10]
def exR:List Str:=[[97,10,98,10],[97,10,99,10]]
def exC:Comb:=⟨[120],false,2,[⟨[0,0,0],[⟨false,0,[97,10]⟩,⟨true,1,[98,10]⟩,⟨false,1,[99,10]⟩]⟩]⟩
def exS:Str:=[100,105,102,102,32,45,45,99,111,109,98,105,110,101,100,32,120,10,112,97,114,101,110,116,115,32,50,10,64,64,64,32,45,49,44,50,32,45,49,44,50,32,43,49,44,50,32,64,64,64,10,32,32,97,10,45,32,98,10,43,32,99,10]
theorem ex_c0:E9 [[],[]]=([],0):=by simp [E9,F7,R6,S6,G4,F3]
theorem ex_c1:E9 [[2],[]]=([⟨2,1⟩],0):=by
 have hb:G8 0=1:=by decide
 simp [E9,F7,R6,S6,G4,F3,hb]
def Z6:List (List Int):=[[0,1],[0,2],[0,1]]
theorem ex_loom:(M1 Z6 2 2 2).1=[0,1]∧(M1 Z6 2 2 2).2 0=[[],[]]∧(M1 Z6 2 2 2).2 1=[[2],[]]∧(M1 Z6 2 2 2).2 2=[[],[]]:=by
 have w0:K1 [0,2] [0,1]=[⟨1,1,1,1⟩]:=by simp [K1,F3,dist,v8,L8]
 have w1:K1 [0,1] [0,1]=[]:=by simp [K1,F3,v8,L8]
 have h0:K2 Z6 (q8 2 2) 0=((R5 [⟨1,1,1,1⟩] 2).foldl (O7 0) ((q8 2 2).1.map (I7 · (G8 0))),[(⟨1,1,1,1⟩:Change)].foldl (L9 0 [0,2]) (q8 2 2).2):=by
  rw [←w0];rfl
 have h1:M1 Z6 2 2 2=((R5 [] 2).foldl (O7 1) ((K2 Z6 (q8 2 2) 0).1.map (I7 · (G8 1))),(K2 Z6 (q8 2 2) 0).2):=by
  show K2 Z6 (K2 Z6 (q8 2 2) 0) 1=_
  have:K2 Z6 (K2 Z6 (q8 2 2) 0) 1=((R5 (K1 [0,1] [0,1]) 2).foldl (O7 1) ((K2 Z6 (q8 2 2) 0).1.map (I7 · (G8 1))),(K1 [0,1] [0,1]).foldl (L9 1 [0,1]) (K2 Z6 (q8 2 2) 0).2):=rfl
  rw [this,w1];rfl
 rw [h1,h0]
 refine ⟨by decide,by decide,by decide,by decide⟩
theorem ex_make:D9 exX exR=(⟨2,[⟨false,0,[97,10]⟩,⟨true,1,[98,10]⟩,⟨false,1,[99,10]⟩]⟩,0):=by
 have e0:B7 exX=[[97,10],[99,10]]:=by decide
 have e1:exR.map B7=[[[97,10],[98,10]],[[97,10],[99,10]]]:=by decide
 have e2:H0 [[[97,10],[99,10]],[[97,10],[98,10]],[[97,10],[99,10]]]=[[97,10],[99,10],[98,10]]:=by decide
 have e3:[[[97,10],[99,10]],[[97,10],[98,10]],[[97,10],[99,10]]].map (M3 [[97,10],[99,10],[98,10]])=Z6:=by decide
 obtain ⟨l1,l2,l3,l4⟩:=ex_loom
 have hR:exR.length=2:=rfl
 have hc:∀k,k < 3→E9 ((M1 Z6 2 2 2).2 k)=if k=1 then ([⟨2,1⟩],0) else ([],0):=by
  intro k hk
  match k,hk with
  | 0,_=>rw [l2,ex_c0];rfl
  | 1,_=>rw [l3,ex_c1];rfl
  | 2,_=>rw [l4,ex_c0];rfl
 unfold D9
 rw [if_neg (by decide)]
 dsimp only
 rw [e0,e1,e2,e3]
 have hno:¬∃k,k < 3∧(E9 ((M1 Z6 2 2 2).2 k)).2≠0:=by
  rintro ⟨k,hk,h⟩
  rw [hc k hk] at h
  split at h<;>exact h rfl
 refine (if_neg hno).trans ?_
 show ((⟨2,S7 [[97,10],[99,10],[98,10]] [[97,10],[99,10]] (M1 Z6 2 2 2) 3⟩:Table),(0:Int))=_
 have hr:∀k,k < 3→N3 [[97,10],[99,10],[98,10]] [[97,10],[99,10]] (M1 Z6 2 2 2) k=if k=0 then [⟨false,0,[97,10]⟩] else if k=1 then [⟨true,1,[98,10]⟩,⟨false,1,[99,10]⟩] else []:=by
  intro k hk
  unfold N3
  rw [hc k hk,l1]
  match k,hk with
  | 0,_=>rfl
  | 1,_=>rfl
  | 2,_=>rfl
 rw [l9,l9,l9,hr 0 (by omega),hr 1 (by omega),hr 2 (by omega)]
 rfl
theorem F83:I4 exC=0:=by kernel_rfl
theorem ex_full:C26 [120] exX exR=(exC,0):=by
 unfold C26
 rw [ex_make,if_neg (by decide),if_neg (by decide)]
 dsimp only
 have h1:H3 ⟨2,[⟨false,0,[97,10]⟩,⟨true,1,[98,10]⟩,⟨false,1,[99,10]⟩]⟩=0:=by decide
 have h2:W6 (Int.toNat 2) [⟨false,0,[97,10]⟩,⟨true,1,[98,10]⟩,⟨false,1,[99,10]⟩] 0 [] (B85 ⟨2,[⟨false,0,[97,10]⟩,⟨true,1,[98,10]⟩,⟨false,1,[99,10]⟩]⟩)=some exC.Hunks:=by decide
 unfold U2
 rw [if_neg (by decide),h1,if_neg (by decide)]
 dsimp only
 rw [h2]
 dsimp only
 rw [show I4 ⟨[120],false,2,exC.Hunks⟩=0 from F83,if_neg (by decide)]
 rfl
theorem I26:V9 exC=exS:=by kernel_rfl
theorem ex_small:Small16 exX exR∧∀b∈exX::exR,(B7 b).length≤16:=by
 have hall:∀b∈exX::exR,(B7 b).length≤16∧b.length≤140:=by
  intro b hb
  have h1:b.length≤4:=by
   have:∀b∈exX::exR,b.length≤4:=by decide
   exact this b hb
  have h2:=Z7 b
  omega
 obtain ⟨k1,k2,k3⟩:=C08 exX exR 16 140 (hall exX (by simp)) (fun b hb=>hall b (by simp [hb]))
 exact ⟨⟨by decide,by decide,fun b hb=>(hall b (by simp [hb])).2,k1,Nat.le_trans k2 (by decide),k3⟩,fun b hb=>(hall b hb).1⟩
theorem G64:FnOk Tryz.prog 35 [] (fun rs=>rs=[N0 true]):=by
 have h1:=I25 [120] exX exR ex_small.1 ex_small.2
 rw [ex_full] at h1
 have h2:=D39 exC (by decide) (by intro h hh;simp [exC] at hh;subst hh;intro r hr;simp at hr;rcases hr with rfl | rfl | rfl<;>decide)
 rw [if_pos F83,I26] at h2
 refine FnOk.intro Tryz.func35 (by decide) Z Z Z Z ?_
 refine k2 ?_
 refine A4 (A3 (A6 Z Z) Z (A7 ?_))
 refine k1 (k2 ?_)
 refine A4 (A3 (E1 (c:=P3) (ys:=exR) (E6 Z Z Z Z (E6 Z Z Z Z I0)) Z Z Z) Z (C8 (h1) Z Z Z ?_));rintro _ rfl;refine A3 (A5 Z Z) Z (A3 (D6 Z Z) Z (A3 (D6 Z Z) Z (C4 (G6 1 Z) Z (F6 (B6 TySz.out Z Z Z Z Z Z) (A3 (A6 Z Z) Z (A7 ?_))))))
 refine k1 (k2 ?_)
 refine A4 (A3 (C9 Z Z Z) Z (C8 (h2) Z Z Z ?_));rintro _ rfl;refine A3 (A5 Z Z) Z (A3 (D6 Z Z) Z (A3 (D6 Z Z) Z (A3 (A6 Z Z) Z (A3 (A6 Z Z) Z (A7 ?_)))))
 refine k1 (k2 ?_)
 refine A4 (A3 (A5 Z Z) Z (A3 (O2 Z Z) Z (A3 (A5 Z Z) Z (B0 Z Z Z Z (fun hg=>by rw [hg];exact A5 Z Z) ?_))));refine B0 Z Z Z Z (fun hg=>by rw [hg];exact O2 Z Z) ?_;refine A3 (B5 Z (fun h=>by first | rfl | (rw [h];rfl)) (fun h=>by first | rfl | (rw [h];rfl))) Z ?_;refine A3 (A5 Z Z) Z (B0 Z Z Z Z (fun hg=>by rw [hg];exact A5 Z Z) ?_);refine B0 Z Z Z Z (fun hg=>by rw [hg];exact E88 Z Z) ?_;refine A3 (B5 Z (fun h=>by first | rfl | (rw [h];rfl)) (fun h=>by first | rfl | (rw [h];rfl))) Z ?_;refine A3 (A6 Z Z) Z (A7 ?_)
 refine k1 (k10 ?_)
 exact C0 (rs:=[N0 true]) (I2 rfl rfl rfl) rfl
theorem H71 (raw:List Int) (n:Int) (x:Str) (r:List Str) (h:d8 raw n=x::r):FnOk Tryz.prog 36 [P2 raw,J0 n] (fun rs=>rs=[N6 x,A64 r]):=by
 have hm:=W3 n (n:=4) (by omega)
 have hlen:(x::r).length=(2+Q3 n 4).toNat:=by rw [←h];simp [d8,V5]
 have hb:=I14 raw (2+Q3 n 4).toNat 7 (by omega) (by omega)
 have hcast:(((2+Q3 n 4).toNat:Nat):Int)=2+Q3 n 4:=by omega
 rw [hcast] at hb
 have hbr:V5 raw (2+Q3 n 4).toNat 7=x::r:=h
 rw [hbr] at hb
 refine FnOk.intro Tryz.func36 (by decide) Z Z Z Z ?_
 refine k2 ?_
 refine A4 (A3 (A6 Z Z) Z (A3 (A6 Z Z) Z (A7 ?_)))
 refine k1 (k2 ?_)
 refine A4 (A3 (A5 Z Z) Z (A3 (A5 Z Z) Z (C8 (D29 n 4 (by omega) (by omega)) Z Z Z ?_)));rintro _ rfl;refine A3 (C2 Z Z (by omega)) Z (C8 (hb) Z Z Z ?_);rintro _ rfl;refine A3 (A6 Z Z) Z (A7 ?_)
 refine k1 (k2 ?_)
 refine F8 (by kernel_rfl) (by kernel_rfl) (B2 (A5 Z Z) Z Z (B2 (B4 Z (.pure _ _ _ _) Z (by omega) (show (x::r)[(0:Int).toNat]?=some x from Z)) Z Z (B2 (C5 Z Z) Z Z (B2 (A5 Z Z) Z Z (B2 (C17 Z (.pure _ _ _ _) Z (by (first | omega | (simp only [I95];omega))) (by (first | omega | (simp only [I95];omega)))) Z Z (B2 (A6 Z Z) Z Z (B2 (A6 Z Z) Z Z (V7 ?_))))))))
 refine k1 (k10 ?_)
 refine C0 (B21 Z Z Z Z Z) ?_
 rfl
theorem I27 {raw:List Int} {n:Int} {x:Str} {r:List Str} (h:d8 raw n=x::r):∀b∈x::r,(B7 b).length≤16:=by rw [←h];exact fun b hb=>(D44 raw n b hb).1
theorem B86 {x:Str} {r:List Str} (h:Small16 x r) (h1:1≤r.length) (hL:∀b∈x::r,(B7 b).length≤16):(D9 x r).2=0∧H3 (D9 x r).1=0∧(D9 x r).1.Parents=r.length∧Made16 x r (D9 x r).1.Rows:=by
 have hn:=h.n
 have hz:(D9 x r).2=0:=G27 (B:=16) ⟨h1,hn⟩ (hL x (by simp)) (fun b hb=>hL b (by simp [hb])) (by omega)
 have hx1:=hL x (by simp)
 have h2:∀b∈r,(B7 b).length≤4096:=fun b hb=>by have:=hL b (by simp [hb]);omega
 have h3:=C81 (by omega) h2 hz
 exact ⟨hz,F37 (by omega) h2 hz,h3.2⟩
theorem F84 {path:Str} {x:Str} {r:List Str} {sp:List Span} (d:Bool) (hp:O8 path=true) (hpl:path.length≤400) (h:Small16 x r) (h1:1≤r.length) (hL:∀b∈x::r,(B7 b).length≤16) (hsp:CutSp (D9 x r).1.Rows.length 0 sp) :
  U2 path (D9 x r).1 sp d=(⟨path,d,r.length,W8 r.length (D9 x r).1.Rows sp⟩,0)∧I4 ⟨path,d,r.length,W8 r.length (D9 x r).1.Rows sp⟩=0:=by
 obtain ⟨_,g2,g3,_⟩:=B86 h h1 hL
 have hl:=h.len
 have hs:=h.sums.2.2 r.length (by have:=h.n;omega)
 have hg:=G95 (path:=path) (sp:=sp) (d:=d) hp g2 (by omega) hsp (by rw [g3,I99];omega)
 rw [g3,I99] at hg
 exact ⟨hg.1,hg.2.1⟩
theorem F85 {path x:Str} {r:List Str} {ctx:Int} (d:Bool) (hp:O8 path=true) (hpl:path.length≤400) (h:Small16 x r) (h1:1≤r.length) (hL:∀b∈x::r,(B7 b).length≤16) (hc:0≤ctx∧ctx≤1048576) :
  Q9 path x r ctx d=(⟨path,d,r.length,W8 r.length (D9 x r).1.Rows (K7 (D9 x r).1 ctx d).1⟩,0)∧I4 (Q9 path x r ctx d).1=0∧Q9 path x r ctx d=U2 path (D9 x r).1 (K7 (D9 x r).1 ctx d).1 d∧CutSp (D9 x r).1.Rows.length 0 (K7 (D9 x r).1 ctx d).1:=by
 obtain ⟨g1,g2,_,_⟩:=B86 h h1 hL
 obtain ⟨k1,k2⟩:=F39 (t:=(D9 x r).1) d g2 hc
 obtain ⟨c1,c2⟩:=F84 d hp hpl h h1 hL k2
 have e:Q9 path x r ctx d=U2 path (D9 x r).1 (K7 (D9 x r).1 ctx d).1 d:=by
  unfold Q9
  rw [if_neg (by rw [hp];decide),g1,if_neg (by decide),k1,if_neg (by decide)]
 refine ⟨e.trans c1,?_,e,k2⟩
 rw [e,c1];exact c2
theorem H72 {path x:Str} {r:List Str} {ctx:Int} {d:Bool} (h:Small16 x r):szC (Q9 path x r ctx d).1.Hunks≤268435456∧∀y∈(Q9 path x r ctx d).1.Hunks,J6 y.Rows:=by
 by_cases he:(Q9 path x r ctx d).2=0
 ·obtain ⟨_,_,e1⟩:=E56 he
  rw [e1];exact I24 h.rows (by have:=h.sums.2.1;omega)
 ·rw [D45 he];exact ⟨by decide,fun y hy=>by cases hy⟩
set_option maxHeartbeats 1000000
set_option maxHeartbeats 1000000
theorem H20 (a b:UInt8):decide ((a.toNat:Int)=(b.toNat:Int))=decide (a=b) :=
 decide_eq_decide.2 ⟨fun h=>UInt8.toNat_inj.1 (by omega),fun h=>by rw [h]⟩
theorem kn10 (c:UInt8):decide ((c.toNat:Int)≠10)=decide (c≠10):=C97 c 10
theorem ke64 (c:UInt8):decide ((c.toNat:Int)=64)=decide (c=64):=H20 c 64
theorem ke92 (c:UInt8):decide ((c.toNat:Int)=92)=decide (c=92):=H20 c 92
theorem G65 {c:UInt8} (h:(c≠32∧c≠43)∧c≠45):j6 c=false:=by simp [j6,h.1.1,h.1.2,h.2]
theorem G66 {c:UInt8} (h:¬((c≠32∧c≠43)∧c≠45)):j6 c=true:=by
 unfold j6
 by_cases h1:c=32
 ·simp [h1]
 ·by_cases h2:c=43
  ·simp [h2]
  ·have:c=45:=Classical.byContradiction fun h3=>h ⟨⟨h1,h2⟩,h3⟩
   simp [this]
theorem G67 (s:Str) (hs:s.length≤1073741824):FnOk Tryz.prog 51 [N6 s] (fun rs=>rs=[N0 (s.all j6)]):=by
 refine FnOk.intro Tryz.func51 (by decide) Z Z Z Z ?_
 refine k2 ?_
 refine A4 (A3 (A6 Z Z) Z (A7 ?_))
 refine k1 (k2 (k2 ?_))
 refine A4 (A3 (A6 Z Z) Z (A7 ?_))
 refine k1 (k3 ?_)
 refine E2 (X:=Nat) (fun i=>([(0,U4 s),(3,B8 i)],[])) (fun i=>i≤s.length∧s.all j6=(s.drop i).all j6) (fun i=>s.length - i) 0 ⟨Nat.zero_le _,rfl⟩ (I62 ⟨le1 rfl,le1 rfl,trivial⟩ trivial) ?_
 rintro i ⟨hi,he⟩
 dsimp only at hi he ⊢
 refine k2 (k2 ?_)
 refine A4 (A3 (A5 Z Z) Z (A3 (A5 Z Z) Z (A3 (J4 Z) Z (A3 (F1 Z Z) Z (A7 ?_)))))
 refine k1 ?_
 refine B3 rfl (fun ht=>?_) (fun ht=>?_)
 ·have hlt:i < s.length:=by have:=A0 ht;(try dsimp only at this);omega
  have hv:s[i]?=some s[i]:=by simp [hlt]
  rw [J00 hlt,List.all_cons] at he
  obtain ⟨c,hc⟩:∃c,c=s[i]:=⟨_,rfl⟩
  rw [←hc] at hv he
  refine k5 (k1 (k2 (k3 (k2 ?_))))
  refine A4 (A3 (A5 Z Z) Z (A3 (A5 Z Z) Z (A3 (T6 Z Z (by omega) hv) Z (A3 (R4 Z Z) Z (A3 (A5 Z Z) Z (B0 Z Z Z Z (fun hg=>by rw [hg];exact A5 Z Z) ?_))))));refine B0 Z Z Z Z (fun hg=>by rw [hg];exact A5 Z Z) ?_;refine B0 Z Z Z Z (fun hg=>by have hq:=hg;(try simp at hq);rw [hg];exact T6 Z Z (by omega) hv) ?_;refine B0 Z Z Z Z (fun hg=>by rw [hg];exact R4 Z Z) ?_;refine A3 (B5 Z (fun h=>by first | rfl | (rw [h];rfl)) (fun h=>by first | rfl | (rw [h];rfl))) Z ?_;refine A3 (A5 Z Z) Z (B0 Z Z Z Z (fun hg=>by rw [hg];exact A5 Z Z) ?_);refine B0 Z Z Z Z (fun hg=>by rw [hg];exact A5 Z Z) ?_;refine B0 Z Z Z Z (fun hg=>by have hq:=hg;(try simp at hq);rw [hg];exact T6 Z Z (by omega) hv) ?_;refine B0 Z Z Z Z (fun hg=>by rw [hg];exact R4 Z Z) ?_;refine A3 (B5 Z (fun h=>by first | rfl | (rw [h];rfl)) (fun h=>by first | rfl | (rw [h];rfl))) Z ?_;refine A7 ?_
  refine k1 ?_
  refine B3 rfl (fun ht=>?_) (fun ht=>?_)
  ·simp only [kn32,kn45,kn43,Q4] at ht
   have hm:=G65 (A0 ht)
   refine k2 ?_
   refine A4 (A3 (A6 Z Z) Z (A7 ?_))
   refine k1 (k10 (k12 (k11 (k11 (k12 (k11 ?_))))))
   exact C0 (I2 rfl rfl rfl) (by rw [he,hm];rfl)
  ·simp only [kn32,kn45,kn43,Q4] at ht
   have hm:=G66 (A1 ht)
   rw [hm,Bool.true_and] at he
   refine k5 (k4 (k1 ?_))
   refine A4 (A3 (A5 Z Z) Z (A3 (C2 Z Z (by omega)) Z (A3 (A6 Z Z) Z (A7 ?_))))
   refine k1 ?_
   exact ⟨i+1,⟨by omega,he⟩,by omega,I62 ⟨le1 rfl,le1 rfl,trivial⟩ trivial⟩
 ·have hi':i=s.length:=by have:=A1 ht;(try dsimp only at this);omega
  subst hi'
  rw [List.drop_length] at he
  refine k6 (k2 ?_)
  refine A4 (A3 (A6 Z Z) Z (A7 ?_))
  refine k1 (k10 ?_)
  exact C0 (I2 rfl rfl rfl) (by rw [he];rfl)
theorem C59:∀(r:List Str) (l:Str),(U9 (l::r)).getLast?=some 10
 | [],l=>by rw [Y3];simp [U9]
 | m::r,l=>by rw [Y3,List.getLast?_append,C59 r m];rfl
theorem F86 (c:Comb):(V9 c).getLast?=some 10:=by rw [←C75];exact C59 _ _
theorem D46:∀(hs:List CHunk),(H7 hs).length≤szC hs
 | []=>Nat.zero_le _
 | h::r=>by
  have ih:=D46 r
  have h1:=i8 h.Rows
  have e1:C88 h=2048+h.At.length+(h.Rows.map T5).sum:=rfl
  have e2:szC (h::r)=C88 h+szC r:=by unfold szC;rw [J01,J26]
  rw [C14,I93,e2]
  omega
theorem F13 (hs:List CHunk) (k:Nat) (h:k < hs.length):(H7 (hs.take (k+1))).length=(H7 (hs.take k)).length+hs[k].Rows.length:=by
 unfold H7
 rw [J02 h,J08,J14,I93];simp
theorem E21 (hs:List CHunk) (k:Nat):(H7 (hs.take k)).length≤(H7 hs).length:=by
 have e:H7 hs=H7 (hs.take k)++H7 (hs.drop k):=by
  unfold H7
  rw [←J14,←J08,J29]
 rw [e,I93];omega
theorem I28 {w:Str} {f i:Nat} {c:UInt8} (hf:f≤i) (hv:w[i]?=some c):(w.drop f).take (i+1 - f)=(w.drop f).take (i - f)++[c]:=by
 rw [show i+1 - f=(i - f)+1 by omega,List.take_add_one,J31,show f+(i - f)=i by omega,hv];rfl
def D47 (n:Nat) (cur:Str) (c:UInt8) (i f:Nat) (z:B26):Nat × B26:=if c=10 then (i+1,c7 z (M4 n cur)) else (f,z)
theorem I29 (n:Nat) (l:Str):(M4 n l).1≤1∧(M4 n l).2.1≤1∧(M4 n l).2.2≤1:=by
 unfold M4
 split
 ·exact ⟨Nat.le_refl _,Nat.zero_le _,Nat.zero_le _⟩
 ·split
  ·exact ⟨Nat.zero_le _,Nat.zero_le _,Nat.le_refl _⟩
  ·split
   ·exact ⟨Nat.zero_le _,Nat.le_refl _,Nat.zero_le _⟩
   ·exact ⟨Nat.zero_le _,Nat.zero_le _,Nat.zero_le _⟩
set_option maxHeartbeats 1000000
theorem D48 (raw:List Int) (n ctx:Int) (d:Bool):FnOk Tryz.prog 10 [P2 raw,J0 n,J0 ctx,N0 d] (fun rs=>rs=[N0 true]):=by
 obtain ⟨x,r,hpk,hxl,_⟩:=F80 raw n
 have hsm:=G61 hpk
 have hL:=I27 hpk
 obtain ⟨h1,h4⟩:=F82 raw n hpk
 have hmc:=W3 ctx (n:=4) (by omega)
 have hP:=H71 raw n x r hpk
 have hmod:=D29 ctx 4 (by omega) (by omega)
 obtain ⟨cx,hcx⟩:∃cx,cx=Q3 ctx 4:=⟨_,rfl⟩
 rw [←hcx] at hmc hmod
 have hD:=G63 [120] x r cx d hsm hL
 obtain ⟨D1,D2,_,_⟩:=F85 (path:=[120]) (ctx:=cx) d (by decide) (by decide) hsm h1 hL (by omega)
 obtain ⟨_,f2⟩:=G62 (path:=[120]) (ctx:=cx) (d:=d) (by decide) hsm h4
 obtain ⟨z1,z2⟩:=H72 (path:=[120]) (ctx:=cx) (d:=d) hsm
 rw [D1] at hD D2 f2 z1 z2
 obtain ⟨hs,hhs⟩:∃hs,hs=W8 r.length (D9 x r).1.Rows (K7 (D9 x r).1 cx d).1:=⟨_,rfl⟩
 rw [←hhs] at hD D2 f2 z1 z2
 dsimp only at hD D2 f2 z1 z2
 have hF:=D39 ⟨[120],d,r.length,hs⟩ z1 z2
 rw [if_pos D2] at hF
 have hsc:=F41 D2 (by dsimp only;omega)
 have hop:=I02 D2 (by dsimp only;omega)
 have hwl:=F86 ⟨[120],d,r.length,hs⟩
 dsimp only at hsc hop
 rw [I99] at hsc hop
 obtain ⟨w,hw⟩:∃w,w=V9 ⟨[120],d,r.length,hs⟩:=⟨_,rfl⟩
 rw [←hw] at hF hsc hwl f2
 have har:=D46 hs
 have hsl:=C05 hs
 refine FnOk.intro Tryz.func10 (by decide) Z Z Z Z ?_
 refine k2 ?_
 refine A4 (A3 (A6 Z Z) Z (A7 ?_))
 refine k1 (k2 ?_)
 refine A4 (A3 (A5 Z Z) Z (A3 (A5 Z Z) Z (C8 (hP) Z Z Z ?_)));rintro _ rfl;refine A3 (A5 Z Z) Z (A3 (D6 Z Z) Z (A3 (D6 Z Z) Z (A3 (A6 Z Z) Z (A3 (A6 Z Z) Z (A7 ?_)))))
 refine k1 (k2 ?_)
 refine A4 (A3 (A5 Z Z) Z (A3 (A5 Z Z) Z (A3 (A5 Z Z) Z (C8 (hmod) Z Z Z ?_))));rintro _ rfl;refine A3 (A5 Z Z) Z (C8 (hD) Z Z Z ?_);rintro _ rfl;refine A3 (A5 Z Z) Z (A3 (D6 Z Z) Z (A3 (D6 Z Z) Z (C4 (G6 11 Z) Z (F6 (B6 TySz.out Z Z Z Z Z Z) (A3 (A6 Z Z) Z (A7 ?_))))))
 refine k1 (k2 ?_)
 refine A4 (A3 (C9 Z Z Z) Z (C8 (hF) Z Z Z ?_));rintro _ rfl;refine A3 (A5 Z Z) Z (A3 (D6 Z Z) Z (A3 (D6 Z Z) Z (A3 (A6 Z Z) Z (A3 (A6 Z Z) Z (A7 ?_)))))
 refine k1 (k2 (k2 ?_))
 refine A4 (A3 (A5 Z Z) Z (A3 (R4 Z Z) Z (A3 (A5 Z Z) Z (B0 Z Z Z Z (fun hg=>by rw [hg];exact A5 Z Z) ?_))));refine B0 Z Z Z Z (fun hg=>by rw [hg];exact R4 Z Z) ?_;refine A3 (B5 Z (fun h=>by first | rfl | (rw [h];rfl)) (fun h=>by first | rfl | (rw [h];rfl))) Z ?_;refine A7 ?_
 refine k1 ?_
 refine B3 rfl (fun ht=>?_) (fun ht=>?_)
 ·exfalso;simp at ht
 refine k5 (k1 (k2 ?_))
 refine A4 (A3 (A6 Z Z) Z (A3 (A6 Z Z) Z (A3 (A6 Z Z) Z (A7 ?_))))
 refine k1 (k2 ?_)
 refine A4 (A3 (A6 Z Z) Z (A7 ?_))
 refine k1 (k2 (k2 ?_))
 refine A4 (A3 (A6 Z Z) Z (A7 ?_))
 refine k1 (k3 ?_)
 refine E2 (X:=Nat × Nat × B26) (fun y=>([(10,C7 Str 1 P3 r),(11,.s (.one (.ref 11 0))),(13,U4 w),(15,B8 y.2.2.2.1),(16,B8 y.2.2.1),(17,B8 y.2.2.2.2),(18,B8 y.2.1),(19,B8 y.1)],[(11,.box (V0 ⟨[120],d,r.length,hs⟩).s1.cells)])) (fun y=>y.1≤w.length∧y.2.1≤y.1∧A54 r.length (w.drop y.1) ((w.drop y.2.1).take (y.1 - y.2.1)) y.2.2=A54 r.length w [] (0,0,0)∧((y.1=0∨w[y.1 - 1]?=some 10)→y.2.1=y.1)∧(y.2.2.1≤y.1∧y.2.2.2.1≤y.1∧y.2.2.2.2≤y.1)) (fun y=>w.length - y.1) (0,0,(0,0,0)) ⟨Nat.zero_le _,Nat.le_refl _,rfl,fun _=>rfl,Nat.le_refl _,Nat.le_refl _,Nat.le_refl _⟩ (I62 ⟨le1 rfl,le1 rfl,le1 rfl,le1 rfl,le1 rfl,le1 rfl,le1 rfl,le1 rfl,trivial⟩ ⟨rfl,trivial⟩) ?_
 rintro ⟨i,f,z⟩ ⟨hi,hf,hsn,hfr,b1,b2,b3⟩
 dsimp only at hi hf hsn hfr b1 b2 b3 ⊢
 refine k2 (k2 ?_)
 refine A4 (A3 (A5 Z Z) Z (A3 (A5 Z Z) Z (A3 (J4 Z) Z (A3 (F1 Z Z) Z (A7 ?_)))))
 refine k1 ?_
 refine B3 rfl (fun ht=>?_) (fun ht=>?_)
 ·have hlt:i < w.length:=by have:=A0 ht;(try dsimp only at this);omega
  have hv:w[i]?=some w[i]:=by simp [hlt]
  rw [J00 hlt,A54] at hsn
  obtain ⟨c,hc⟩:∃c,c=w[i]:=⟨_,rfl⟩
  rw [←hc] at hv hsn
  have hsnoc:=I28 hf hv
  obtain ⟨cur,hcur⟩:∃cur,cur=(w.drop f).take (i - f):=⟨_,rfl⟩
  rw [←hcur] at hsn hsnoc
  have hlk:=I29 r.length cur
  obtain ⟨st,hst⟩:∃st,st=D47 r.length cur c i f z:=⟨_,rfl⟩
  have hcl:cur.length≤w.length:=by rw [hcur,J12,J15];omega
  refine G35 ?_
  refine K8 ?_
  refine A66 [(10,C7 Str 1 P3 r),(11,.s (.one (.ref 11 0))),(13,U4 w),(15,B8 st.2.2.1),(16,B8 st.2.1),(17,B8 st.2.2.2),(18,B8 st.1),(19,B8 i)] [(11,.box (V0 ⟨[120],d,r.length,hs⟩).s1.cells)] ?_ ?_
  ·refine k3 (k2 (k2 ?_))
   refine A4 (A3 (A5 Z Z) Z (A3 (A5 Z Z) Z (A3 (T6 Z Z (by omega) hv) Z (A3 (R4 Z Z) Z (A7 ?_)))))
   refine k1 ?_
   refine B3 rfl (fun ht=>?_) (fun ht=>?_)
   ·rw [kn10] at ht
    have hc10:c≠10:=A0 ht
    have e:st=(f,z):=by rw [hst,D47,if_neg hc10]
    rw [e]
    refine k6 (k7 (k8 Z (k1 ?_)))
    exact I62 ⟨le1 rfl,le1 rfl,le1 rfl,le1 rfl,le1 rfl,le1 rfl,le1 rfl,le1 rfl,trivial⟩ ⟨rfl,trivial⟩
   rw [kn10] at ht
   have hc10:c=10:=by have:=A1 ht;simpa using this
   have e:st=(i+1,c7 z (M4 r.length cur)):=by rw [hst,D47,if_pos hc10]
   rw [e]
   refine k5 (k1 (k2 ?_))
   refine A4 (A3 (A5 Z Z) Z (A3 (A5 Z Z) Z (A3 (A5 Z Z) Z (A3 (F47 Z Z Z (by omega) (by omega) (by omega)) Z (A3 (A6 Z Z) Z (A7 ?_))))))
   rw [I99,I99,←hcur]
   refine k1 (k2 ?_)
   refine A4 (A3 (A5 Z Z) Z (A3 (C2 Z Z (by omega)) Z (A3 (A6 Z Z) Z (A7 ?_))))
   refine k1 (k3 (k2 ?_))
   cases cur with
   | nil =>
    have hz:decide ((((([]:Str).length:Nat):Int))≥(r.length:Int))=false:=decide_eq_false (fun h=>by have e:(((([]:Str).length:Nat)):Int)=0:=rfl;omega)
    have ek:M4 r.length []=(0,0,0):=by
     unfold M4
     rw [if_neg (by simp),if_neg (by simp),if_neg (fun h=>by have:=h.1;have e:([]:Str).length=0:=rfl;omega)]
    rw [ek]
    refine A4 (A3 (A5 Z Z) Z (A3 (J4 Z) Z (A3 (R1 Z Z) Z (A3 (A5 Z Z) Z (I9 Z Z Z (by simp) Z (I9 Z Z Z (by simp) Z (I9 Z Z Z (by simp) Z (A3 (A11 Z ((by simp)) Z) Z (A3 (A6 Z Z) Z (A7 ?_))))))))))
    refine k1 ?_
    refine B3 rfl (fun ht=>?_) (fun ht=>?_)
    ·cases ht
    refine k2 ?_
    refine A4 (A3 (A5 Z Z) Z (A3 (J4 Z) Z (A3 (R1 Z Z) Z (A3 (A5 Z Z) Z (I9 Z Z Z (by simp) Z (I9 Z Z Z (by simp) Z (I9 Z Z Z (by simp) Z (A3 (A11 Z ((by simp)) Z) Z (A3 (A6 Z Z) Z (A7 ?_))))))))))
    refine k1 ?_
    refine B3 rfl (fun ht=>?_) (fun ht=>?_)
    ·cases ht
    refine k2 ?_
    refine A4 (A3 (A5 Z Z) Z (A3 (J4 Z) Z (A3 (A5 Z Z) Z (A3 (E3 Z (.pure _ _ _ _)) Z (A3 (A60 Z Z) Z (A3 (A5 Z Z) Z (I9 Z Z Z (by rw [hz];decide) Z ?_)))))));refine I9 Z Z Z (by rw [hz];decide) Z ?_;refine I9 Z Z Z (by rw [hz];decide) Z ?_;refine I9 Z Z Z (by rw [hz];decide) Z ?_;refine I9 Z Z Z (by rw [hz];decide) Z ?_;refine A3 (A11 Z (hz) Z) Z (A3 (A6 Z Z) Z (A7 ?_))
    refine k1 ?_
    refine B3 rfl (fun ht=>?_) (fun ht=>?_)
    ·cases ht
    refine k5 (k4 (k4 (k1 ?_)))
    exact I62 ⟨le1 rfl,le1 rfl,le1 rfl,le1 rfl,le1 rfl,le1 rfl,le1 rfl,le1 rfl,trivial⟩ ⟨rfl,trivial⟩
   | cons c0 rest =>
    refine A4 (A3 (A5 Z Z) Z (A3 (J4 Z) Z (A3 (R1 Z Z) Z (A3 (A5 Z Z) Z (M9 Z Z Z (by simp) (A3 (A5 Z Z) Z (M9 Z Z Z (by simp) (A3 (T6 Z Z (by omega) (show (c0::rest)[(0:Int).toNat]?=some c0 from Z)) Z (M9 Z Z Z (by simp) (A3 (O2 Z Z) Z (A3 (D14 Z ((by simp)) Z) Z (A3 (A6 Z Z) Z (A7 ?_)))))))))))))
    rw [ke64]
    refine k1 ?_
    refine B3 rfl (fun ht=>?_) (fun ht=>?_)
    ·have h64:c0=64:=A0 ht
     have ek:M4 r.length (c0::rest)=(1,0,0):=by unfold M4;rw [h64,List.head?_cons,if_pos rfl]
     rw [ek]
     skip
     refine A4 (A3 (A5 Z Z) Z (A3 (C2 Z Z (by omega)) Z (A3 (A6 Z Z) Z (A7 ?_))))
     refine k4 (k4 (k1 ?_))
     exact I62 ⟨le1 rfl,le1 rfl,le1 rfl,le1 rfl,le1 rfl,le1 rfl,le1 rfl,le1 rfl,trivial⟩ ⟨rfl,trivial⟩
    have h64:c0≠64:=A1 ht
    refine k2 ?_
    refine A4 (A3 (A5 Z Z) Z (A3 (J4 Z) Z (A3 (R1 Z Z) Z (A3 (A5 Z Z) Z (M9 Z Z Z (by simp) (A3 (A5 Z Z) Z (M9 Z Z Z (by simp) (A3 (T6 Z Z (by omega) (show (c0::rest)[(0:Int).toNat]?=some c0 from Z)) Z (M9 Z Z Z (by simp) (A3 (O2 Z Z) Z (A3 (D14 Z ((by simp)) Z) Z (A3 (A6 Z Z) Z (A7 ?_)))))))))))))
    rw [ke92]
    refine k1 ?_
    refine B3 rfl (fun ht=>?_) (fun ht=>?_)
    ·have h92:c0=92:=A0 ht
     have ek:M4 r.length (c0::rest)=(0,0,1):=by unfold M4;rw [h92,List.head?_cons,if_neg (by decide),if_pos rfl]
     rw [ek]
     skip
     refine A4 (A3 (A5 Z Z) Z (A3 (C2 Z Z (by omega)) Z (A3 (A6 Z Z) Z (A7 ?_))))
     refine k4 (k4 (k1 ?_))
     exact I62 ⟨le1 rfl,le1 rfl,le1 rfl,le1 rfl,le1 rfl,le1 rfl,le1 rfl,le1 rfl,trivial⟩ ⟨rfl,trivial⟩
    have h92:c0≠92:=A1 ht
    have hk0:M4 r.length (c0::rest)=if r.length≤(c0::rest).length∧((c0::rest).take r.length).all j6=true then (0,1,0) else (0,0,0):=by
     unfold M4
     rw [List.head?_cons,if_neg (fun h=>h64 (Option.some.inj h)),if_neg (fun h=>h92 (Option.some.inj h))]
    obtain ⟨cur,hcur2⟩:∃cur,cur=c0::rest:=⟨_,rfl⟩
    rw [←hcur2] at hk0 hcl ⊢
    refine k2 ?_
    by_cases hge:r.length≤cur.length
    ·have hz:decide ((cur.length:Int)≥(r.length:Int))=true:=decide_eq_true (by omega)
     refine A4 (A3 (A5 Z Z) Z (A3 (J4 Z) Z (A3 (A5 Z Z) Z (A3 (E3 Z (.pure _ _ _ _)) Z (A3 (A60 Z Z) Z (A3 (A5 Z Z) Z (M9 Z Z Z hz (A3 (A5 Z Z) Z (M9 Z Z Z hz (A3 (A5 Z Z) Z (M9 Z Z Z hz (A3 (E3 Z (.pure _ _ _ _)) Z (M9 Z Z Z hz (A3 (E93 Z Z (by omega) (by omega)) Z (M9 Z Z Z hz (C8 (G67 (cur.take r.length) (by rw [J12];omega)) Z Z Z ?_))))))))))))))));rintro _ rfl;refine A3 (D14 Z (hz) Z) Z (A3 (A6 Z Z) Z (A7 ?_))
     refine k1 ?_
     refine B3 rfl (fun ht=>?_) (fun ht=>?_)
     ·have hm:(cur.take r.length).all j6=true:=ht
      rw [hk0,if_pos ⟨hge,hm⟩]
      skip
      refine A4 (A3 (A5 Z Z) Z (A3 (C2 Z Z (by omega)) Z (A3 (A6 Z Z) Z (A7 ?_))))
      refine k4 (k4 (k1 ?_))
      exact I62 ⟨le1 rfl,le1 rfl,le1 rfl,le1 rfl,le1 rfl,le1 rfl,le1 rfl,le1 rfl,trivial⟩ ⟨rfl,trivial⟩
     ·have hm:(cur.take r.length).all j6=false:=ht
      rw [hk0,if_neg (by rw [hm];rintro ⟨_,h⟩;cases h)]
      refine k5 (k4 (k4 (k1 ?_)))
      exact I62 ⟨le1 rfl,le1 rfl,le1 rfl,le1 rfl,le1 rfl,le1 rfl,le1 rfl,le1 rfl,trivial⟩ ⟨rfl,trivial⟩
    ·have hz:decide ((cur.length:Int)≥(r.length:Int))=false:=decide_eq_false (by omega)
     rw [hk0,if_neg (fun h=>hge h.1)]
     refine A4 (A3 (A5 Z Z) Z (A3 (J4 Z) Z (A3 (A5 Z Z) Z (A3 (E3 Z (.pure _ _ _ _)) Z (A3 (A60 Z Z) Z (A3 (A5 Z Z) Z (I9 Z Z Z (by rw [hz];decide) Z ?_)))))));refine I9 Z Z Z (by rw [hz];decide) Z ?_;refine I9 Z Z Z (by rw [hz];decide) Z ?_;refine I9 Z Z Z (by rw [hz];decide) Z ?_;refine I9 Z Z Z (by rw [hz];decide) Z ?_;refine A3 (A11 Z (hz) Z) Z (A3 (A6 Z Z) Z (A7 ?_))
     refine k1 ?_
     refine B3 rfl (fun ht=>?_) (fun ht=>?_)
     ·cases ht
     refine k5 (k4 (k4 (k1 ?_)))
     exact I62 ⟨le1 rfl,le1 rfl,le1 rfl,le1 rfl,le1 rfl,le1 rfl,le1 rfl,le1 rfl,trivial⟩ ⟨rfl,trivial⟩
  ·skip
   refine A4 (A3 (A5 Z Z) Z (A3 (C2 Z Z (by omega)) Z (A3 (A6 Z Z) Z (A7 ?_))))
   refine k1 ?_
   by_cases hc10:c=10
   ·rw [if_pos hc10] at hsn
    have e:st=(i+1,c7 z (M4 r.length cur)):=by rw [hst,D47,if_pos hc10]
    rw [e]
    refine ⟨(i+1,i+1,c7 z (M4 r.length cur)),⟨by dsimp only;omega,Nat.le_refl _,?_,fun _=>rfl,?_⟩,by dsimp only;omega,I62 ⟨le1 rfl,le1 rfl,le1 rfl,le1 rfl,le1 rfl,le1 rfl,le1 rfl,le1 rfl,trivial⟩ ⟨rfl,trivial⟩⟩
    ·dsimp only;rw [Nat.sub_self,List.take_zero];exact hsn
    ·unfold c7;dsimp only;omega
   ·rw [if_neg hc10] at hsn
    have e:st=(f,z):=by rw [hst,D47,if_neg hc10]
    rw [e]
    refine ⟨(i+1,f,z),⟨by dsimp only;omega,by dsimp only;omega,?_,?_,?_⟩,by dsimp only;omega,I62 ⟨le1 rfl,le1 rfl,le1 rfl,le1 rfl,le1 rfl,le1 rfl,le1 rfl,le1 rfl,trivial⟩ ⟨rfl,trivial⟩⟩
    ·dsimp only;rw [hsnoc];exact hsn
    ·dsimp only
     rintro (h | h)
     ·exact absurd h (by omega)
     ·rw [Nat.add_sub_cancel,hv] at h;exact absurd (Option.some.inj h) hc10
    ·dsimp only;omega
 have hi':i=w.length:=by have:=A1 ht;(try dsimp only at this);omega
 have hfl:f=w.length:=by
  have:=hfr (by
   rw [List.getLast?_eq_getElem?] at hwl
   rw [hi'];exact .inr hwl)
  omega
 subst hi'
 subst hfl
 rw [List.drop_length,A54,hsc] at hsn
 subst hsn
 dsimp only
 refine k6 (k2 ?_)
 refine A4 (A3 (A6 Z Z) Z (A7 ?_))
 refine k1 (k2 (k2 ?_))
 refine A4 (A3 (A6 Z Z) Z (A7 ?_))
 refine k1 (k3 ?_)
 refine E2 (X:=Nat) (fun k=>([(10,C7 Str 1 P3 r),(11,.s (.one (.ref 11 0))),(13,U4 w),(15,B8 (H7 hs).length),(16,B8 hs.length),(17,B8 (X4 (H7 hs))),(18,B8 w.length),(21,B8 (H7 (hs.take k)).length),(22,B8 k)],[(11,.box (V0 ⟨[120],d,r.length,hs⟩).s1.cells)])) (fun k=>k≤hs.length) (fun k=>hs.length - k) 0 (Nat.zero_le _) (I62 ⟨le1 rfl,le1 rfl,le1 rfl,le1 rfl,le1 rfl,le1 rfl,le1 rfl,le1 rfl,le1 rfl,trivial⟩ ⟨rfl,trivial⟩) ?_
 intro k hk
 dsimp only at hk ⊢
 refine k2 (k2 ?_)
 refine A4 (A3 (A5 Z Z) Z (A3 (A8 Z) Z (A3 (A9 Z Z Z) Z (A3 (E3 Z (.pure _ _ _ _)) Z (A3 (F1 Z Z) Z (A7 ?_))))))
 refine k1 ?_
 refine B3 rfl (fun ht=>?_) (fun ht=>?_)
 ·have hlt:k < hs.length:=by have:=A0 ht;(try dsimp only at this);omega
  have hv:hs[k]?=some hs[k]:=by simp [hlt]
  have hsucc:=F13 hs k hlt
  have htk:=E21 hs (k+1)
  obtain ⟨q,hq⟩:∃q,q=hs[k]:=⟨_,rfl⟩
  rw [←hq] at hv hsucc
  refine k5 (k1 (k2 (k3 ?_)))
  refine A4 (A3 (A5 Z Z) Z (A3 (A8 Z) Z (A3 (A9 Z Z Z) Z (A3 (A5 Z Z) Z (A3 (B4 Z (.pure _ _ _ _) Z (by omega) hv) Z (A3 (A18 Z) Z (A3 (C5 Z Z) Z (A3 (E3 Z (.pure _ _ _ _)) Z (A3 (C2 Z Z (by omega)) Z (A3 (A6 Z Z) Z (A7 ?_)))))))))))
  refine k4 (k1 ?_)
  refine A4 (A3 (A5 Z Z) Z (A3 (C2 Z Z (by omega)) Z (A3 (A6 Z Z) Z (A7 ?_))))
  refine k1 ?_
  refine ⟨k+1,by omega,by omega,?_⟩
  rw [hsucc]
  exact I62 ⟨le1 rfl,le1 rfl,le1 rfl,le1 rfl,le1 rfl,le1 rfl,le1 rfl,le1 rfl,le1 rfl,trivial⟩ ⟨rfl,trivial⟩
 have hk':k=hs.length:=by have:=A1 ht;(try dsimp only at this);omega
 subst hk'
 rw [J21]
 refine k6 (k2 ?_)
 refine A4 (A3 (A5 Z Z) Z (A3 (A8 Z) Z (A3 (A9 Z Z Z) Z (A3 (E3 Z (.pure _ _ _ _)) Z (A3 (O2 Z Z) Z (A3 (A5 Z Z) Z (B0 Z Z Z Z (fun hg=>by rw [hg];exact A5 Z Z) ?_)))))));refine B0 Z Z Z Z (fun hg=>by rw [hg];exact A5 Z Z) ?_;refine B0 Z Z Z Z (fun hg=>by rw [hg];exact O2 Z Z) ?_;refine A3 (B5 Z (fun h=>by first | rfl | (rw [h];rfl)) (fun h=>by first | rfl | (rw [h];rfl))) Z ?_;refine A3 (A5 Z Z) Z (B0 Z Z Z Z (fun hg=>by rw [hg];exact A5 Z Z) ?_);refine B0 Z Z Z Z (fun hg=>by rw [hg];exact A5 Z Z) ?_;refine B0 Z Z Z Z (fun hg=>by rw [hg];exact J4 Z) ?_;refine B0 Z Z Z Z (fun hg=>by rw [hg];exact O2 Z Z) ?_;refine A3 (B5 Z (fun h=>by first | rfl | (rw [h];rfl)) (fun h=>by first | rfl | (rw [h];rfl))) Z ?_;refine A3 (A5 Z Z) Z (B0 Z Z Z Z (fun hg=>by rw [hg];exact A5 Z Z) ?_);refine B0 Z Z Z Z (fun hg=>by rw [hg];exact A5 Z Z) ?_;refine B0 Z Z Z Z (fun hg=>by rw [hg];exact E3 Z (.pure _ _ _ _)) ?_;refine B0 Z Z Z Z (fun hg=>by have hq:=hg;(try simp at hq);rw [hg];exact C2 Z Z (by omega)) ?_;refine B0 Z Z Z Z (fun hg=>by rw [hg];exact B28 Z Z) ?_;refine A3 (B5 Z (fun h=>by first | rfl | (rw [h];rfl)) (fun h=>by first | rfl | (rw [h];rfl))) Z ?_;refine A3 (A5 Z Z) Z (B0 Z Z Z Z (fun hg=>by have hq:=hg;(try simp at hq);rw [hg];exact Q1 (G64) Z Z) ?_);refine A3 (B5 Z (fun h=>by first | rfl | (rw [h];rfl)) (fun h=>by first | rfl | (rw [h];rfl))) Z ?_;refine A3 (A6 Z Z) Z (A7 ?_)
 refine k1 (k10 ?_)
 exact C0 (I2 rfl rfl rfl) (by simp;omega)
end Go.Proofs.YtbiadkkamhpdnaaGreatDoor
