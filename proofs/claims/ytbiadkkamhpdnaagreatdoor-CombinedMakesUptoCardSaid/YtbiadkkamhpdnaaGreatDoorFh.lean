/- Walks of the program's functions. -/
import Derived.Test.YtbiadkkamhpdnaaGreatDoorFg
import Derived.Test.YtbiadkkamhpdnaaGreatDoorFe
import Derived.Test.YtbiadkkamhpdnaaGreatDoorFs
import Derived.Test.YtbiadkkamhpdnaaGreatDoorFc
import Derived.Test.YtbiadkkamhpdnaaGreatDoorFa
import Derived.Test.YtbiadkkamhpdnaaGreatDoorFf
namespace Go.Proofs.YtbiadkkamhpdnaaGreatDoor
open Go Go.AL
set_option maxRecDepth 100000
set_option maxHeartbeats 1000000
end Go.Proofs.YtbiadkkamhpdnaaGreatDoor
namespace Go.Proofs.YtbiadkkamhpdnaaGreatDoor
open Go Go.AL
set_option maxRecDepth 100000
set_option maxHeartbeats 1000000
set_option maxHeartbeats 2000000
end Go.Proofs.YtbiadkkamhpdnaaGreatDoor
namespace Go.Proofs.YtbiadkkamhpdnaaGreatDoor
open Go Go.AL
set_option maxRecDepth 100000
set_option maxHeartbeats 1000000
set_option maxHeartbeats 1000000
set_option maxHeartbeats 1000000
def n8 (raw:List Int) (n:Int):List Str:=X9 raw (2+Q5 n 4).toNat 7
theorem F92 (raw:List Int) (n:Int):∃x r,n8 raw n=x::r∧x.length≤140∧∀b∈r,b.length≤140:=by
 have hm:=j7 n (n:=4) (by omega)
 have hl:(n8 raw n).length=(2+Q5 n 4).toNat:=by simp [n8,X9]
 have hb:∀b∈n8 raw n,b.length≤140:=by
  intro b hb
  obtain ⟨p,_,rfl⟩:=List.mem_map.1 hb
  have:=D48 raw 7 p (by omega);omega
 cases h:n8 raw n with
 | nil=>rw [h] at hl;simp at hl;omega
 | cons x r=>exact ⟨x,r,rfl,hb x (by rw [h];simp),fun b hb'=>hb b (by rw [h];simp [hb'])⟩
def T7 (path result:Str) (parents:List Str) (ctx:Int) (d:Bool):Comb × Int :=
 if N6 path=false then (comb0,120) else if (I6 result parents).2≠0 then (comb0,(I6 result parents).2) else
 if (O9 (I6 result parents).1 ctx d).2≠0 then (comb0,(O9 (I6 result parents).1 ctx d).2) else W5 path (I6 result parents).1 (O9 (I6 result parents).1 ctx d).1 d
theorem F93:∀s∈lineTab,s.count 10=0:=by decide
theorem D63 (k:Int):(n5 k).count 10=0:=by
 unfold n5
 rw [I82]
 cases h:lineTab[(Q5 k 10).toNat]? with
 | none=>rfl
 | some s=>exact F93 s (I98 h)
theorem E22 (raw:List Int) (from' kinds:Int) (m:Nat):(S5 raw from' kinds m).count 10=m:=by
 induction m with
 | zero=>simp [S5]
 | succ m ih=>rw [y4,List.count_append,List.count_append,ih,D63];rfl
theorem D64 (raw:List Int) (from' n kinds:Int) (h1:0≤n):((W2 raw from' n kinds).count 10:Int)≤n:=by
 have h:=j7 (j8 raw from') (n:=n+1) (by omega)
 have h2:=E22 raw from' kinds (Q5 (j8 raw from') (n+1)).toNat
 have h3:=(List.take_sublist ((S5 raw from' kinds (Q5 (j8 raw from') (n+1)).toNat).length - 1) (S5 raw from' kinds (Q5 (j8 raw from') (n+1)).toNat)).count_le (a:=(10:UInt8))
 unfold W2
 simp only
 split
 ·omega
 ·omega
theorem A63 (raw:List Int) (from':Int):∀(l:List Str) (i:Nat) (s:Str),(j9 raw from' i s l).count 10≤s.count 10+l.flatten.count 10+l.length
 | [],i,s=>by simp [j9]
 | x::r,i,s=>by
  have h1:=A63 raw from' r (i+1) s
  have h2:=A63 raw from' r (i+1) (s++n5 (j8 raw (from'+40+(i:Int)))++[10]++x)
  have h3:=A63 raw from' r (i+1) (s++x)
  have h4:=D63 (j8 raw (from'+40+(i:Int)))
  have h5:List.count (10:UInt8) [10]=1:=rfl
  simp only [List.count_append,h4,h5] at h2 h3
  unfold j9
  simp only [I96,List.count_append,I79]
  split
  ·omega
  ·split<;>omega
theorem G64 (raw:List Int) (p:Nat):(n6 raw 7 p).count 10≤15:=by
 have h1:=D64 raw (600+50*(p:Int)) 7 4 (by omega)
 have h2:=D64 raw 0 7 5 (by omega)
 have h3:=A63 raw (600+50*(p:Int)) (C7 (W2 raw 0 7 5)) 0 []
 have h4:=D01 (W2 raw 0 7 5)
 rw [V4] at h3
 have h5:List.count (10:UInt8) ([]:Str)=0:=rfl
 unfold n6
 split
 ·omega
 ·split
  ·omega
  ·unfold B83;omega
theorem D65 (raw:List Int) (n:Int):∀b∈n8 raw n,(C7 b).length≤16∧b.length≤140:=by
 intro b hb
 obtain ⟨p,_,rfl⟩:=List.mem_map.1 hb
 have h1:=D48 raw 7 p (by omega)
 have h2:=G64 raw p
 have h3:=D01 (n6 raw 7 p)
 omega
theorem I21 (raw:List Int) (n:Int) {x:Str} {r:List Str} (h:n8 raw n=x::r):1≤r.length∧r.length≤4:=by
 have hm:=j7 n (n:=4) (by omega)
 have hl:(n8 raw n).length=(2+Q5 n 4).toNat:=by simp [n8,X9]
 rw [h,I79] at hl
 omega
structure Small16 (x:Str) (r:List Str):Prop where
 n:r.length≤32
 hx:x.length≤140
 hr:∀b∈r,b.length≤140
 rows:H8 (I6 x r).1.Rows
 len:(I6 x r).1.Rows.length≤1105
 txt:∀q∈(I6 x r).1.Rows,q.Text.length≤140
theorem G65 {raw:List Int} {n:Int} {x:Str} {r:List Str} (h:n8 raw n=x::r):Small16 x r:=by
 have h1:=I21 raw n h
 have h2:=D65 raw n
 rw [h] at h2
 have hx:=h2 x (by simp)
 have hr:∀b∈r,(C7 b).length≤16∧b.length≤140:=fun b hb=>h2 b (by simp [hb])
 obtain ⟨k1,k2,k3⟩:=C38 x r 16 140 hx hr
 have h4:r.length*16+1≤65:=by omega
 exact ⟨by omega,hx.2,fun b hb=>(hr b hb).2,k1,by omega,k3⟩
theorem textsLen_le {rows:List Row} {B:Nat} (h:∀q∈rows,q.Text.length≤B):N8 rows≤rows.length*B∧(rows.map R8).sum≤rows.length*(B+96)∧∀n,(rows.map (wRow n)).sum≤rows.length*(B+n+29):=by
 unfold N8
 induction rows with
 | nil=>simp
 | cons x r ih =>
  obtain ⟨i1,i2,i3⟩:=ih fun q hq=>h q (by simp [hq])
  have hx:=h x (by simp)
  simp only [I89,I96,I78,J10,I79,J01,Nat.one_mul]
  simp only [Nat.mul_add] at i2 i3 ⊢
  refine ⟨by omega,by unfold R8 at i2 ⊢;omega,fun n=>?_⟩
  have:=i3 n
  unfold wRow at this ⊢
  omega
theorem Small16.sums {x:Str} {r:List Str} (h:Small16 x r):N8 (I6 x r).1.Rows≤154700∧((I6 x r).1.Rows.map R8).sum≤260780∧∀n,n≤32→((I6 x r).1.Rows.map (wRow n)).sum≤1105*201:=by
 obtain ⟨h1,h2,h3⟩:=textsLen_le h.txt
 have h4:=h.len
 refine ⟨by omega,by omega,fun n hn=>?_⟩
 refine Nat.le_trans (h3 n) ?_
 exact Nat.mul_le_mul h4 (by omega)
theorem D66 (path x:Str) (r:List Str) (ctx:Int) (d:Bool) (h:Small16 x r):FnOk Tryz.prog 37 [L5 path,L5 x,j1 r,G1 ctx,I3 d] (fun rs=>rs=[O0 (T7 path x r ctx d).1,G1 (T7 path x r ctx d).2]):=by
 have hx:=h.hx
 obtain ⟨s1,s2,s3⟩:=h.sums
 have hl:=h.len
 have hrows:=h.rows
 have hm:=E60 x r (by omega) (fun b hb=>by have:=h.hr b hb;omega)
 obtain ⟨t,e,hte⟩:∃t e,I6 x r=(t,e):=⟨_,_,rfl⟩
 rw [hte] at s1 s2 hl hrows hm
 dsimp only at s1 s2 hl hrows hm
 have hh:=F89 t ctx d hrows (by omega) (by omega)
 have hin:=G27 t ctx d
 obtain ⟨sp,e2,hsp⟩:∃sp e2,O9 t ctx d=(sp,e2):=⟨_,_,rfl⟩
 rw [hsp] at hh hin
 dsimp only at hh hin
 have hc:=H13 path t sp d hrows (by omega) (by omega) (by have:=hin.1;omega)
 have hres:T7 path x r ctx d=if N6 path=false then (comb0,120) else if e≠0 then (comb0,e) else if e2≠0 then (comb0,e2) else W5 path t sp d:=by
  unfold T7;rw [hte];dsimp only;rw [hsp]
 rw [hres]
 refine FnOk.intro Tryz.func37 (by decide) Z Z Z Z ?_
 refine k2 ?_
 refine A3 (B9 (F5 10 Z) Z (A2 (A5 Z Z) Z (A6 ?_)))
 refine k1 (k2 (k2 ?_))
 refine A3 (A2 (A4 Z Z) Z (C2 (C17 path) Z Z Z ?_));rintro _ rfl;refine A2 (J2 Z) Z (A6 ?_)
 refine k1 ?_
 refine B3 rfl (fun ht=>?_) (fun ht=>?_)
 ·have h:N6 path=false:=by simpa using ht
  refine k2 ?_
  refine A3 (A2 (F3 Z) Z (E6 (B7 TySz.out Z Z Z Z Z Z) (A2 (A5 Z Z) Z (A6 ?_))))
  refine k1 ?_
  refine F8 (I47 CHunk 2 K8 10 3 Z Z) ?_
  refine k10 (k11 ?_)
  exact B5 (rs:=[O0 comb0,G1 120]) (R5 rfl rfl rfl rfl rfl rfl rfl) (by rw [if_pos h])
 have h1:N6 path=true:=by simpa using ht
 rw [if_neg (by rw [h1];decide)]
 refine k5 (k1 (k2 ?_))
 refine A3 (A2 (A4 Z Z) Z (A2 (A4 Z Z) Z (C2 (hm) Z Z Z ?_)));rintro _ rfl;refine A2 (A4 Z Z) Z (A2 (C5 Z Z) Z (A2 (C5 Z Z) Z (B9 (F5 12 Z) Z (E6 (B7 TySz.out Z Z Z Z Z Z) (A2 (A5 Z Z) Z (A6 ?_))))))
 refine k1 (k2 (k2 ?_))
 refine A3 (A2 (A4 Z Z) Z (A2 (M5 Z Z) Z (A6 ?_)))
 refine k1 ?_
 refine B3 rfl (fun ht=>?_) (fun ht=>?_)
 ·have h2:=A0 ht
  refine k2 ?_
  refine A3 (A2 (F3 Z) Z (A2 (A4 Z Z) Z (E6 (B7 TySz.out Z Z Z Z Z Z) (A2 (A5 Z Z) Z (A6 ?_)))))
  refine k1 ?_
  refine F8 (I47 CHunk 2 K8 10 3 Z Z) ?_
  refine k10 (k11 ?_)
  exact B5 (rs:=[O0 comb0,G1 e]) (R5 rfl rfl rfl rfl rfl rfl rfl) (by rw [if_pos h2])
 have h2:=A1 ht
 rw [if_neg h2]
 refine k5 (k1 (k2 ?_))
 refine A3 (A2 (C8 Z Z Z) Z (A2 (A4 Z Z) Z (A2 (A4 Z Z) Z (C2 (hh) Z Z Z ?_))));rintro _ rfl;refine A2 (A4 Z Z) Z (A2 (C5 Z Z) Z (A2 (C5 Z Z) Z (A2 (A5 Z Z) Z (A2 (A5 Z Z) Z (A6 ?_)))))
 refine k1 (k2 (k2 ?_))
 refine A3 (A2 (A4 Z Z) Z (A2 (M5 Z Z) Z (A6 ?_)))
 refine k1 ?_
 refine B3 rfl (fun ht=>?_) (fun ht=>?_)
 ·have h3:=A0 ht
  refine k2 ?_
  refine A3 (A2 (F3 Z) Z (A2 (A4 Z Z) Z (E6 (B7 TySz.out Z Z Z Z Z Z) (A2 (A5 Z Z) Z (A6 ?_)))))
  refine k1 ?_
  refine F8 (I47 CHunk 2 K8 10 3 Z Z) ?_
  refine k10 (k11 ?_)
  exact B5 (rs:=[O0 comb0,G1 e2]) (R5 rfl rfl rfl rfl rfl rfl rfl) (by rw [if_pos h3])
 have h3:=A1 ht
 rw [if_neg h3]
 refine k5 (k1 (k2 ?_))
 refine A3 (A2 (A4 Z Z) Z (A2 (C8 Z Z Z) Z (A2 (A4 Z Z) Z (A2 (A4 Z Z) Z (C2 (hc) Z Z Z ?_)))));rintro _ rfl;refine A2 (C5 Z Z) Z (A2 (C5 Z Z) Z (E6 (B7 TySz.out Z Z Z Z Z Z) (A2 (A5 Z Z) Z (A6 ?_))))
 refine k1 (k10 ?_)
 exact B5 (R5 rfl rfl rfl rfl rfl rfl rfl) rfl
theorem H70 {path x:Str} {r:List Str} {ctx:Int} {d:Bool} (h:(T7 path x r ctx d).2=0):(I6 x r).2=0∧(O9 (I6 x r).1 ctx d).2=0∧T7 path x r ctx d=W5 path (I6 x r).1 (O9 (I6 x r).1 ctx d).1 d:=by
 unfold T7 at h ⊢
 split at h
 ·cases h
 ·rename_i h1
  rw [if_neg h1]
  split at h
  ·rename_i h2;exact absurd h h2
  ·rename_i h2
   rw [if_neg h2]
   split at h
   ·rename_i h3;exact absurd h h3
   ·rename_i h3
    rw [if_neg h3]
    exact ⟨by omega,by omega,rfl⟩
theorem G66 {path x:Str} {r:List Str} {ctx:Int} {d:Bool} (h:(T7 path x r ctx d).2≠0):(T7 path x r ctx d).1=comb0:=by
 unfold T7 at h ⊢
 split
 ·rfl
 ·rename_i h1
  rw [if_neg h1] at h
  split
  ·rfl
  ·rename_i h2
   rw [if_neg h2] at h
   split
   ·rfl
   ·rename_i h3
    rw [if_neg h3] at h
    unfold W5 at h ⊢
    split
    ·rfl
    ·rename_i h4
     rw [if_neg h4] at h
     split
     ·rfl
     ·rename_i h5
      rw [if_neg h5] at h
      cases hg:X7 (I6 x r).1.Parents.toNat (I6 x r).1.Rows 0 [] (O9 (I6 x r).1 ctx d).1 with
      | none=>rfl
      | some hs =>
       rw [hg] at h
       dsimp only at h ⊢
       split
       ·rfl
       ·rename_i h6
        rw [if_neg h6] at h;exact absurd rfl h
set_option maxHeartbeats 1000000
theorem H14 {n:Nat} {rows:List Row}:∀{sp:List Span} {e:Int} {hs:List CHunk},D60 rows.length e sp=false→X7 n rows e hs sp=none
 | [],e,hs,h=>by cases h
 | s::r,e,hs,h=>by
  rw [D60] at h
  rw [X7]
  by_cases hc:s.From < e∨s.To≤s.From∨(rows.length:Int) < s.To
  ·rw [if_pos hc]
  ·rw [if_neg hc] at h ⊢
   exact H14 h
abbrev z59:Ob:=.box [.p (.v (.string ⟨#[]⟩)),.p (.v (.bool false)),.p (.v (.int .i64 0)),.p (.v (.slice none 0 0))]
set_option maxHeartbeats 1000000
theorem H15 (path:Str) (t:Table) (sp:List Span) (d:Bool) (hr:H8 t.Rows) (hW:(t.Rows.map R8).sum≤8388608) (hx:N8 t.Rows≤8388608) (hsp:sp.length≤536870912) :
  FnOk Tryz.prog 98 [L5 path,pTable t,pSpans sp,I3 d] (fun rs=>rs=[O0 (W5 path t sp d).1,G1 (W5 path t sp d).2]):=by
 have hl:=S6 t.Rows
 have hll:t.Rows.length≤8388608:=by omega
 refine FnOk.intro Tryz.func98 (by decide) Z Z Z Z ?_
 refine k2 ?_
 refine A3 (B9 (N7 5 Z Z Z) Z (B9 (F5 8 Z) Z (A2 (A5 Z Z) Z (A6 ?_))))
 refine k1 (k2 (k2 ?_))
 refine A3 (A2 (A4 Z Z) Z (C2 (B48 path) Z Z Z ?_));rintro _ rfl;refine A2 (J2 Z) Z (A6 ?_)
 refine k1 ?_
 refine B3 rfl (fun ht=>?_) (fun ht=>?_)
 ·have h:N6 path=false:=by simpa using ht
  refine k2 ?_
  refine A3 (A2 (F3 Z) Z (E6 (B7 TySz.out Z Z Z Z Z Z) (A2 (A5 Z Z) Z (A6 ?_))))
  refine k1 ?_
  refine F8 (I47 CHunk 2 K8 8 3 Z Z) ?_
  refine k10 (k11 ?_)
  exact B5 (rs:=[O0 comb0,G1 120]) (R5 rfl rfl rfl rfl rfl rfl rfl) (by unfold W5;rw [if_pos h])
 have h:N6 path=true:=by simpa using ht
 refine k5 (k1 (k2 (k2 ?_)))
 refine A3 (A2 (C8 Z Z Z) Z (C2 (E52 t hr (by omega) (by omega)) Z Z Z ?_));rintro _ rfl;refine A2 (A5 Z Z) Z (A6 ?_)
 refine k1 (k2 ?_)
 refine A3 (A2 (A4 Z Z) Z (A2 (M5 Z Z) Z (A6 ?_)))
 refine k1 ?_
 refine B3 rfl (fun ht=>?_) (fun ht=>?_)
 ·have h1:=A0 ht
  refine k2 ?_
  refine A3 (A2 (F3 Z) Z (A2 (A4 Z Z) Z (E6 (B7 TySz.out Z Z Z Z Z Z) (A2 (A5 Z Z) Z (A6 ?_)))))
  refine k1 ?_
  refine F8 (I47 CHunk 2 K8 8 3 Z Z) ?_
  refine k10 (k11 ?_)
  exact B5 (rs:=[O0 comb0,G1 (I7 t)]) (R5 rfl rfl rfl rfl rfl rfl rfl) (by unfold W5;rw [if_neg (by rw [h];decide),if_pos h1])
 have h1:=A1 ht
 have h10:I7 t=0:=by omega
 obtain ⟨hn1,hn2⟩:=C82 h10
 obtain ⟨n,hn⟩:∃n:Nat,t.Parents=n:=⟨t.Parents.toNat,by omega⟩
 obtain ⟨tp,rows⟩:=t
 have hn:tp=(n:Int):=hn
 subst hn
 dsimp only at hr hW hx hl hll hn1 hn2
 have hcut:W5 path ⟨n,rows⟩ sp d=match X7 n rows 0 [] sp with
  | none=>(comb0,3)
  | some hs=>if J4 ⟨path,d,(n:Int),hs⟩≠0 then (comb0,J4 ⟨path,d,(n:Int),hs⟩) else (⟨path,d,(n:Int),hs⟩,0):=by
  unfold W5;rw [if_neg (by rw [h];decide),if_neg (by omega)];rfl
 rw [hcut]
 obtain ⟨W,hWd⟩:∃W,W=X7 n rows 0 [] sp:=⟨_,rfl⟩
 have hcs:∀hs,W=some hs→szC hs≤268435456∧∀x∈hs,H8 x.Rows:=fun hs e=>F16 (n:=n) (by omega) hr hW (by rw [←hWd];exact e)
 have hord0:=H14 (n:=n) (rows:=rows) (sp:=sp) (e:=0) (hs:=[])
 rw [←hWd] at hord0 ⊢
 refine k5 (k1 (k2 (k2 ?_)))
 refine A3 (A2 (A4 Z Z) Z (A2 (A7 Z) Z (A2 (A8 Z Z Z) Z (A2 (D4 Z (.pure _ _ _ _)) Z (C2 (F80 sp rows.length hsp) Z Z Z ?_)))));rintro _ rfl;refine A2 (J2 Z) Z (A6 ?_)
 refine k1 ?_
 refine B3 rfl (fun ht=>?_) (fun ht=>?_)
 ·have hno:D60 rows.length 0 sp=false:=by simpa using ht
  rw [hord0 hno]
  refine k2 ?_
  refine A3 (A2 (F3 Z) Z (E6 (B7 TySz.out Z Z Z Z Z Z) (A2 (A5 Z Z) Z (A6 ?_))))
  refine k1 ?_
  refine F8 (I47 CHunk 2 K8 8 3 Z Z) ?_
  refine k10 (k11 ?_)
  exact B5 (rs:=[O0 comb0,G1 3]) (R5 rfl rfl rfl rfl rfl rfl rfl) rfl
 have hord:D60 rows.length 0 sp=true:=by simpa using ht
 refine k5 (k1 (k2 ?_))
 refine A3 (A2 (A4 Z Z) Z (A2 (A4 Z Z) Z (A2 (A7 Z) Z (A2 (A8 Z Z Z) Z (A2 (F3 Z) Z (B9 (F5 11 Z) Z (E6 (B7 TySz.out Z Z Z Z Z Z) (A6 ?_))))))))
 refine F8 (I51 754 CHunk 2 K8 59 (kb:=11) (o:=3) Z Z Z) ?_
 refine k2 ?_
 have e0:((n:Int)+1).toNat=n+1:=by omega
 have hz:List.replicate (n+1) (0:Int)=I5 (rows.take 0) n:=by
  refine List.ext_getElem (by simp [I5]) fun q h1 h2=>?_
  simp [I5,N4,M8]
 refine A3 (A2 (A7 Z) Z (A2 (A8 Z Z Z) Z (A2 (C0 Z Z (by omega)) Z (B9 (U0 720 Int F9 0 Z Z (by omega) (by omega) (fun _=>by first | exact ⟨⟨rfl,rfl⟩,trivial⟩ | exact ⟨N3 _ _ _,trivial⟩) (by first | rfl | (simp [H0,H3,Ob.free,SV.free,S1.free,TC.free]<;>rfl))) Z ?_))));refine B9 (F5 12 Z) Z (E6 (B7 TySz.out Z Z Z Z Z Z) (A6 ?_))
 rw [e0,hz]
 refine k1 (k2 ?_)
 refine A3 (B9 (F5 13 Z) Z (E6 (B7 TySz.out Z Z Z Z Z Z) (A6 ?_)))
 refine k1 (k2 ?_)
 refine A3 (A2 (y3 Z Z) Z (A2 (A5 Z Z) Z (A6 ?_)))
 refine k1 (k2 (k2 ?_))
 refine A3 (A2 (A4 Z Z) Z (A2 (D4 Z (.pure _ _ _ _)) Z (A2 (A4 Z Z) Z (A6 ?_))))
 refine k1 (k3 ?_)
 refine C9 (X:=Nat × Nat × List CHunk) (fun x=>([(5,.s (.one (.ref 5 0))),(8,.s (.one (.ref 8 0))),(11,.s (.one (.ref 11 0))),(12,.s (.one (.ref 12 0))),(14,.s (.one (.clo 165 [] [(5,0),(13,0),(12,0)]))),(45,C1 Span 2 spanC sp),(46,B8 sp.length),(47,B8 x.1)],[(5,.box (pTable ⟨n,rows⟩).s1.cells),(8,z59),(11,.box [.p (.v (.string ⟨path.toArray⟩)),.p (.v (.bool d)),.p (.v (.int .i64 n)),.buf 754 CHunk 2 K8 x.2.2]),(754,.spare x.2.2.length 2 59),(12,.box [.mut 720]),(13,l0 x.2.1),(720,.arr Int 1 F9 (I5 (rows.take x.2.1) n))])) (fun x=>x.1≤sp.length∧x.2.1≤rows.length∧x.2.2.length≤x.1∧W=X7 n rows x.2.1 x.2.2 (sp.drop x.1)∧D60 rows.length x.2.1 (sp.drop x.1)=true) (fun x=>sp.length - x.1) (0,0,[]) ⟨Nat.zero_le _,Nat.zero_le _,Nat.le_refl _,hWd,hord⟩ (I45 ⟨le1 rfl,le1 rfl,le1 rfl,le1 rfl,le1 rfl,le1 rfl,le1 rfl,le1 rfl,trivial⟩ ⟨rfl,rfl,rfl,rfl,rfl,rfl,rfl,trivial⟩) ?_
 rintro ⟨k,e,hs⟩ ⟨hk,he,hsl,hp,ho⟩
 dsimp only at hk he hsl hp ho ⊢
 refine k2 ?_
 refine A3 (A2 (D7 Z Z) Z (A6 ?_))
 refine k1 (k2 ?_)
 refine B3 rfl (fun ht=>?_) (fun ht=>?_)
 rotate_left
 ·have hkl:k=sp.length:=by have:=A1 ht;omega
  rw [hkl,I87 (Nat.le_refl _)] at hp
  have hp:W=some hs:=hp
  obtain ⟨z1,z2⟩:=hcs hs hp
  rw [hp]
  dsimp only
  refine k6 (k2 (k2 ?_))
  refine A3 (A2 (C8 Z Z Z) Z (C2 (C52 ⟨path,d,n,hs⟩ z1 z2) Z Z Z ?_));rintro _ rfl;refine A2 (A5 Z Z) Z (A6 ?_)
  refine k1 (k2 ?_)
  refine A3 (A2 (A4 Z Z) Z (A2 (M5 Z Z) Z (A6 ?_)))
  refine k1 ?_
  refine B3 rfl (fun ht=>?_) (fun ht=>?_)
  ·have h2:=A0 ht
   refine k2 ?_
   refine A3 (A2 (F3 Z) Z (A2 (A4 Z Z) Z (E6 (B7 TySz.out Z Z Z Z Z Z) (A2 (A5 Z Z) Z (A6 ?_)))))
   refine k1 ?_
   refine F8 (I47 CHunk 2 K8 8 3 Z Z) ?_
   refine k10 (k11 ?_)
   exact B5 (rs:=[O0 comb0,G1 (J4 ⟨path,d,n,hs⟩)]) (R5 rfl rfl rfl rfl rfl rfl rfl) (by rw [if_pos h2])
  ·have h2:=A1 ht
   refine k5 (k1 (k2 ?_))
   refine A3 (A2 (C8 Z Z Z) Z (E6 (B7 TySz.out Z Z Z Z Z Z) (A2 (A5 Z Z) Z (A6 ?_))))
   refine k1 (k10 ?_)
   exact B5 (rs:=[O0 ⟨path,d,n,hs⟩,G1 0]) (R5 rfl rfl rfl rfl rfl rfl rfl) (by rw [if_neg h2])
 have hlt:k < sp.length:=by have:=A0 ht;omega
 have hv:sp[k]?=some sp[k]:=by simp [hlt]
 rw [I84 hlt,X7] at hp
 rw [I84 hlt,D60] at ho
 obtain ⟨s,hsd⟩:∃s,s=sp[k]:=⟨_,rfl⟩
 rw [←hsd] at hp hv ho
 have hc:¬(s.From < (e:Int)∨s.To≤s.From∨(rows.length:Int) < s.To):=by
  intro hc
  rw [if_pos hc] at ho;cases ho
 rw [if_neg hc] at hp ho
 simp only [not_or,Int.not_lt,Int.not_le] at hc
 obtain ⟨c1,c2,c3⟩:=hc
 obtain ⟨F,hF⟩:∃F:Nat,s.From=F:=⟨s.From.toNat,by omega⟩
 obtain ⟨T,hT⟩:∃T:Nat,s.To=T:=⟨s.To.toNat,by omega⟩
 obtain ⟨sF,sT⟩:=s
 have hF:sF=(F:Int):=hF
 have hT:sT=(T:Int):=hT
 subst hF hT
 dsimp only at c1 c2 c3 hp ho
 rw [I85,I85] at hp
 have hsub:((rows.drop F).take (T - F)).length=T - F:=by rw [I93,I95];omega
 have hcl:(I5 (rows.take F) n).length=n+1:=by simp [I5]
 refine k5 (k1 (k2 (k3 (k2 ?_))))
 refine A3 (A2 (B0 Z (.pure _ _ _ _) Z (by omega) hv) Z (A2 (E1 Z Z) Z (B9 (F5 16 Z) Z (E6 (B7 TySz.out Z Z Z Z Z Z) (A6 ?_)))))
 refine L0 [(5,.s (.one (.ref 5 0))),(8,.s (.one (.ref 8 0))),(11,.s (.one (.ref 11 0))),(12,.s (.one (.ref 12 0))),(14,.s (.one (.clo 165 [] [(5,0),(13,0),(12,0)]))),(16,.s (.one (.ref 16 0))),(45,C1 Span 2 spanC sp),(46,B8 sp.length),(47,B8 k)] [(5,.box (pTable ⟨n,rows⟩).s1.cells),(8,z59),(11,.box [.p (.v (.string ⟨path.toArray⟩)),.p (.v (.bool d)),.p (.v (.int .i64 n)),.buf 754 CHunk 2 K8 hs]),(754,.spare hs.length 2 59),(12,.box [.mut 720]),(13,l0 e),(720,.arr Int 1 F9 (I5 (rows.take e) n)),(16,.box [.p (.v (.int .i64 F)),.p (.v (.int .i64 T))])] (I45 ⟨le1 rfl,le1 rfl,le1 rfl,le1 rfl,le1 rfl,le1 rfl,le1 rfl,le1 rfl,le1 rfl,trivial⟩ ⟨rfl,rfl,rfl,rfl,rfl,rfl,rfl,rfl,trivial⟩) ?_
 refine k2 ?_
 refine A3 (A2 (A4 Z Z) Z (A2 (A7 Z) Z (A2 (A8 Z Z Z) Z (A28 (D59 ⟨n,rows⟩ n e F Z (by omega) hr (by dsimp only;omega) (by omega) (by dsimp only;omega) Z Z Z Z) Z Z Z Z ?_))));rintro _ _ ⟨rfl,rfl⟩;refine A6 ?_
 refine L0 [(5,.s (.one (.ref 5 0))),(8,.s (.one (.ref 8 0))),(11,.s (.one (.ref 11 0))),(12,.s (.one (.ref 12 0))),(14,.s (.one (.clo 165 [] [(5,0),(13,0),(12,0)]))),(16,.s (.one (.ref 16 0))),(45,C1 Span 2 spanC sp),(46,B8 sp.length),(47,B8 k)] [(5,.box (pTable ⟨n,rows⟩).s1.cells),(8,z59),(11,.box [.p (.v (.string ⟨path.toArray⟩)),.p (.v (.bool d)),.p (.v (.int .i64 n)),.buf 754 CHunk 2 K8 hs]),(754,.spare hs.length 2 59),(12,.box [.mut 720]),(13,l0 F),(720,.arr Int 1 F9 (I5 (rows.take F) n)),(16,.box [.p (.v (.int .i64 F)),.p (.v (.int .i64 T))])] (I45 ⟨le1 rfl,le1 rfl,le1 rfl,le1 rfl,le1 rfl,le1 rfl,le1 rfl,le1 rfl,le1 rfl,trivial⟩ ⟨rfl,rfl,rfl,rfl,rfl,rfl,rfl,rfl,trivial⟩) ?_
 refine k2 ?_
 have hCR:=H57 ((rows.drop F).take (T - F)) (by omega)
 have hCI:=fun gf ob h=>G56 (gf:=gf) (ob:=ob) (I5 (rows.take F) n) (by omega) h
 refine T0 [16,14,3] [[],[3],[14,3],[16,14,3]] [(3,([],[])),(14,([754],[56])),(16,([],[]))] [(0,[]),(1,[]),(2,[]),(3,[]),(4,[]),(5,[]),(6,[]),(7,[]),(8,[]),(9,[]),(10,[]),(11,[3]),(12,[3]),(13,[3]),(14,[3]),(15,[14,3]),(16,[14,3])] [(0,[3]),(1,[3]),(4,[3]),(5,[3]),(6,[3]),(7,[3]),(8,[3]),(9,[3]),(10,[3])] (by kernel_rfl) (by kernel_rfl) (E0 Z Z (by kernel_rfl) Z Z (A7 Z) (E0 Z Z (by kernel_rfl) Z Z (A8 Z Z Z) (E0 Z Z (by kernel_rfl) Z Z (A8 Z Z Z) (Y5 Z Z (by kernel_rfl) Z Z (r_met (fun gf=>hCI gf _ Z) Z Z) Z (E0 Z Z (by kernel_rfl) Z Z (A7 Z) (E0 Z Z (by kernel_rfl) Z Z (A8 Z Z Z) (E0 Z Z (by kernel_rfl) Z Z (A7 Z) (E0 Z Z (by kernel_rfl) Z Z (A8 Z Z Z) (E0 Z Z (by kernel_rfl) Z Z (A7 Z) (E0 Z Z (by kernel_rfl) Z Z (A8 Z Z Z) (E0 Z Z (by kernel_rfl) Z Z (T5 Z (.pure _ _ _ _) Z Z (by (first | omega | (dsimp only;omega))) (by (first | omega | (dsimp only;omega))) (by (first | omega | (dsimp only;omega)))) (E0 Z Z (by kernel_rfl) Z Z (H6 (hCR) Z Z) (E0 Z Z (by kernel_rfl) Z Z (F3 Z) (E0 Z Z (by kernel_rfl) Z Z (C4 (c:=K8) (ys:=[⟨I5 (rows.take F) n,(rows.drop F).take (T - F)⟩]) (D5 Z Z Z Z E7) Z Z Z) (Y5 Z Z (by kernel_rfl) Z Z (C47 (fun frc hU=>F0 (W1 hU Z) Z (W1 hU Z) (.pure _ _ _ _) (by (simp only [I79,I81];omega)) Z)) Z (E0 Z Z (by kernel_rfl) Z Z (A7 Z) (Y5 Z Z (by kernel_rfl) Z Z (D43 (fun frc hU=>B7 TySz.out (W1 hU Z) Z (W1 hU Z) Z Z Z)) Z ?_)))))))))))))))));refine D41 (by kernel_rfl) rfl ?_ ?_
 ·refine J0 Z Z (by kernel_rfl) Z Z (A7 Z) (J0 Z Z (by kernel_rfl) Z Z (A8 Z Z Z) (J0 Z Z (by kernel_rfl) Z Z (A7 Z) (J0 Z Z (by kernel_rfl) Z Z (A8 Z Z Z) (J0 Z Z (by kernel_rfl) Z Z (A7 Z) (J0 Z Z (by kernel_rfl) Z Z (A8 Z Z Z) (J0 Z Z (by kernel_rfl) Z Z (A7 Z) (J0 Z Z (by kernel_rfl) Z Z (A8 Z Z Z) (J0 Z Z (by kernel_rfl) Z Z (T5 Z (.pure _ _ _ _) Z Z (by (first | omega | (dsimp only;omega))) (by (first | omega | (dsimp only;omega))) (by (first | omega | (dsimp only;omega)))) ?_))))))));exact C75
 refine L0 [(5,.s (.one (.ref 5 0))),(8,.s (.one (.ref 8 0))),(11,.s (.one (.ref 11 0))),(12,.s (.one (.ref 12 0))),(14,.s (.one (.clo 165 [] [(5,0),(13,0),(12,0)]))),(16,.s (.one (.ref 16 0))),(45,C1 Span 2 spanC sp),(46,B8 sp.length),(47,B8 k)] [(5,.box (pTable ⟨n,rows⟩).s1.cells),(8,z59),(11,.box [.p (.v (.string ⟨path.toArray⟩)),.p (.v (.bool d)),.p (.v (.int .i64 n)),.buf 754 CHunk 2 K8 (hs++[⟨I5 (rows.take F) n,(rows.drop F).take (T - F)⟩])]),(754,.spare (hs++[(⟨I5 (rows.take F) n,(rows.drop F).take (T - F)⟩:CHunk)]).length 2 59),(12,.box [.mut 720]),(13,l0 F),(720,.arr Int 1 F9 (I5 (rows.take F) n)),(16,.box [.p (.v (.int .i64 F)),.p (.v (.int .i64 T))])] (I45 ⟨le1 rfl,le1 rfl,le1 rfl,le1 rfl,le1 rfl,le1 rfl,le1 rfl,le1 rfl,le1 rfl,trivial⟩ ⟨rfl,rfl,rfl,rfl,rfl,rfl,rfl,rfl,trivial⟩) ?_
 skip
 refine A3 (A2 (A4 Z Z) Z (A2 (A7 Z) Z (A2 (A8 Z Z Z) Z (A28 (D59 ⟨n,rows⟩ n F T Z (by omega) hr (by dsimp only;omega) (by omega) (by dsimp only;omega) Z Z Z Z) Z Z Z Z ?_))));rintro _ _ ⟨rfl,rfl⟩;refine A6 ?_
 refine k4 (k1 ?_)
 refine A3 (A2 (C0 Z Z (by omega)) Z (A2 (A4 Z Z) Z (A6 ?_)))
 refine k1 ?_
 exact ⟨(k+1,T,hs++[⟨I5 (rows.take F) n,(rows.drop F).take (T - F)⟩]),⟨by dsimp only;omega,by dsimp only;omega,by dsimp only;rw [I78];simp;omega,hp,ho⟩,by dsimp only;omega,I45 ⟨le1 rfl,le1 rfl,le1 rfl,le1 rfl,le1 rfl,le1 rfl,le1 rfl,le1 rfl,trivial⟩ ⟨rfl,rfl,rfl,rfl,rfl,rfl,rfl,trivial⟩⟩
theorem D67 (path x:Str) (r:List Str) (ctx:Int) (d:Bool) (h:Small16 x r) (hL:∀b∈x::r,(C7 b).length≤16):FnOk Tryz.prog 42 [L5 path,L5 x,j1 r,G1 ctx,I3 d] (fun rs=>rs=[O0 (T7 path x r ctx d).1,G1 (T7 path x r ctx d).2]):=by
 have hx:=h.hx
 obtain ⟨s1,s2,s3⟩:=h.sums
 have hl:=h.len
 have hrows:=h.rows
 have hrn:=h.n
 have hm:=F75 x r 16 (by omega) (by omega) ⟨hL x (by simp),by omega⟩ (fun b hb=>⟨hL b (by simp [hb]),by have:=h.hr b hb;omega⟩)
 obtain ⟨t,e,hte⟩:∃t e,I6 x r=(t,e):=⟨_,_,rfl⟩
 rw [hte] at s1 s2 hl hrows hm
 dsimp only at s1 s2 hl hrows hm
 have hh:=H55 t ctx d hrows (by omega) (by omega)
 have hin:=G27 t ctx d
 obtain ⟨sp,e2,hsp⟩:∃sp e2,O9 t ctx d=(sp,e2):=⟨_,_,rfl⟩
 rw [hsp] at hh hin
 dsimp only at hh hin
 have hc:=H15 path t sp d hrows (by omega) (by omega) (by have:=hin.1;omega)
 have hres:T7 path x r ctx d=if N6 path=false then (comb0,120) else if e≠0 then (comb0,e) else if e2≠0 then (comb0,e2) else W5 path t sp d:=by
  unfold T7;rw [hte];dsimp only;rw [hsp]
 rw [hres]
 refine FnOk.intro Tryz.func42 (by decide) Z Z Z Z ?_
 refine k2 ?_
 refine A3 (B9 (F5 10 Z) Z (A2 (A5 Z Z) Z (A6 ?_)))
 refine k1 (k2 (k2 ?_))
 refine A3 (A2 (A4 Z Z) Z (C2 (B48 path) Z Z Z ?_));rintro _ rfl;refine A2 (J2 Z) Z (A6 ?_)
 refine k1 ?_
 refine B3 rfl (fun ht=>?_) (fun ht=>?_)
 ·have h:N6 path=false:=by simpa using ht
  refine k2 ?_
  refine A3 (A2 (F3 Z) Z (E6 (B7 TySz.out Z Z Z Z Z Z) (A2 (A5 Z Z) Z (A6 ?_))))
  refine k1 ?_
  refine F8 (I47 CHunk 2 K8 10 3 Z Z) ?_
  refine k10 (k11 ?_)
  exact B5 (rs:=[O0 comb0,G1 120]) (R5 rfl rfl rfl rfl rfl rfl rfl) (by rw [if_pos h])
 have h1:N6 path=true:=by simpa using ht
 rw [if_neg (by rw [h1];decide)]
 refine k5 (k1 (k2 ?_))
 refine A3 (A2 (A4 Z Z) Z (A2 (A4 Z Z) Z (C2 (hm) Z Z Z ?_)));rintro _ rfl;refine A2 (A4 Z Z) Z (A2 (C5 Z Z) Z (A2 (C5 Z Z) Z (B9 (F5 12 Z) Z (E6 (B7 TySz.out Z Z Z Z Z Z) (A2 (A5 Z Z) Z (A6 ?_))))))
 refine k1 (k2 (k2 ?_))
 refine A3 (A2 (A4 Z Z) Z (A2 (M5 Z Z) Z (A6 ?_)))
 refine k1 ?_
 refine B3 rfl (fun ht=>?_) (fun ht=>?_)
 ·have h2:=A0 ht
  refine k2 ?_
  refine A3 (A2 (F3 Z) Z (A2 (A4 Z Z) Z (E6 (B7 TySz.out Z Z Z Z Z Z) (A2 (A5 Z Z) Z (A6 ?_)))))
  refine k1 ?_
  refine F8 (I47 CHunk 2 K8 10 3 Z Z) ?_
  refine k10 (k11 ?_)
  exact B5 (rs:=[O0 comb0,G1 e]) (R5 rfl rfl rfl rfl rfl rfl rfl) (by rw [if_pos h2])
 have h2:=A1 ht
 rw [if_neg h2]
 refine k5 (k1 (k2 ?_))
 refine A3 (A2 (C8 Z Z Z) Z (A2 (A4 Z Z) Z (A2 (A4 Z Z) Z (C2 (hh) Z Z Z ?_))));rintro _ rfl;refine A2 (A4 Z Z) Z (A2 (C5 Z Z) Z (A2 (C5 Z Z) Z (A2 (A5 Z Z) Z (A2 (A5 Z Z) Z (A6 ?_)))))
 refine k1 (k2 (k2 ?_))
 refine A3 (A2 (A4 Z Z) Z (A2 (M5 Z Z) Z (A6 ?_)))
 refine k1 ?_
 refine B3 rfl (fun ht=>?_) (fun ht=>?_)
 ·have h3:=A0 ht
  refine k2 ?_
  refine A3 (A2 (F3 Z) Z (A2 (A4 Z Z) Z (E6 (B7 TySz.out Z Z Z Z Z Z) (A2 (A5 Z Z) Z (A6 ?_)))))
  refine k1 ?_
  refine F8 (I47 CHunk 2 K8 10 3 Z Z) ?_
  refine k10 (k11 ?_)
  exact B5 (rs:=[O0 comb0,G1 e2]) (R5 rfl rfl rfl rfl rfl rfl rfl) (by rw [if_pos h3])
 have h3:=A1 ht
 rw [if_neg h3]
 refine k5 (k1 (k2 ?_))
 refine A3 (A2 (A4 Z Z) Z (A2 (C8 Z Z Z) Z (A2 (A4 Z Z) Z (A2 (A4 Z Z) Z (C2 (hc) Z Z Z ?_)))));rintro _ rfl;refine A2 (C5 Z Z) Z (A2 (C5 Z Z) Z (E6 (B7 TySz.out Z Z Z Z Z Z) (A2 (A5 Z Z) Z (A6 ?_))))
 refine k1 (k10 ?_)
 exact B5 (R5 rfl rfl rfl rfl rfl rfl rfl) rfl
def w8 (t:Table):List Span:=if 0 < t.Rows.length then [⟨0,t.Rows.length⟩] else []
def b8 (path x:Str) (r:List Str):Comb × Int :=
 if N6 path=false then (comb0,120) else if (I6 x r).2≠0 then (comb0,(I6 x r).2) else W5 path (I6 x r).1 (w8 (I6 x r).1) false
set_option maxHeartbeats 1000000
theorem F94 (path x:Str) (r:List Str) (h:Small16 x r) (hL:∀b∈x::r,(C7 b).length≤16):FnOk Tryz.prog 43 [L5 path,L5 x,j1 r] (fun rs=>rs=[O0 (b8 path x r).1,G1 (b8 path x r).2]):=by
 have hx:=h.hx
 obtain ⟨s1,s2,s3⟩:=h.sums
 have hl:=h.len
 have hrows:=h.rows
 have hrn:=h.n
 have hm:=F75 x r 16 (by omega) (by omega) ⟨hL x (by simp),by omega⟩ (fun b hb=>⟨hL b (by simp [hb]),by have:=h.hr b hb;omega⟩)
 obtain ⟨t,e,hte⟩:∃t e,I6 x r=(t,e):=⟨_,_,rfl⟩
 rw [hte] at s1 s2 hl hrows hm
 dsimp only at s1 s2 hl hrows hm
 have hc:=H15 path t (w8 t) false hrows (by omega) (by omega) (by unfold w8;split<;>simp)
 have hres:b8 path x r=if N6 path=false then (comb0,120) else if e≠0 then (comb0,e) else W5 path t (w8 t) false:=by
  unfold b8;rw [hte]
 rw [hres]
 refine FnOk.intro Tryz.func43 (by decide) Z Z Z Z ?_
 refine k2 ?_
 refine A3 (B9 (F5 6 Z) Z (A2 (A5 Z Z) Z (A6 ?_)))
 refine k1 (k2 (k2 ?_))
 refine A3 (A2 (A4 Z Z) Z (C2 (B48 path) Z Z Z ?_));rintro _ rfl;refine A2 (J2 Z) Z (A6 ?_)
 refine k1 ?_
 refine B3 rfl (fun ht=>?_) (fun ht=>?_)
 ·have h:N6 path=false:=by simpa using ht
  refine k2 ?_
  refine A3 (A2 (F3 Z) Z (E6 (B7 TySz.out Z Z Z Z Z Z) (A2 (A5 Z Z) Z (A6 ?_))))
  refine k1 ?_
  refine F8 (I47 CHunk 2 K8 6 3 Z Z) ?_
  refine k10 (k11 ?_)
  exact B5 (rs:=[O0 comb0,G1 120]) (R5 rfl rfl rfl rfl rfl rfl rfl) (by rw [if_pos h])
 have h1:N6 path=true:=by simpa using ht
 rw [if_neg (by rw [h1];decide)]
 refine k5 (k1 (k2 ?_))
 refine A3 (A2 (A4 Z Z) Z (A2 (A4 Z Z) Z (C2 (hm) Z Z Z ?_)));rintro _ rfl;refine A2 (A4 Z Z) Z (A2 (C5 Z Z) Z (A2 (C5 Z Z) Z (B9 (F5 8 Z) Z (E6 (B7 TySz.out Z Z Z Z Z Z) (A2 (A5 Z Z) Z (A6 ?_))))))
 refine k1 (k2 (k2 ?_))
 refine A3 (A2 (A4 Z Z) Z (A2 (M5 Z Z) Z (A6 ?_)))
 refine k1 ?_
 refine B3 rfl (fun ht=>?_) (fun ht=>?_)
 ·have h2:=A0 ht
  refine k2 ?_
  refine A3 (A2 (F3 Z) Z (A2 (A4 Z Z) Z (E6 (B7 TySz.out Z Z Z Z Z Z) (A2 (A5 Z Z) Z (A6 ?_)))))
  refine k1 ?_
  refine F8 (I47 CHunk 2 K8 6 3 Z Z) ?_
  refine k10 (k11 ?_)
  exact B5 (rs:=[O0 comb0,G1 e]) (R5 rfl rfl rfl rfl rfl rfl rfl) (by rw [if_pos h2])
 have h2:=A1 ht
 rw [if_neg h2]
 refine k5 (k1 (k2 ?_))
 refine A3 (A2 (J1 _ 2 spanC) Z (A6 ?_))
 refine k1 (k2 (k2 ?_))
 refine A3 (A2 (A7 Z) Z (A2 (A8 Z Z Z) Z (A2 (D4 Z (.pure _ _ _ _)) Z (A2 (M4 Z Z) Z (A6 ?_)))))
 refine k1 ?_
 refine B3 rfl (fun ht=>?_) (fun ht=>?_)
 ·have h3:=A0 ht
  have hsp:w8 t=[⟨0,t.Rows.length⟩]:=by unfold w8;rw [if_pos (by omega)]
  rw [hsp] at hc ⊢
  skip
  refine A3 (A2 (A7 Z) Z (A2 (A8 Z Z Z) Z (A2 (D4 Z (.pure _ _ _ _)) Z (A2 (F3 Z) Z (A2 (C4 (c:=spanC) (ys:=[⟨0,(t.Rows.length:Int)⟩]) (D5 Z Z Z Z E7) Z Z Z) Z (A2 (A5 Z Z) Z (A6 ?_)))))))
  refine k1 (k2 ?_)
  refine A3 (A2 (A4 Z Z) Z (A2 (C8 Z Z Z) Z (A2 (A4 Z Z) Z (C2 (hc) Z Z Z ?_))));rintro _ rfl;refine A2 (C5 Z Z) Z (A2 (C5 Z Z) Z (E6 (B7 TySz.out Z Z Z Z Z Z) (A2 (A5 Z Z) Z (A6 ?_))))
  refine k1 (k10 ?_)
  exact B5 (R5 rfl rfl rfl rfl rfl rfl rfl) rfl
 ·have h3:=A1 ht
  have hsp:w8 t=[]:=by unfold w8;rw [if_neg (by omega)]
  rw [hsp] at hc ⊢
  refine k5 (k1 (k2 ?_))
  refine A3 (A2 (A4 Z Z) Z (A2 (C8 Z Z Z) Z (A2 (A4 Z Z) Z (C2 (hc) Z Z Z ?_))));rintro _ rfl;refine A2 (C5 Z Z) Z (A2 (C5 Z Z) Z (E6 (B7 TySz.out Z Z Z Z Z Z) (A2 (A5 Z Z) Z (A6 ?_))))
  refine k1 (k10 ?_)
  exact B5 (R5 rfl rfl rfl rfl rfl rfl rfl) rfl
def exX:Str:=[97,10,99,10]
def exR:List Str:=[[97,10,98,10],[97,10,99,10]]
def exC:Comb:=⟨[120],false,2,[⟨[0,0,0],[⟨false,0,[97,10]⟩,⟨true,1,[98,10]⟩,⟨false,1,[99,10]⟩]⟩]⟩
def exS:Str:=[100,105,102,102,32,45,45,99,111,109,98,105,110,101,100,32,120,10,112,97,114,101,110,116,115,32,50,10,64,64,64,32,45,49,44,50,32,45,49,44,50,32,43,49,44,50,32,64,64,64,10,32,32,97,10,45,32,98,10,43,32,99,10]
theorem ex_c0:F2 [[],[]]=([],0):=by simp [F2,J3,U2,Q4,F7,F6]
theorem ex_c1:F2 [[2],[]]=([⟨2,1⟩],0):=by
 have hb:I0 0=1:=by decide
 simp [F2,J3,U2,Q4,F7,F6,hb]
def l5:List (List Int):=[[0,1],[0,2],[0,1]]
theorem ex_loom:(Q9 l5 2 2 2).1=[0,1]∧(Q9 l5 2 2 2).2 0=[[],[]]∧(Q9 l5 2 2 2).2 1=[[2],[]]∧(Q9 l5 2 2 2).2 2=[[],[]]:=by
 have w0:L6 [0,2] [0,1]=[⟨1,1,1,1⟩]:=by simp [L6,F6,dist,Y8,O5]
 have w1:L6 [0,1] [0,1]=[]:=by simp [L6,F6,Y8,O5]
 have h0:L7 l5 (w9 2 2) 0=((P5 [⟨1,1,1,1⟩] 2).foldl (K2 0) ((w9 2 2).1.map (K4 · (I0 0))),[(⟨1,1,1,1⟩:Change)].foldl (J5 0 [0,2]) (w9 2 2).2):=by
  rw [←w0];rfl
 have h1:Q9 l5 2 2 2=((P5 [] 2).foldl (K2 1) ((L7 l5 (w9 2 2) 0).1.map (K4 · (I0 1))),(L7 l5 (w9 2 2) 0).2):=by
  show L7 l5 (L7 l5 (w9 2 2) 0) 1=_
  have:L7 l5 (L7 l5 (w9 2 2) 0) 1=((P5 (L6 [0,1] [0,1]) 2).foldl (K2 1) ((L7 l5 (w9 2 2) 0).1.map (K4 · (I0 1))),(L6 [0,1] [0,1]).foldl (J5 1 [0,1]) (L7 l5 (w9 2 2) 0).2):=rfl
  rw [this,w1];rfl
 rw [h1,h0]
 refine ⟨by decide,by decide,by decide,by decide⟩
theorem ex_make:I6 exX exR=(⟨2,[⟨false,0,[97,10]⟩,⟨true,1,[98,10]⟩,⟨false,1,[99,10]⟩]⟩,0):=by
 have e0:C7 exX=[[97,10],[99,10]]:=by decide
 have e1:exR.map C7=[[[97,10],[98,10]],[[97,10],[99,10]]]:=by decide
 have e2:E2 [[[97,10],[99,10]],[[97,10],[98,10]],[[97,10],[99,10]]]=[[97,10],[99,10],[98,10]]:=by decide
 have e3:[[[97,10],[99,10]],[[97,10],[98,10]],[[97,10],[99,10]]].map (L3 [[97,10],[99,10],[98,10]])=l5:=by decide
 obtain ⟨l1,l2,l3,l4⟩:=ex_loom
 have hR:exR.length=2:=rfl
 have hc:∀k,k < 3→F2 ((Q9 l5 2 2 2).2 k)=if k=1 then ([⟨2,1⟩],0) else ([],0):=by
  intro k hk
  match k,hk with
  | 0,_=>rw [l2,ex_c0];rfl
  | 1,_=>rw [l3,ex_c1];rfl
  | 2,_=>rw [l4,ex_c0];rfl
 unfold I6
 rw [if_neg (by decide)]
 dsimp only
 rw [e0,e1,e2,e3]
 have hno:¬∃k,k < 3∧(F2 ((Q9 l5 2 2 2).2 k)).2≠0:=by
  rintro ⟨k,hk,h⟩
  rw [hc k hk] at h
  split at h<;>exact h rfl
 refine (if_neg hno).trans ?_
 show ((⟨2,V2 [[97,10],[99,10],[98,10]] [[97,10],[99,10]] (Q9 l5 2 2 2) 3⟩:Table),(0:Int))=_
 have hr:∀k,k < 3→W0 [[97,10],[99,10],[98,10]] [[97,10],[99,10]] (Q9 l5 2 2 2) k=if k=0 then [⟨false,0,[97,10]⟩] else if k=1 then [⟨true,1,[98,10]⟩,⟨false,1,[99,10]⟩] else []:=by
  intro k hk
  unfold W0
  rw [hc k hk,l1]
  match k,hk with
  | 0,_=>rfl
  | 1,_=>rfl
  | 2,_=>rfl
 rw [d6,d6,d6,hr 0 (by omega),hr 1 (by omega),hr 2 (by omega)]
 rfl
theorem F95:J4 exC=0:=by kernel_rfl
theorem ex_full:b8 [120] exX exR=(exC,0):=by
 unfold b8
 rw [ex_make,if_neg (by decide),if_neg (by decide)]
 dsimp only
 have h1:I7 ⟨2,[⟨false,0,[97,10]⟩,⟨true,1,[98,10]⟩,⟨false,1,[99,10]⟩]⟩=0:=by decide
 have h2:X7 (Int.toNat 2) [⟨false,0,[97,10]⟩,⟨true,1,[98,10]⟩,⟨false,1,[99,10]⟩] 0 [] (w8 ⟨2,[⟨false,0,[97,10]⟩,⟨true,1,[98,10]⟩,⟨false,1,[99,10]⟩]⟩)=some exC.Hunks:=by decide
 unfold W5
 rw [if_neg (by decide),h1,if_neg (by decide)]
 dsimp only
 rw [h2]
 dsimp only
 rw [show J4 ⟨[120],false,2,exC.Hunks⟩=0 from F95,if_neg (by decide)]
 rfl
theorem I22:A37 exC=exS:=by kernel_rfl
theorem ex_small:Small16 exX exR∧∀b∈exX::exR,(C7 b).length≤16:=by
 have hall:∀b∈exX::exR,(C7 b).length≤16∧b.length≤140:=by
  intro b hb
  have h1:b.length≤4:=by
   have:∀b∈exX::exR,b.length≤4:=by decide
   exact this b hb
  have h2:=R6 b
  omega
 obtain ⟨k1,k2,k3⟩:=C38 exX exR 16 140 (hall exX (by simp)) (fun b hb=>hall b (by simp [hb]))
 exact ⟨⟨by decide,by decide,fun b hb=>(hall b (by simp [hb])).2,k1,Nat.le_trans k2 (by decide),k3⟩,fun b hb=>(hall b hb).1⟩
theorem D68:FnOk Tryz.prog 35 [] (fun rs=>rs=[I3 true]):=by
 have h1:=F94 [120] exX exR ex_small.1 ex_small.2
 rw [ex_full] at h1
 have h2:=G54 exC (by decide) (by intro h hh;simp [exC] at hh;subst hh;intro r hr;simp at hr;rcases hr with rfl | rfl | rfl<;>decide)
 rw [if_pos F95,I22] at h2
 refine FnOk.intro Tryz.func35 (by decide) Z Z Z Z ?_
 refine k2 ?_
 refine A3 (A2 (A5 Z Z) Z (A6 ?_))
 refine k1 (k2 ?_)
 refine A3 (A2 (C4 (c:=K6) (ys:=exR) (D5 Z Z Z Z (D5 Z Z Z Z E7)) Z Z Z) Z (C2 (h1) Z Z Z ?_));rintro _ rfl;refine A2 (A4 Z Z) Z (A2 (C5 Z Z) Z (A2 (C5 Z Z) Z (B9 (F5 1 Z) Z (E6 (B7 TySz.out Z Z Z Z Z Z) (A2 (A5 Z Z) Z (A6 ?_))))))
 refine k1 (k2 ?_)
 refine A3 (A2 (C8 Z Z Z) Z (C2 (h2) Z Z Z ?_));rintro _ rfl;refine A2 (A4 Z Z) Z (A2 (C5 Z Z) Z (A2 (C5 Z Z) Z (A2 (A5 Z Z) Z (A2 (A5 Z Z) Z (A6 ?_)))))
 refine k1 (k2 ?_)
 refine A3 (A2 (A4 Z Z) Z (A2 (J6 Z Z) Z (A2 (A4 Z Z) Z (B1 Z Z Z Z (fun hg=>by rw [hg];exact A4 Z Z) ?_))));refine B1 Z Z Z Z (fun hg=>by rw [hg];exact J6 Z Z) ?_;refine A2 (B6 Z (fun h=>by first | rfl | (rw [h];rfl)) (fun h=>by first | rfl | (rw [h];rfl))) Z ?_;refine A2 (A4 Z Z) Z (B1 Z Z Z Z (fun hg=>by rw [hg];exact A4 Z Z) ?_);refine B1 Z Z Z Z (fun hg=>by rw [hg];exact B98 Z Z) ?_;refine A2 (B6 Z (fun h=>by first | rfl | (rw [h];rfl)) (fun h=>by first | rfl | (rw [h];rfl))) Z ?_;refine A2 (A5 Z Z) Z (A6 ?_)
 refine k1 (k10 ?_)
 exact B5 (rs:=[I3 true]) (F1 rfl rfl rfl) rfl
theorem H71 (raw:List Int) (n:Int) (x:Str) (r:List Str) (h:n8 raw n=x::r):FnOk Tryz.prog 36 [N5 raw,G1 n] (fun rs=>rs=[L5 x,j1 r]):=by
 have hm:=j7 n (n:=4) (by omega)
 have hlen:(x::r).length=(2+Q5 n 4).toNat:=by rw [←h];simp [n8,X9]
 have hb:=I07 raw (2+Q5 n 4).toNat 7 (by omega) (by omega)
 have hcast:(((2+Q5 n 4).toNat:Nat):Int)=2+Q5 n 4:=by omega
 rw [hcast] at hb
 have hbr:X9 raw (2+Q5 n 4).toNat 7=x::r:=h
 rw [hbr] at hb
 refine FnOk.intro Tryz.func36 (by decide) Z Z Z Z ?_
 refine k2 ?_
 refine A3 (A2 (A5 Z Z) Z (A2 (A5 Z Z) Z (A6 ?_)))
 refine k1 (k2 ?_)
 refine A3 (A2 (A4 Z Z) Z (A2 (A4 Z Z) Z (C2 (C48 n 4 (by omega) (by omega)) Z Z Z ?_)));rintro _ rfl;refine A2 (C0 Z Z (by omega)) Z (C2 (hb) Z Z Z ?_);rintro _ rfl;refine A2 (A5 Z Z) Z (A6 ?_)
 refine k1 (k2 ?_)
 refine D2 (by kernel_rfl) (by kernel_rfl) (A9 (A4 Z Z) Z Z (A9 (B0 Z (.pure _ _ _ _) Z (by omega) (show (x::r)[(0:Int).toNat]?=some x from Z)) Z Z (A9 (B2 Z Z) Z Z (A9 (A4 Z Z) Z Z (A9 (C42 Z (.pure _ _ _ _) Z (by (first | omega | (simp only [I79];omega))) (by (first | omega | (simp only [I79];omega)))) Z Z (A9 (A5 Z Z) Z Z (A9 (A5 Z Z) Z Z (K7 ?_))))))))
 refine k1 (k10 ?_)
 refine B5 (d7 Z Z Z Z Z) ?_
 rfl
theorem I23 {raw:List Int} {n:Int} {x:Str} {r:List Str} (h:n8 raw n=x::r):∀b∈x::r,(C7 b).length≤16:=by rw [←h];exact fun b hb=>(D65 raw n b hb).1
theorem B25 (x:Str):I6 x []=(⟨0,[]⟩,2):=by unfold I6;rw [if_pos (by simp)]
theorem G67 {x:Str} (hx:x.length≤140):Small16 x [] :=
 ⟨Nat.zero_le _,hx,fun b hb=>(by cases hb),by rw [B25];exact fun r hr=>(by cases hr),by rw [B25];exact Nat.zero_le _,by rw [B25];exact fun r hr=>(by cases hr)⟩
theorem E61 {path x:Str} {r:List Str} {ctx:Int} {d:Bool} (h:Small16 x r):szC (T7 path x r ctx d).1.Hunks≤268435456∧∀y∈(T7 path x r ctx d).1.Hunks,H8 y.Rows:=by
 by_cases he:(T7 path x r ctx d).2=0
 ·obtain ⟨_,_,e1⟩:=H70 he
  rw [e1];exact F90 h.rows (by have:=h.sums.2.1;omega)
 ·rw [G66 he];exact ⟨by decide,fun y hy=>by cases hy⟩
theorem H72 {path x:Str} {r:List Str} (h:Small16 x r):szC (b8 path x r).1.Hunks≤268435456∧∀y∈(b8 path x r).1.Hunks,H8 y.Rows:=by
 unfold b8
 split
 ·exact ⟨Nat.zero_le _,fun y hy=>by cases hy⟩
 ·split
  ·exact ⟨Nat.zero_le _,fun y hy=>by cases hy⟩
  ·exact F90 h.rows (by have:=h.sums.2.1;omega)
set_option maxHeartbeats 1000000
theorem I24 (path x:Str) (r:List Str) (h:Small16 x r):FnOk Tryz.prog 44 [L5 path,L5 x,j1 r] (fun rs=>rs=[O0 (b8 path x r).1,G1 (b8 path x r).2]):=by
 have hx:=h.hx
 obtain ⟨s1,s2,s3⟩:=h.sums
 have hl:=h.len
 have hrows:=h.rows
 have hm:=E60 x r (by omega) (fun b hb=>by have:=h.hr b hb;omega)
 obtain ⟨t,e,hte⟩:∃t e,I6 x r=(t,e):=⟨_,_,rfl⟩
 rw [hte] at s1 s2 hl hrows hm
 dsimp only at s1 s2 hl hrows hm
 have hc:=H13 path t (w8 t) false hrows (by omega) (by omega) (by unfold w8;split<;>simp)
 have hres:b8 path x r=if N6 path=false then (comb0,120) else if e≠0 then (comb0,e) else W5 path t (w8 t) false:=by
  unfold b8;rw [hte]
 rw [hres]
 refine FnOk.intro Tryz.func44 (by decide) Z Z Z Z ?_
 refine k2 ?_
 refine A3 (B9 (F5 6 Z) Z (A2 (A5 Z Z) Z (A6 ?_)))
 refine k1 (k2 (k2 ?_))
 refine A3 (A2 (A4 Z Z) Z (C2 (C17 path) Z Z Z ?_));rintro _ rfl;refine A2 (J2 Z) Z (A6 ?_)
 refine k1 ?_
 refine B3 rfl (fun ht=>?_) (fun ht=>?_)
 ·have h:N6 path=false:=by simpa using ht
  refine k2 ?_
  refine A3 (A2 (F3 Z) Z (E6 (B7 TySz.out Z Z Z Z Z Z) (A2 (A5 Z Z) Z (A6 ?_))))
  refine k1 ?_
  refine F8 (I47 CHunk 2 K8 6 3 Z Z) ?_
  refine k10 (k11 ?_)
  exact B5 (rs:=[O0 comb0,G1 120]) (R5 rfl rfl rfl rfl rfl rfl rfl) (by rw [if_pos h])
 have h1:N6 path=true:=by simpa using ht
 rw [if_neg (by rw [h1];decide)]
 refine k5 (k1 (k2 ?_))
 refine A3 (A2 (A4 Z Z) Z (A2 (A4 Z Z) Z (C2 (hm) Z Z Z ?_)));rintro _ rfl;refine A2 (A4 Z Z) Z (A2 (C5 Z Z) Z (A2 (C5 Z Z) Z (B9 (F5 8 Z) Z (E6 (B7 TySz.out Z Z Z Z Z Z) (A2 (A5 Z Z) Z (A6 ?_))))))
 refine k1 (k2 (k2 ?_))
 refine A3 (A2 (A4 Z Z) Z (A2 (M5 Z Z) Z (A6 ?_)))
 refine k1 ?_
 refine B3 rfl (fun ht=>?_) (fun ht=>?_)
 ·have h2:=A0 ht
  refine k2 ?_
  refine A3 (A2 (F3 Z) Z (A2 (A4 Z Z) Z (E6 (B7 TySz.out Z Z Z Z Z Z) (A2 (A5 Z Z) Z (A6 ?_)))))
  refine k1 ?_
  refine F8 (I47 CHunk 2 K8 6 3 Z Z) ?_
  refine k10 (k11 ?_)
  exact B5 (rs:=[O0 comb0,G1 e]) (R5 rfl rfl rfl rfl rfl rfl rfl) (by rw [if_pos h2])
 have h2:=A1 ht
 rw [if_neg h2]
 refine k5 (k1 (k2 ?_))
 refine A3 (B9 (Q0 755 _ spanC Z) Z (A6 ?_))
 refine k1 (k2 (k2 ?_))
 refine A3 (A2 (A7 Z) Z (A2 (A8 Z Z Z) Z (A2 (D4 Z (.pure _ _ _ _)) Z (A2 (M4 Z Z) Z (A6 ?_)))))
 refine k1 ?_
 refine B3 rfl (fun ht=>?_) (fun ht=>?_)
 ·have h3:=A0 ht
  have hsp:w8 t=[⟨0,t.Rows.length⟩]:=by unfold w8;rw [if_pos (by omega)]
  rw [hsp] at hc ⊢
  skip
  refine A3 (A2 (A4 Z Z) Z (A2 (A7 Z) Z (A2 (A8 Z Z Z) Z (A2 (D4 Z (.pure _ _ _ _)) Z (A2 (F3 Z) Z (A2 (C4 (c:=spanC) (ys:=[⟨0,(t.Rows.length:Int)⟩]) (D5 Z Z Z Z E7) Z Z Z) Z (B9 (F0 Z Z Z (.pure _ _ _ _) (by (simp only [I79,I81];omega)) Z) Z (A2 (A5 Z Z) Z (A6 ?_)))))))))
  refine k1 (k2 ?_)
  refine A3 (A2 (A4 Z Z) Z (A2 (C8 Z Z Z) Z (A2 (A4 Z Z) Z (C2 (hc) Z Z Z ?_))));rintro _ rfl;refine A2 (C5 Z Z) Z (A2 (C5 Z Z) Z (E6 (B7 TySz.out Z Z Z Z Z Z) (A2 (A5 Z Z) Z (A6 ?_))))
  refine k1 (k10 ?_)
  exact B5 (R5 rfl rfl rfl rfl rfl rfl rfl) rfl
 ·have h3:=A1 ht
  have hsp:w8 t=[]:=by unfold w8;rw [if_neg (by omega)]
  rw [hsp] at hc ⊢
  refine k5 (k1 (k2 ?_))
  refine A3 (A2 (A4 Z Z) Z (A2 (C8 Z Z Z) Z (A2 (A4 Z Z) Z (C2 (hc) Z Z Z ?_))));rintro _ rfl;refine A2 (C5 Z Z) Z (A2 (C5 Z Z) Z (E6 (B7 TySz.out Z Z Z Z Z Z) (A2 (A5 Z Z) Z (A6 ?_))))
  refine k1 (k10 ?_)
  exact B5 (R5 rfl rfl rfl rfl rfl rfl rfl) rfl
theorem F17 (raw:List Int) (n:Int) (path:Str) (ctx:Int) (d none':Bool):FnOk Tryz.prog 7 [N5 raw,G1 n,L5 path,G1 ctx,I3 d,I3 none'] (fun rs=>rs=[I3 true]):=by
 obtain ⟨x,r,hpk,hxl,_⟩:=F92 raw n
 have hsm0:=G65 hpk
 have hL0:=I23 hpk
 have hP:=H71 raw n x r hpk
 obtain ⟨q,hq⟩:∃q,q=if none'=true then [] else r:=⟨_,rfl⟩
 have hsm:Small16 x q:=by
  rw [hq];split
  ·exact G67 hxl
  ·exact hsm0
 have hL:∀b∈x::q,(C7 b).length≤16:=by
  rw [hq];split
  ·intro b hb
   rcases List.mem_cons.1 hb with rfl | hb
   ·exact hL0 _ (by simp)
   ·cases hb
  ·exact hL0
 have a1:=D67 path x q ctx d hsm hL
 have a2:=D66 path x q ctx d hsm
 have a3:=D67 [120,32,121] x q (Q5 ctx 3) d hsm hL
 have a4:=D66 [120,32,121] x q (Q5 ctx 3) d hsm
 have a5:=F94 path x q hsm hL
 have a6:=I24 path x q hsm
 have g1:=D62 (T7 path x q ctx d).1 (by have:=(E61 (path:=path) (ctx:=ctx) (d:=d) hsm).1;omega)
 have g2:=D62 (T7 [120,32,121] x q (Q5 ctx 3) d).1 (by have:=(E61 (path:=[120,32,121]) (ctx:=Q5 ctx 3) (d:=d) hsm).1;omega)
 have g3:=D62 (b8 path x q).1 (by have:=(H72 (path:=path) hsm).1;omega)
 obtain ⟨c1,e1,h1⟩:∃c e,T7 path x q ctx d=(c,e):=⟨_,_,rfl⟩
 obtain ⟨c2,e2,h2⟩:∃c e,T7 [120,32,121] x q (Q5 ctx 3) d=(c,e):=⟨_,_,rfl⟩
 obtain ⟨c3,e3,h3⟩:∃c e,b8 path x q=(c,e):=⟨_,_,rfl⟩
 rw [h1] at a1 a2 g1
 rw [h2] at a3 a4 g2
 rw [h3] at a5 a6 g3
 dsimp only at a1 a2 a3 a4 a5 a6 g1 g2 g3
 refine FnOk.intro Tryz.func7 (by decide) Z Z Z Z ?_
 refine k2 ?_
 refine A3 (A2 (A5 Z Z) Z (A6 ?_))
 refine k1 (k2 (k2 ?_))
 refine A3 (A2 (A4 Z Z) Z (A2 (M1 Z) Z (A2 (M4 Z Z) Z (A6 ?_))))
 refine k1 ?_
 refine B3 rfl (fun ht=>?_) (fun ht=>?_)
 ·refine k2 ?_
  refine A3 (C2 (D68) Z Z Z ?_);rintro _ rfl;refine A2 (A5 Z Z) Z (A6 ?_)
  refine k1 (k10 (k11 ?_))
  exact B5 (F1 rfl rfl rfl) rfl
 refine k5 (k1 (k2 ?_))
 refine A3 (A2 (A4 Z Z) Z (A2 (A4 Z Z) Z (C2 (hP) Z Z Z ?_)));rintro _ rfl;refine A2 (A4 Z Z) Z (A2 (C5 Z Z) Z (A2 (C5 Z Z) Z (A2 (A5 Z Z) Z (A2 (A5 Z Z) Z (A6 ?_)))))
 refine J7 ?_
 refine L0 [(2,S7 path),(3,B8 ctx),(4,P1 d),(5,P1 none'),(13,S7 x),(14,C1 Str 1 K6 r)] [] (I45 ⟨le1 rfl,le1 rfl,le1 rfl,le1 rfl,le1 rfl,le1 rfl,trivial⟩ trivial) ?_
 refine n4 [(2,S7 path),(3,B8 ctx),(4,P1 d),(13,S7 x),(14,C1 Str 1 K6 q)] [] ?_ ?_
 ·refine k2 ?_
  refine A3 (A2 (A4 Z Z) Z (A6 ?_))
  refine k1 ?_
  refine B3 rfl (fun ht=>?_) (fun ht=>?_)
  ·have hn:none'=true:=ht
   have hq2:q=[]:=by rw [hq,if_pos hn]
   rw [hq2]
   skip
   refine A3 (A2 (J1 _ 1 K6) Z (A6 ?_))
   refine k1 ?_
   exact I45 ⟨le1 rfl,le1 rfl,le1 rfl,le1 rfl,le1 rfl,trivial⟩ trivial
  ·have hn:none'=false:=ht
   have hq2:q=r:=by rw [hq,if_neg (by rw [hn];decide)]
   rw [hq2]
   refine k5 (k1 ?_)
   exact I45 ⟨le1 rfl,le1 rfl,le1 rfl,le1 rfl,le1 rfl,trivial⟩ trivial
 refine k2 ?_
 refine A3 (A2 (A4 Z Z) Z (A2 (A4 Z Z) Z (A2 (A4 Z Z) Z (A2 (A4 Z Z) Z (A2 (A4 Z Z) Z (C2 (a1) Z Z Z ?_))))));rintro _ rfl;refine A2 (A4 Z Z) Z (A2 (C5 Z Z) Z (A2 (C5 Z Z) Z (B9 (F5 15 Z) Z (E6 (B7 TySz.out Z Z Z Z Z Z) (A2 (A5 Z Z) Z (A6 ?_))))))
 refine k1 (k2 ?_)
 refine A3 (A2 (A4 Z Z) Z (A2 (A4 Z Z) Z (A2 (A4 Z Z) Z (A2 (A4 Z Z) Z (A2 (A4 Z Z) Z (C2 (a2) Z Z Z ?_))))));rintro _ rfl;refine A2 (A4 Z Z) Z (A2 (C5 Z Z) Z (A2 (C5 Z Z) Z (B9 (F5 17 Z) Z (E6 (B7 TySz.out Z Z Z Z Z Z) (A2 (A5 Z Z) Z (A6 ?_))))))
 refine k1 (k2 ?_)
 refine A3 (A2 (A4 Z Z) Z (A2 (A4 Z Z) Z (A2 (A4 Z Z) Z (C2 (C48 ctx 3 (by omega) (by omega)) Z Z Z ?_))));rintro _ rfl;refine A2 (A4 Z Z) Z (C2 (a3) Z Z Z ?_);rintro _ rfl;refine A2 (A4 Z Z) Z (A2 (C5 Z Z) Z (A2 (C5 Z Z) Z (B9 (F5 19 Z) Z (E6 (B7 TySz.out Z Z Z Z Z Z) (A2 (A5 Z Z) Z (A6 ?_))))))
 refine k1 (k2 ?_)
 refine A3 (A2 (A4 Z Z) Z (A2 (A4 Z Z) Z (A2 (A4 Z Z) Z (C2 (C48 ctx 3 (by omega) (by omega)) Z Z Z ?_))));rintro _ rfl;refine A2 (A4 Z Z) Z (C2 (a4) Z Z Z ?_);rintro _ rfl;refine A2 (A4 Z Z) Z (A2 (C5 Z Z) Z (A2 (C5 Z Z) Z (B9 (F5 21 Z) Z (E6 (B7 TySz.out Z Z Z Z Z Z) (A2 (A5 Z Z) Z (A6 ?_))))))
 refine k1 (k2 ?_)
 refine A3 (A2 (A4 Z Z) Z (A2 (A4 Z Z) Z (A2 (A4 Z Z) Z (C2 (a5) Z Z Z ?_))));rintro _ rfl;refine A2 (A4 Z Z) Z (A2 (C5 Z Z) Z (A2 (C5 Z Z) Z (B9 (F5 23 Z) Z (E6 (B7 TySz.out Z Z Z Z Z Z) (A2 (A5 Z Z) Z (A6 ?_))))))
 refine k1 (k2 ?_)
 refine A3 (A2 (A4 Z Z) Z (A2 (A4 Z Z) Z (A2 (A4 Z Z) Z (C2 (a6) Z Z Z ?_))));rintro _ rfl;refine A2 (A4 Z Z) Z (A2 (C5 Z Z) Z (A2 (C5 Z Z) Z (B9 (F5 25 Z) Z (E6 (B7 TySz.out Z Z Z Z Z Z) (A2 (A5 Z Z) Z (A6 ?_))))))
 refine k1 (k2 ?_)
 refine A3 (A2 (C8 Z Z Z) Z (A2 (C8 Z Z Z) Z (C2 (g1) Z Z Z ?_)));rintro _ rfl;refine A2 (A4 Z Z) Z (B1 Z Z Z Z (fun hg=>by rw [hg];exact A4 Z Z) ?_);refine B1 Z Z Z Z (fun hg=>by rw [hg];exact A4 Z Z) ?_;refine B1 Z Z Z Z (fun hg=>by rw [hg];exact J6 Z Z) ?_;refine A2 (B6 Z (fun h=>by first | rfl | (rw [h];rfl)) (fun h=>by first | rfl | (rw [h];rfl))) Z ?_;refine A2 (A4 Z Z) Z (B1 Z Z Z Z (fun hg=>by rw [hg];exact C8 Z Z Z) ?_);refine B1 Z Z Z Z (fun hg=>by rw [hg];exact C8 Z Z Z) ?_;refine B1 Z Z Z Z (fun hg=>by have hq:=hg;(try simp at hq);rw [hg];exact H6 (g2) Z Z) ?_;refine A2 (B6 Z (fun h=>by first | rfl | (rw [h];rfl)) (fun h=>by first | rfl | (rw [h];rfl))) Z ?_;refine A2 (A4 Z Z) Z (B1 Z Z Z Z (fun hg=>by rw [hg];exact A4 Z Z) ?_);refine B1 Z Z Z Z (fun hg=>by rw [hg];exact A4 Z Z) ?_;refine B1 Z Z Z Z (fun hg=>by rw [hg];exact J6 Z Z) ?_;refine A2 (B6 Z (fun h=>by first | rfl | (rw [h];rfl)) (fun h=>by first | rfl | (rw [h];rfl))) Z ?_;refine A2 (A4 Z Z) Z (B1 Z Z Z Z (fun hg=>by rw [hg];exact C8 Z Z Z) ?_);refine B1 Z Z Z Z (fun hg=>by rw [hg];exact C8 Z Z Z) ?_;refine B1 Z Z Z Z (fun hg=>by have hq:=hg;(try simp at hq);rw [hg];exact H6 (g3) Z Z) ?_;refine A2 (B6 Z (fun h=>by first | rfl | (rw [h];rfl)) (fun h=>by first | rfl | (rw [h];rfl))) Z ?_;refine A2 (A4 Z Z) Z (B1 Z Z Z Z (fun hg=>by rw [hg];exact A4 Z Z) ?_);refine B1 Z Z Z Z (fun hg=>by rw [hg];exact A4 Z Z) ?_;refine B1 Z Z Z Z (fun hg=>by rw [hg];exact J6 Z Z) ?_;refine A2 (B6 Z (fun h=>by first | rfl | (rw [h];rfl)) (fun h=>by first | rfl | (rw [h];rfl))) Z ?_;refine A2 (A4 Z Z) Z (B1 Z Z Z Z (fun hg=>by have hq:=hg;(try simp at hq);rw [hg];exact H6 (D68) Z Z) ?_);refine A2 (B6 Z (fun h=>by first | rfl | (rw [h];rfl)) (fun h=>by first | rfl | (rw [h];rfl))) Z ?_;refine A2 (A5 Z Z) Z (A6 ?_)
 refine k1 (k10 ?_)
 exact B5 (F1 rfl rfl rfl) (by simp)
end Go.Proofs.YtbiadkkamhpdnaaGreatDoor
