/- Walks of the program's functions. -/
import Derived.Test.YtbiadkkamhpdnaaGreatDoorFg
import Derived.Test.YtbiadkkamhpdnaaGreatDoorFe
import Derived.Test.YtbiadkkamhpdnaaGreatDoorFs
import Derived.Test.YtbiadkkamhpdnaaGreatDoorFc
import Derived.Test.YtbiadkkamhpdnaaGreatDoorFa
import Derived.Test.YtbiadkkamhpdnaaGreatDoorFf
set_option linter.unusedSimpArgs false
namespace Go.Proofs.YtbiadkkamhpdnaaGreatDoor
open Go Go.AL
set_option maxRecDepth 100000
set_option maxHeartbeats 1000000
end Go.Proofs.YtbiadkkamhpdnaaGreatDoor
namespace Go.Proofs.YtbiadkkamhpdnaaGreatDoor
open Go Go.AL
set_option maxRecDepth 100000
set_option maxHeartbeats 1000000
set_option maxHeartbeats 2000000
end Go.Proofs.YtbiadkkamhpdnaaGreatDoor
namespace Go.Proofs.YtbiadkkamhpdnaaGreatDoor
open Go Go.AL
set_option maxRecDepth 100000
set_option maxHeartbeats 1000000
set_option maxHeartbeats 1000000
set_option maxHeartbeats 1000000
def awakeT:Table:=⟨2,[⟨false,0,[97,10]⟩,⟨true,1,[98,10]⟩,⟨false,1,[99,10]⟩]⟩
theorem F72:I2 awakeT.Rows:=by intro r hr;simp [awakeT] at hr;rcases hr with rfl | rfl | rfl<;>decide
theorem E70:FnOk Tryz.prog 56 [] (fun rs=>rs=[I8 true]):=by
 have h1:U0 awakeT (-1)=([97,10,99,10],0):=by decide
 have h2:U0 awakeT 0=([97,10,98,10],0):=by decide
 refine FnOk.intro Tryz.func56 (by decide) Z Z Z Z ?_
 refine k2 (A2 (A7 Z Z (A4 ?_)));refine k1 (k2 (A2 (A6 (E6 Z) Z (A6 (E6 Z) Z (A6 (E6 Z) Z (A6 (C9 (c:=rowC) (ys:=[⟨false,0,[97,10]⟩,⟨true,1,[98,10]⟩,⟨false,1,[99,10]⟩]) (D8 Z Z Z Z (D8 Z Z Z Z (D8 Z Z Z Z F1))) Z Z Z) Z (A6 (E6 Z) Z (C0 (F4 1 Z) Z (E2 (B6 TySz.out Z Z Z Z Z Z) (A4 ?_))))))))));refine k1 (k2 (A2 (A6 (C6 Z Z Z) Z (C2 (E65 awakeT (-1) F72 (by decide) (by decide)) Z Z Z ?_))));rintro _ rfl;refine A3 Z Z (F5 Z Z Z (F5 Z Z Z (A7 Z Z (A7 Z Z (A4 ?_)))))
 rw [h1]
 refine k1 (k2 (A2 (A6 (C6 Z Z Z) Z (C2 (E65 awakeT 0 F72 (by decide) (by decide)) Z Z Z ?_))));rintro _ rfl;refine A3 Z Z (F5 Z Z Z (F5 Z Z Z (A7 Z Z (A7 Z Z (A4 ?_)))))
 rw [h2]
 refine k1 (k2 (A2 (A3 Z Z (A6 (J7 Z Z) Z (A3 Z Z (B0 Z Z Z Z (fun hg=>by rw [hg];exact B5 Z Z) ?_))))));refine B0 Z Z Z Z (fun hg=>by rw [hg];exact J7 Z Z) ?_;refine F2 Z Z ?_;refine A3 Z Z (B0 Z Z Z Z (fun hg=>by rw [hg];exact B5 Z Z) ?_);refine B0 Z Z Z Z (fun hg=>by rw [hg];exact B20 Z Z) ?_;refine F2 Z Z ?_;refine A3 Z Z (B0 Z Z Z Z (fun hg=>by rw [hg];exact B5 Z Z) ?_);refine B0 Z Z Z Z (fun hg=>by rw [hg];exact B20 Z Z) ?_;refine F2 Z Z ?_;refine A7 Z Z (A4 ?_);refine k1 (k10 ?_)
 exact B4 (F3 rfl rfl rfl) rfl
def A39 (raw:List Int) (n:Int):List Str:=n5 raw (2+U9 n 4).toNat 7
theorem G95 (raw:List Int) (n:Int):∃x r,A39 raw n=x::r∧x.length≤140∧∀b∈r,b.length≤140:=by
 have hm:=o8 n (n:=4) (by omega)
 have hl:(A39 raw n).length=(2+U9 n 4).toNat:=by simp [A39,n5]
 have hb:∀b∈A39 raw n,b.length≤140:=by
  intro b hb
  obtain ⟨p,_,rfl⟩:=List.mem_map.1 hb
  have:=E61 raw 7 p (by omega);omega
 cases h:A39 raw n with
 | nil=>rw [h] at hl;simp at hl;omega
 | cons x r=>exact ⟨x,r,rfl,hb x (by rw [h];simp),fun b hb'=>hb b (by rw [h];simp [hb'])⟩
theorem pick_ok (raw:List Int) (n:Int) (x:Str) (r:List Str) (h:A39 raw n=x::r):FnOk Tryz.prog 52 [M1 raw,E5 n] (fun rs=>rs=[L6 x,Z9 r]):=by
 have hm:=o8 n (n:=4) (by omega)
 have hlen:(x::r).length=(2+U9 n 4).toNat:=by rw [←h];simp [A39,n5]
 have hb:=J23 raw (2+U9 n 4).toNat 7 (by omega) (by omega)
 have hcast:(((2+U9 n 4).toNat:Nat):Int)=2+U9 n 4:=by omega
 rw [hcast] at hb
 have hbr:n5 raw (2+U9 n 4).toNat 7=x::r:=h
 rw [hbr] at hb
 refine FnOk.intro Tryz.func52 (by decide) Z Z Z Z ?_
 refine k2 (A2 (A7 Z Z (A7 Z Z (A4 ?_))));refine k1 (k2 (A2 (A3 Z Z (A3 Z Z (C2 (C61 n 4 (by omega) (by omega)) Z Z Z ?_)))));rintro _ rfl;refine C7 Z Z Z (C2 (hb) Z Z Z ?_);rintro _ rfl;refine A7 Z Z (A4 ?_);refine k1 (k2 (C5 (by kernel_rfl) (by kernel_rfl) (C3 Z Z (A9 (A8 Z (.pure _ _ _ _) Z (by omega) (show (x::r)[(0:Int).toNat]?=some x from Z)) Z Z (A9 (B1 Z Z) Z Z (C3 Z Z (A9 (D37 Z (.pure _ _ _ _) Z (by (first | omega | (simp only [J87];omega))) (by (first | omega | (simp only [J87];omega)))) Z Z (A9 (E0 Z Z) Z Z (A9 (E0 Z Z) Z Z (G5 ?_))))))))));refine k1 (k10 (B4 (U7 Z Z Z Z Z) ?_))
 rfl
def x9 (path result:Str) (parents:List Str) (ctx:Int) (d:Bool):Comb × Int :=
 if J1 path=false then (comb0,120) else if (M7 result parents).2≠0 then (comb0,(M7 result parents).2) else
 if (Z7 (M7 result parents).1 ctx d).2≠0 then (comb0,(Z7 (M7 result parents).1 ctx d).2) else A78 path (M7 result parents).1 (Z7 (M7 result parents).1 ctx d).1 d
theorem G96:∀s∈lineTab,s.count 10=0:=by decide
theorem E71 (k:Int):(A07 k).count 10=0:=by
 unfold A07
 rw [J91]
 cases h:lineTab[(U9 k 10).toNat]? with
 | none=>rfl
 | some s=>exact G96 s (K02 h)
theorem F30 (raw:List Int) (from' kinds:Int) (m:Nat):(W2 raw from' kinds m).count 10=m:=by
 induction m with
 | zero=>simp [W2]
 | succ m ih=>rw [A69,List.count_append,List.count_append,ih,E71];rfl
theorem E72 (raw:List Int) (from' n kinds:Int) (h1:0≤n):((d8 raw from' n kinds).count 10:Int)≤n:=by
 have h:=o8 (x7 raw from') (n:=n+1) (by omega)
 have h2:=F30 raw from' kinds (U9 (x7 raw from') (n+1)).toNat
 have h3:=(List.take_sublist ((W2 raw from' kinds (U9 (x7 raw from') (n+1)).toNat).length - 1) (W2 raw from' kinds (U9 (x7 raw from') (n+1)).toNat)).count_le (a:=(10:UInt8))
 unfold d8
 simp only
 split
 ·omega
 ·omega
theorem B32 (raw:List Int) (from':Int):∀(l:List Str) (i:Nat) (s:Str),(x8 raw from' i s l).count 10≤s.count 10+l.flatten.count 10+l.length
 | [],i,s=>by simp [x8]
 | x::r,i,s=>by
  have h1:=B32 raw from' r (i+1) s
  have h2:=B32 raw from' r (i+1) (s++A07 (x7 raw (from'+40+(i:Int)))++[10]++x)
  have h3:=B32 raw from' r (i+1) (s++x)
  have h4:=E71 (x7 raw (from'+40+(i:Int)))
  have h5:List.count (10:UInt8) [10]=1:=rfl
  simp only [List.count_append,h4,h5] at h2 h3
  unfold x8
  simp only [J99,List.count_append,J87]
  split
  ·omega
  ·split<;>omega
theorem H69 (raw:List Int) (p:Nat):(A08 raw 7 p).count 10≤15:=by
 have h1:=E72 raw (600+50*(p:Int)) 7 4 (by omega)
 have h2:=E72 raw 0 7 5 (by omega)
 have h3:=B32 raw (600+50*(p:Int)) (D5 (d8 raw 0 7 5)) 0 []
 have h4:=E07 (d8 raw 0 7 5)
 rw [b9] at h3
 have h5:List.count (10:UInt8) ([]:Str)=0:=rfl
 unfold A08
 split
 ·omega
 ·split
  ·omega
  ·unfold C63;omega
theorem H70 (raw:List Int) (n:Int):∀b∈A39 raw n,(D5 b).length≤16∧b.length≤140:=by
 intro b hb
 obtain ⟨p,_,rfl⟩:=List.mem_map.1 hb
 have h1:=E61 raw 7 p (by omega)
 have h2:=H69 raw p
 have h3:=E07 (A08 raw 7 p)
 omega
theorem J38 (raw:List Int) (n:Int) {x:Str} {r:List Str} (h:A39 raw n=x::r):1≤r.length∧r.length≤4:=by
 have hm:=o8 n (n:=4) (by omega)
 have hl:(A39 raw n).length=(2+U9 n 4).toNat:=by simp [A39,n5]
 rw [h,J87] at hl
 omega
structure Small16 (x:Str) (r:List Str):Prop where
 n:r.length≤32
 hx:x.length≤140
 hr:∀b∈r,b.length≤140
 rows:I2 (M7 x r).1.Rows
 len:(M7 x r).1.Rows.length≤1105
 txt:∀q∈(M7 x r).1.Rows,q.Text.length≤140
theorem H71 {raw:List Int} {n:Int} {x:Str} {r:List Str} (h:A39 raw n=x::r):Small16 x r:=by
 have h1:=J38 raw n h
 have h2:=H70 raw n
 rw [h] at h2
 have hx:=h2 x (by simp)
 have hr:∀b∈r,(D5 b).length≤16∧b.length≤140:=fun b hb=>h2 b (by simp [hb])
 obtain ⟨k1,k2,k3⟩:=G39 x r 16 140 hx hr
 have h4:r.length*16+1≤65:=by omega
 exact ⟨by omega,hx.2,fun b hb=>(hr b hb).2,k1,by omega,k3⟩
theorem textsLen_le {rows:List Row} {B:Nat} (h:∀q∈rows,q.Text.length≤B):N7 rows≤rows.length*B∧(rows.map T5).sum≤rows.length*(B+96)∧∀n,(rows.map (wRow n)).sum≤rows.length*(B+n+29):=by
 unfold N7
 induction rows with
 | nil=>simp
 | cons x r ih =>
  obtain ⟨i1,i2,i3⟩:=ih fun q hq=>h q (by simp [hq])
  have hx:=h x (by simp)
  simp only [J95,J99,J86,K11,J87,K14,Nat.one_mul]
  simp only [Nat.mul_add] at i2 i3 ⊢
  refine ⟨by omega,by unfold T5 at i2 ⊢;omega,fun n=>?_⟩
  have:=i3 n
  unfold wRow at this ⊢
  omega
theorem Small16.sums {x:Str} {r:List Str} (h:Small16 x r):N7 (M7 x r).1.Rows≤154700∧((M7 x r).1.Rows.map T5).sum≤260780∧∀n,n≤32→((M7 x r).1.Rows.map (wRow n)).sum≤1105*201:=by
 obtain ⟨h1,h2,h3⟩:=textsLen_le h.txt
 have h4:=h.len
 refine ⟨by omega,by omega,fun n hn=>?_⟩
 refine Nat.le_trans (h3 n) ?_
 exact Nat.mul_le_mul h4 (by omega)
theorem H72 (path x:Str) (r:List Str) (ctx:Int) (d:Bool) (h:Small16 x r):FnOk Tryz.prog 37 [L6 path,L6 x,Z9 r,E5 ctx,I8 d] (fun rs=>rs=[S5 (x9 path x r ctx d).1,E5 (x9 path x r ctx d).2]):=by
 have hx:=h.hx
 obtain ⟨s1,s2,s3⟩:=h.sums
 have hl:=h.len
 have hrows:=h.rows
 have hm:=F71 x r (by omega) (fun b hb=>by have:=h.hr b hb;omega)
 obtain ⟨t,e,hte⟩:∃t e,M7 x r=(t,e):=⟨_,_,rfl⟩
 rw [hte] at s1 s2 hl hrows hm
 dsimp only at s1 s2 hl hrows hm
 have hh:=G91 t ctx d hrows (by omega) (by omega)
 have hin:=J53 t ctx d
 obtain ⟨sp,e2,hsp⟩:∃sp e2,Z7 t ctx d=(sp,e2):=⟨_,_,rfl⟩
 rw [hsp] at hh hin
 dsimp only at hh hin
 have hc:=I25 path t sp d hrows (by omega) (by omega) (by have:=hin.1;omega)
 have hres:x9 path x r ctx d=if J1 path=false then (comb0,120) else if e≠0 then (comb0,e) else if e2≠0 then (comb0,e2) else A78 path t sp d:=by
  unfold x9;rw [hte];dsimp only;rw [hsp]
 rw [hres]
 refine FnOk.intro Tryz.func37 (by decide) Z Z Z Z ?_
 refine k2 (A2 (C0 (F4 10 Z) Z (A7 Z Z (A4 ?_))));refine k1 (k2 (k2 (A2 (A3 Z Z (C2 (A31 path) Z Z Z ?_)))));rintro _ rfl;refine L7 Z Z (A4 ?_);refine k1 ?_;refine B3 rfl (fun ht=>?_) (fun ht=>?_)
 ·have h:J1 path=false:=by simpa using ht
  refine k2 (A2 (A6 (E6 Z) Z (E2 (B6 TySz.out Z Z Z Z Z Z) (A7 Z Z (A4 ?_)))));refine k1 (G4 (J59 CHunk 2 S4 10 3 Z Z) ?_)
  refine k10 (k11 ?_)
  exact B4 (rs:=[S5 comb0,E5 120]) (O5 rfl rfl rfl rfl rfl rfl rfl) (by rw [if_pos h])
 have h1:J1 path=true:=by simpa using ht
 rw [if_neg (by rw [h1];decide)]
 refine k5 (k1 (k2 (A2 (A3 Z Z (A3 Z Z (C2 (hm) Z Z Z ?_))))));rintro _ rfl;refine A3 Z Z (F5 Z Z Z (F5 Z Z Z (C0 (F4 12 Z) Z (E2 (B6 TySz.out Z Z Z Z Z Z) (A7 Z Z (A4 ?_))))));refine k1 (k2 (k2 (A2 (A3 Z Z (A6 (H9 Z Z) Z (A4 ?_))))));refine k1 ?_;refine B3 rfl (fun ht=>?_) (fun ht=>?_)
 ·have h2:=A0 ht
  refine k2 (A2 (A6 (E6 Z) Z (A3 Z Z (E2 (B6 TySz.out Z Z Z Z Z Z) (A7 Z Z (A4 ?_))))));refine k1 (G4 (J59 CHunk 2 S4 10 3 Z Z) ?_)
  refine k10 (k11 ?_)
  exact B4 (rs:=[S5 comb0,E5 e]) (O5 rfl rfl rfl rfl rfl rfl rfl) (by rw [if_pos h2])
 have h2:=A1 ht
 rw [if_neg h2]
 refine k5 (k1 (k2 (A2 (A6 (C6 Z Z Z) Z (A3 Z Z (A3 Z Z (C2 (hh) Z Z Z ?_)))))));rintro _ rfl;refine A3 Z Z (F5 Z Z Z (F5 Z Z Z (A7 Z Z (A7 Z Z (A4 ?_)))));refine k1 (k2 (k2 (A2 (A3 Z Z (A6 (H9 Z Z) Z (A4 ?_))))));refine k1 ?_;refine B3 rfl (fun ht=>?_) (fun ht=>?_)
 ·have h3:=A0 ht
  refine k2 (A2 (A6 (E6 Z) Z (A3 Z Z (E2 (B6 TySz.out Z Z Z Z Z Z) (A7 Z Z (A4 ?_))))));refine k1 (G4 (J59 CHunk 2 S4 10 3 Z Z) ?_)
  refine k10 (k11 ?_)
  exact B4 (rs:=[S5 comb0,E5 e2]) (O5 rfl rfl rfl rfl rfl rfl rfl) (by rw [if_pos h3])
 have h3:=A1 ht
 rw [if_neg h3]
 refine k5 (k1 (k2 (A2 (A3 Z Z (A6 (C6 Z Z Z) Z (A3 Z Z (A3 Z Z (C2 (hc) Z Z Z ?_))))))));rintro _ rfl;refine F5 Z Z Z (F5 Z Z Z (E2 (B6 TySz.out Z Z Z Z Z Z) (A7 Z Z (A4 ?_))));refine k1 (k10 ?_)
 exact B4 (O5 rfl rfl rfl rfl rfl rfl rfl) rfl
theorem I83 {path x:Str} {r:List Str} {ctx:Int} {d:Bool} (h:(x9 path x r ctx d).2=0):(M7 x r).2=0∧(Z7 (M7 x r).1 ctx d).2=0∧x9 path x r ctx d=A78 path (M7 x r).1 (Z7 (M7 x r).1 ctx d).1 d:=by
 unfold x9 at h ⊢
 split at h
 ·cases h
 ·rename_i h1
  rw [if_neg h1]
  split at h
  ·rename_i h2;exact absurd h h2
  ·rename_i h2
   rw [if_neg h2]
   split at h
   ·rename_i h3;exact absurd h h3
   ·rename_i h3
    rw [if_neg h3]
    exact ⟨by omega,by omega,rfl⟩
theorem H73 {path x:Str} {r:List Str} {ctx:Int} {d:Bool} (h:(x9 path x r ctx d).2≠0):(x9 path x r ctx d).1=comb0:=by
 unfold x9 at h ⊢
 split
 ·rfl
 ·rename_i h1
  rw [if_neg h1] at h
  split
  ·rfl
  ·rename_i h2
   rw [if_neg h2] at h
   split
   ·rfl
   ·rename_i h3
    rw [if_neg h3] at h
    unfold A78 at h ⊢
    split
    ·rfl
    ·rename_i h4
     rw [if_neg h4] at h
     split
     ·rfl
     ·rename_i h5
      rw [if_neg h5] at h
      cases hg:A48 (M7 x r).1.Parents.toNat (M7 x r).1.Rows 0 [] (Z7 (M7 x r).1 ctx d).1 with
      | none=>rfl
      | some hs =>
       rw [hg] at h
       dsimp only at h ⊢
       split
       ·rfl
       ·rename_i h6
        rw [if_neg h6] at h;exact absurd rfl h
set_option maxHeartbeats 1000000
set_option maxHeartbeats 1000000
def D80 (t:Table):List Span:=if 0 < t.Rows.length then [⟨0,t.Rows.length⟩] else []
def B87 (path x:Str) (r:List Str):Comb × Int :=
 if J1 path=false then (comb0,120) else if (M7 x r).2≠0 then (comb0,(M7 x r).2) else A78 path (M7 x r).1 (D80 (M7 x r).1) false
set_option maxHeartbeats 1000000
end Go.Proofs.YtbiadkkamhpdnaaGreatDoor
namespace Go.Proofs.YtbiadkkamhpdnaaGreatDoor
open Go Go.AL
set_option maxRecDepth 100000
theorem I84 {path x:Str} {r:List Str} {ctx:Int} {d:Bool} (h:Small16 x r):szC (x9 path x r ctx d).1.Hunks≤268435456∧∀y∈(x9 path x r ctx d).1.Hunks,I2 y.Rows:=by
 by_cases he:(x9 path x r ctx d).2=0
 ·obtain ⟨_,_,e1⟩:=I83 he
  rw [e1];exact G92 h.rows (by have:=h.sums.2.1;omega)
 ·rw [H73 he];exact ⟨by decide,fun y hy=>by cases hy⟩
theorem I85 {path x:Str} {r:List Str} (h:Small16 x r):szC (B87 path x r).1.Hunks≤268435456∧∀y∈(B87 path x r).1.Hunks,I2 y.Rows:=by
 unfold B87
 split
 ·exact ⟨Nat.zero_le _,fun y hy=>by cases hy⟩
 ·split
  ·exact ⟨Nat.zero_le _,fun y hy=>by cases hy⟩
  ·exact G92 h.rows (by have:=h.sums.2.1;omega)
set_option maxHeartbeats 1000000
theorem J39 (path x:Str) (r:List Str) (h:Small16 x r):FnOk Tryz.prog 44 [L6 path,L6 x,Z9 r] (fun rs=>rs=[S5 (B87 path x r).1,E5 (B87 path x r).2]):=by
 have hx:=h.hx
 obtain ⟨s1,s2,s3⟩:=h.sums
 have hl:=h.len
 have hrows:=h.rows
 have hm:=F71 x r (by omega) (fun b hb=>by have:=h.hr b hb;omega)
 obtain ⟨t,e,hte⟩:∃t e,M7 x r=(t,e):=⟨_,_,rfl⟩
 rw [hte] at s1 s2 hl hrows hm
 dsimp only at s1 s2 hl hrows hm
 have hc:=I25 path t (D80 t) false hrows (by omega) (by omega) (by unfold D80;split<;>simp)
 have hres:B87 path x r=if J1 path=false then (comb0,120) else if e≠0 then (comb0,e) else A78 path t (D80 t) false:=by
  unfold B87;rw [hte]
 rw [hres]
 refine FnOk.intro Tryz.func44 (by decide) Z Z Z Z ?_
 refine k2 (A2 (C0 (F4 6 Z) Z (A7 Z Z (A4 ?_))));refine k1 (k2 (k2 (A2 (A3 Z Z (C2 (A31 path) Z Z Z ?_)))));rintro _ rfl;refine L7 Z Z (A4 ?_);refine k1 ?_;refine B3 rfl (fun ht=>?_) (fun ht=>?_)
 ·have h:J1 path=false:=by simpa using ht
  refine k2 (A2 (A6 (E6 Z) Z (E2 (B6 TySz.out Z Z Z Z Z Z) (A7 Z Z (A4 ?_)))));refine k1 (G4 (J59 CHunk 2 S4 6 3 Z Z) ?_)
  refine k10 (k11 ?_)
  exact B4 (rs:=[S5 comb0,E5 120]) (O5 rfl rfl rfl rfl rfl rfl rfl) (by rw [if_pos h])
 have h1:J1 path=true:=by simpa using ht
 rw [if_neg (by rw [h1];decide)]
 refine k5 (k1 (k2 (A2 (A3 Z Z (A3 Z Z (C2 (hm) Z Z Z ?_))))));rintro _ rfl;refine A3 Z Z (F5 Z Z Z (F5 Z Z Z (C0 (F4 8 Z) Z (E2 (B6 TySz.out Z Z Z Z Z Z) (A7 Z Z (A4 ?_))))));refine k1 (k2 (k2 (A2 (A3 Z Z (A6 (H9 Z Z) Z (A4 ?_))))));refine k1 ?_;refine B3 rfl (fun ht=>?_) (fun ht=>?_)
 ·have h2:=A0 ht
  refine k2 (A2 (A6 (E6 Z) Z (A3 Z Z (E2 (B6 TySz.out Z Z Z Z Z Z) (A7 Z Z (A4 ?_))))));refine k1 (G4 (J59 CHunk 2 S4 6 3 Z Z) ?_)
  refine k10 (k11 ?_)
  exact B4 (rs:=[S5 comb0,E5 e]) (O5 rfl rfl rfl rfl rfl rfl rfl) (by rw [if_pos h2])
 have h2:=A1 ht
 rw [if_neg h2]
 refine k5 (k1 (k2 (A2 (C0 (R7 755 _ spanC Z) Z (A4 ?_)))));refine k1 (k2 (k2 (A2 (A6 (A5 Z) Z (D3 Z Z Z Z (D9 Z Z (A6 (K9 Z Z) Z (A4 ?_))))))));refine k1 ?_;refine B3 rfl (fun ht=>?_) (fun ht=>?_)
 ·have h3:=A0 ht
  have hsp:D80 t=[⟨0,t.Rows.length⟩]:=by unfold D80;rw [if_pos (by omega)]
  rw [hsp] at hc ⊢
  skip
  refine A2 (A3 Z Z (A6 (A5 Z) Z (D3 Z Z Z Z (D9 Z Z (A6 (E6 Z) Z (A6 (C9 (c:=spanC) (ys:=[⟨0,(t.Rows.length:Int)⟩]) (D8 Z Z Z Z F1) Z Z Z) Z (C0 (F8 Z Z Z (.pure _ _ _ _) (by (simp only [J87,J89];omega)) Z) Z (A7 Z Z (A4 ?_)))))))));refine k1 (k2 (A2 (A3 Z Z (A6 (C6 Z Z Z) Z (A3 Z Z (C2 (hc) Z Z Z ?_))))));rintro _ rfl;refine F5 Z Z Z (F5 Z Z Z (E2 (B6 TySz.out Z Z Z Z Z Z) (A7 Z Z (A4 ?_))));refine k1 (k10 ?_)
  exact B4 (O5 rfl rfl rfl rfl rfl rfl rfl) rfl
 ·have h3:=A1 ht
  have hsp:D80 t=[]:=by unfold D80;rw [if_neg (by omega)]
  rw [hsp] at hc ⊢
  refine k5 (k1 (k2 (A2 (A3 Z Z (A6 (C6 Z Z Z) Z (A3 Z Z (C2 (hc) Z Z Z ?_)))))));rintro _ rfl;refine F5 Z Z Z (F5 Z Z Z (E2 (B6 TySz.out Z Z Z Z Z Z) (A7 Z Z (A4 ?_))));refine k1 (k10 ?_)
  exact B4 (O5 rfl rfl rfl rfl rfl rfl rfl) rfl
theorem C39 {c:Comb} (h:J2 c=0):(1≤c.Parents∧c.Parents≤32)∧Z6 c.Parents.toNat c.Hunks=true∧X0 c.Parents.toNat (List.replicate (c.Parents.toNat+1) 0) c.Hunks=true∧p8 (G6 c.Hunks) c.Parents.toNat=true:=by
 unfold J2 at h
 split at h
 ·cases h
 ·split at h
  ·cases h
  ·rename_i h0
   split at h
   ·cases h
   ·rename_i h1
    split at h
    ·cases h
    ·rename_i h2
     have h2:X1 c.Parents.toNat c.Hunks=true:=by simpa using h2
     unfold X1 at h2
     rw [J90] at h2
     exact ⟨by omega,by simpa using h1,h2.1,h2.2⟩
theorem E73 {n:Int} {rows:List Row} (hp:1≤n∧n≤32) (hm:N5 rows n.toNat=true) (ht:p8 rows n.toNat=true):M6 ⟨n,rows⟩=0:=by
 unfold M6
 rw [if_neg (by dsimp only;omega),if_neg (by dsimp only;rw [hm];decide),if_neg (by dsimp only;rw [ht];decide)]
theorem at_nn {n:Nat} {hs:List CHunk} (hg:X0 n (List.replicate (n+1) 0) hs=true) {h:CHunk} (hm:h∈hs):h.At.length=n+1∧h.Rows≠[]∧∀v∈h.At,0≤v:=by
 obtain ⟨a1,a2,a3⟩:=D59 hs _ (fun k hk=>by rw [J91,List.getElem?_replicate_of_lt hk];exact Int.le_refl _) hg h hm
 refine ⟨a1,a2,fun v hv=>?_⟩
 obtain ⟨k,hk,rfl⟩:=List.getElem_of_mem hv
 have:=(a3 k (by omega)).1
 rw [J91,J88 hk] at this
 exact this
theorem B88 {c:Comb} (h:J2 c≠0):G9 c=(⟨0,[]⟩,J2 c):=by unfold G9;rw [if_pos h]
theorem B89 {p:Str} {d:Bool} {n:Int} (h:J2 ⟨p,d,n,[]⟩=0):G9 ⟨p,d,n,[]⟩=(⟨n,[]⟩,0):=by unfold G9;rw [if_neg (fun q=>q h)]
theorem B33 {p:Str} {d:Bool} {n:Int} {x y:CHunk} {r:List CHunk} (h:J2 ⟨p,d,n,x::y::r⟩=0):G9 ⟨p,d,n,x::y::r⟩=(⟨0,[]⟩,121):=by
 unfold G9
 rw [if_neg (fun q=>q h)]
 dsimp only
 rw [if_pos (.inl (by simp))]
theorem B90 {p:Str} {d:Bool} {n:Int} {x:CHunk} (h:J2 ⟨p,d,n,[x]⟩=0) {v:Int} (hv:v∈x.At) (h0:v≠0):G9 ⟨p,d,n,[x]⟩=(⟨0,[]⟩,121):=by
 unfold G9
 rw [if_neg (fun q=>q h)]
 dsimp only
 rw [if_pos (.inr ⟨v,hv,h0⟩)]
theorem B91 {p:Str} {d:Bool} {n:Int} {x:CHunk} (h:J2 ⟨p,d,n,[x]⟩=0) (hz:∀v∈x.At,v=0):G9 ⟨p,d,n,[x]⟩=(⟨n,x.Rows⟩,0):=by
 unfold G9
 rw [if_neg (fun q=>q h)]
 dsimp only
 rw [if_neg]
 rintro (q | ⟨v,hv,q⟩)
 ·exact q rfl
 ·exact q (hz v hv)
theorem C69 (c:Comb) (hz:szC c.Hunks≤268435456) (hr:∀h∈c.Hunks,I2 h.Rows):I2 (G9 c).1.Rows∧(G9 c).1.Rows.length≤268435456∧N7 (G9 c).1.Rows≤268435456∧((G9 c).2=0→J2 c=0∧M6 (G9 c).1=0∧(G9 c).1.Parents=c.Parents):=by
 obtain ⟨p,d,n,hs⟩:=c
 dsimp only at hz hr
 have hnil:I2 []:=fun r hr=>by cases hr
 by_cases hc:J2 ⟨p,d,n,hs⟩=0
 ·obtain ⟨p1,p2,p3,p4⟩:=C39 hc
  dsimp only at p1 p2 p3 p4
  cases hs with
  | nil =>
   rw [B89 hc]
   exact ⟨hnil,Nat.zero_le _,Nat.zero_le _,fun _=>⟨hc,E73 p1 rfl p4,rfl⟩⟩
  | cons x r =>
   cases r with
   | cons y r =>
    rw [B33 hc]
    exact ⟨hnil,Nat.zero_le _,Nat.zero_le _,fun h=>by cases h⟩
   | nil =>
    by_cases hv:∀v∈x.At,v=0
    ·rw [B91 hc hv]
     have h1:=W3 x.Rows
     have h2:=B56 x.Rows
     have h3:szC [x]=2048+x.At.length+(x.Rows.map T5).sum:=by simp [szC,A56]
     have e:G6 [x]=x.Rows:=by simp [G6]
     rw [e] at p4
     exact ⟨hr x (by simp),by dsimp only;omega,by dsimp only;omega,fun _=>⟨hc,E73 p1 (by simpa [Z6] using p2) p4,rfl⟩⟩
    ·have:∃v,v∈x.At∧v≠0:=Classical.byContradiction fun q=>hv fun v h=>Classical.byContradiction fun h2=>q ⟨v,h,h2⟩
     obtain ⟨v,hv1,hv2⟩:=this
     rw [B90 hc hv1 hv2]
     exact ⟨hnil,Nat.zero_le _,Nat.zero_le _,fun h=>by cases h⟩
 ·rw [B88 hc]
  exact ⟨hnil,Nat.zero_le _,Nat.zero_le _,fun h=>absurd h hc⟩
theorem D81 {t:Table} {q:Int} (h:M6 t=0) (hq:-1≤q∧q < t.Parents):U0 t q=L9 (H3 t.Rows q):=by
 unfold U0
 rw [if_neg (fun e=>e h),if_neg (by omega)]
theorem B14 (l:List Str):Few (L9 l).1:=H96
def A40 (c:Comb) (p ctx:Int):Patch × Int :=
 if (G9 c).2≠0 then (O7,(G9 c).2) else if p < 0∨c.Parents≤p then (O7,3)
 else if (L9 (H3 (G9 c).1.Rows p)).2≠0 then (O7,(L9 (H3 (G9 c).1.Rows p)).2)
 else if (L9 (H3 (G9 c).1.Rows (-1))).2≠0 then (O7,(L9 (H3 (G9 c).1.Rows (-1))).2)
 else A77 c.Path c.Path (L9 (H3 (G9 c).1.Rows p)).1 (L9 (H3 (G9 c).1.Rows (-1))).1 ctx false
theorem D82:∀(hs:List CHunk),(G6 hs).length≤szC hs
 | []=>Nat.zero_le _
 | h::r=>by
  have ih:=D82 r
  have h1:=W3 h.Rows
  have e1:A56 h=2048+h.At.length+(h.Rows.map T5).sum:=rfl
  have e2:szC (h::r)=A56 h+szC r:=by unfold szC;rw [J95,K11]
  rw [G40,J86,e2]
  omega
theorem F31 (hs:List CHunk) (k:Nat):(G6 (hs.take k)).length≤(G6 hs).length:=by
 have e:G6 hs=G6 (hs.take k)++G6 (hs.drop k):=by
  unfold G6
  rw [←K04,←K00,K21]
 rw [e,J86];omega
set_option maxHeartbeats 1000000
theorem F73 (c:Comb) (hz:szC c.Hunks≤268435456) (hr:∀h∈c.Hunks,I2 h.Rows):FnOk Tryz.prog 54 [S5 c] (fun rs=>rs=[pTable (G9 c).1,E5 (G9 c).2]):=by
 have hC:=I72 c hz hr
 obtain ⟨p,d,n,hs⟩:=c
 dsimp only at hz hr
 refine FnOk.intro Tryz.func54 (by decide) Z Z Z Z ?_
 refine k2 (A2 (C0 (M2 1 Z Z Z) Z (C0 (F4 2 Z) Z (A7 Z Z (A4 ?_)))));refine k1 (k2 (k2 (A2 (A6 (C6 Z Z Z) Z (C2 (hC) Z Z Z ?_)))));rintro _ rfl;refine A7 Z Z (A4 ?_);refine k1 (k2 (A2 (A3 Z Z (A6 (H9 Z Z) Z (A4 ?_)))));refine k1 ?_;refine B3 rfl (fun ht=>?_) (fun ht=>?_)
 ·have h:=A0 ht
  refine k2 (A2 (A6 (E6 Z) Z (A3 Z Z (E2 (B6 TySz.out Z Z Z Z Z Z) (A7 Z Z (A4 ?_))))));refine k1 (G4 (J59 Row 3 rowC 2 1 Z Z) ?_)
  refine k10 (k11 ?_)
  exact B4 (rs:=[pTable ⟨0,[]⟩,E5 (J2 ⟨p,d,n,hs⟩)]) (O5 rfl rfl rfl rfl rfl rfl rfl) (by rw [B88 h])
 have h0:J2 ⟨p,d,n,hs⟩=0:=by have:=A1 ht;(try dsimp only at this);omega
 obtain ⟨p1,p2,p3,p4⟩:=C39 h0
 dsimp only at p1 p2 p3 p4
 refine k5 (k1 (k2 (A2 (A6 (A5 Z) Z (D3 Z Z Z Z (A6 (E6 Z) Z (C0 (F4 5 Z) Z (E2 (B6 TySz.out Z Z Z Z Z Z) (A4 ?_)))))))));refine k1 (k2 (k3 (k2 (A2 (A6 (A5 Z) Z (D3 Z Z Z Z (D9 Z Z (A6 (J7 Z Z) Z (A7 Z Z (A4 ?_))))))))));refine k1 ?_;refine B3 rfl (fun ht=>?_) (fun ht=>?_)
 ·have hh:hs=[]:=List.eq_nil_of_length_eq_zero (by have:=A0 ht;(try dsimp only at this);omega)
  subst hh
  refine k2 (A2 (A6 (C6 Z Z Z) Z (E2 (B6 TySz.out Z Z Z Z Z Z) (A7 Z Z (A4 ?_)))));refine k1 (G4 (J59 Row 3 rowC 2 1 Z Z) ?_)
  refine k10 (k12 (k11 ?_))
  exact B4 (rs:=[pTable ⟨n,[]⟩,E5 0]) (O5 rfl rfl rfl rfl rfl rfl rfl) (by rw [B89 h0])
 have hne:=A1 ht
 cases hs with
 | nil=>exact absurd rfl hne
 | cons x r =>
  have hv:(x::r)[(0:Int).toNat]?=some x:=rfl
  obtain ⟨a1,a2,a3⟩:=at_nn p3 (h:=x) (by simp)
  have hxz:A56 x≤268435456:=by unfold szC at hz;rw [J95,K11] at hz;omega
  have hx1:=W3 x.Rows
  have hx2:0 < x.Rows.length:=List.length_pos_iff.2 a2
  unfold A56 at hxz
  cases r with
  | cons y r =>
   have hd:decide ((((x::y::r).length:Nat):Int) > 1)=true:=decide_eq_true (by simp;omega)
   refine k2 (A2 (A6 (A5 Z) Z (D3 Z Z Z Z (D9 Z Z (A6 (K9 Z Z) Z (A3 Z Z (N9 Z Z Z (by rw [hd];decide) Z ?_)))))));refine N9 Z Z Z (by rw [hd];decide) Z ?_;refine N9 Z Z Z (by rw [hd];decide) Z ?_;refine N9 Z Z Z (by rw [hd];decide) Z ?_;refine N9 Z Z Z (by rw [hd];decide) Z ?_;refine N9 Z Z Z (by rw [hd];decide) Z ?_;refine N9 Z Z Z (by rw [hd];decide) Z ?_;refine A6 (A67 Z (hd) Z) Z (A7 Z Z (A4 ?_));refine k1 ?_;refine B3 rfl (fun ht=>?_) (fun ht=>?_)
   ·refine k2 (A2 (A6 (E6 Z) Z (E2 (B6 TySz.out Z Z Z Z Z Z) (A7 Z Z (A4 ?_)))));refine k1 (G4 (J59 Row 3 rowC 2 1 Z Z) ?_)
    refine k10 (k12 (k11 ?_))
    exact B4 (rs:=[pTable ⟨0,[]⟩,E5 121]) (O5 rfl rfl rfl rfl rfl rfl rfl) (by rw [B33 h0])
   ·cases ht
  | nil =>
   have hd:decide (((([x]:List CHunk).length:Nat):Int) > 1)=false:=decide_eq_false (by simp)
   refine k2 (A2 (A6 (A5 Z) Z (D3 Z Z Z Z (D9 Z Z (A6 (K9 Z Z) Z (A3 Z Z (N0 Z Z Z hd (A6 (A5 Z) Z (N0 Z Z Z hd (D3 Z Z Z Z (N0 Z Z Z hd (A6 (A8 Z (.pure _ _ _ _) Z (by omega) hv) Z (N0 Z Z Z hd (A6 (C1 Z) Z (N0 Z Z Z hd (A6 (B1 Z Z) Z (N0 Z Z Z hd (C2 (I23 x.At (by omega)) Z Z Z ?_))))))))))))))))));rintro _ ⟨m,rfl,hm⟩;refine N0 Z Z Z hd (A6 (K9 Z Z) Z (A6 (B77 Z (hd) Z) Z (A7 Z Z (A4 ?_))));refine k1 ?_;refine B3 rfl (fun ht=>?_) (fun ht=>?_)
   ·have hm0:0 < m:=A0 ht
    have:∃v,v∈x.At∧v≠0:=Classical.byContradiction fun q=>by
     have:m≤0:=(hm 0).2 fun e he=>by
      have:e=0:=Classical.byContradiction fun h2=>q ⟨e,he,h2⟩
      omega
     omega
    obtain ⟨v,hv1,hv2⟩:=this
    refine k2 (A2 (A6 (E6 Z) Z (E2 (B6 TySz.out Z Z Z Z Z Z) (A7 Z Z (A4 ?_)))));refine k1 (G4 (J59 Row 3 rowC 2 1 Z Z) ?_)
    refine k10 (k12 (k11 ?_))
    exact B4 (rs:=[pTable ⟨0,[]⟩,E5 121]) (O5 rfl rfl rfl rfl rfl rfl rfl) (by rw [B90 h0 hv1 hv2])
   ·have hm0:m≤0:=by have:=A1 ht;(try dsimp only at this);omega
    have hall:∀v∈x.At,v=0:=fun v h=>by have h1:=a3 v h;have h2:=(hm 0).1 hm0 v h;omega
    refine k5 (k2 (A2 (A6 (A5 Z) Z (D3 Z Z Z Z (A6 (A8 Z (.pure _ _ _ _) Z (by omega) hv) Z (A6 (C1 Z) Z (A6 (B1 Z Z) Z (C2 (I73 x.Rows (by omega)) Z Z Z ?_))))))));rintro _ rfl;refine A6 (A5 Z) Z (E2 (B6 TySz.out Z Z Z Z Z Z) (A4 ?_));refine k1 (k2 (A2 (A6 (C6 Z Z Z) Z (E2 (B6 TySz.out Z Z Z Z Z Z) (A7 Z Z (A4 ?_))))));refine k1 (k10 ?_)
    exact B4 (rs:=[pTable ⟨n,x.Rows⟩,E5 0]) (O5 rfl rfl rfl rfl rfl rfl rfl) (by rw [B91 h0 hall])
theorem D83 (c:Comb) (hz:szC c.Hunks≤268435456) (hr:∀h∈c.Hunks,I2 h.Rows):FnOk Tryz.prog 57 [S5 c] (fun rs=>rs=[pTable (G9 c).1,E5 (G9 c).2]):=by
 have hC:=D79 c hz hr
 obtain ⟨p,d,n,hs⟩:=c
 dsimp only at hz hr
 refine FnOk.intro Tryz.func57 (by decide) Z Z Z Z ?_
 refine k2 (A2 (C0 (M2 1 Z Z Z) Z (C0 (F4 2 Z) Z (A7 Z Z (A4 ?_)))));refine k1 (k2 (k2 (A2 (A6 (C6 Z Z Z) Z (C2 (hC) Z Z Z ?_)))));rintro _ rfl;refine A7 Z Z (A4 ?_);refine k1 (k2 (A2 (A3 Z Z (A6 (H9 Z Z) Z (A4 ?_)))));refine k1 ?_;refine B3 rfl (fun ht=>?_) (fun ht=>?_)
 ·have h:=A0 ht
  refine k2 (A2 (A6 (E6 Z) Z (A3 Z Z (E2 (B6 TySz.out Z Z Z Z Z Z) (A7 Z Z (A4 ?_))))));refine k1 (G4 (J59 Row 3 rowC 2 1 Z Z) ?_)
  refine k10 (k11 ?_)
  exact B4 (rs:=[pTable ⟨0,[]⟩,E5 (J2 ⟨p,d,n,hs⟩)]) (O5 rfl rfl rfl rfl rfl rfl rfl) (by rw [B88 h])
 have h0:J2 ⟨p,d,n,hs⟩=0:=by have:=A1 ht;(try dsimp only at this);omega
 refine k5 (k1 (k2 (A2 (A6 (A5 Z) Z (D3 Z Z Z Z (A6 (E6 Z) Z (C0 (F4 5 Z) Z (E2 (B6 TySz.out Z Z Z Z Z Z) (A4 ?_)))))))));refine k1 (k2 (k2 (A2 (A6 (A5 Z) Z (D3 Z Z Z Z (D9 Z Z (A6 (K9 Z Z) Z (A4 ?_))))))));refine k1 ?_;refine B3 rfl (fun ht=>?_) (fun ht=>?_)
 ·have hl:=A0 ht
  match hs,hl,h0 with
  | x::y::r,_,h0 =>
   refine k2 (A2 (A6 (E6 Z) Z (E2 (B6 TySz.out Z Z Z Z Z Z) (A7 Z Z (A4 ?_)))));refine k1 (G4 (J59 Row 3 rowC 2 1 Z Z) ?_)
   refine k10 (k11 ?_)
   exact B4 (rs:=[pTable ⟨0,[]⟩,E5 121]) (O5 rfl rfl rfl rfl rfl rfl rfl) (by rw [B33 h0])
  | [x],hl,_=>simp at hl
  | [],hl,_=>simp at hl
 have hl:hs.length≤1:=by have:=A1 ht;(try dsimp only at this);omega
 have har:=D82 hs
 have hdone:(∀y∈hs,∀v∈y.At,v=0)→G9 ⟨p,d,n,hs⟩=(⟨n,G6 hs⟩,0):=by
  intro hy
  match hs,hl,h0,hy with
  | [],_,h0,_=>rw [B89 h0];rfl
  | [x],_,h0,hy=>rw [B91 h0 (hy x (by simp))];simp [G6]
 have hbad:∀y∈hs,∀v∈y.At,v≠0→G9 ⟨p,d,n,hs⟩=(⟨0,[]⟩,121):=by
  intro y hy v hv hv0
  match hs,hl,h0,hy with
  | [x],_,h0,hy =>
   have e:y=x:=by simpa using hy
   subst e
   exact B90 h0 hv hv0
 refine k5 (k1 (k2 (k2 (A2 (A7 Z Z (A4 ?_))))));refine k1 (k3 (G4 (J61 756 Row 3 rowC 69 (kb:=5) (o:=1) Z Z Z) ?_))
 refine D1 (X:=Nat) (fun k=>([(1,.s (.one (.ref 1 0))),(2,.s (.one (.ref 2 0))),(5,.s (.one (.ref 5 0))),(6,B8 k)],[(1,.box (S5 ⟨p,d,n,hs⟩).s1.cells),(2,.box [.p (.v (.int .i64 0)),.p (.v (.slice none 0 0))]),(5,.box [.p (.v (.int .i64 n)),.buf 756 Row 3 rowC (G6 (hs.take k))]),(756,.spare (G6 (hs.take k)).length 3 69)])) (fun k=>k≤hs.length∧∀y∈hs.take k,∀v∈y.At,v=0) (fun k=>hs.length - k) 0 ⟨Nat.zero_le _,fun y hy=>by cases hy⟩ (J58 ⟨le1 rfl,le1 rfl,le1 rfl,le1 rfl,trivial⟩ ⟨rfl,rfl,rfl,rfl,trivial⟩) ?_
 rintro k ⟨hk,hzk⟩
 dsimp only at hk hzk ⊢
 refine k2 (k2 (A2 (A3 Z Z (A6 (A5 Z) Z (D3 Z Z Z Z (D9 Z Z (E1 Z Z Z (A4 ?_))))))));refine k1 ?_;refine B3 rfl (fun ht=>?_) (fun ht=>?_)
 rotate_left
 ·have hk':k=hs.length:=by have:=A1 ht;(try dsimp only at this);omega
  subst hk'
  rw [J98] at hzk ⊢
  refine k6 (k2 (A2 (A6 (C6 Z Z Z) Z (E2 (B6 TySz.out Z Z Z Z Z Z) (A7 Z Z (A4 ?_))))));refine k1 (k10 ?_)
  exact B4 (rs:=[pTable ⟨n,G6 hs⟩,E5 0]) (O5 rfl rfl rfl rfl rfl rfl rfl) (by rw [hdone hzk])
 have hlt:k < hs.length:=by have:=A0 ht;(try dsimp only at this);omega
 have hv:hs[k]?=some hs[k]:=by simp [hlt]
 have hmem:hs[k]∈hs:=J96 hlt
 have htk:hs.take (k+1)=hs.take k++[hs[k]]:=J93 hlt
 have har2:=F31 hs (k+1)
 obtain ⟨x,hx⟩:∃x,x=hs[k]:=⟨_,rfl⟩
 rw [←hx] at hv hmem htk
 have hxc:x.At.length≤268435456:=by have h1:=C26 hmem;unfold A56 at h1;omega
 have hax:G6 (hs.take (k+1))=G6 (hs.take k)++x.Rows:=by rw [htk];simp [G6]
 refine k5 (k1 (k2 (k3 (k2 (k2 (A2 (A7 Z Z (A4 ?_))))))));refine k1 (k3 (D1 (X:=Nat) (fun q=>([(1,.s (.one (.ref 1 0))),(2,.s (.one (.ref 2 0))),(5,.s (.one (.ref 5 0))),(6,B8 k),(7,B8 q)],[(1,.box (S5 ⟨p,d,n,hs⟩).s1.cells),(2,.box [.p (.v (.int .i64 0)),.p (.v (.slice none 0 0))]),(5,.box [.p (.v (.int .i64 n)),.buf 756 Row 3 rowC (G6 (hs.take k))]),(756,.spare (G6 (hs.take k)).length 3 69)])) (fun q=>q≤x.At.length∧∀v∈x.At.take q,v=0) (fun q=>x.At.length - q) 0 ⟨Nat.zero_le _,fun y hy=>by cases hy⟩ (J58 ⟨le1 rfl,le1 rfl,le1 rfl,le1 rfl,le1 rfl,trivial⟩ ⟨rfl,rfl,rfl,rfl,trivial⟩) ?_))
 rintro q ⟨hq,hzq⟩
 dsimp only at hq hzq ⊢
 refine k2 (k2 (A2 (A3 Z Z (A6 (A5 Z) Z (D3 Z Z Z Z (A3 Z Z (A6 (A8 Z (.pure _ _ _ _) Z (by omega) hv) Z (A6 (C1 Z) Z (A6 (B1 Z Z) Z (D9 Z Z (E1 Z Z Z (A4 ?_))))))))))));refine k1 ?_;refine B3 rfl (fun ht=>?_) (fun ht=>?_)
 ·have hlt2:q < x.At.length:=by have:=A0 ht;(try dsimp only at this);omega
  have hv2:x.At[q]?=some x.At[q]:=by simp [hlt2]
  have hmem2:x.At[q]∈x.At:=J96 hlt2
  have htq:x.At.take (q+1)=x.At.take q++[x.At[q]]:=J93 hlt2
  obtain ⟨v,hve⟩:∃v,v=x.At[q]:=⟨_,rfl⟩
  rw [←hve] at hv2 hmem2 htq
  refine k5 (k1 (k2 (k3 (k2 (A2 (A6 (A5 Z) Z (D3 Z Z Z Z (A3 Z Z (A6 (A8 Z (.pure _ _ _ _) Z (by omega) hv) Z (A6 (C1 Z) Z (A6 (B1 Z Z) Z (A3 Z Z (A6 (A8 Z (.pure _ _ _ _) Z (by omega) hv2) Z (A6 (B1 Z Z) Z (A6 (H9 Z Z) Z (A4 ?_))))))))))))))));refine k1 ?_;refine B3 rfl (fun ht=>?_) (fun ht=>?_)
  ·have hv0:v≠0:=A0 ht
   refine k2 (A2 (A6 (E6 Z) Z (E2 (B6 TySz.out Z Z Z Z Z Z) (A7 Z Z (A4 ?_)))));refine k1 (G4 (J59 Row 3 rowC 2 1 Z Z) ?_)
   refine k10 (k12 (k11 (k11 (k12 (k11 (k12 (k11 (k11 (k12 (k11 ?_))))))))))
   exact B4 (rs:=[pTable ⟨0,[]⟩,E5 121]) (O5 rfl rfl rfl rfl rfl rfl rfl) (by rw [hbad x hmem v hmem2 hv0])
  ·have hv0:v=0:=by have:=A1 ht;(try dsimp only at this);omega
   refine k5 (k4 (k1 (A2 (A3 Z Z (C7 Z Z Z (A7 Z Z (A4 ?_)))))));refine k1 ?_;refine ⟨q+1,⟨by omega,?_⟩,by omega,J58 ⟨le1 rfl,le1 rfl,le1 rfl,le1 rfl,le1 rfl,trivial⟩ ⟨rfl,rfl,rfl,rfl,trivial⟩⟩
   intro w hw
   rw [htq] at hw
   rcases List.mem_append.1 hw with hw | hw
   ·exact hzq w hw
   ·have:w=v:=by simpa using hw
    omega
 ·have hq':q=x.At.length:=by have:=A1 ht;(try dsimp only at this);omega
  subst hq'
  rw [J98] at hzq
  rw [hax,J86] at har2
  refine k6 (k7 (k7 (k8 Z (k1 (C5 (by kernel_rfl) (by kernel_rfl) (A9 (A5 Z) Z Z (A9 (B2 Z Z Z) Z Z (A9 (A5 Z) Z Z (A9 (B2 Z Z Z) Z Z (C3 Z Z (A9 (A8 Z (.pure _ _ _ _) Z (by omega) hv) Z Z (A9 (C1 Z) Z Z (A9 (B1 Z Z) Z Z (A96 (F8 Z Z Z (.pure _ _ _ _) (by omega) Z) Z Z (A9 (A5 Z) Z Z (o6 (B6 TySz.out Z Z Z Z Z Z) Z (G5 ?_)))))))))))))))))
  rw [←hax]
  refine k4 (k1 (A2 (A3 Z Z (C7 Z Z Z (A7 Z Z (A4 ?_))))));refine k1 ?_;refine ⟨k+1,⟨by omega,?_⟩,by omega,J58 ⟨le1 rfl,le1 rfl,le1 rfl,le1 rfl,trivial⟩ ⟨rfl,rfl,rfl,rfl,trivial⟩⟩
  intro y hy
  rw [htk] at hy
  rcases List.mem_append.1 hy with hy | hy
  ·exact hzk y hy
  ·have:y=x:=by simpa using hy
   subst this
   exact hzq
theorem G97 (c:Comb) (pa ctx:Int) (hz:szC c.Hunks≤268435456) (hr:∀h∈c.Hunks,I2 h.Rows):FnOk Tryz.prog 58 [S5 c,E5 pa,E5 ctx] (fun rs=>rs=[pPatch (A40 c pa ctx).1,E5 (A40 c pa ctx).2]):=by
 have hT:=F73 c hz hr
 obtain ⟨t1,t2,t3,t4⟩:=C69 c hz hr
 have hsd:A40 c pa ctx=if (G9 c).2≠0 then (O7,(G9 c).2) else if pa < 0∨c.Parents≤pa then (O7,3)
  else if (L9 (H3 (G9 c).1.Rows pa)).2≠0 then (O7,(L9 (H3 (G9 c).1.Rows pa)).2)
  else if (L9 (H3 (G9 c).1.Rows (-1))).2≠0 then (O7,(L9 (H3 (G9 c).1.Rows (-1))).2)
  else A77 c.Path c.Path (L9 (H3 (G9 c).1.Rows pa)).1 (L9 (H3 (G9 c).1.Rows (-1))).1 ctx false:=rfl
 obtain ⟨t,e,hte⟩:∃t e,G9 c=(t,e):=⟨_,_,rfl⟩
 rw [hte] at hT t1 t2 t3 t4 hsd
 dsimp only at hT t1 t2 t3 t4 hsd
 have c1:=C65 t pa t1 (by omega) (by omega)
 have c2:=C65 t (-1) t1 (by omega) (by omega)
 have f1:=B14 (H3 t.Rows pa)
 have f2:=B14 (H3 t.Rows (-1))
 obtain ⟨a,ea,ha⟩:∃a e,L9 (H3 t.Rows pa)=(a,e):=⟨_,_,rfl⟩
 obtain ⟨b,eb,hb⟩:∃a e,L9 (H3 t.Rows (-1))=(a,e):=⟨_,_,rfl⟩
 rw [ha] at c1 f1 hsd
 rw [hb] at c2 f2 hsd
 dsimp only at c1 c2 f1 f2 hsd
 have hm:=I68 c.Path c.Path a b ctx false f1 f2
 rw [hsd]
 obtain ⟨p,d,n,hs⟩:=c
 dsimp only at hz hr hm ⊢
 refine FnOk.intro Tryz.func58 (by decide) Z Z Z Z ?_
 refine k2 (A2 (C0 (M2 3 Z Z Z) Z (C0 (F4 6 Z) Z (A7 Z Z (A4 ?_)))));refine k1 (k2 (A2 (A6 (C6 Z Z Z) Z (C2 (hT) Z Z Z ?_))));rintro _ rfl;refine A3 Z Z (F5 Z Z Z (F5 Z Z Z (C0 (F4 8 Z) Z (E2 (B6 TySz.out Z Z Z Z Z Z) (A7 Z Z (A4 ?_))))));refine k1 (k2 (k3 (k2 (A2 (A3 Z Z (A6 (H9 Z Z) Z (A7 Z Z (A4 ?_))))))));refine k1 ?_;refine B3 rfl (fun ht=>?_) (fun ht=>?_)
 ·have h:=A0 ht
  refine k2 (A2 (A6 (E6 Z) Z (A3 Z Z (E2 (B6 TySz.out Z Z Z Z Z Z) (A7 Z Z (A4 ?_))))));refine k1 (G4 (J59 PatchHunk 3 phunkC 6 2 Z Z) ?_)
  refine k10 (k12 (k11 ?_))
  exact B4 (rs:=[pPatch O7,E5 e]) (O5 rfl rfl rfl rfl rfl rfl rfl) (by rw [if_pos h])
 have h:=A1 ht
 rw [if_neg h]
 refine k2 (A2 (A3 Z Z (E1 Z Z Z (A3 Z Z (B0 Z Z Z Z (fun hg=>by rw [hg];exact B5 Z Z) ?_)))));refine B0 Z Z Z Z (fun hg=>by rw [hg];exact A5 Z) ?_;refine B0 Z Z Z Z (fun hg=>by rw [hg];exact B2 Z Z Z) ?_;refine B0 Z Z Z Z (fun hg=>by rw [hg];exact i8 Z Z) ?_;refine F2 Z Z ?_;refine A7 Z Z (A4 ?_);refine k1 ?_;refine B3 rfl (fun ht=>?_) (fun ht=>?_)
 ·have h1:=A0 (or_pick.symm.trans ht)
  refine k2 (A2 (A6 (E6 Z) Z (E2 (B6 TySz.out Z Z Z Z Z Z) (A7 Z Z (A4 ?_)))));refine k1 (G4 (J59 PatchHunk 3 phunkC 6 2 Z Z) ?_)
  refine k10 (k12 (k11 ?_))
  exact B4 (rs:=[pPatch O7,E5 3]) (O5 rfl rfl rfl rfl rfl rfl rfl) (by rw [if_pos (by omega)])
 have h1:=A1 (or_pick.symm.trans ht)
 rw [if_neg (show ¬(pa < 0∨n≤pa) by omega)]
 refine k5 (k2 (A2 (A6 (C6 Z Z Z) Z (A3 Z Z (C2 (c1) Z Z Z ?_)))));rintro _ rfl;refine A3 Z Z (F5 Z Z Z (F5 Z Z Z (A7 Z Z (A7 Z Z (A4 ?_)))));refine k1 (k2 (k2 (A2 (A3 Z Z (A6 (H9 Z Z) Z (A4 ?_))))));refine k1 ?_;refine B3 rfl (fun ht=>?_) (fun ht=>?_)
 ·have h2:=A0 ht
  refine k2 (A2 (A6 (E6 Z) Z (A3 Z Z (E2 (B6 TySz.out Z Z Z Z Z Z) (A7 Z Z (A4 ?_))))));refine k1 (G4 (J59 PatchHunk 3 phunkC 6 2 Z Z) ?_)
  refine k10 (k11 ?_)
  exact B4 (rs:=[pPatch O7,E5 ea]) (O5 rfl rfl rfl rfl rfl rfl rfl) (by rw [if_pos h2])
 have h2:=A1 ht
 rw [if_neg h2]
 refine k5 (k1 (k2 (A2 (A6 (C6 Z Z Z) Z (C2 (c2) Z Z Z ?_)))));rintro _ rfl;refine A3 Z Z (F5 Z Z Z (F5 Z Z Z (A7 Z Z (A7 Z Z (A4 ?_)))));refine k1 (k2 (k2 (A2 (A3 Z Z (A6 (H9 Z Z) Z (A4 ?_))))));refine k1 ?_;refine B3 rfl (fun ht=>?_) (fun ht=>?_)
 ·have h3:=A0 ht
  refine k2 (A2 (A6 (E6 Z) Z (A3 Z Z (E2 (B6 TySz.out Z Z Z Z Z Z) (A7 Z Z (A4 ?_))))));refine k1 (G4 (J59 PatchHunk 3 phunkC 6 2 Z Z) ?_)
  refine k10 (k11 ?_)
  exact B4 (rs:=[pPatch O7,E5 eb]) (O5 rfl rfl rfl rfl rfl rfl rfl) (by rw [if_pos h3])
 have h3:=A1 ht
 rw [if_neg h3]
 refine k5 (k1 (k2 (A2 (A6 (A5 Z) Z (D3 Z Z Z Z (A6 (A5 Z) Z (D3 Z Z Z Z (A3 Z Z (A3 Z Z (A3 Z Z (C2 (hm) Z Z Z ?_)))))))))));rintro _ rfl;refine F5 Z Z Z (F5 Z Z Z (E2 (B6 TySz.out Z Z Z Z Z Z) (A7 Z Z (A4 ?_))));refine k1 (k10 ?_)
 exact B4 (O5 rfl rfl rfl rfl rfl rfl rfl) rfl
theorem E74 (c:Comb) (pa ctx:Int) (hz:szC c.Hunks≤268435456) (hr:∀h∈c.Hunks,I2 h.Rows):FnOk Tryz.prog 59 [S5 c,E5 pa,E5 ctx] (fun rs=>rs=[pPatch (A40 c pa ctx).1,E5 (A40 c pa ctx).2]):=by
 have hT:=D83 c hz hr
 obtain ⟨t1,t2,t3,t4⟩:=C69 c hz hr
 have hsd:A40 c pa ctx=if (G9 c).2≠0 then (O7,(G9 c).2) else if pa < 0∨c.Parents≤pa then (O7,3)
  else if (L9 (H3 (G9 c).1.Rows pa)).2≠0 then (O7,(L9 (H3 (G9 c).1.Rows pa)).2)
  else if (L9 (H3 (G9 c).1.Rows (-1))).2≠0 then (O7,(L9 (H3 (G9 c).1.Rows (-1))).2)
  else A77 c.Path c.Path (L9 (H3 (G9 c).1.Rows pa)).1 (L9 (H3 (G9 c).1.Rows (-1))).1 ctx false:=rfl
 obtain ⟨t,e,hte⟩:∃t e,G9 c=(t,e):=⟨_,_,rfl⟩
 rw [hte] at hT t1 t2 t3 t4 hsd
 dsimp only at hT t1 t2 t3 t4 hsd
 have c1:=D69 t pa t1 (by omega) (by omega)
 have c2:=D69 t (-1) t1 (by omega) (by omega)
 have f1:=B14 (H3 t.Rows pa)
 have f2:=B14 (H3 t.Rows (-1))
 have hk1:e=0→¬(pa < 0∨c.Parents≤pa)→U0 t pa=L9 (H3 t.Rows pa):=fun he hp=>by
  obtain ⟨_,q2,q3⟩:=t4 he
  exact D81 q2 (by omega)
 have hk2:e=0→¬(pa < 0∨c.Parents≤pa)→U0 t (-1)=L9 (H3 t.Rows (-1)):=fun he hp=>by
  obtain ⟨_,q2,q3⟩:=t4 he
  exact D81 q2 (by omega)
 obtain ⟨a,ea,ha⟩:∃a e,L9 (H3 t.Rows pa)=(a,e):=⟨_,_,rfl⟩
 obtain ⟨b,eb,hb⟩:∃a e,L9 (H3 t.Rows (-1))=(a,e):=⟨_,_,rfl⟩
 rw [ha] at f1 hsd hk1
 rw [hb] at f2 hsd hk2
 dsimp only at f1 f2 hsd
 have hm:=H62 c.Path c.Path a b ctx false f1 f2
 rw [hsd]
 obtain ⟨p,d,n,hs⟩:=c
 dsimp only at hz hr hm hk1 hk2 ⊢
 refine FnOk.intro Tryz.func59 (by decide) Z Z Z Z ?_
 refine k2 (A2 (C0 (M2 3 Z Z Z) Z (C0 (F4 6 Z) Z (A7 Z Z (A4 ?_)))));refine k1 (k2 (A2 (A6 (C6 Z Z Z) Z (C2 (hT) Z Z Z ?_))));rintro _ rfl;refine A3 Z Z (F5 Z Z Z (F5 Z Z Z (C0 (F4 8 Z) Z (E2 (B6 TySz.out Z Z Z Z Z Z) (A7 Z Z (A4 ?_))))));refine k1 (k2 (k2 (A2 (A3 Z Z (A6 (H9 Z Z) Z (A4 ?_))))));refine k1 ?_;refine B3 rfl (fun ht=>?_) (fun ht=>?_)
 ·have h:=A0 ht
  refine k2 (A2 (A6 (E6 Z) Z (A3 Z Z (E2 (B6 TySz.out Z Z Z Z Z Z) (A7 Z Z (A4 ?_))))));refine k1 (G4 (J59 PatchHunk 3 phunkC 6 2 Z Z) ?_)
  refine k10 (k11 ?_)
  exact B4 (rs:=[pPatch O7,E5 e]) (O5 rfl rfl rfl rfl rfl rfl rfl) (by rw [if_pos h])
 have h:=A1 ht
 rw [if_neg h]
 refine k5 (k1 (k2 (k2 (A2 (A3 Z Z (E1 Z Z Z (A3 Z Z (B0 Z Z Z Z (fun hg=>by rw [hg];exact B5 Z Z) ?_))))))));refine B0 Z Z Z Z (fun hg=>by rw [hg];exact A5 Z) ?_;refine B0 Z Z Z Z (fun hg=>by rw [hg];exact B2 Z Z Z) ?_;refine B0 Z Z Z Z (fun hg=>by rw [hg];exact i8 Z Z) ?_;refine F2 Z Z ?_;refine A4 ?_;refine k1 ?_;refine B3 rfl (fun ht=>?_) (fun ht=>?_)
 ·have h1:=A0 (or_pick.symm.trans ht)
  refine k2 (A2 (A6 (E6 Z) Z (E2 (B6 TySz.out Z Z Z Z Z Z) (A7 Z Z (A4 ?_)))));refine k1 (G4 (J59 PatchHunk 3 phunkC 6 2 Z Z) ?_)
  refine k10 (k11 ?_)
  exact B4 (rs:=[pPatch O7,E5 3]) (O5 rfl rfl rfl rfl rfl rfl rfl) (by rw [if_pos (by omega)])
 have h1:=A1 (or_pick.symm.trans ht)
 have h1:¬(pa < 0∨n≤pa):=by omega
 rw [if_neg h1]
 have he:e=0:=by omega
 rw [hk1 he h1] at c1
 rw [hk2 he h1] at c2
 refine k5 (k1 (k2 (A2 (A6 (C6 Z Z Z) Z (A3 Z Z (C2 (c1) Z Z Z ?_))))));rintro _ rfl;refine A3 Z Z (F5 Z Z Z (F5 Z Z Z (A7 Z Z (A7 Z Z (A4 ?_)))));refine k1 (k2 (k2 (A2 (A3 Z Z (A6 (H9 Z Z) Z (A4 ?_))))));refine k1 ?_;refine B3 rfl (fun ht=>?_) (fun ht=>?_)
 ·have h2:=A0 ht
  refine k2 (A2 (A6 (E6 Z) Z (A3 Z Z (E2 (B6 TySz.out Z Z Z Z Z Z) (A7 Z Z (A4 ?_))))));refine k1 (G4 (J59 PatchHunk 3 phunkC 6 2 Z Z) ?_)
  refine k10 (k11 ?_)
  exact B4 (rs:=[pPatch O7,E5 ea]) (O5 rfl rfl rfl rfl rfl rfl rfl) (by rw [if_pos h2])
 have h2:=A1 ht
 rw [if_neg h2]
 refine k5 (k1 (k2 (A2 (A6 (C6 Z Z Z) Z (C2 (c2) Z Z Z ?_)))));rintro _ rfl;refine A3 Z Z (F5 Z Z Z (F5 Z Z Z (A7 Z Z (A7 Z Z (A4 ?_)))));refine k1 (k2 (k2 (A2 (A3 Z Z (A6 (H9 Z Z) Z (A4 ?_))))));refine k1 ?_;refine B3 rfl (fun ht=>?_) (fun ht=>?_)
 ·have h3:=A0 ht
  refine k2 (A2 (A6 (E6 Z) Z (A3 Z Z (E2 (B6 TySz.out Z Z Z Z Z Z) (A7 Z Z (A4 ?_))))));refine k1 (G4 (J59 PatchHunk 3 phunkC 6 2 Z Z) ?_)
  refine k10 (k11 ?_)
  exact B4 (rs:=[pPatch O7,E5 eb]) (O5 rfl rfl rfl rfl rfl rfl rfl) (by rw [if_pos h3])
 have h3:=A1 ht
 rw [if_neg h3]
 refine k5 (k1 (k2 (A2 (A6 (A5 Z) Z (D3 Z Z Z Z (A6 (A5 Z) Z (D3 Z Z Z Z (A3 Z Z (A3 Z Z (A3 Z Z (C2 (hm) Z Z Z ?_)))))))))));rintro _ rfl;refine F5 Z Z Z (F5 Z Z Z (E2 (B6 TySz.out Z Z Z Z Z Z) (A7 Z Z (A4 ?_))));refine k1 (k10 ?_)
 exact B4 (O5 rfl rfl rfl rfl rfl rfl rfl) rfl
theorem I86 (t:Table) (ht:t.Rows.length≤1099511627776):FnOk Tryz.prog 55 [pTable t,pTable t] (fun rs=>rs=[I8 true]):=by
 refine FnOk.intro Tryz.func55 (by decide) Z Z Z Z ?_
 refine k2 (A2 (C0 (M2 2 Z Z Z) Z (C0 (M2 3 Z Z Z) Z (A7 Z Z (A4 ?_)))));refine k1 (k2 (A2 (A6 (A5 Z) Z (D3 Z Z Z Z (A6 (A5 Z) Z (D3 Z Z Z Z (A6 (J7 Z Z) Z (A3 Z Z (B0 Z Z Z Z (fun hg=>by rw [hg];exact A5 Z) ?_)))))))));refine B0 Z Z Z Z (fun hg=>by rw [hg];exact B2 Z Z Z) ?_;refine B0 Z Z Z Z (fun hg=>by rw [hg];exact A5 Z) ?_;refine B0 Z Z Z Z (fun hg=>by rw [hg];exact B2 Z Z Z) ?_;refine B0 Z Z Z Z (fun hg=>by have hq:=hg;(try simp at hq);rw [hg];exact E3 (J37 t.Rows ht) Z Z) ?_;refine F2 Z Z ?_;refine A7 Z Z (A4 ?_);refine k1 (k10 ?_)
 exact B4 (F3 rfl rfl rfl) (by simp)
def combC:Comb→Nat→Cell:=fun c j=>match j with
 | 0=>.v (.string ⟨c.Path.toArray⟩)
 | 1=>.v (.bool c.Dense)
 | 2=>.v (.int .i64 c.Parents)
 | _=>.list CHunk 2 S4 c.Hunks
theorem H74 {on nn a b:Str} {ctx:Int} (ha:Few a) (hb:Few b):szP (A77 on nn a b ctx false).1.Hunks≤268435456:=by
 unfold A77
 split
 ·exact Nat.zero_le _
 ·rename_i h1
  split
  ·exact Nat.zero_le _
  ·rename_i h2
   have hn1:J1 on=true:=by cases q:J1 on<;>simp [q] at h1 ⊢
   have hn2:J1 nn=true:=by cases q:J1 nn<;>simp [q] at h1 ⊢
   exact (C78 on nn a b _ ctx hn1 hn2 h2 ha hb (A91 _ _ false ha.2 hb.2).1).sz
theorem I87 (c:Comb) (p ctx:Int):szP (A40 c p ctx).1.Hunks≤268435456:=by
 unfold A40
 split
 ·exact Nat.zero_le _
 ·split
  ·exact Nat.zero_le _
  ·split
   ·exact Nat.zero_le _
   ·split
    ·exact Nat.zero_le _
    ·exact H74 (B14 _) (B14 _)
set_option maxHeartbeats 1000000
theorem F32 (raw:List Int) (n ctx pa:Int) (c:Comb) (hz:szC c.Hunks≤2048*c.Hunks.length+67108864) (hr:∀h∈c.Hunks,I2 h.Rows):FnOk Tryz.prog 12 [M1 raw,E5 n,E5 ctx,E5 pa,S5 c] (fun rs=>rs=[I8 true]):=by
 obtain ⟨x,r,hpk,hxl,_⟩:=G95 raw n
 have hsm:=H71 hpk
 have hP:=pick_ok raw n x r hpk
 have hF:=J39 [120] x r hsm
 have hm3:=C61 ctx 3 (by omega) (by omega)
 have hm4:=C61 ctx 4 (by omega) (by omega)
 have hm5:=C61 pa 5 (by omega) (by omega)
 have hq5:=o8 pa (n:=5) (by omega)
 obtain ⟨c3,hc3⟩:∃q,q=U9 ctx 3:=⟨_,rfl⟩
 obtain ⟨c4,hc4⟩:∃q,q=U9 ctx 4:=⟨_,rfl⟩
 obtain ⟨c5,hc5⟩:∃q,q=U9 pa 5:=⟨_,rfl⟩
 rw [←hc3] at hm3
 rw [←hc4] at hm4
 rw [←hc5] at hm5 hq5
 have hM:=H72 [120] x r c3 false hsm
 have zx:=I85 (path:=[120]) hsm
 have zy:=I84 (path:=[120]) (ctx:=c3) (d:=false) hsm
 obtain ⟨cx,ex,hcx⟩:∃c e,B87 [120] x r=(c,e):=⟨_,_,rfl⟩
 obtain ⟨cy,ey,hcy⟩:∃c e,x9 [120] x r c3 false=(c,e):=⟨_,_,rfl⟩
 rw [hcx] at hF zx
 rw [hcy] at hM zy
 dsimp only at hF hM zx zy
 refine FnOk.intro Tryz.func12 (by decide) Z Z Z Z ?_
 refine k2 (A2 (C0 (M2 9 Z Z Z) Z (A7 Z Z (A4 ?_))));refine k1 (k2 (k2 (A2 (A6 (A5 Z) Z (D3 Z Z Z Z (D9 Z Z (A6 (K9 Z Z) Z (A3 Z Z (B0 Z Z Z Z (fun hg=>by rw [hg];exact A5 Z) ?_)))))))));refine B0 Z Z Z Z (fun hg=>by rw [hg];exact B2 Z Z Z) ?_;refine B0 Z Z Z Z (fun hg=>by rw [hg];exact K6 Z) ?_;refine B0 Z Z Z Z (fun hg=>by rw [hg];exact K9 Z Z) ?_;refine F2 Z Z ?_;refine A4 ?_;refine k1 ?_;refine B3 rfl (fun ht=>?_) (fun ht=>?_)
 ·refine k2 (A2 (C2 (E70) Z Z Z ?_));rintro _ rfl;refine A7 Z Z (A4 ?_);refine k1 (k10 (k11 ?_))
  exact B4 (F3 rfl rfl rfl) rfl
 have h3:c.Hunks.length≤2:=by
  have h:=A1 (or_pick.symm.trans ht)
  omega
 have hz3:szC c.Hunks≤268435456:=by omega
 refine k5 (k1 (k2 (k2 (A2 (A7 Z Z (A4 ?_))))));refine k1 (k3 (D1 (X:=Nat) (fun k=>([(0,.s (M1 raw).s1),(1,B8 n),(2,B8 ctx),(3,B8 pa),(9,.s (.one (.ref 9 0))),(11,B8 k)],[(9,.box (S5 c).s1.cells)])) (fun k=>k≤c.Hunks.length) (fun k=>c.Hunks.length - k) 0 (Nat.zero_le _) (J58 ⟨le1 rfl,le1 rfl,le1 rfl,le1 rfl,le1 rfl,le1 rfl,trivial⟩ ⟨rfl,trivial⟩) ?_))
 intro k hk
 dsimp only at hk ⊢
 refine k2 (k2 (A2 (A3 Z Z (A6 (A5 Z) Z (D3 Z Z Z Z (D9 Z Z (E1 Z Z Z (A4 ?_))))))));refine k1 ?_;refine B3 rfl (fun ht=>?_) (fun ht=>?_)
 ·have hlt:k < c.Hunks.length:=by have:=A0 ht;omega
  have hv:c.Hunks[k]?=some c.Hunks[k]:=by simp [hlt]
  refine k5 (k1 (k2 (k3 (k2 (A2 (A6 (A5 Z) Z (D3 Z Z Z Z (A3 Z Z (A6 (A8 Z (.pure _ _ _ _) Z (by omega) hv) Z (A6 (C1 Z) Z (A6 (B1 Z Z) Z (D9 Z Z (A6 (K9 Z Z) Z (A3 Z Z (B0 Z Z Z Z (fun hg=>by rw [hg];exact A5 Z) ?_)))))))))))))));refine B0 Z Z Z Z (fun hg=>by rw [hg];exact B2 Z Z Z) ?_;refine B0 Z Z Z Z (fun hg=>by rw [hg];exact B5 Z Z) ?_;refine B0 Z Z Z Z (fun hg=>by have hq:=hg;(try simp at hq);rw [hg];exact A8 Z (.pure _ _ _ _) Z (by omega) hv) ?_;refine B0 Z Z Z Z (fun hg=>by rw [hg];exact C1 Z) ?_;refine B0 Z Z Z Z (fun hg=>by rw [hg];exact B1 Z Z) ?_;refine B0 Z Z Z Z (fun hg=>by rw [hg];exact O8 Z (.pure _ _ _ _)) ?_;refine B0 Z Z Z Z (fun hg=>by rw [hg];exact K9 Z Z) ?_;refine F2 Z Z ?_;refine A4 ?_;refine k1 ?_;refine B3 rfl (fun ht=>?_) (fun ht=>?_)
  ·refine k2 (A2 (C2 (E70) Z Z Z ?_));rintro _ rfl;refine A7 Z Z (A4 ?_);refine k1 (k10 (k12 (k11 (k11 (k12 (k11 ?_))))))
   exact B4 (F3 rfl rfl rfl) rfl
  refine k5 (k4 (k1 (A2 (A3 Z Z (C7 Z Z Z (A7 Z Z (A4 ?_)))))));refine k1 ?_
  exact ⟨k+1,by omega,by omega,J58 ⟨le1 rfl,le1 rfl,le1 rfl,le1 rfl,le1 rfl,le1 rfl,trivial⟩ ⟨rfl,trivial⟩⟩
 refine k6 (k2 (A2 (A3 Z Z (A3 Z Z (C2 (hP) Z Z Z ?_)))));rintro _ rfl;refine A3 Z Z (F5 Z Z Z (F5 Z Z Z (A7 Z Z (A7 Z Z (A4 ?_)))));refine k1 (k2 (A2 (A3 Z Z (A3 Z Z (C2 (hF) Z Z Z ?_)))));rintro _ rfl;refine A3 Z Z (F5 Z Z Z (F5 Z Z Z (C0 (F4 14 Z) Z (E2 (B6 TySz.out Z Z Z Z Z Z) (A7 Z Z (A4 ?_))))));refine k1 (k2 (A2 (A3 Z Z (A3 Z Z (A3 Z Z (C2 (hm3) Z Z Z ?_))))));rintro _ rfl;refine C2 (hM) Z Z Z ?_;rintro _ rfl;refine A3 Z Z (F5 Z Z Z (F5 Z Z Z (C0 (F4 16 Z) Z (E2 (B6 TySz.out Z Z Z Z Z Z) (A7 Z Z (A4 ?_))))));refine k1 (k2 (A2 (A6 (C6 Z Z Z) Z (A6 (C6 Z Z Z) Z (A6 (C6 Z Z Z) Z (A6 (C9 (c:=combC) (ys:=[cx,cy,c]) (D8 Z Z Z Z (D8 Z Z Z Z (D8 Z Z Z Z F1))) Z Z Z) Z (A7 Z Z (A4 ?_))))))))
 obtain ⟨l,hl⟩:∃l,l=[cx,cy,c]:=⟨_,rfl⟩
 have hll:l.length=3:=by rw [hl];rfl
 have hlz:∀z∈l,szC z.Hunks≤268435456∧∀h∈z.Hunks,I2 h.Rows:=by
  rw [hl]
  intro z hz
  simp only [K28,K33,or_false] at hz
  rcases hz with rfl | rfl | rfl
  ·exact zx
  ·exact zy
  ·exact ⟨hz3,hr⟩
 rw [←hl]
 refine k1 (k2 (k2 (A2 (A7 Z Z (A4 ?_)))));refine k1 (k3 (D1 (X:=Nat) (fun i=>([(2,B8 ctx),(3,B8 pa),(14,.s (.one (.ref 14 0))),(18,C4 Comb 4 combC l),(19,B8 i)],[(14,.box (S5 cx).s1.cells)])) (fun i=>i≤3) (fun i=>3 - i) 0 (Nat.zero_le _) (J58 ⟨le1 rfl,le1 rfl,le1 rfl,le1 rfl,le1 rfl,trivial⟩ ⟨rfl,trivial⟩) ?_))
 intro i hi
 dsimp only at hi ⊢
 refine k2 (k2 (A2 (A3 Z Z (E1 Z Z Z (A4 ?_)))));refine k1 ?_;refine B3 rfl (fun ht=>?_) (fun ht=>?_)
 ·have hlt:i < l.length:=by have:=A0 ht;omega
  have hv:l[i]?=some l[i]:=by simp [hlt]
  obtain ⟨z1,z2⟩:=hlz _ (J96 hlt)
  obtain ⟨z,hze⟩:∃z,z=l[i]:=⟨_,rfl⟩
  rw [←hze] at hv z1 z2
  have w1:=F73 z z1 z2
  have w2:=D83 z z1 z2
  have w3:=G97 z (c5 - 1) c4 z1 z2
  have w4:=E74 z (c5 - 1) c4 z1 z2
  obtain ⟨_,t2,_,_⟩:=C69 z z1 z2
  have g1:=I86 (G9 z).1 (by omega)
  have hsz:=I87 z (c5 - 1) c4
  have g2:=I54 (A40 z (c5 - 1) c4).1 (A40 z (c5 - 1) c4).1 (by omega)
  obtain ⟨ta,te,hta⟩:∃a e,G9 z=(a,e):=⟨_,_,rfl⟩
  obtain ⟨sa,se,hsa⟩:∃a e,A40 z (c5 - 1) c4=(a,e):=⟨_,_,rfl⟩
  rw [hta] at w1 w2 g1
  rw [hsa] at w3 w4 g2
  dsimp only at w1 w2 w3 w4 g1 g2
  refine k5 (k1 (k2 (k3 (k2 (A2 (A3 Z Z (A3 Z Z (A6 (A8 Z (.pure _ _ _ _) Z (by omega) hv) Z (A6 (C8 Z Z) Z (C2 (w1) Z Z Z ?_))))))))));rintro _ rfl;refine A3 Z Z (F5 Z Z Z (F5 Z Z Z (C0 (F4 20 Z) Z (E2 (B6 TySz.out Z Z Z Z Z Z) (A7 Z Z (A4 ?_))))));refine k1 (k2 (A2 (A3 Z Z (A3 Z Z (A6 (A8 Z (.pure _ _ _ _) Z (by omega) hv) Z (A6 (C8 Z Z) Z (C2 (w2) Z Z Z ?_)))))));rintro _ rfl;refine A3 Z Z (F5 Z Z Z (F5 Z Z Z (C0 (F4 22 Z) Z (E2 (B6 TySz.out Z Z Z Z Z Z) (A7 Z Z (A4 ?_))))));refine k1 (k2 (x5 [14,13] [[],[13],[14,13]] [(0,[13]),(1,[13]),(2,[13]),(3,[13]),(4,[13]),(5,[13]),(6,[13]),(7,[13]),(8,[13]),(9,[13]),(10,[13]),(11,[13]),(12,[13]),(12,[14,13])] (by kernel_rfl) (by kernel_rfl) (L8 Z (B5 Z Z) (L8 Z (B5 Z Z) (L8 Z (A8 Z (.pure _ _ _ _) Z (by omega) hv) (L8 Z (C8 Z Z) (L8 Z (B5 Z Z) (L8 Z (E3 (hm5) Z Z) (L8 Z (I5 Z Z (by omega)) (L8 Z (B5 Z Z) (L8 Z (E3 (hm4) Z Z) (L8 Z (E3 (w3) Z Z) (L8 Z (B5 Z Z) (L8 Z (O4 Z Z) (L8 Z (O4 Z Z) (C12 24 Z Z (A85 (Y6 TySz.out Z Z Z Z Z Z) (L8 Z (E0 Z Z) ?_))))))))))))))))));refine G60 rfl ?_ ?_
  ·refine G3 Z Z (B5 Z Z) (G3 Z Z (B5 Z Z) (G3 Z Z (A8 Z (.pure _ _ _ _) Z (by omega) hv) (G3 Z Z (C8 Z Z) (G3 Z Z (B5 Z Z) (G3 Z Z (E3 (hm5) Z Z) (G3 Z Z (I5 Z Z (by omega)) (G3 Z Z (B5 Z Z) (G3 Z Z (E3 (hm4) Z Z) (G3 Z Z (E3 (w3) Z Z) (G3 Z Z (B5 Z Z) (G3 Z Z (O4 Z Z) (G3 Z Z (O4 Z Z) (G3 Z Z (O4 Z Z) ?_)))))))))))));exact G61
  refine k1 (k2 (x5 [14,13] [[],[13],[14,13]] [(0,[13]),(1,[13]),(2,[13]),(3,[13]),(4,[13]),(5,[13]),(6,[13]),(7,[13]),(8,[13]),(9,[13]),(10,[13]),(11,[13]),(12,[13]),(12,[14,13])] (by kernel_rfl) (by kernel_rfl) (L8 Z (B5 Z Z) (L8 Z (B5 Z Z) (L8 Z (A8 Z (.pure _ _ _ _) Z (by omega) hv) (L8 Z (C8 Z Z) (L8 Z (B5 Z Z) (L8 Z (E3 (hm5) Z Z) (L8 Z (I5 Z Z (by omega)) (L8 Z (B5 Z Z) (L8 Z (E3 (hm4) Z Z) (L8 Z (E3 (w4) Z Z) (L8 Z (B5 Z Z) (L8 Z (O4 Z Z) (L8 Z (O4 Z Z) (C12 26 Z Z (A85 (Y6 TySz.out Z Z Z Z Z Z) (L8 Z (E0 Z Z) ?_))))))))))))))))));refine G60 rfl ?_ ?_
  ·refine G3 Z Z (B5 Z Z) (G3 Z Z (B5 Z Z) (G3 Z Z (A8 Z (.pure _ _ _ _) Z (by omega) hv) (G3 Z Z (C8 Z Z) (G3 Z Z (B5 Z Z) (G3 Z Z (E3 (hm5) Z Z) (G3 Z Z (I5 Z Z (by omega)) (G3 Z Z (B5 Z Z) (G3 Z Z (E3 (hm4) Z Z) (G3 Z Z (E3 (w4) Z Z) (G3 Z Z (B5 Z Z) (G3 Z Z (O4 Z Z) (G3 Z Z (O4 Z Z) (G3 Z Z (O4 Z Z) ?_)))))))))))));exact G61
  refine k1 (k2 (A2 (A6 (C6 Z Z Z) Z (A6 (C6 Z Z Z) Z (C2 (g1) Z Z Z ?_)))));rintro _ rfl;refine L7 Z Z (A3 Z Z (B0 Z Z Z Z (fun hg=>by rw [hg];exact B5 Z Z) ?_));refine B0 Z Z Z Z (fun hg=>by rw [hg];exact B5 Z Z) ?_;refine B0 Z Z Z Z (fun hg=>by rw [hg];exact H9 Z Z) ?_;refine F2 Z Z ?_;refine A3 Z Z (B0 Z Z Z Z (fun hg=>by rw [hg];exact C6 Z Z Z) ?_);refine B0 Z Z Z Z (fun hg=>by rw [hg];exact C6 Z Z Z) ?_;refine B0 Z Z Z Z (fun hg=>by have hq:=hg;(try simp at hq);rw [hg];exact E3 (g2) Z Z) ?_;refine B0 Z Z Z Z (fun hg=>by rw [hg];exact Y0 Z) ?_;refine F2 Z Z ?_;refine A3 Z Z (B0 Z Z Z Z (fun hg=>by rw [hg];exact B5 Z Z) ?_);refine B0 Z Z Z Z (fun hg=>by rw [hg];exact B5 Z Z) ?_;refine B0 Z Z Z Z (fun hg=>by rw [hg];exact H9 Z Z) ?_;refine F2 Z Z ?_;refine A4 ?_;refine k1 ?_;refine B3 rfl (fun ht=>?_) (fun ht=>?_)
  ·exfalso;simp at ht
  refine k5 (k4 (k1 (A2 (A3 Z Z (C7 Z Z Z (A7 Z Z (A4 ?_)))))));refine k1 ?_
  exact ⟨i+1,by omega,by omega,J58 ⟨le1 rfl,le1 rfl,le1 rfl,le1 rfl,le1 rfl,trivial⟩ ⟨rfl,trivial⟩⟩
 have w5:=G97 cx pa ctx zx.1 zx.2
 have w6:=E74 cx pa ctx zx.1 zx.2
 obtain ⟨sa,se,hsa⟩:∃a e,A40 cx pa ctx=(a,e):=⟨_,_,rfl⟩
 rw [hsa] at w5 w6
 dsimp only at w5 w6
 refine k6 (k2 (A2 (A6 (C6 Z Z Z) Z (A3 Z Z (A3 Z Z (C2 (w5) Z Z Z ?_))))));rintro _ rfl;refine A3 Z Z (F5 Z Z Z (F5 Z Z Z (C0 (F4 28 Z) Z (E2 (B6 TySz.out Z Z Z Z Z Z) (A7 Z Z (A4 ?_))))));refine k1 (k2 (A2 (A6 (C6 Z Z Z) Z (A3 Z Z (A3 Z Z (C2 (w6) Z Z Z ?_))))));rintro _ rfl;refine A3 Z Z (F5 Z Z Z (F5 Z Z Z (C0 (F4 30 Z) Z (E2 (B6 TySz.out Z Z Z Z Z Z) (A7 Z Z (A4 ?_))))));refine k1 (k2 (A2 (A3 Z Z (A3 Z Z (A6 (J7 Z Z) Z (A3 Z Z (B0 Z Z Z Z (fun hg=>by have hq:=hg;(try simp at hq);rw [hg];exact E3 (E70) Z Z) ?_)))))));refine F2 Z Z ?_;refine A7 Z Z (A4 ?_);refine k1 (k10 ?_)
 exact B4 (F3 rfl rfl rfl) (by simp)
end Go.Proofs.YtbiadkkamhpdnaaGreatDoor
