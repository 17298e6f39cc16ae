/- Walks of the program's functions. -/
import Derived.Test.YtbiadkkamhpdnaaGreatDoorFf
import Derived.Test.YtbiadkkamhpdnaaGreatDoorFe
import Derived.Test.YtbiadkkamhpdnaaGreatDoorFs
import Derived.Test.YtbiadkkamhpdnaaGreatDoorFc
import Derived.Test.YtbiadkkamhpdnaaGreatDoorFa
import Derived.Test.YtbiadkkamhpdnaaGreatDoorFd
set_option linter.unusedSimpArgs false
namespace Go.Proofs.YtbiadkkamhpdnaaGreatDoor
open Go Go.AL
set_option maxRecDepth 100000
set_option maxHeartbeats 4000000
set_option maxHeartbeats 4000000
section
variable {P:Program} {nt:Nat} {fr:Fr} {w:Str} {d:Bool} {n:Int} {hs:List CHunk}
end
set_option maxHeartbeats 4000000
end Go.Proofs.YtbiadkkamhpdnaaGreatDoor
namespace Go.Proofs.YtbiadkkamhpdnaaGreatDoor
open Go Go.AL
set_option maxRecDepth 100000
set_option maxHeartbeats 1000000
end Go.Proofs.YtbiadkkamhpdnaaGreatDoor
namespace Go.Proofs.YtbiadkkamhpdnaaGreatDoor
open Go Go.AL
set_option maxRecDepth 100000
set_option maxHeartbeats 1000000
set_option maxHeartbeats 2000000
end Go.Proofs.YtbiadkkamhpdnaaGreatDoor
namespace Go.Proofs.YtbiadkkamhpdnaaGreatDoor
open Go Go.AL
set_option maxRecDepth 100000
set_option maxHeartbeats 1000000
set_option maxHeartbeats 1000000
set_option maxHeartbeats 1000000
def y6 (raw:List Int) (n:Int):List Str:=c8 raw (2+R5 n 4).toNat 7
theorem H02 (raw:List Int) (n:Int):∃x r,y6 raw n=x::r∧x.length≤140∧∀b∈r,b.length≤140:=by
 have hm:=U4 n (n:=4) (by omega)
 have hl:(y6 raw n).length=(2+R5 n 4).toNat:=by simp [y6,c8]
 have hb:∀b∈y6 raw n,b.length≤140:=by
  intro b hb
  obtain ⟨p,_,rfl⟩:=List.mem_map.1 hb
  have:=E48 raw 7 p (by omega);omega
 cases h:y6 raw n with
 | nil=>rw [h] at hl;simp at hl;omega
 | cons x r=>exact ⟨x,r,rfl,hb x (by rw [h];simp),fun b hb'=>hb b (by rw [h];simp [hb'])⟩
def Z5 (path result:Str) (parents:List Str) (ctx:Int) (d:Bool):Comb × Int :=
 if Q0 path=false then (comb0,120) else if (F2 result parents).2≠0 then (comb0,(F2 result parents).2) else
 if (N9 (F2 result parents).1 ctx d).2≠0 then (comb0,(N9 (F2 result parents).1 ctx d).2) else U8 path (F2 result parents).1 (N9 (F2 result parents).1 ctx d).1 d
theorem H03:∀s∈lineTab,s.count 10=0:=by decide
theorem E59 (k:Int):(x9 k).count 10=0:=by
 unfold x9
 rw [K09]
 cases h:lineTab[(R5 k 10).toNat]? with
 | none=>rfl
 | some s=>exact H03 s (K27 h)
theorem F29 (raw:List Int) (from' kinds:Int) (m:Nat):(V9 raw from' kinds m).count 10=m:=by
 induction m with
 | zero=>simp [V9]
 | succ m ih=>rw [A44,List.count_append,List.count_append,ih,E59];rfl
theorem E60 (raw:List Int) (from' n kinds:Int) (h1:0≤n):((Z4 raw from' n kinds).count 10:Int)≤n:=by
 have h:=U4 (u0 raw from') (n:=n+1) (by omega)
 have h2:=F29 raw from' kinds (R5 (u0 raw from') (n+1)).toNat
 have h3:=(List.take_sublist ((V9 raw from' kinds (R5 (u0 raw from') (n+1)).toNat).length - 1) (V9 raw from' kinds (R5 (u0 raw from') (n+1)).toNat)).count_le (a:=(10:UInt8))
 unfold Z4
 simp only
 split
 ·omega
 ·omega
theorem B23 (raw:List Int) (from':Int):∀(l:List Str) (i:Nat) (s:Str),(u5 raw from' i s l).count 10≤s.count 10+l.flatten.count 10+l.length
 | [],i,s=>by simp [u5]
 | x::r,i,s=>by
  have h1:=B23 raw from' r (i+1) s
  have h2:=B23 raw from' r (i+1) (s++x9 (u0 raw (from'+40+(i:Int)))++[10]++x)
  have h3:=B23 raw from' r (i+1) (s++x)
  have h4:=E59 (u0 raw (from'+40+(i:Int)))
  have h5:List.count (10:UInt8) [10]=1:=rfl
  simp only [List.count_append,h4,h5] at h2 h3
  unfold u5
  simp only [K25,List.count_append,K08]
  split
  ·omega
  ·split<;>omega
theorem H76 (raw:List Int) (p:Nat):(y4 raw 7 p).count 10≤15:=by
 have h1:=E60 raw (600+50*(p:Int)) 7 4 (by omega)
 have h2:=E60 raw 0 7 5 (by omega)
 have h3:=B23 raw (600+50*(p:Int)) (C2 (Z4 raw 0 7 5)) 0 []
 have h4:=D92 (Z4 raw 0 7 5)
 rw [Y7] at h3
 have h5:List.count (10:UInt8) ([]:Str)=0:=rfl
 unfold y4
 split
 ·omega
 ·split
  ·omega
  ·unfold C55;omega
theorem E61 (raw:List Int) (n:Int):∀b∈y6 raw n,(C2 b).length≤16∧b.length≤140:=by
 intro b hb
 obtain ⟨p,_,rfl⟩:=List.mem_map.1 hb
 have h1:=E48 raw 7 p (by omega)
 have h2:=H76 raw p
 have h3:=D92 (y4 raw 7 p)
 omega
theorem H04 (raw:List Int) (n:Int) {x:Str} {r:List Str} (h:y6 raw n=x::r):1≤r.length∧r.length≤4:=by
 have hm:=U4 n (n:=4) (by omega)
 have hl:(y6 raw n).length=(2+R5 n 4).toNat:=by simp [y6,c8]
 rw [h,K08] at hl
 omega
structure Small16 (x:Str) (r:List Str):Prop where
 n:r.length≤32
 hx:x.length≤140
 hr:∀b∈r,b.length≤140
 rows:I8 (F2 x r).1.Rows
 len:(F2 x r).1.Rows.length≤1105
 txt:∀q∈(F2 x r).1.Rows,q.Text.length≤140
theorem H77 {raw:List Int} {n:Int} {x:Str} {r:List Str} (h:y6 raw n=x::r):Small16 x r:=by
 have h1:=H04 raw n h
 have h2:=E61 raw n
 rw [h] at h2
 have hx:=h2 x (by simp)
 have hr:∀b∈r,(C2 b).length≤16∧b.length≤140:=fun b hb=>h2 b (by simp [hb])
 obtain ⟨k1,k2,k3⟩:=D16 x r 16 140 hx hr
 have h4:r.length*16+1≤65:=by omega
 exact ⟨by omega,hx.2,fun b hb=>(hr b hb).2,k1,by omega,k3⟩
theorem textsLen_le {rows:List Row} {B:Nat} (h:∀q∈rows,q.Text.length≤B):P3 rows≤rows.length*B∧(rows.map N1).sum≤rows.length*(B+96)∧∀n,(rows.map (D47 n)).sum≤rows.length*(B+n+29):=by
 unfold P3
 induction rows with
 | nil=>simp
 | cons x r ih =>
  obtain ⟨i1,i2,i3⟩:=ih fun q hq=>h q (by simp [hq])
  have hx:=h x (by simp)
  simp only [K14,K25,K06,K35,K08,K32,Nat.one_mul]
  simp only [Nat.mul_add] at i2 i3 ⊢
  refine ⟨by omega,by unfold N1 at i2 ⊢;omega,fun n=>?_⟩
  have:=i3 n
  unfold D47 at this ⊢
  omega
theorem Small16.sums {x:Str} {r:List Str} (h:Small16 x r):P3 (F2 x r).1.Rows≤154700∧((F2 x r).1.Rows.map N1).sum≤260780∧∀n,n≤32→((F2 x r).1.Rows.map (D47 n)).sum≤1105*201:=by
 obtain ⟨h1,h2,h3⟩:=textsLen_le h.txt
 have h4:=h.len
 refine ⟨by omega,by omega,fun n hn=>?_⟩
 refine Nat.le_trans (h3 n) ?_
 exact Nat.mul_le_mul h4 (by omega)
theorem H78 (path x:Str) (r:List Str) (ctx:Int) (d:Bool) (h:Small16 x r):FnOk Tryz.prog 37 [N2 path,N2 x,x4 r,H3 ctx,M3 d] (fun rs=>rs=[O3 (Z5 path x r ctx d).1,H3 (Z5 path x r ctx d).2]):=by
 have hx:=h.hx
 obtain ⟨s1,s2,s3⟩:=h.sums
 have hl:=h.len
 have hrows:=h.rows
 have hm:=F72 x r (by omega) (fun b hb=>by have:=h.hr b hb;omega)
 obtain ⟨t,e,hte⟩:∃t e,F2 x r=(t,e):=⟨_,_,rfl⟩
 rw [hte] at s1 s2 hl hrows hm
 dsimp only at s1 s2 hl hrows hm
 have hh:=D66 t ctx d hrows (by omega) (by omega)
 have hin:=H37 t ctx d
 obtain ⟨sp,e2,hsp⟩:∃sp e2,N9 t ctx d=(sp,e2):=⟨_,_,rfl⟩
 rw [hsp] at hh hin
 dsimp only at hh hin
 have hc:=rcut_ok path t sp d hrows (by omega) (by omega) (by have:=hin.1;omega)
 have hres:Z5 path x r ctx d=if Q0 path=false then (comb0,120) else if e≠0 then (comb0,e) else if e2≠0 then (comb0,e2) else U8 path t sp d:=by
  unfold Z5;rw [hte];dsimp only;rw [hsp]
 rw [hres]
 refine FnOk.intro Tryz.func37 (by decide) Z Z Z Z ?_
 refine k2 (A3 (C1 (I3 10 Z) Z (A7 Z Z (A5 ?_))));refine k1 (k2 (k2 (A3 (A4 Z Z (C4 (B84 path) Z Z Z ?_)))));rintro _ rfl;refine O6 Z Z (A5 ?_);refine k1 ?_;refine B3 rfl (fun ht=>?_) (fun ht=>?_)
 ·have h:Q0 path=false:=by simpa using ht
  refine k2 (A3 (A6 (H1 Z) Z (F8 (B8 TySz.out Z Z Z Z Z Z) (A7 Z Z (A5 ?_)))));refine k1 (G5 (J70 CHunk 2 H5 10 3 Z Z) ?_)
  refine k10 (k11 ?_)
  exact B6 (rs:=[O3 comb0,H3 120]) (a7 rfl rfl rfl rfl rfl rfl rfl) (by rw [if_pos h])
 have h1:Q0 path=true:=by simpa using ht
 rw [if_neg (by rw [h1];decide)]
 refine k5 (k1 (k2 (A3 (A4 Z Z (A4 Z Z (C4 (hm) Z Z Z ?_))))));rintro _ rfl;refine A4 Z Z (H9 Z Z Z (H9 Z Z Z (C1 (I3 12 Z) Z (F8 (B8 TySz.out Z Z Z Z Z Z) (A7 Z Z (A5 ?_))))));refine k1 (k2 (k2 (A3 (A4 Z Z (A6 (O9 Z Z) Z (A5 ?_))))));refine k1 ?_;refine B3 rfl (fun ht=>?_) (fun ht=>?_)
 ·have h2:=A0 ht
  refine k2 (A3 (A6 (H1 Z) Z (A4 Z Z (F8 (B8 TySz.out Z Z Z Z Z Z) (A7 Z Z (A5 ?_))))));refine k1 (G5 (J70 CHunk 2 H5 10 3 Z Z) ?_)
  refine k10 (k11 ?_)
  exact B6 (rs:=[O3 comb0,H3 e]) (a7 rfl rfl rfl rfl rfl rfl rfl) (by rw [if_pos h2])
 have h2:=A1 ht
 rw [if_neg h2]
 refine k5 (k1 (k2 (A3 (A6 (C5 Z Z Z) Z (A4 Z Z (A4 Z Z (C4 (hh) Z Z Z ?_)))))));rintro _ rfl;refine A4 Z Z (H9 Z Z Z (H9 Z Z Z (A7 Z Z (A7 Z Z (A5 ?_)))));refine k1 (k2 (k2 (A3 (A4 Z Z (A6 (O9 Z Z) Z (A5 ?_))))));refine k1 ?_;refine B3 rfl (fun ht=>?_) (fun ht=>?_)
 ·have h3:=A0 ht
  refine k2 (A3 (A6 (H1 Z) Z (A4 Z Z (F8 (B8 TySz.out Z Z Z Z Z Z) (A7 Z Z (A5 ?_))))));refine k1 (G5 (J70 CHunk 2 H5 10 3 Z Z) ?_)
  refine k10 (k11 ?_)
  exact B6 (rs:=[O3 comb0,H3 e2]) (a7 rfl rfl rfl rfl rfl rfl rfl) (by rw [if_pos h3])
 have h3:=A1 ht
 rw [if_neg h3]
 refine k5 (k1 (k2 (A3 (A4 Z Z (A6 (C5 Z Z Z) Z (A4 Z Z (A4 Z Z (C4 (hc) Z Z Z ?_))))))));rintro _ rfl;refine H9 Z Z Z (H9 Z Z Z (F8 (B8 TySz.out Z Z Z Z Z Z) (A7 Z Z (A5 ?_))));refine k1 (k10 ?_)
 exact B6 (a7 rfl rfl rfl rfl rfl rfl rfl) rfl
theorem I39 {path:Str} {t:Table} {sp:List Span} {d:Bool} (h:(U8 path t sp d).2=0):Q0 path=true∧L4 t=0∧∃hs,V5 t.Parents.toNat t.Rows 0 [] sp=some hs∧G8 ⟨path,d,t.Parents,hs⟩=0∧U8 path t sp d=(⟨path,d,t.Parents,hs⟩,0):=by
 unfold U8 at h ⊢
 split at h
 ·cases h
 ·rename_i h1
  rw [if_neg h1]
  split at h
  ·rename_i h2;exact absurd h h2
  ·rename_i h2
   rw [if_neg h2]
   refine ⟨by simpa using h1,by omega,?_⟩
   cases hg:V5 t.Parents.toNat t.Rows 0 [] sp with
   | none=>rw [hg] at h;cases h
   | some hs =>
    rw [hg] at h
    dsimp only at h ⊢
    split at h
    ·rename_i h3;exact absurd h h3
    ·rename_i h3
     exact ⟨hs,rfl,by omega,by rw [if_neg h3]⟩
theorem I91 {path x:Str} {r:List Str} {ctx:Int} {d:Bool} (h:(Z5 path x r ctx d).2=0):(F2 x r).2=0∧(N9 (F2 x r).1 ctx d).2=0∧Z5 path x r ctx d=U8 path (F2 x r).1 (N9 (F2 x r).1 ctx d).1 d:=by
 unfold Z5 at h ⊢
 split at h
 ·cases h
 ·rename_i h1
  rw [if_neg h1]
  split at h
  ·rename_i h2;exact absurd h h2
  ·rename_i h2
   rw [if_neg h2]
   split at h
   ·rename_i h3;exact absurd h h3
   ·rename_i h3
    rw [if_neg h3]
    exact ⟨by omega,by omega,rfl⟩
theorem H79 {path x:Str} {r:List Str} {ctx:Int} {d:Bool} (h:(Z5 path x r ctx d).2≠0):(Z5 path x r ctx d).1=comb0:=by
 unfold Z5 at h ⊢
 split
 ·rfl
 ·rename_i h1
  rw [if_neg h1] at h
  split
  ·rfl
  ·rename_i h2
   rw [if_neg h2] at h
   split
   ·rfl
   ·rename_i h3
    rw [if_neg h3] at h
    unfold U8 at h ⊢
    split
    ·rfl
    ·rename_i h4
     rw [if_neg h4] at h
     split
     ·rfl
     ·rename_i h5
      rw [if_neg h5] at h
      cases hg:V5 (F2 x r).1.Parents.toNat (F2 x r).1.Rows 0 [] (N9 (F2 x r).1 ctx d).1 with
      | none=>rfl
      | some hs =>
       rw [hg] at h
       dsimp only at h ⊢
       split
       ·rfl
       ·rename_i h6
        rw [if_neg h6] at h;exact absurd rfl h
set_option maxHeartbeats 1000000
def H7 (hs:List CHunk) (r:Nat):List TC:=((P1 2 H5 hs).set (r*2) (.mut 703)).set (r*2+1) (.mut 704)
def Y2 (hs:List CHunk) (r:Nat):List Int:=((hs[r]?).map (·.At)).getD []
def Y3 (hs:List CHunk) (r:Nat):List Row:=((hs[r]?).map (·.Rows)).getD []
theorem B88 {hs:List CHunk} {r:Nat} (h:hs.length≤r):H7 hs r=P1 2 H5 hs:=by
 unfold H7
 rw [List.set_eq_of_length_le (l:=P1 2 H5 hs) (by rw [J7];omega),List.set_eq_of_length_le (by rw [J7];omega)]
theorem G31 {hs:List CHunk} {r:Nat} (h:CHunk) (hr:r≠hs.length):H7 (hs++[h]) r=H7 hs r++P1 2 H5 [h]:=by
 have hl:=J7 (ec:=2) (c:=H5) hs
 by_cases h1:r < hs.length
 ·unfold H7
  rw [B20,List.set_append_left _ _ (by omega),List.set_append_left _ _ (by rw [K47];omega)]
 ·rw [B88 (hs:=hs++[h]) (by rw [K06,List.length_singleton];omega),B88 (by omega),B20]
theorem G32 (hs:List CHunk) (h:CHunk):H7 (hs++[h]) hs.length=P1 2 H5 hs++[.mut 703,.mut 704]:=by
 unfold H7
 rw [B20,List.set_append_right _ _ (by rw [J7];omega),J7,Nat.sub_self,List.set_append_right _ _ (by rw [J7];omega),J7,show hs.length*2+1 - hs.length*2=1 by omega]
 rfl
theorem G33 {hs:List CHunk} {r:Nat} (h:CHunk) (hr:r≠hs.length):Y2 (hs++[h]) r=Y2 hs r∧Y3 (hs++[h]) r=Y3 hs r:=by
 unfold Y2 Y3
 by_cases h1:r < hs.length
 ·rw [K24 h1];exact ⟨rfl,rfl⟩
 ·rw [K31 (l:=hs) (by omega),K31 (by rw [K06,List.length_singleton];omega)];exact ⟨rfl,rfl⟩
theorem G34 (hs:List CHunk) (h:CHunk):Y2 (hs++[h]) hs.length=h.At∧Y3 (hs++[h]) hs.length=h.Rows:=by unfold Y2 Y3;simp
theorem E62 {hs:List CHunk} {r:Nat} {h:CHunk} (hv:hs[r]?=some h):Y2 hs r=h.At∧Y3 hs r=h.Rows:=by unfold Y2 Y3;rw [hv];exact ⟨rfl,rfl⟩
theorem B89 {hs:List CHunk} {r:Nat}:∀t∈H7 hs r,(∃z,t=TC.p z)∨t=.mut 703∨t=.mut 704:=fun t h=>by
 rcases List.mem_or_eq_of_mem_set h with h | h
 ·rcases List.mem_or_eq_of_mem_set h with h | h
  ·exact .inl (E10 _ t h)
  ·exact .inr (.inl h)
 ·exact .inr (.inr h)
theorem D68 {hs:List CHunk} {r:Nat} (f:TC→TC) (h0:∀z,f (.p z)=.p z) (h1:f (.mut 703)=.mut 703) (h2:f (.mut 704)=.mut 704):(H7 hs r).map f=H7 hs r:=by
 conv=>rhs;rw [←List.map_id (H7 hs r)]
 refine List.map_congr_left fun t ht=>?_
 rcases B89 t ht with ⟨z,rfl⟩ | rfl | rfl
 ·exact h0 z
 ·exact h1
 ·exact h2
theorem X3 (hs:List CHunk) (r:Nat) {k:Nat} (hk:Nat.beq 703 k=false) (hk2:Nat.beq 704 k=false):(H7 hs r).map (TC.forget k)=H7 hs r:=D68 _ (fun _=>rfl) (by simp [TC.forget,hk]) (by simp [TC.forget,hk2])
theorem B90 (hs:List CHunk) (r:Nat) {k:Nat} (hk:Nat.beq 703 k=false) (hk2:Nat.beq 704 k=false) (α:Type) (ec:Nat) (c:α→Nat→Cell) (xs:List α):(H7 hs r).map (TC.freeze k α ec c xs)=H7 hs r:=D68 _ (fun _=>rfl) (by simp [TC.freeze,hk]) (by simp [TC.freeze,hk2])
theorem Q3 (hs:List CHunk) (r:Nat) {k:Nat} (hk:Nat.beq 703 k=false) (hk2:Nat.beq 704 k=false):(H7 hs r).all (TC.free k)=true:=by
 rw [List.all_eq_true]
 intro t ht
 rcases B89 t ht with ⟨z,rfl⟩ | rfl | rfl
 ·rfl
 ·simp [TC.free,hk]
 ·simp [TC.free,hk2]
theorem G35 {hs:List CHunk} {r:Nat} {h:CHunk} (hv:hs[r]?=some h):(∀i (hi:i < hs.length),i≠r→∀j,j < 2→(H7 hs r)[i*2+j]?=some (.p (H5 hs[i] j)))∧∀j,j < 2→(H7 hs r)[r*2+j]?=([.mut 703,.mut 704]:List TC)[j]?:=by
 have hr:r < hs.length:=(List.getElem?_eq_some_iff.1 hv).1
 refine ⟨fun i hi hir j hj=>?_,fun j hj=>?_⟩
 ·unfold H7
  rw [List.getElem?_set_ne (by omega),List.getElem?_set_ne (by omega)]
  exact p9 (c:=H5) hs i j _ (K07 hi) hj
 ·unfold H7
  match j,hj with
  | 0,_=>rw [List.getElem?_set_ne (by omega),Nat.add_zero,K48 (by rw [J7];omega)];rfl
  | 1,_=>rw [K48 (by rw [K47,J7];omega)];rfl
theorem F30 {hs:List CHunk} {r:Nat} (h:r < hs.length):((H7 hs r).map (TC.freeze 703 Int 1 F7 (Y2 hs r))).map (TC.freeze 704 Row 3 rowC (Y3 hs r))=P1 2 H5 hs:=by
 obtain ⟨a1,a2⟩:=E62 (K07 h)
 rw [a1,a2]
 unfold H7
 rw [List.map_set,List.map_set,List.map_set,List.map_set,A98 _ (fun _=>rfl),A98 _ (fun _=>rfl)]
 have g0:=p9 (c:=H5) hs r 0 hs[r] (K07 h) (show 0 < 2 by decide)
 have g1:=p9 (c:=H5) hs r 1 hs[r] (K07 h) (show 1 < 2 by decide)
 have e0:TC.freeze 704 Row 3 rowC hs[r].Rows (TC.freeze 703 Int 1 F7 hs[r].At (.mut 703))=.p (H5 hs[r] 0):=rfl
 have e1:TC.freeze 704 Row 3 rowC hs[r].Rows (TC.freeze 703 Int 1 F7 hs[r].At (.mut 704))=.p (H5 hs[r] 1):=rfl
 rw [e0,e1]
 refine List.ext_getElem? fun i=>?_
 rw [K61,K61,K47]
 by_cases hi:r*2+1=i
 ·subst hi
  rw [if_pos rfl,g1,if_pos (by rw [J7];omega)]
 ·rw [if_neg hi]
  by_cases hi0:r*2=i
  ·subst hi0
   rw [if_pos rfl,if_pos (by rw [J7];omega)]
   exact g0.symm
  ·rw [if_neg hi0]
theorem retsC2 {P:Program} {fn:Func} {fr:Fr} {ob:Obs} {t t':Tmp} {k n:Nat} {tt:TypeId} {ts:List TC} {s':S1} [hty:TyAgg P tt n] (hr:fn.results=#[.cell t tt,.tmp t']) (ht:A88 fr t=some (.s (.one (.ref k 0)))) (hk:C7 ob k=some (.box ts)) (hn:ts.length=n)
  (ht':A88 fr t'=some (.s s')):RetS P fn fr ob [.agg ts,s']:=by
 unfold RetS
 intro S G a w h
 obtain ⟨b,hg,hu⟩:=h.slot ht
 obtain ⟨b',vs,tt',hg',hh,ha⟩:=h.box hk
 rw [hg] at hg';cases hg'
 have h2:(loadVar tt ⟨b,0,none⟩).run P w=.ok (.agg (List.toArray vs)) w:=Y6 (ht:=hty) (by rw [←ha.length,hn]) (fun j z hz=>by rw [Nat.zero_add];exact cell_of_heap hh (by simpa using hz))
 rw [Array.getD_eq_getD_getElem?] at hu
 exact ⟨_,by simp [results,hr,hu,asAddr,h2],[_,_],rfl,⟨vs,rfl,ha⟩,h.slot ht',trivial⟩
set_option maxHeartbeats 1000000
set_option maxHeartbeats 2000000
theorem I92 (path:Str) (t:Table) (sp:List Span) (d:Bool) (HS:List CHunk) (hr:I8 t.Rows) (hW:(t.Rows.map N1).sum≤8388608) (hx:P3 t.Rows≤8388608) (hsp:sp.length≤536870912)
  (hc:U8 path t sp d=(⟨path,d,t.Parents,HS⟩,0)) (r:Nat) (hrl:r < HS.length) :
  AL.Met Tryz.prog 84 [(N2 path).s1,(pTable t).s1,(pSpans sp).s1,(M3 d).s1] [] [] []
   (fun rs ob'=>rs=[.agg [.p (.v (.string ⟨path.toArray⟩)),.p (.v (.bool d)),.p (.v (.int .i64 t.Parents)),.mut 702],.one (.p (.v (.int .i64 0)))]∧ob'=[(702,.growT 59 HS.length 2 (H7 HS r)),(703,.grow 3 Int 1 F7 (Y2 HS r)),(704,.grow 69 Row 3 rowC (Y3 HS r))]):=by
 have hl:=U2 t.Rows
 have hll:t.Rows.length≤8388608:=by omega
 obtain ⟨w1,w2,HS',w3,w4,w5⟩:=I39 (path:=path) (t:=t) (sp:=sp) (d:=d) (by rw [hc])
 have hHS:HS'=HS:=by rw [hc] at w5;injection w5 with a b;injection a with _ _ _ a;exact a.symm
 subst hHS
 obtain ⟨hn1,hn2⟩:=B87 w2
 obtain ⟨n,hn⟩:∃n:Nat,t.Parents=n:=⟨t.Parents.toNat,by omega⟩
 obtain ⟨tp,rows⟩:=t
 have hn:tp=(n:Int):=hn
 subst hn
 dsimp only at hr hW hx hl hll hn1 hn2 w2 w3 w4
 rw [K12] at w3
 have hck:=C56 ⟨n,rows⟩ hr (by dsimp only;omega) (by dsimp only;omega)
 rw [w2] at hck
 obtain ⟨z1,z2⟩:=E11 (n:=n) (by omega) hr hW w3
 have hrc:=q8 ⟨path,d,n,HS'⟩ z1 z2
 rw [w4] at hrc
 have hname:=B84 path
 rw [w1] at hname
 refine AL.Met.intro Tryz.func84 (by decide) Z Z Z ?_
 refine k2 (A3 (C1 (R4 5 Z Z Z) Z (C1 (I3 8 Z) Z (A7 Z Z (A5 ?_)))));refine k1 (k2 (k2 (A3 (A4 Z Z (C4 (hname) Z Z Z ?_)))));rintro _ rfl;refine O6 Z Z (A5 ?_);refine k1 ?_;refine B3 rfl (fun ht=>?_) (fun ht=>?_)
 ·cases ht
 refine k5 (k1 (k2 (k2 (A3 (A6 (C5 Z Z Z) Z (C4 (hck) Z Z Z ?_))))));rintro _ rfl;refine A7 Z Z (A5 ?_);refine k1 (k2 (A3 (A4 Z Z (A6 (O9 Z Z) Z (A5 ?_)))));refine k1 ?_;refine B3 rfl (fun ht=>?_) (fun ht=>?_)
 ·cases ht
 refine k5 (k1 (k2 (A3 (A4 Z Z (A4 Z Z (A6 (A8 Z) Z (E1 Z Z Z Z (A6 (H1 Z) Z (C1 (I3 11 Z) Z (F8 (B8 TySz.out Z Z Z Z Z Z) (A5 ?_)))))))))));refine G5 (J81 702 CHunk 2 H5 59 (kb:=11) (o:=3) Z Z Z) ?_
 refine G5 (J96 702 Z) ?_
 refine G5 (J90 703 Int 1 F7 3 Z) ?_
 refine G5 (J90 704 Row 3 rowC 69 Z) ?_
 refine k2 (A3 (A7 Z Z (A5 ?_)));refine k1 (k2 (k2 (A3 (A7 Z Z (A5 ?_)))));refine k1 (k3 (D6 (X:=Nat × Int × List CHunk) (fun x=>([(2,C3 Span 2 spanC sp),(5,.s (.one (.ref 5 0))),(8,.s (.one (.ref 8 0))),(11,.s (.one (.ref 11 0))),(12,B9 x.2.1),(13,B9 x.1)],[(5,.box (pTable ⟨n,rows⟩).s1.cells),(8,.box [.p (.v (.string ⟨#[]⟩)),.p (.v (.bool false)),.p (.v (.int .i64 0)),.p (.v (.slice none 0 0))]),(11,.box [.p (.v (.string ⟨path.toArray⟩)),.p (.v (.bool d)),.p (.v (.int .i64 n)),.mut 702]),(702,.growT 59 x.2.2.length 2 (H7 x.2.2 r)),(703,.grow 3 Int 1 F7 (Y2 x.2.2 r)),(704,.grow 69 Row 3 rowC (Y3 x.2.2 r))])) (fun x=>x.1≤sp.length∧0≤x.2.1∧x.2.2.length=x.1∧some HS'=V5 n rows x.2.1 x.2.2 (sp.drop x.1)) (fun x=>sp.length - x.1) (0,0,[]) ⟨Nat.zero_le _,Int.le_refl _,rfl,w3.symm⟩ (J69 ⟨le1 rfl,le1 rfl,le1 rfl,le1 rfl,le1 rfl,le1 rfl,trivial⟩ ⟨rfl,rfl,rfl,rfl,rfl,rfl,trivial⟩) ?_))
 rintro ⟨k,e,hs⟩ ⟨hk,he,hsl,hp⟩
 dsimp only at hk he hsl hp ⊢
 refine k2 (k2 (A3 (A4 Z Z (A4 Z Z (E7 Z Z (E4 Z Z Z (A5 ?_)))))));refine k1 ?_;refine B3 rfl (fun ht=>?_) (fun ht=>?_)
 rotate_left
 ·have hkl:k=sp.length:=by have:=A1 ht;omega
  rw [hkl,K15 (Nat.le_refl _)] at hp
  have hp:some HS'=some hs:=hp
  have hp:=Option.some.inj hp
  subst hp
  refine k6 (k2 (k2 (A3 (A6 (C5 Z Z Z) Z (J34 ((Sees.freezeG (k:=703) Z rfl).trans ((Sees.freezeG (k:=704) Z rfl).trans ((J97 702 HS' Z Z (F30 hrl)).trans (Sees.freezeG (k:=702) Z Z)))) (hrc) Z Z Z ?_)))));rintro _ rfl;refine ⟨fun _ _ _ h=>h,?_⟩;refine A7 Z Z (A5 ?_);refine k1 (k2 (A3 (A4 Z Z (A6 (O9 Z Z) Z (A5 ?_)))));refine k1 ?_;refine B3 rfl (fun ht=>?_) (fun ht=>?_)
  ·cases ht
  ·refine k5 (k1 (k2 (A3 (A6 (C5 Z Z Z) Z (F8 (B8 TySz.out Z Z Z Z Z Z) (A7 Z Z (A5 ?_)))))));refine k1 (k10 ?_)
   exact l8 (retsC2 rfl rfl rfl rfl rfl) (by repeat (first | exact I9 | refine J0 rfl ?_ | refine P2 _ ?_)) (ObIn.spec (ob':=[(702,_),(703,_),(704,_)]) ⟨rfl,rfl,rfl,trivial⟩) ⟨rfl,rfl⟩
 have hlt:k < sp.length:=by have:=A0 ht;omega
 have hv:sp[k]?=some sp[k]:=by simp [hlt]
 rw [K13 hlt,V5] at hp
 obtain ⟨s,hsd⟩:∃s,s=sp[k]:=⟨_,rfl⟩
 rw [←hsd] at hp hv
 have hc0:¬(s.From < e∨s.To≤s.From∨(rows.length:Int) < s.To):=by
  intro hc
  rw [if_pos hc] at hp;cases hp
 rw [if_neg hc0] at hp
 refine k5 (k1 (k2 (k3 (k2 (k2 (C9 (by kernel_rfl) (by kernel_rfl) (C8 Z Z (C8 Z Z (A9 (B0 Z (.pure _ _ _ _) Z (by omega) hv) Z Z (A9 (D4 Z) Z Z (A9 (B1 Z Z) Z Z (C8 Z Z (A9 (A05 Z Z) Z Z (C8 Z Z (C0 Z Z (fun hg=>by rw [hg];exact B7 Z Z) Z Z ?_)))))))))))))));refine C0 Z Z (fun hg=>by rw [hg];exact B7 Z Z) Z Z ?_;refine C0 Z Z (fun hg=>by have hq:=hg;(try simp at hq);rw [hg];exact B0 Z (.pure _ _ _ _) Z (by omega) hv) Z Z ?_;refine C0 Z Z (fun hg=>by rw [hg];exact D4 Z) Z Z ?_;refine C0 Z Z (fun hg=>by rw [hg];exact B1 Z Z) Z Z ?_;refine C0 Z Z (fun hg=>by rw [hg];exact B7 Z Z) Z Z ?_;refine C0 Z Z (fun hg=>by rw [hg];exact B7 Z Z) Z Z ?_;refine C0 Z Z (fun hg=>by have hq:=hg;(try simp at hq);rw [hg];exact B0 Z (.pure _ _ _ _) Z (by omega) hv) Z Z ?_;refine C0 Z Z (fun hg=>by rw [hg];exact D4 Z) Z Z ?_;refine C0 Z Z (fun hg=>by rw [hg];exact B1 Z Z) Z Z ?_;refine C0 Z Z (fun hg=>by rw [hg];exact j6 Z Z) Z Z ?_;refine A9 (F6 Z (fun h=>by first | rfl | (rw [h];rfl)) (fun h=>by first | rfl | (rw [h];rfl))) Z Z ?_;refine C8 Z Z (C0 Z Z (fun hg=>by rw [hg];exact B7 Z Z) Z Z ?_);refine C0 Z Z (fun hg=>by rw [hg];exact B7 Z Z) Z Z ?_;refine C0 Z Z (fun hg=>by have hq:=hg;(try simp at hq);rw [hg];exact B0 Z (.pure _ _ _ _) Z (by omega) hv) Z Z ?_;refine C0 Z Z (fun hg=>by rw [hg];exact D4 Z) Z Z ?_;refine C0 Z Z (fun hg=>by rw [hg];exact B1 Z Z) Z Z ?_;refine C0 Z Z (fun hg=>by rw [hg];exact A8 Z) Z Z ?_;refine C0 Z Z (fun hg=>by rw [hg];exact B5 Z Z Z) Z Z ?_;refine C0 Z Z (fun hg=>by rw [hg];exact V3 Z (.pure _ _ _ _)) Z Z ?_;refine C0 Z Z (fun hg=>by rw [hg];exact N5 Z Z) Z Z ?_;refine A9 (F6 Z (fun h=>by first | rfl | (rw [h];rfl)) (fun h=>by first | rfl | (rw [h];rfl))) Z Z ?_;refine L6 ?_;refine k1 ?_;refine B3 rfl (fun ht=>?_) (fun ht=>?_)
 ·exfalso
  have hc:s.From < e∨s.To≤s.From∨(rows.length:Int) < s.To:=by
   by_cases q1:s.From < e
   ·exact .inl q1
   ·by_cases q2:s.To≤s.From
    ·exact .inr (.inl q2)
    ·simp [q1,q2] at ht
     exact .inr (.inr ht)
  exact hc0 hc
 simp only [not_or,Int.not_lt,Int.not_le] at hc0
 obtain ⟨c1,c2,c3⟩:=hc0
 obtain ⟨F,hF⟩:∃F:Nat,s.From=F:=⟨s.From.toNat,by omega⟩
 obtain ⟨T,hT⟩:∃T:Nat,s.To=T:=⟨s.To.toNat,by omega⟩
 obtain ⟨sF,sT⟩:=s
 have hF:sF=(F:Int):=hF
 have hT:sT=(T:Int):=hT
 subst hF hT
 dsimp only at c1 c2 c3 hp
 rw [K12,K12] at hp
 have hsub:((rows.drop F).take (T - F)).length=T - F:=by rw [K19,K23];omega
 have hFl:(F:Int)≤rows.length:=by omega
 refine k5 (k1 (k2 (M9 [(2,C3 Span 2 spanC sp),(5,.s (.one (.ref 5 0))),(8,.s (.one (.ref 8 0))),(11,.s (.one (.ref 11 0))),(13,B9 k)] [(5,.box (pTable ⟨n,rows⟩).s1.cells),(8,.box [.p (.v (.string ⟨#[]⟩)),.p (.v (.bool false)),.p (.v (.int .i64 0)),.p (.v (.slice none 0 0))]),(11,.box [.p (.v (.string ⟨path.toArray⟩)),.p (.v (.bool d)),.p (.v (.int .i64 n)),.mut 702]),(702,.growT 59 hs.length 2 (H7 hs r)),(703,.grow 3 Int 1 F7 (Y2 hs r)),(704,.grow 69 Row 3 rowC (Y3 hs r))] (J69 ⟨le1 rfl,le1 rfl,le1 rfl,le1 rfl,le1 rfl,trivial⟩ ⟨rfl,rfl,rfl,rfl,rfl,rfl,trivial⟩) ?_)))
 refine T7 [17,16,14,0] [[],[0],[16],[14,0],[16,0],[16,14,0],[17,16,14,0]] [(0,([706],[])),(14,([706],[70])),(16,([14],[])),(17,([],[]))] [(0,[]),(1,[]),(2,[]),(3,[]),(4,[]),(5,[]),(6,[]),(7,[]),(8,[]),(9,[]),(10,[]),(11,[]),(12,[]),(13,[]),(14,[0]),(15,[14,0]),(16,[]),(16,[0]),(16,[14,0]),(17,[16,14,0])] [(0,[16]),(1,[0]),(1,[16]),(1,[16,0]),(2,[0]),(2,[16]),(2,[16,0]),(3,[0]),(3,[16]),(3,[16,0]),(4,[0]),(4,[16]),(4,[16,0]),(5,[0]),(5,[16]),(5,[16,0]),(6,[0]),(6,[16]),(6,[16,0]),(7,[0]),(7,[16]),(7,[16,0]),(8,[0]),(8,[16]),(8,[16,0]),(9,[0]),(9,[16]),(9,[16,0]),(10,[0]),(10,[16]),(10,[16,0]),(11,[0]),(11,[16]),(11,[16,0]),(12,[0]),(12,[16]),(12,[16,0]),(13,[0]),(13,[16]),(13,[16,0]),(14,[16,0]),(15,[16,14,0])] (by kernel_rfl) (by kernel_rfl) (X7 Z Z (by kernel_rfl) Z Z (C19 (fun frc hU hk=>G79 706 _ rowC Z (by rw [hk];exact (by show ((H7 hs r).all (TC.free 706)&&true)=true;rw [Q3 hs r (k:=706) Z rfl];rfl)))) Z ?_);refine E2 Z Z (by kernel_rfl) Z Z (A8 Z) (E2 Z Z (by kernel_rfl) Z Z (B5 Z Z Z) (E2 Z Z (by kernel_rfl) Z Z (B7 Z Z) (E2 Z Z (by kernel_rfl) Z Z (B7 Z Z) (E2 Z Z (by kernel_rfl) Z Z (B0 Z (.pure _ _ _ _) Z (by omega) hv) (E2 Z Z (by kernel_rfl) Z Z (D4 Z) (E2 Z Z (by kernel_rfl) Z Z (B1 Z Z) (E2 Z Z (by kernel_rfl) Z Z (B7 Z Z) (E2 Z Z (by kernel_rfl) Z Z (B7 Z Z) (E2 Z Z (by kernel_rfl) Z Z (B0 Z (.pure _ _ _ _) Z (by omega) hv) (E2 Z Z (by kernel_rfl) Z Z (D4 Z) (E2 Z Z (by kernel_rfl) Z Z (B1 Z Z) (E2 Z Z (by kernel_rfl) Z Z (S0 Z (.pure _ _ _ _) Z Z (by (first | omega | (dsimp only;omega))) (by (first | omega | (dsimp only;omega))) (by (first | omega | (dsimp only;omega)))) (X7 Z Z (by kernel_rfl) Z Z (B78 (fun frc hU=>x8 (W8 hU Z) Z (W8 hU Z) (.pure _ _ _ _) (by (rw [K12,K12,hsub];simp;omega)) Z)) Z ?_)))))))))))));refine E2 Z Z (by kernel_rfl) Z Z (H1 Z) (X7 Z Z (by kernel_rfl) Z Z (C89 (by first | (show ((H7 hs r).all (TC.free 14)&&true)=true;rw [Q3 hs r (k:=14) Z rfl];rfl) | (show (((H7 hs r).map (TC.forget 706)).all (TC.free 14)&&true)=true;rw [X3 hs r (k:=706) Z rfl,Q3 hs r (k:=14) Z rfl];rfl))) Z ?_);refine G19 Z Z (by kernel_rfl) Z Z (C89 (by first | (show ((H7 hs r).all (TC.free 14)&&true)=true;rw [Q3 hs r (k:=14) Z rfl];rfl) | (show (((H7 hs r).map (TC.forget 706)).all (TC.free 14)&&true)=true;rw [X3 hs r (k:=706) Z rfl,Q3 hs r (k:=14) Z rfl];rfl))) Z ?_
 refine G19 Z Z (by kernel_rfl) Z Z (C89 (by first | (show ((H7 hs r).all (TC.free 14)&&true)=true;rw [Q3 hs r (k:=14) Z rfl];rfl) | (show (((H7 hs r).map (TC.forget 706)).all (TC.free 14)&&true)=true;rw [X3 hs r (k:=706) Z rfl,Q3 hs r (k:=14) Z rfl];rfl))) Z ?_;refine X7 Z Z (by kernel_rfl) Z Z (D60 (fun frc hU=>B8 TySz.out (W8 hU Z) Z (W8 hU Z) Z Z Z)) Z ?_;refine D59 (by kernel_rfl) rfl ?_ ?_
 ·refine x_eff rfl rfl (by kernel_rfl) rfl rfl (C19 (fun frc hU hk=>G79 706 _ rowC rfl (by rw [hk];exact (by show ((H7 hs r).all (TC.free 706)&&true)=true;rw [Q3 hs r (k:=706) rfl rfl];rfl)))) rfl (E39 (by repeat (first | exact trivial | refine ⟨.inr rfl,?_⟩ | refine ⟨.inl rfl,?_⟩))) ?_;refine G1 Z Z (by kernel_rfl) Z Z (A8 Z) (G1 Z Z (by kernel_rfl) Z Z (A8 Z) (G1 Z Z (by kernel_rfl) Z Z (A8 Z) (G1 Z Z (by kernel_rfl) Z Z (B5 Z Z Z) (G1 Z Z (by kernel_rfl) Z Z (B5 Z Z Z) (G1 Z Z (by kernel_rfl) Z Z (B5 Z Z Z) (G1 Z Z (by kernel_rfl) Z Z (B7 Z Z) (G1 Z Z (by kernel_rfl) Z Z (B7 Z Z) (G1 Z Z (by kernel_rfl) Z Z (B7 Z Z) (G1 Z Z (by kernel_rfl) Z Z (B7 Z Z) (G1 Z Z (by kernel_rfl) Z Z (B7 Z Z) (G1 Z Z (by kernel_rfl) Z Z (B7 Z Z) (G1 Z Z (by kernel_rfl) Z Z (B0 Z (.pure _ _ _ _) Z (by omega) hv) (G1 Z Z (by kernel_rfl) Z Z (B0 Z (.pure _ _ _ _) Z (by omega) hv) (G1 Z Z (by kernel_rfl) Z Z (B0 Z (.pure _ _ _ _) Z (by omega) hv) (G1 Z Z (by kernel_rfl) Z Z (D4 Z) (G1 Z Z (by kernel_rfl) Z Z (D4 Z) (G1 Z Z (by kernel_rfl) Z Z (D4 Z) (G1 Z Z (by kernel_rfl) Z Z (B1 Z Z) (G1 Z Z (by kernel_rfl) Z Z (B1 Z Z) (G1 Z Z (by kernel_rfl) Z Z (B1 Z Z) (G1 Z Z (by kernel_rfl) Z Z (B7 Z Z) (G1 Z Z (by kernel_rfl) Z Z (B7 Z Z) (G1 Z Z (by kernel_rfl) Z Z (B7 Z Z) ?_)))))))))))))))))))))));refine G1 Z Z (by kernel_rfl) Z Z (B7 Z Z) (G1 Z Z (by kernel_rfl) Z Z (B7 Z Z) (G1 Z Z (by kernel_rfl) Z Z (B7 Z Z) (G1 Z Z (by kernel_rfl) Z Z (B0 Z (.pure _ _ _ _) Z (by omega) hv) (G1 Z Z (by kernel_rfl) Z Z (B0 Z (.pure _ _ _ _) Z (by omega) hv) (G1 Z Z (by kernel_rfl) Z Z (B0 Z (.pure _ _ _ _) Z (by omega) hv) (G1 Z Z (by kernel_rfl) Z Z (D4 Z) (G1 Z Z (by kernel_rfl) Z Z (D4 Z) (G1 Z Z (by kernel_rfl) Z Z (D4 Z) (G1 Z Z (by kernel_rfl) Z Z (B1 Z Z) (G1 Z Z (by kernel_rfl) Z Z (B1 Z Z) (G1 Z Z (by kernel_rfl) Z Z (B1 Z Z) (G1 Z Z (by kernel_rfl) Z Z (S0 Z (.pure _ _ _ _) Z Z (by (first | omega | (dsimp only;omega))) (by (first | omega | (dsimp only;omega))) (by (first | omega | (dsimp only;omega)))) (G1 Z Z (by kernel_rfl) Z Z (S0 Z (.pure _ _ _ _) Z Z (by (first | omega | (dsimp only;omega))) (by (first | omega | (dsimp only;omega))) (by (first | omega | (dsimp only;omega)))) (G1 Z Z (by kernel_rfl) Z Z (S0 Z (.pure _ _ _ _) Z Z (by (first | omega | (dsimp only;omega))) (by (first | omega | (dsimp only;omega))) (by (first | omega | (dsimp only;omega)))) ?_))))))))))))));refine x_eff rfl rfl (by kernel_rfl) rfl rfl (B78 (fun frc hU=>x8 (W8 hU rfl) rfl (W8 hU rfl) (.pure _ _ _ _) (by (rw [K12,K12,hsub];simp;omega)) rfl)) rfl (E39 (by repeat (first | exact trivial | refine ⟨.inr rfl,?_⟩ | refine ⟨.inl rfl,?_⟩))) ?_;refine G1 Z Z (by kernel_rfl) Z Z (H1 Z) ?_;exact C88
 rw [K12,K12,K39]
 obtain ⟨R,hR⟩:∃R,R=(rows.drop F).take (T - F):=⟨_,rfl⟩
 rw [←hR] at hp hsub ⊢
 refine M9 [(2,C3 Span 2 spanC sp),(5,.s (.one (.ref 5 0))),(8,.s (.one (.ref 8 0))),(11,.s (.one (.ref 11 0))),(13,B9 k),(14,.s (.one (.ref 14 0)))] [(5,.box (pTable ⟨n,rows⟩).s1.cells),(8,.box [.p (.v (.string ⟨#[]⟩)),.p (.v (.bool false)),.p (.v (.int .i64 0)),.p (.v (.slice none 0 0))]),(11,.box [.p (.v (.string ⟨path.toArray⟩)),.p (.v (.bool d)),.p (.v (.int .i64 n)),.mut 702]),(702,.growT 59 hs.length 2 (H7 hs r)),(703,.grow 3 Int 1 F7 (Y2 hs r)),(704,.grow 69 Row 3 rowC (Y3 hs r)),(14,.box [.p (.v (.slice none 0 0)),.mut 706]),(706,.grow 69 Row 3 rowC R)] (J69 ⟨le1 rfl,le1 rfl,le1 rfl,le1 rfl,le1 rfl,le1 rfl,trivial⟩ ⟨rfl,rfl,rfl,(by show some (Ob.growT 59 hs.length 2 (List.map (TC.forget 706) (H7 hs r)))=_;rw [X3 hs r (k:=706) Z rfl]),rfl,rfl,rfl,rfl,trivial⟩) ?_
 refine G5 (J81 705 Int 1 F7 3 (kb:=14) (o:=0) Z Z (by show ((H7 hs r).all (TC.free 705)&&true)=true;rw [Q3 hs r (k:=705) Z rfl];rfl)) ?_
 refine k2 (k2 (A3 (A7 Z Z (A5 ?_))));refine k1 (k3 (D6 (X:=Nat) (fun p=>([(2,C3 Span 2 spanC sp),(5,.s (.one (.ref 5 0))),(8,.s (.one (.ref 8 0))),(11,.s (.one (.ref 11 0))),(13,B9 k),(14,.s (.one (.ref 14 0))),(15,B9 p)],[(5,.box (pTable ⟨n,rows⟩).s1.cells),(8,.box [.p (.v (.string ⟨#[]⟩)),.p (.v (.bool false)),.p (.v (.int .i64 0)),.p (.v (.slice none 0 0))]),(11,.box [.p (.v (.string ⟨path.toArray⟩)),.p (.v (.bool d)),.p (.v (.int .i64 n)),.mut 702]),(702,.growT 59 hs.length 2 (H7 hs r)),(703,.grow 3 Int 1 F7 (Y2 hs r)),(704,.grow 69 Row 3 rowC (Y3 hs r)),(14,.box [.mut 705,.mut 706]),(706,.grow 69 Row 3 rowC R),(705,.grow 3 Int 1 F7 ((List.range p).map (M2 (rows.take F) n)))])) (fun p=>p≤n+1) (fun p=>n+1 - p) 0 (Nat.zero_le _) (J69 ⟨le1 rfl,le1 rfl,le1 rfl,le1 rfl,le1 rfl,le1 rfl,le1 rfl,trivial⟩ ⟨rfl,rfl,rfl,rfl,rfl,rfl,rfl,rfl,rfl,trivial⟩) ?_))
 intro p hpn
 dsimp only at hpn ⊢
 have hml:((List.range p).map (M2 (rows.take F) n)).length=p:=by simp
 refine k2 (k2 (A3 (A4 Z Z (A6 (A8 Z) Z (E1 Z Z Z Z (A6 (j6 Z Z) Z (A5 ?_)))))));refine k1 ?_;refine B3 rfl (fun ht=>?_) (fun ht=>?_)
 ·have hle:p≤n:=by have:=A0 ht;omega
  have hst:=D67 (rows.take F) n p
  have htl:(rows.take F).length=F:=by rw [K19];omega
  have hcm:=B22 p n
  have hcol:=A13 (rows.take F) (T5 n p) (E58 hr F) (by omega)
  refine k5 (k1 (k2 (k3 (C9 (by kernel_rfl) (by kernel_rfl) (A9 (A8 Z) Z Z (A9 (B5 Z Z Z) Z Z (A9 (A8 Z) Z Z (A9 (B5 Z Z Z) Z Z (C8 Z Z (C8 Z Z (A9 (B0 Z (.pure _ _ _ _) Z (by omega) hv) Z Z (A9 (D4 Z) Z Z (A9 (B1 Z Z) Z Z (A9 (C12 Z (.pure _ _ _ _) Z (by (first | omega | (dsimp only;omega))) (by (first | omega | (dsimp only;omega)))) Z Z (C8 Z Z (A9 (A8 Z) Z Z (A9 (B5 Z Z Z) Z Z (A9 (H2 (hcm) Z Z) Z Z (A9 (H2 (hcol) Z Z) Z Z (A9 (V3 Z (.pure _ _ _ _)) Z Z (A9 (D5 (c:=F7) (ys:=[M2 (rows.take F) n p]) (E0 Z Z Z Z F3) Z Z Z) Z Z (B09 (x8 Z Z Z (.pure _ _ _ _) (by (rw [hml];simp only [K08,K11];omega)) Z) Z Z ?_))))))))))))))))))))));refine A9 (A8 Z) Z Z (s7 (B8 TySz.out Z Z Z Z Z Z) Z (L6 ?_));refine k4 (k1 (A3 (A4 Z Z (C6 Z Z Z (A7 Z Z (A5 ?_))))));refine k1 ?_;refine ⟨p+1,by omega,by omega,?_⟩
  rw [hst]
  exact J69 ⟨le1 rfl,le1 rfl,le1 rfl,le1 rfl,le1 rfl,le1 rfl,le1 rfl,trivial⟩ ⟨rfl,rfl,rfl,(by show some (Ob.growT 59 hs.length 2 (List.map (TC.forget 705) (H7 hs r)))=_;rw [X3 hs r (k:=705) rfl rfl]),rfl,rfl,rfl,rfl,rfl,trivial⟩
 have hpl:p=n+1:=by have:=A1 ht;omega
 rw [hpl,show (List.range (n+1)).map (M2 (rows.take F) n)=G9 (rows.take F) n from rfl]
 obtain ⟨A,hA⟩:∃A,A=G9 (rows.take F) n:=⟨_,rfl⟩
 rw [←hA] at hp ⊢
 refine k6 (k2 ?_)
 by_cases hkr:k=r
 ·subst hkr
  have hoff:H7 hs k=P1 2 H5 hs:=B88 (by omega)
  rw [hoff]
  refine M9 [(2,C3 Span 2 spanC sp),(5,.s (.one (.ref 5 0))),(8,.s (.one (.ref 8 0))),(11,.s (.one (.ref 11 0))),(13,B9 k),(14,.s (.one (.ref 14 0)))] [(5,.box (pTable ⟨n,rows⟩).s1.cells),(8,.box [.p (.v (.string ⟨#[]⟩)),.p (.v (.bool false)),.p (.v (.int .i64 0)),.p (.v (.slice none 0 0))]),(11,.box [.p (.v (.string ⟨path.toArray⟩)),.p (.v (.bool d)),.p (.v (.int .i64 n)),.mut 702]),(702,.growT 59 hs.length 2 (P1 2 H5 hs)),(14,.box [.mut 705,.mut 706]),(706,.grow 69 Row 3 rowC R),(705,.grow 3 Int 1 F7 A)] (J69 ⟨le1 rfl,le1 rfl,le1 rfl,le1 rfl,le1 rfl,le1 rfl,trivial⟩ ⟨rfl,rfl,rfl,rfl,rfl,rfl,rfl,trivial⟩) ?_
  refine G5 (J85 (ob':=[(5,.box (pTable ⟨n,rows⟩).s1.cells),(8,.box [.p (.v (.string ⟨#[]⟩)),.p (.v (.bool false)),.p (.v (.int .i64 0)),.p (.v (.slice none 0 0))]),(11,.box [.p (.v (.string ⟨path.toArray⟩)),.p (.v (.bool d)),.p (.v (.int .i64 n)),.mut 702]),(702,.growT 59 hs.length 2 (P1 2 H5 hs)),(14,.box [.mut 703,.mut 706]),(706,.grow 69 Row 3 rowC R),(703,.grow 3 Int 1 F7 A)]) (j:=705) (k:=703) rfl rfl (by decide) rfl (E54 ?_)) ?_
  ·intro p hp
   simp only [K54,K55,or_false] at hp
   rcases hp with rfl | rfl | rfl | rfl | rfl | rfl | rfl
   ·exact ⟨by dsimp only;omega,_,rfl,rfl,rfl⟩
   ·exact ⟨by dsimp only;omega,_,rfl,rfl,rfl⟩
   ·exact ⟨by dsimp only;omega,_,rfl,rfl,rfl⟩
   ·exact ⟨by dsimp only;omega,_,rfl,C57 _ _,by show Ob.growT _ _ _ _=Ob.growT _ _ _ (List.map (TC.ren 705 703) (P1 2 H5 hs));rw [A98 _ (fun _=>rfl)]⟩
   ·exact ⟨by dsimp only;omega,_,rfl,rfl,rfl⟩
   ·exact ⟨by dsimp only;omega,_,rfl,rfl,rfl⟩
   ·exact ⟨by dsimp only;omega,_,rfl,rfl,rfl⟩
  refine G5 (J85 (ob':=[(5,.box (pTable ⟨n,rows⟩).s1.cells),(8,.box [.p (.v (.string ⟨#[]⟩)),.p (.v (.bool false)),.p (.v (.int .i64 0)),.p (.v (.slice none 0 0))]),(11,.box [.p (.v (.string ⟨path.toArray⟩)),.p (.v (.bool d)),.p (.v (.int .i64 n)),.mut 702]),(702,.growT 59 hs.length 2 (P1 2 H5 hs)),(14,.box [.mut 703,.mut 704]),(704,.grow 69 Row 3 rowC R),(703,.grow 3 Int 1 F7 A)]) (j:=706) (k:=704) rfl rfl (by decide) rfl (E54 ?_)) ?_
  ·intro p hp
   simp only [K54,K55,or_false] at hp
   rcases hp with rfl | rfl | rfl | rfl | rfl | rfl | rfl
   ·exact ⟨by dsimp only;omega,_,rfl,rfl,rfl⟩
   ·exact ⟨by dsimp only;omega,_,rfl,rfl,rfl⟩
   ·exact ⟨by dsimp only;omega,_,rfl,rfl,rfl⟩
   ·exact ⟨by dsimp only;omega,_,rfl,C57 _ _,by show Ob.growT _ _ _ _=Ob.growT _ _ _ (List.map (TC.ren 706 704) (P1 2 H5 hs));rw [A98 _ (fun _=>rfl)]⟩
   ·exact ⟨by dsimp only;omega,_,rfl,rfl,rfl⟩
   ·exact ⟨by dsimp only;omega,_,rfl,rfl,rfl⟩
   ·exact ⟨by dsimp only;omega,_,rfl,rfl,rfl⟩
  refine A3 (A6 (A8 Z) Z (E1 Z Z Z Z (A6 (C5 Z Z Z) Z (C1 (E43 735 Z Z Z Z Z (by show ((P1 2 H5 hs).all (TC.free 735)&&true)=true;rw [C57];rfl)) Z ?_))));refine C1 (B14 Z Z Z Z (by (omega)) Z) Z ?_;refine A6 (A8 Z) Z (F8 (B8 TySz.out Z Z Z Z Z Z) (A5 ?_));refine k1 (A3 (A4 Z Z (A4 Z Z (A6 (B0 Z (.pure _ _ _ _) Z (by omega) hv) Z (A6 (D4 Z) Z (A6 (B1 Z Z) Z (A7 Z Z (A5 ?_))))))));refine k4 (k1 (A3 (A4 Z Z (C6 Z Z Z (A7 Z Z (A5 ?_))))));refine k1 ?_
  have e1:=G32 hs ⟨A,R⟩
  obtain ⟨e2,e3⟩:=G34 hs ⟨A,R⟩
  rw [hsl] at e1 e2 e3
  refine ⟨(k+1,(T:Int),hs++[⟨A,R⟩]),⟨by dsimp only;omega,by dsimp only;omega,by dsimp only;rw [K06];simp;omega,hp⟩,by dsimp only;omega,?_⟩
  dsimp only
  rw [e1,e2,e3,K06]
  exact J69 ⟨le1 rfl,le1 rfl,le1 rfl,le1 rfl,le1 rfl,le1 rfl,trivial⟩ ⟨rfl,rfl,rfl,(by show some (Ob.growT 59 (hs.length+1) 2 (List.map (TC.forget 702) (P1 2 H5 hs++[.mut 703,.mut 704])))=_;rw [K20,A98 _ (fun _=>rfl)];rfl),rfl,rfl,trivial⟩
 ·refine G5 (Sees.trans (Sees.freezeG (k:=705) Z Z) (Sees.freezeG (k:=706) Z Z)) ?_
  refine M9 [(2,C3 Span 2 spanC sp),(5,.s (.one (.ref 5 0))),(8,.s (.one (.ref 8 0))),(11,.s (.one (.ref 11 0))),(13,B9 k),(14,.s (.one (.ref 14 0)))] [(5,.box (pTable ⟨n,rows⟩).s1.cells),(8,.box [.p (.v (.string ⟨#[]⟩)),.p (.v (.bool false)),.p (.v (.int .i64 0)),.p (.v (.slice none 0 0))]),(11,.box [.p (.v (.string ⟨path.toArray⟩)),.p (.v (.bool d)),.p (.v (.int .i64 n)),.mut 702]),(702,.growT 59 hs.length 2 (H7 hs r)),(703,.grow 3 Int 1 F7 (Y2 hs r)),(704,.grow 69 Row 3 rowC (Y3 hs r)),(14,.box [.p (.list Int 1 F7 A),.p (.list Row 3 rowC R)])] (J69 ⟨le1 rfl,le1 rfl,le1 rfl,le1 rfl,le1 rfl,le1 rfl,trivial⟩ ⟨rfl,rfl,rfl,(by show some (Ob.growT 59 hs.length 2 (List.map (TC.freeze 706 Row 3 rowC R) (List.map (TC.freeze 705 Int 1 F7 A) (H7 hs r))))=_;rw [B90 hs r (k:=705) Z rfl,B90 hs r (k:=706) Z rfl]),rfl,rfl,rfl,trivial⟩) ?_
  refine A3 (A6 (A8 Z) Z (E1 Z Z Z Z (A6 (C5 Z Z Z) Z (C1 (E43 735 Z Z Z Z Z (by show ((H7 hs r).all (TC.free 735)&&true)=true;rw [Q3 hs r (k:=735) Z rfl];rfl)) Z ?_))));refine C1 (B14 Z Z Z Z (by (omega)) Z) Z ?_;refine A6 (A8 Z) Z (F8 (B8 TySz.out Z Z Z Z Z Z) (A5 ?_));refine k1 (A3 (A4 Z Z (A4 Z Z (A6 (B0 Z (.pure _ _ _ _) Z (by omega) hv) Z (A6 (D4 Z) Z (A6 (B1 Z Z) Z (A7 Z Z (A5 ?_))))))));refine k4 (k1 (A3 (A4 Z Z (C6 Z Z Z (A7 Z Z (A5 ?_))))));refine k1 ?_
  obtain ⟨e2,e3⟩:=G33 (hs:=hs) (r:=r) ⟨A,R⟩ (by omega)
  refine ⟨(k+1,(T:Int),hs++[⟨A,R⟩]),⟨by dsimp only;omega,by dsimp only;omega,by dsimp only;rw [K06];simp;omega,hp⟩,by dsimp only;omega,?_⟩
  dsimp only
  rw [G31 (hs:=hs) (r:=r) ⟨A,R⟩ (by omega),e2,e3,K06]
  exact J69 ⟨le1 rfl,le1 rfl,le1 rfl,le1 rfl,le1 rfl,le1 rfl,trivial⟩ ⟨rfl,rfl,rfl,(by show some (Ob.growT 59 (hs.length+1) 2 (List.map (TC.forget 702) (H7 hs r++P1 2 H5 [⟨A,R⟩])))=_;rw [K20,X3 hs r (k:=702) rfl rfl];rfl),rfl,rfl,trivial⟩
theorem H05 (l:List Merged) (hl:l.length≤536870912):FnOk Tryz.prog 253 [pMerged l] (fun rs=>rs=[P0 (F5 l)]):=by
 refine FnOk.intro Tryz.func253 (by decide) Z Z Z Z ?_
 refine k2 (A3 (A7 Z Z (A5 ?_)));refine k1 (k2 (A3 (C1 (V1 756 _ F7 Z) Z (A5 ?_))));refine k1 (k2 (k2 (A3 (A4 Z Z (E7 Z Z (A4 Z Z (A5 ?_)))))));refine k1 (k3 (D6 (X:=Nat) (fun i=>([(3,.s (.one (.buf 756 Int 1 F7 (F5 (l.take i))))),(6,C3 Merged 2 mergedC l),(7,B9 l.length),(8,B9 i)],[(756,.spare (F5 (l.take i)).length 1 3)])) (fun i=>i≤l.length) (fun i=>l.length - i) 0 (Nat.zero_le _) (J69 ⟨le1 rfl,le1 rfl,le1 rfl,le1 rfl,trivial⟩ ⟨rfl,trivial⟩) ?_))
 intro i hi
 dsimp only at hi ⊢
 have hml:(F5 (l.take i)).length=i:=by simp [F5];omega
 refine k2 (A3 (E4 Z Z Z (A5 ?_)));refine k1 (k2 ?_);refine B3 rfl (fun ht=>?_) (fun ht=>?_)
 ·have hlt:i < l.length:=by have:=A0 ht;omega
  have hv:l[i]?=some l[i]:=by simp [hlt]
  have hst:F5 (l.take (i+1))=F5 (l.take i)++[l[i].Line]:=by unfold F5;rw [K16 hlt];simp only [K20,K14,K38]
  obtain ⟨m,hm⟩:∃m,m=l[i]:=⟨_,rfl⟩
  rw [←hm] at hv hst
  refine k5 (k1 (k2 (k3 (k2 (A3 (A6 (B0 Z (.pure _ _ _ _) Z (by omega) hv) Z (A6 (G3 Z Z) Z (C1 (I3 757 Z) Z (F8 (B8 TySz.out Z Z Z Z Z Z) (A5 ?_))))))))));refine k1 (A3 (A4 Z Z (A6 (A8 Z) Z (E1 Z Z Z Z (A6 (D5 (c:=F7) (ys:=[m.Line]) (E0 Z Z Z Z F3) Z Z Z) Z (C1 (G4 Z Z Z (.pure _ _ _ _) (by (rw [hml];simp only [K08,K11];omega)) Z) Z ?_))))));refine A7 Z Z (A5 ?_);refine k4 (k1 (A3 (C6 Z Z Z (A4 Z Z (A5 ?_)))));refine k1 ?_;refine ⟨i+1,by omega,by omega,?_⟩
  rw [hst]
  exact J69 ⟨le1 rfl,le1 rfl,le1 rfl,le1 rfl,trivial⟩ ⟨rfl,trivial⟩
 ·have hil:i=l.length:=by have:=A1 ht;omega
  rw [hil,K28]
  refine k6 (k2 (A3 (A4 Z Z (A7 Z Z (A5 ?_)))));refine k1 (k10 ?_)
  exact B6 (G6 rfl rfl rfl) rfl
theorem H80 (l:List Merged) (bit:Int) {a t:Nat} (h:a+t < l.length):l6 l bit a (a+(t+1))=l6 l bit a (a+t)++[⟨l[a+t].Line,K6 l[a+t].Parents bit⟩]:=by
 rw [D94 l bit (show a≤a+t by omega) (show a+t≤a+(t+1) by omega),show a+(t+1)=a+t+1 by omega,D49 l bit h,K07 h];rfl
theorem C98 (l:List Merged) (bit:Int) (a b:Nat):(l6 l bit a b).length≤b - a:=by unfold l6;rw [K30,K19];omega
abbrev u6 (i:Int):Ob:=.box [.p (.v (.int .i64 i))]
abbrev C59 (i:Int):Ob:=.box [.p (.v (.int .u32 i))]
abbrev lBox (l:List Merged):Ob:=.box [.p (.list Merged 2 mergedC l)]
theorem D69 {gf:Fr} {ob:Obs} (l out:List Merged) (bit:Int) (a e:Nat) (he:e≤l.length) (ha:a≤e) (hl:l.length≤536870912) (ho:out.length≤268435456) (hl2:l.length≤268435456)
  (h11:C7 ob 11=some (u6 a)) (h10:C7 ob 10=some (.box [.buf 20 Merged 2 mergedC out])) (h3:C7 ob 3=some (lBox l)) (h5:C7 ob 5=some (C59 bit)) (h20:C7 ob 20=some (.spare out.length 2 151)) :
  AL.Met Tryz.prog 254 [.one (.p (.v (.int .i64 e))),.one (.ref 11 0),.one (.ref 10 0),.one (.ref 3 0),.one (.ref 5 0)] gf ob [20]
   (fun rs ob'=>rs=[]∧ob'=(10,.box [.buf 20 Merged 2 mergedC (out++l6 l bit a e)])::(11,u6 e)::(3,lBox l)::(5,C59 bit)::(20,.spare (out++l6 l bit a e).length 2 151)::Obs.forget 20 ob):=by
 refine AL.Met.introH Tryz.func254 (by decide) rfl rfl rfl (fun hH=>?_)
 refine k3 ?_;refine D6 (X:=Nat) (fun t=>([(0,B9 e),(1,.s (.one (.ref 11 0))),(2,.s (.one (.ref 10 0))),(3,.s (.one (.ref 3 0))),(4,.s (.one (.ref 5 0)))]++Fr.forget 20 gf,(10,.box [.buf 20 Merged 2 mergedC (out++l6 l bit a (a+t))])::(11,u6 ((a+t:Nat):Int))::(3,lBox l)::(5,C59 bit)::(20,.spare (out++l6 l bit a (a+t)).length 2 151)::Obs.forget 20 ob)) (fun t=>a+t≤e) (fun t=>e - (a+t)) 0 (by omega) ?_ ?_
 ·rw [Nat.add_zero,D48,K29]
  exact K04 20 (l:=[(0,B9 e),(1,.s (.one (.ref 11 0))),(2,.s (.one (.ref 10 0))),(3,.s (.one (.ref 3 0))),(4,.s (.one (.ref 5 0)))]) (L:=[(10,_),(11,_),(3,_),(5,_),(20,_)]) ⟨le1 rfl,le1 rfl,le1 rfl,le1 rfl,le1 rfl,trivial⟩ hH (by repeat (first | exact I9 | refine J0 rfl ?_)) ⟨h10,h11,h3,h5,h20,trivial⟩
 intro t ht0
 dsimp only at ht0 ⊢
 have hpl:=C98 l bit a (a+t)
 refine k2 (k2 (A3 (E1 Z Z Z Z (A4 Z Z (E4 Z Z Z (A5 ?_))))));refine k1 ?_;refine B3 rfl (fun ht=>?_) (fun ht=>?_)
 ·have h1:a+t < l.length:=by have:=A0 ht;omega
  have hv:l[a+t]?=some l[a+t]:=by simp [h1]
  have hst:=H80 l bit h1
  obtain ⟨m,hm⟩:∃m,m=l[a+t]:=⟨_,rfl⟩
  rw [←hm] at hv hst
  refine k5 (k1 (k2 (k3 (C9 (by kernel_rfl) (by kernel_rfl) (A9 (B5 Z Z Z) Z Z (A9 (B5 Z Z Z) Z Z (A9 (B5 Z Z Z) Z Z (A9 (B0 Z (.pure _ _ _ _) Z (by omega) hv) Z Z (A9 (D4 Z) Z Z (A9 (B1 Z Z) Z Z (A9 (B5 Z Z Z) Z Z (A9 (B5 Z Z Z) Z Z (A9 (B0 Z (.pure _ _ _ _) Z (by omega) hv) Z Z (A9 (D4 Z) Z Z (A9 (B1 Z Z) Z Z (A9 (B5 Z Z Z) Z Z (A9 (X9 Z Z Z (fun _=>rfl)) Z Z (A9 (H1 Z) Z Z (A9 (D5 (c:=mergedC) (ys:=[⟨m.Line,K6 m.Parents bit⟩]) (E0 Z Z Z Z F3) Z Z Z) Z Z (B09 (G4 Z Z Z (.pure _ _ _ _) (by (simp only [K06,K08,K11];omega)) Z) Z Z (s7 (B8 TySz.out Z Z Z Z Z Z) Z (L6 ?_))))))))))))))))))))));refine k4 (k1 (A3 (E1 Z Z Z Z (C6 Z Z Z (F8 (B8 TySz.out Z Z Z Z Z Z) (A5 ?_))))));refine k1 ?_;refine ⟨t+1,by have:=A0 ht;omega,by have:=A0 ht;omega,?_⟩
  rw [hst,←K18,show ((a+(t+1):Nat):Int)=((a+t:Nat):Int)+1 by omega]
  exact J71 ⟨le1 rfl,le1 rfl,le1 rfl,le1 rfl,le1 rfl,trivial⟩ (D57 hH) (by repeat (first | exact I9 | refine tail_drop rfl ?_ | refine J0 rfl ?_ | refine G17 _ ?_)) (C18 (L:=[(10,_),(11,_),(3,_),(5,_),(20,_)]) ⟨rfl,rfl,rfl,rfl,rfl,trivial⟩ (by repeat (first | exact B79 | refine B80 rfl ?_ | refine obs_fgt _ ?_)))
 ·have h2:a+t=e:=by have:=A1 ht;omega
  rw [h2]
  refine k6 (k7 (k7 (k8 Z ?_)))
  exact E27 (rets0 rfl) (by repeat (first | exact I9 | refine J0 rfl ?_ | refine P2 _ ?_)) (fun _ _ h=>h) ⟨rfl,rfl⟩
def D37 (l:List Merged) (list:List Int) (bit:Int):List Merged:=P9 l list bit 0 0 (F9 0 0 (F5 l) list)
theorem I93 (list:List Int) (bit:Int) {a t:Nat} (h:a+t < list.length):D18 list bit a (t+1)=D18 list bit a t++[⟨list[a+t],bit⟩]:=by
 unfold D18;rw [A50 list a t h,K20];rfl
theorem D70 (list:List Int) (bit:Int) (a n:Nat):(D18 list bit a n).length≤n:=by unfold D18;rw [K30,K19];omega
theorem walk_sc (l:List Merged) (list:List Int) (hl:l.length≤4096) (hn:list.length≤4096):ScOk 0 0 (L3 (F5 l) list) l.length list.length:=by
 have hasc:=X0 (F5 l) list 0 0
 rw [Int.zero_add,Int.zero_add] at hasc
 have h:=C25 (m:=(F5 l).length) (n:=list.length) ⟨by omega,by simp [F5];omega⟩ ⟨by omega,by omega⟩ (F9 0 0 (F5 l) list) 0 0 0 0 0 hasc (by omega) (by omega) (by omega) (by omega) (by omega)
 have:=A71 _ _ _ _ _ _ h
 unfold L3 i7
 rwa [show (F5 l).length=l.length by simp [F5]] at this ⊢
set_option maxHeartbeats 1000000
theorem I94 (l:List Merged) (list:List Int) (bit:Int) (hl:l.length≤4096) (hn:list.length≤4096) :
  FnOk Tryz.prog 219 [pMerged l,P0 list,.one (.v (.int .u32 bit))] (fun rs=>rs=[pMerged (D37 l list bit),H3 0]):=by
 have hll:(F5 l).length=l.length:=by simp [F5]
 have hsc:=walk_sc l list hl hn
 have hmi:=J62 l list bit
 obtain ⟨W,hW⟩:∃W,W=D37 l list bit:=⟨_,rfl⟩
 obtain ⟨cs,hcs⟩:∃cs,cs=L3 (F5 l) list:=⟨_,rfl⟩
 have hS:=E53 (F5 l) list (by omega) hn
 have hmi:x1 l list bit 0 cs=W:=by rw [hcs,hmi,hW];rfl
 rw [←hcs] at hsc hS
 rw [←hW]
 refine FnOk.intro Tryz.func219 (by decide) Z Z Z Z ?_
 refine k2 (A3 (C1 (R4 3 Z Z Z) Z (C1 (R4 5 Z Z Z) Z (A7 Z Z (A7 Z Z (A5 ?_))))));refine k1 (k2 (A3 (E1 Z Z Z Z (C4 (H05 l (by omega)) Z Z Z ?_))));rintro _ rfl;refine A4 Z Z (C4 (hS) Z Z Z ?_);rintro _ rfl;refine A4 Z Z (H9 Z Z Z (H9 Z Z Z (A7 Z Z (A7 Z Z (A5 ?_)))));refine k1 (k2 (k2 (A3 (A4 Z Z (A6 (O9 Z Z) Z (A5 ?_))))));refine k1 ?_;refine B3 rfl (fun ht=>?_) (fun ht=>?_)
 ·cases ht
 refine k5 (k1 (k2 (A3 (C1 (I3 10 Z) Z (A5 ?_)))));refine G5 (J76 20 Merged 2 mergedC 151 (kb:=10) (o:=0) Z Z Z) ?_
 refine k2 (A3 (C1 (I3 11 Z) Z (F8 (B8 TySz.out Z Z Z Z Z Z) (A5 ?_))));refine k1 (k2 (A3 (A6 (C51 Z Z) Z (A7 Z Z (A5 ?_)))));refine k1 (k2 (k2 (A3 (A4 Z Z (E7 Z Z (A4 Z Z (A5 ?_)))))));refine k1 (k3 ?_);refine D6 (X:=Nat × Nat × Nat × List Merged) (fun x=>([(1,C3 Int 1 F7 list),(3,.s (.one (.ref 3 0))),(5,.s (.one (.ref 5 0))),(10,.s (.one (.ref 10 0))),(11,.s (.one (.ref 11 0))),(12,.s (.one (.clo 254 [] [(11,0),(10,0),(3,0),(5,0)]))),(28,C3 Change 4 changeC cs),(29,B9 cs.length),(30,B9 x.1)],[(3,lBox l),(5,C59 bit),(10,.box [.buf 20 Merged 2 mergedC x.2.2.2]),(11,u6 x.2.1),(20,.spare x.2.2.2.length 2 151)]))
  (fun x=>x.1≤cs.length∧ScOk x.2.1 x.2.2.1 (cs.drop x.1) l.length list.length∧x.2.2.2.length≤x.2.1+x.2.2.1∧x.2.2.2++x1 l list bit x.2.1 (cs.drop x.1)=W) (fun x=>cs.length - x.1) (0,0,0,[]) ⟨Nat.zero_le _,hsc,(by simp),hmi⟩ (J69 ⟨le1 rfl,le1 rfl,le1 rfl,le1 rfl,le1 rfl,le1 rfl,le1 rfl,le1 rfl,le1 rfl,trivial⟩ ⟨rfl,rfl,rfl,rfl,rfl,trivial⟩) ?_
 rintro ⟨i,k,j,out⟩ ⟨hi,hok,hol,hp⟩
 dsimp only at hi hok hol hp ⊢
 refine k2 (A3 (E4 Z Z Z (A5 ?_)));refine k1 (k2 ?_);refine B3 rfl (fun ht=>?_) (fun ht=>?_)
 rotate_left
 ·have hil:i=cs.length:=by have:=A1 ht;omega
  rw [hil,K15 (Nat.le_refl _)] at hp hok
  have hend:(k:Int)≤l.length∧(j:Int)≤list.length:=hok
  have hp:out++l6 l bit k l.length=W:=hp
  refine k6 (k2 (A3 (A4 Z Z (E1 Z Z Z Z (E7 Z Z (D32 (D69 l out bit k l.length (by omega) (by omega) (by omega) (by omega) (by omega) Z Z Z Z Z) Z Z Z Z ?_))))));rintro _ _ ⟨rfl,rfl⟩;refine A5 ?_;refine k1 (k2 ?_)
  rw [hp]
  refine G5 (Sees.forget 20) ?_
  refine A3 (E1 Z Z Z Z (A7 Z Z (A7 Z Z (A5 ?_))));refine k1 (k10 ?_)
  exact B6 (s6 rfl rfl rfl rfl rfl) rfl
 have hlt:i < cs.length:=by have:=A0 ht;omega
 have hv:cs[i]?=some cs[i]:=by simp [hlt]
 rw [K13 hlt] at hp hok
 obtain ⟨c,hc⟩:∃c,c=cs[i]:=⟨_,rfl⟩
 rw [←hc] at hv hp hok
 obtain ⟨⟨o1,o2⟩,⟨o3,o4⟩,⟨o5,o6⟩,⟨o7,o8⟩,o9,o10,hok⟩:=hok
 have hend:=hok.end_le
 obtain ⟨co,col,cn,cnl⟩:=c
 dsimp only at o1 o2 o3 o4 o5 o6 o7 o8 o9 o10 hok hend
 obtain ⟨A,rfl⟩:∃A:Nat,co=A:=⟨co.toNat,by omega⟩
 obtain ⟨B,rfl⟩:∃B:Nat,col=B:=⟨col.toNat,by omega⟩
 obtain ⟨C,rfl⟩:∃C:Nat,cn=C:=⟨cn.toNat,by omega⟩
 obtain ⟨D,rfl⟩:∃D:Nat,cnl=D:=⟨cnl.toNat,by omega⟩
 rw [x1] at hp
 dsimp only at hp
 simp only [K12] at hp
 have hpl:=C98 l bit k A
 have hsl:((l.drop A).take B).length=B:=by rw [K19,K23];omega
 refine k5 (k1 (k2 (k3 (k2 (A3 (A6 (B0 Z (.pure _ _ _ _) Z (by omega) hv) Z (A6 (G3 Z Z) Z (C1 (I3 14 Z) Z (F8 (B8 TySz.out Z Z Z Z Z Z) (A5 ?_))))))))));refine M9 [(1,C3 Int 1 F7 list),(3,.s (.one (.ref 3 0))),(5,.s (.one (.ref 5 0))),(10,.s (.one (.ref 10 0))),(11,.s (.one (.ref 11 0))),(12,.s (.one (.clo 254 [] [(11,0),(10,0),(3,0),(5,0)]))),(14,.s (.one (.ref 14 0))),(28,C3 Change 4 changeC cs),(29,B9 cs.length),(30,B9 i)] [(3,lBox l),(5,C59 bit),(10,.box [.buf 20 Merged 2 mergedC out]),(11,u6 k),(20,.spare out.length 2 151),(14,.box [.p (.v (.int .i64 A)),.p (.v (.int .i64 B)),.p (.v (.int .i64 C)),.p (.v (.int .i64 D))])] (J69 ⟨le1 rfl,le1 rfl,le1 rfl,le1 rfl,le1 rfl,le1 rfl,le1 rfl,le1 rfl,le1 rfl,le1 rfl,trivial⟩ ⟨rfl,rfl,rfl,rfl,rfl,rfl,trivial⟩) ?_
 refine k2 (A3 (A4 Z Z (A6 (A8 Z) Z (E1 Z Z Z Z (D32 (D69 l out bit k A (by omega) (by omega) (by omega) (by omega) (by omega) Z Z Z Z Z) Z Z Z Z ?_)))));rintro _ _ ⟨rfl,rfl⟩;refine A5 ?_
 obtain ⟨o1',ho1⟩:∃o',o'=out++l6 l bit k A:=⟨_,rfl⟩
 have hp:o1'++((l.drop A).take B++D18 list bit C D++x1 l list bit (A+B) (cs.drop (i+1)))=W:=by rw [ho1,←hp];simp only [K18]
 have hol':o1'.length≤k+j+(A - k):=by rw [ho1,K06];omega
 rw [←ho1]
 refine M9 [(1,C3 Int 1 F7 list),(3,.s (.one (.ref 3 0))),(5,.s (.one (.ref 5 0))),(10,.s (.one (.ref 10 0))),(11,.s (.one (.ref 11 0))),(12,.s (.one (.clo 254 [] [(11,0),(10,0),(3,0),(5,0)]))),(14,.s (.one (.ref 14 0))),(28,C3 Change 4 changeC cs),(29,B9 cs.length),(30,B9 i)] [(3,lBox l),(5,C59 bit),(10,.box [.buf 20 Merged 2 mergedC o1']),(11,u6 A),(20,.spare o1'.length 2 151),(14,.box [.p (.v (.int .i64 A)),.p (.v (.int .i64 B)),.p (.v (.int .i64 C)),.p (.v (.int .i64 D))])] (J69 ⟨le1 rfl,le1 rfl,le1 rfl,le1 rfl,le1 rfl,le1 rfl,le1 rfl,le1 rfl,le1 rfl,le1 rfl,trivial⟩ ⟨rfl,rfl,rfl,rfl,rfl,rfl,trivial⟩) ?_
 refine k2 ?_
 have eAB:((A:Int)+B).toNat - (A:Int).toNat=B:=by omega
 refine C9 (by kernel_rfl) (by kernel_rfl) (A9 (B5 Z Z Z) Z Z (A9 (B5 Z Z Z) Z Z (A9 (B5 Z Z Z) Z Z (A9 (B5 Z Z Z) Z Z (A9 (A8 Z) Z Z (A9 (B5 Z Z Z) Z Z (A9 (V2 Z Z (by omega)) Z Z (A9 (S0 Z (.pure _ _ _ _) Z Z (by omega) (by omega) (by omega)) Z Z (B09 (G4 Z Z Z (.pure _ _ _ _) (by (rw [eAB,K12,hsl];omega)) Z) Z Z ?_)))))))));refine s7 (B8 TySz.out Z Z Z Z Z Z) Z (L6 ?_)
 rw [eAB,K12]
 refine k1 (k2 (A3 (E1 Z Z Z Z (A6 (A8 Z) Z (E1 Z Z Z Z (C6 Z Z Z (F8 (B8 TySz.out Z Z Z Z Z Z) (A5 ?_))))))));refine k1 (k2 ?_)
 have eCD:((C:Int)+D).toNat - (C:Int).toNat=D:=by omega
 have hLl:((list.drop C).take D).length=D:=by rw [K19,K23];omega
 refine A3 (A4 Z Z (A6 (A8 Z) Z (E1 Z Z Z Z (A6 (A8 Z) Z (E1 Z Z Z Z (A6 (A8 Z) Z (E1 Z Z Z Z (C6 Z Z Z (A6 (S0 Z (.pure _ _ _ _) Z Z (by omega) (by omega) (by omega)) Z (E7 Z Z (A4 Z Z (A5 ?_))))))))))))
 rw [eCD,K12]
 refine k1 (k3 ?_)
 obtain ⟨o2',ho2⟩:∃o',o'=o1'++(l.drop A).take B:=⟨_,rfl⟩
 have hp:o2'++(D18 list bit C D++x1 l list bit (A+B) (cs.drop (i+1)))=W:=by rw [ho2,←hp];simp only [K18]
 have hol2:o2'.length≤k+j+(A - k)+B:=by rw [ho2,K06,hsl];omega
 rw [←ho2]
 obtain ⟨NL,hNL⟩:∃NL,NL=(list.drop C).take D:=⟨_,rfl⟩
 rw [←hNL] at hLl ⊢
 refine D6 (X:=Nat) (fun t=>([(1,C3 Int 1 F7 list),(3,.s (.one (.ref 3 0))),(5,.s (.one (.ref 5 0))),(10,.s (.one (.ref 10 0))),(11,.s (.one (.ref 11 0))),(12,.s (.one (.clo 254 [] [(11,0),(10,0),(3,0),(5,0)]))),(28,C3 Change 4 changeC cs),(29,B9 cs.length),(30,B9 i),(59,C3 Int 1 F7 NL),(60,B9 NL.length),(61,B9 t)],[(3,lBox l),(5,C59 bit),(10,.box [.buf 20 Merged 2 mergedC (o2'++D18 list bit C t)]),(11,u6 ((A:Int)+B)),(20,.spare (o2'++D18 list bit C t).length 2 151)])) (fun t=>t≤D) (fun t=>D - t) 0 (Nat.zero_le _) (by rw [show D18 list bit C 0=[] by unfold D18;simp,K29];exact J69 ⟨le1 rfl,le1 rfl,le1 rfl,le1 rfl,le1 rfl,le1 rfl,le1 rfl,le1 rfl,le1 rfl,le1 rfl,le1 rfl,le1 rfl,trivial⟩ ⟨rfl,rfl,rfl,rfl,rfl,trivial⟩) ?_
 intro t ht1
 dsimp only at ht1 ⊢
 have hnl:=D70 list bit C t
 refine k2 (A3 (E4 Z Z Z (A5 ?_)));refine k1 (k2 ?_);refine B3 rfl (fun ht=>?_) (fun ht=>?_)
 ·have hltD:t < D:=by have:=A0 ht;omega
  have hltL:C+t < list.length:=by omega
  have hv2:NL[t]?=some list[C+t]:=by rw [hNL,K22 hltD,K33,K07 hltL]
  have hst:=I93 list bit hltL
  obtain ⟨v,hvv⟩:∃v,v=list[C+t]:=⟨_,rfl⟩
  rw [←hvv] at hv2 hst
  refine k5 (k1 (k2 (k3 (k2 (A3 (A6 (B0 Z (.pure _ _ _ _) Z (by omega) hv2) Z (A6 (B1 Z Z) Z (A7 Z Z (A5 ?_)))))))));refine k1 (A3 (E1 Z Z Z Z (A4 Z Z (E1 Z Z Z Z (A6 (H1 Z) Z (A6 (D5 (c:=mergedC) (ys:=[⟨v,bit⟩]) (E0 Z Z Z Z F3) Z Z Z) Z (C1 (G4 Z Z Z (.pure _ _ _ _) (by (simp only [K06,K08,K11];omega)) Z) Z (F8 (B8 TySz.out Z Z Z Z Z Z) (A5 ?_)))))))));refine k4 (k1 (A3 (C6 Z Z Z (A4 Z Z (A5 ?_)))));refine k1 ?_;refine ⟨t+1,by omega,by omega,?_⟩
  rw [hst,←K18]
  exact J69 ⟨le1 rfl,le1 rfl,le1 rfl,le1 rfl,le1 rfl,le1 rfl,le1 rfl,le1 rfl,le1 rfl,le1 rfl,le1 rfl,le1 rfl,trivial⟩ ⟨rfl,rfl,rfl,rfl,rfl,trivial⟩
 have htD:t=D:=by have:=A1 ht;omega
 have hcsl:cs.length≤4097:=by rw [hcs];have:=A02 (F9 0 0 (F5 l) list) 0 0 (F5 l).length list.length;have:=W9 0 0 (F5 l) list;unfold L3 i7;omega
 rw [htD]
 refine k6 (k7 (k7 (k8 Z (k4 (k1 (A3 (C6 Z Z Z (A4 Z Z (A5 ?_)))))))));refine k1 ?_
 have hnl2:=D70 list bit C D
 exact ⟨(i+1,A+B,C+D,o2'++D18 list bit C D),⟨by dsimp only;omega,by dsimp only;exact hok,by dsimp only;rw [K06];omega,by dsimp only;rw [K18];exact hp⟩,by dsimp only;omega,J69 ⟨le1 rfl,le1 rfl,le1 rfl,le1 rfl,le1 rfl,le1 rfl,le1 rfl,le1 rfl,le1 rfl,trivial⟩ ⟨rfl,rfl,rfl,rfl,rfl,trivial⟩⟩
end Go.Proofs.YtbiadkkamhpdnaaGreatDoor
