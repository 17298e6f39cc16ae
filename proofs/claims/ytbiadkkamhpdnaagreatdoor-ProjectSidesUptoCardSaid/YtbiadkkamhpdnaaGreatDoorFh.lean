/- Walks of the program's functions. -/
import Derived.Test.YtbiadkkamhpdnaaGreatDoorFg
import Derived.Test.YtbiadkkamhpdnaaGreatDoorFe
import Derived.Test.YtbiadkkamhpdnaaGreatDoorFs
import Derived.Test.YtbiadkkamhpdnaaGreatDoorFc
import Derived.Test.YtbiadkkamhpdnaaGreatDoorFa
import Derived.Test.YtbiadkkamhpdnaaGreatDoorFf
set_option linter.unusedSimpArgs false
namespace Go.Proofs.YtbiadkkamhpdnaaGreatDoor
open Go Go.AL
set_option maxRecDepth 100000
set_option maxHeartbeats 1000000
end Go.Proofs.YtbiadkkamhpdnaaGreatDoor
namespace Go.Proofs.YtbiadkkamhpdnaaGreatDoor
open Go Go.AL
set_option maxRecDepth 100000
set_option maxHeartbeats 1000000
set_option maxHeartbeats 2000000
end Go.Proofs.YtbiadkkamhpdnaaGreatDoor
namespace Go.Proofs.YtbiadkkamhpdnaaGreatDoor
open Go Go.AL
set_option maxRecDepth 100000
set_option maxHeartbeats 1000000
set_option maxHeartbeats 1000000
set_option maxHeartbeats 1000000
def awakeT:Table:=⟨2,[⟨false,0,[97,10]⟩,⟨true,1,[98,10]⟩,⟨false,1,[99,10]⟩]⟩
theorem F69:K1 awakeT.Rows:=by intro r hr;simp [awakeT] at hr;rcases hr with rfl | rfl | rfl<;>decide
theorem J43:FnOk Tryz.prog 56 [] (fun rs=>rs=[O9 true]):=by
 have h1:R8 awakeT (-1)=([97,10,99,10],0):=by decide
 have h2:R8 awakeT 0=([97,10,98,10],0):=by decide
 refine FnOk.intro Tryz.func56 (by decide) Z Z Z Z ?_
 refine k2 ?_
 refine A4 (A3 (A6 Z Z) Z (A7 ?_))
 refine k1 (k2 ?_)
 refine A4 (A3 (F9 Z) Z (A3 (F9 Z) Z (A3 (F9 Z) Z (A3 (E6 (c:=rowC) (ys:=[⟨false,0,[97,10]⟩,⟨true,1,[98,10]⟩,⟨false,1,[99,10]⟩]) (F3 Z Z Z Z (F3 Z Z Z Z (F3 Z Z Z Z I6))) Z Z Z) Z (A3 (F9 Z) Z (C5 (E8 1 Z) Z (E7 (B2 TySz.out Z Z Z Z Z Z) (A7 ?_))))))))
 refine k1 (k2 ?_)
 refine A4 (A3 (D1 Z Z Z) Z (C9 (E42 awakeT (-1) F69 (by decide) (by decide)) Z Z Z ?_));rintro _ rfl;refine A3 (A5 Z Z) Z (A3 (C1 Z Z) Z (A3 (C1 Z Z) Z (A3 (A6 Z Z) Z (A3 (A6 Z Z) Z (A7 ?_)))))
 rw [h1]
 refine k1 (k2 ?_)
 refine A4 (A3 (D1 Z Z Z) Z (C9 (E42 awakeT 0 F69 (by decide) (by decide)) Z Z Z ?_));rintro _ rfl;refine A3 (A5 Z Z) Z (A3 (C1 Z Z) Z (A3 (C1 Z Z) Z (A3 (A6 Z Z) Z (A3 (A6 Z Z) Z (A7 ?_)))))
 rw [h2]
 refine k1 (k2 ?_)
 refine A4 (A3 (A5 Z Z) Z (A3 (Q0 Z Z) Z (A3 (A5 Z Z) Z (B1 Z Z Z Z (fun hg=>by rw [hg];exact A5 Z Z) ?_))));refine B1 Z Z Z Z (fun hg=>by rw [hg];exact Q0 Z Z) ?_;refine A3 (B5 Z (fun h=>by first | rfl | (rw [h];rfl)) (fun h=>by first | rfl | (rw [h];rfl))) Z ?_;refine A3 (A5 Z Z) Z (B1 Z Z Z Z (fun hg=>by rw [hg];exact A5 Z Z) ?_);refine B1 Z Z Z Z (fun hg=>by rw [hg];exact B89 Z Z) ?_;refine A3 (B5 Z (fun h=>by first | rfl | (rw [h];rfl)) (fun h=>by first | rfl | (rw [h];rfl))) Z ?_;refine A3 (A5 Z Z) Z (B1 Z Z Z Z (fun hg=>by rw [hg];exact A5 Z Z) ?_);refine B1 Z Z Z Z (fun hg=>by rw [hg];exact B89 Z Z) ?_;refine A3 (B5 Z (fun h=>by first | rfl | (rw [h];rfl)) (fun h=>by first | rfl | (rw [h];rfl))) Z ?_;refine A3 (A6 Z Z) Z (A7 ?_)
 refine k1 (k10 ?_)
 exact B7 (H6 rfl rfl rfl) rfl
def y1 (raw:List Int) (n:Int):List Str:=c7 raw (2+R7 n 4).toNat 7
theorem G92 (raw:List Int) (n:Int):∃x r,y1 raw n=x::r∧x.length≤140∧∀b∈r,b.length≤140:=by
 have hm:=Y7 n (n:=4) (by omega)
 have hl:(y1 raw n).length=(2+R7 n 4).toNat:=by simp [y1,c7]
 have hb:∀b∈y1 raw n,b.length≤140:=by
  intro b hb
  obtain ⟨p,_,rfl⟩:=List.mem_map.1 hb
  have:=E40 raw 7 p (by omega);omega
 cases h:y1 raw n with
 | nil=>rw [h] at hl;simp at hl;omega
 | cons x r=>exact ⟨x,r,rfl,hb x (by rw [h];simp),fun b hb'=>hb b (by rw [h];simp [hb'])⟩
theorem pick_ok (raw:List Int) (n:Int) (x:Str) (r:List Str) (h:y1 raw n=x::r):FnOk Tryz.prog 52 [P7 raw,G5 n] (fun rs=>rs=[M9 x,d6 r]):=by
 have hm:=Y7 n (n:=4) (by omega)
 have hlen:(x::r).length=(2+R7 n 4).toNat:=by rw [←h];simp [y1,c7]
 have hb:=J29 raw (2+R7 n 4).toNat 7 (by omega) (by omega)
 have hcast:(((2+R7 n 4).toNat:Nat):Int)=2+R7 n 4:=by omega
 rw [hcast] at hb
 have hbr:c7 raw (2+R7 n 4).toNat 7=x::r:=h
 rw [hbr] at hb
 refine FnOk.intro Tryz.func52 (by decide) Z Z Z Z ?_
 refine k2 ?_
 refine A4 (A3 (A6 Z Z) Z (A3 (A6 Z Z) Z (A7 ?_)))
 refine k1 (k2 ?_)
 refine A4 (A3 (A5 Z Z) Z (A3 (A5 Z Z) Z (C9 (D22 n 4 (by omega) (by omega)) Z Z Z ?_)));rintro _ rfl;refine A3 (C6 Z Z (by omega)) Z (C9 (hb) Z Z Z ?_);rintro _ rfl;refine A3 (A6 Z Z) Z (A7 ?_)
 refine k1 (k2 ?_)
 refine E1 (by kernel_rfl) (by kernel_rfl) (B0 (A5 Z Z) Z Z (B0 (B4 Z (.pure _ _ _ _) Z (by omega) (show (x::r)[(0:Int).toNat]?=some x from Z)) Z Z (B0 (C8 Z Z) Z Z (B0 (A5 Z Z) Z Z (B0 (B91 Z (.pure _ _ _ _) Z (by (first | omega | (simp only [K07];omega))) (by (first | omega | (simp only [K07];omega)))) Z Z (B0 (A6 Z Z) Z Z (B0 (A6 Z Z) Z Z (L4 ?_))))))))
 refine k1 (k10 ?_)
 refine B7 (p9 Z Z Z Z Z) ?_
 rfl
theorem G93:∀s∈lineTab,s.count 10=0:=by decide
theorem E51 (k:Int):(x7 k).count 10=0:=by
 unfold x7
 rw [K09]
 cases h:lineTab[(R7 k 10).toNat]? with
 | none=>rfl
 | some s=>exact G93 s (K16 h)
theorem F32 (raw:List Int) (from' kinds:Int) (m:Nat):(S7 raw from' kinds m).count 10=m:=by
 induction m with
 | zero=>simp [S7]
 | succ m ih=>rw [A45,List.count_append,List.count_append,ih,E51];rfl
theorem E52 (raw:List Int) (from' n kinds:Int) (h1:0≤n):((X1 raw from' n kinds).count 10:Int)≤n:=by
 have h:=Y7 (t6 raw from') (n:=n+1) (by omega)
 have h2:=F32 raw from' kinds (R7 (t6 raw from') (n+1)).toNat
 have h3:=(List.take_sublist ((S7 raw from' kinds (R7 (t6 raw from') (n+1)).toNat).length - 1) (S7 raw from' kinds (R7 (t6 raw from') (n+1)).toNat)).count_le (a:=(10:UInt8))
 unfold X1
 simp only
 split
 ·omega
 ·omega
theorem B18 (raw:List Int) (from':Int):∀(l:List Str) (i:Nat) (s:Str),(t7 raw from' i s l).count 10≤s.count 10+l.flatten.count 10+l.length
 | [],i,s=>by simp [t7]
 | x::r,i,s=>by
  have h1:=B18 raw from' r (i+1) s
  have h2:=B18 raw from' r (i+1) (s++x7 (t6 raw (from'+40+(i:Int)))++[10]++x)
  have h3:=B18 raw from' r (i+1) (s++x)
  have h4:=E51 (t6 raw (from'+40+(i:Int)))
  have h5:List.count (10:UInt8) [10]=1:=rfl
  simp only [List.count_append,h4,h5] at h2 h3
  unfold t7
  simp only [K18,List.count_append,K07]
  split
  ·omega
  ·split<;>omega
theorem H83 (raw:List Int) (p:Nat):(x8 raw 7 p).count 10≤15:=by
 have h1:=E52 raw (600+50*(p:Int)) 7 4 (by omega)
 have h2:=E52 raw 0 7 5 (by omega)
 have h3:=B18 raw (600+50*(p:Int)) (B8 (X1 raw 0 7 5)) 0 []
 have h4:=D82 (X1 raw 0 7 5)
 rw [l5] at h3
 have h5:List.count (10:UInt8) ([]:Str)=0:=rfl
 unfold x8
 split
 ·omega
 ·split
  ·omega
  ·unfold C42;omega
theorem E53 (raw:List Int) (n:Int):∀b∈y1 raw n,(B8 b).length≤16∧b.length≤140:=by
 intro b hb
 obtain ⟨p,_,rfl⟩:=List.mem_map.1 hb
 have h1:=E40 raw 7 p (by omega)
 have h2:=H83 raw p
 have h3:=D82 (x8 raw 7 p)
 omega
theorem E54 (raw:List Int) (n:Int) {x:Str} {r:List Str} (h:y1 raw n=x::r):1≤r.length∧r.length≤4:=by
 have hm:=Y7 n (n:=4) (by omega)
 have hl:(y1 raw n).length=(2+R7 n 4).toNat:=by simp [y1,c7]
 rw [h,K07] at hl
 omega
structure Small16 (x:Str) (r:List Str):Prop where
 n:r.length≤32
 hx:x.length≤140
 hr:∀b∈r,b.length≤140
 rows:K1 (G1 x r).1.Rows
 len:(G1 x r).1.Rows.length≤1105
 txt:∀q∈(G1 x r).1.Rows,q.Text.length≤140
theorem H84 {raw:List Int} {n:Int} {x:Str} {r:List Str} (h:y1 raw n=x::r):Small16 x r:=by
 have h1:=E54 raw n h
 have h2:=E53 raw n
 rw [h] at h2
 have hx:=h2 x (by simp)
 have hr:∀b∈r,(B8 b).length≤16∧b.length≤140:=fun b hb=>h2 b (by simp [hb])
 obtain ⟨k1,k2,k3⟩:=G41 x r 16 140 hx hr
 have h4:r.length*16+1≤65:=by omega
 exact ⟨by omega,hx.2,fun b hb=>(hr b hb).2,k1,by omega,k3⟩
theorem textsLen_le {rows:List Row} {B:Nat} (h:∀q∈rows,q.Text.length≤B):P4 rows≤rows.length*B∧(rows.map Y2).sum≤rows.length*(B+96)∧∀n,(rows.map (D42 n)).sum≤rows.length*(B+n+29):=by
 unfold P4
 induction rows with
 | nil=>simp
 | cons x r ih =>
  obtain ⟨i1,i2,i3⟩:=ih fun q hq=>h q (by simp [hq])
  have hx:=h x (by simp)
  simp only [K13,K18,K05,K34,K07,K26,Nat.one_mul]
  simp only [Nat.mul_add] at i2 i3 ⊢
  refine ⟨by omega,by unfold Y2 at i2 ⊢;omega,fun n=>?_⟩
  have:=i3 n
  unfold D42 at this ⊢
  omega
theorem Small16.sums {x:Str} {r:List Str} (h:Small16 x r):P4 (G1 x r).1.Rows≤154700∧((G1 x r).1.Rows.map Y2).sum≤260780∧∀n,n≤32→((G1 x r).1.Rows.map (D42 n)).sum≤1105*201:=by
 obtain ⟨h1,h2,h3⟩:=textsLen_le h.txt
 have h4:=h.len
 refine ⟨by omega,by omega,fun n hn=>?_⟩
 refine Nat.le_trans (h3 n) ?_
 exact Nat.mul_le_mul h4 (by omega)
set_option maxHeartbeats 1000000
theorem I36 {n:Nat} {rows:List Row}:∀{sp:List Span} {e:Int} {hs:List CHunk},E50 rows.length e sp=false→A20 n rows e hs sp=none
 | [],e,hs,h=>by cases h
 | s::r,e,hs,h=>by
  rw [E50] at h
  rw [A20]
  by_cases hc:s.From < e∨s.To≤s.From∨(rows.length:Int) < s.To
  ·rw [if_pos hc]
  ·rw [if_neg hc] at h ⊢
   exact I36 h
abbrev z59:Ob:=.box [.p (.v (.string ⟨#[]⟩)),.p (.v (.bool false)),.p (.v (.int .i64 0)),.p (.v (.slice none 0 0))]
set_option maxHeartbeats 1000000
theorem pcut_ok (path:Str) (t:Table) (sp:List Span) (d:Bool) (hr:K1 t.Rows) (hW:(t.Rows.map Y2).sum≤8388608) (hx:P4 t.Rows≤8388608) (hsp:sp.length≤536870912) :
  FnOk Tryz.prog 98 [M9 path,pTable t,pSpans sp,O9 d] (fun rs=>rs=[A19 (A30 path t sp d).1,G5 (A30 path t sp d).2]):=by
 have hl:=A00 t.Rows
 have hll:t.Rows.length≤8388608:=by omega
 refine FnOk.intro Tryz.func98 (by decide) Z Z Z Z ?_
 refine k2 ?_
 refine A4 (C5 (Q1 5 Z Z Z) Z (C5 (E8 8 Z) Z (A3 (A6 Z Z) Z (A7 ?_))))
 refine k1 (k2 (k2 ?_))
 refine A4 (A3 (A5 Z Z) Z (C9 (D26 path) Z Z Z ?_));rintro _ rfl;refine A3 (I7 Z) Z (A7 ?_)
 refine k1 ?_
 refine B6 rfl (fun ht=>?_) (fun ht=>?_)
 ·have h:K4 path=false:=by simpa using ht
  refine k2 ?_
  refine A4 (A3 (F9 Z) Z (E7 (B2 TySz.out Z Z Z Z Z Z) (A3 (A6 Z Z) Z (A7 ?_))))
  refine k1 ?_
  refine G6 (J72 CHunk 2 W1 8 3 Z Z) ?_
  refine k10 (k11 ?_)
  exact B7 (rs:=[A19 comb0,G5 120]) (X7 rfl rfl rfl rfl rfl rfl rfl) (by unfold A30;rw [if_pos h])
 have h:K4 path=true:=by simpa using ht
 refine k5 (k1 (k2 (k2 ?_)))
 refine A4 (A3 (D1 Z Z Z) Z (C9 (F61 t hr (by omega) (by omega)) Z Z Z ?_));rintro _ rfl;refine A3 (A6 Z Z) Z (A7 ?_)
 refine k1 (k2 ?_)
 refine A4 (A3 (A5 Z Z) Z (A3 (K2 Z Z) Z (A7 ?_)))
 refine k1 ?_
 refine B6 rfl (fun ht=>?_) (fun ht=>?_)
 ·have h1:=A0 ht
  refine k2 ?_
  refine A4 (A3 (F9 Z) Z (A3 (A5 Z Z) Z (E7 (B2 TySz.out Z Z Z Z Z Z) (A3 (A6 Z Z) Z (A7 ?_)))))
  refine k1 ?_
  refine G6 (J72 CHunk 2 W1 8 3 Z Z) ?_
  refine k10 (k11 ?_)
  exact B7 (rs:=[A19 comb0,G5 (L5 t)]) (X7 rfl rfl rfl rfl rfl rfl rfl) (by unfold A30;rw [if_neg (by rw [h];decide),if_pos h1])
 have h1:=A1 ht
 have h10:L5 t=0:=by omega
 obtain ⟨hn1,hn2⟩:=G91 h10
 obtain ⟨n,hn⟩:∃n:Nat,t.Parents=n:=⟨t.Parents.toNat,by omega⟩
 obtain ⟨tp,rows⟩:=t
 have hn:tp=(n:Int):=hn
 subst hn
 dsimp only at hr hW hx hl hll hn1 hn2
 have hcut:A30 path ⟨n,rows⟩ sp d=match A20 n rows 0 [] sp with
  | none=>(comb0,3)
  | some hs=>if J4 ⟨path,d,(n:Int),hs⟩≠0 then (comb0,J4 ⟨path,d,(n:Int),hs⟩) else (⟨path,d,(n:Int),hs⟩,0):=by
  unfold A30;rw [if_neg (by rw [h];decide),if_neg (by omega)];rfl
 rw [hcut]
 obtain ⟨W,hWd⟩:∃W,W=A20 n rows 0 [] sp:=⟨_,rfl⟩
 have hcs:∀hs,W=some hs→szC hs≤268435456∧∀x∈hs,K1 x.Rows:=fun hs e=>I35 (n:=n) (by omega) hr hW (by rw [←hWd];exact e)
 have hord0:=I36 (n:=n) (rows:=rows) (sp:=sp) (e:=0) (hs:=[])
 rw [←hWd] at hord0 ⊢
 refine k5 (k1 (k2 (k2 ?_)))
 refine A4 (A3 (A5 Z Z) Z (A3 (A8 Z) Z (A3 (A9 Z Z Z) Z (A3 (E3 Z (.pure _ _ _ _)) Z (C9 (G90 sp rows.length hsp) Z Z Z ?_)))));rintro _ rfl;refine A3 (I7 Z) Z (A7 ?_)
 refine k1 ?_
 refine B6 rfl (fun ht=>?_) (fun ht=>?_)
 ·have hno:E50 rows.length 0 sp=false:=by simpa using ht
  rw [hord0 hno]
  refine k2 ?_
  refine A4 (A3 (F9 Z) Z (E7 (B2 TySz.out Z Z Z Z Z Z) (A3 (A6 Z Z) Z (A7 ?_))))
  refine k1 ?_
  refine G6 (J72 CHunk 2 W1 8 3 Z Z) ?_
  refine k10 (k11 ?_)
  exact B7 (rs:=[A19 comb0,G5 3]) (X7 rfl rfl rfl rfl rfl rfl rfl) rfl
 have hord:E50 rows.length 0 sp=true:=by simpa using ht
 refine k5 (k1 (k2 ?_))
 refine A4 (A3 (A5 Z Z) Z (A3 (A5 Z Z) Z (A3 (A8 Z) Z (A3 (A9 Z Z Z) Z (A3 (F9 Z) Z (C5 (E8 11 Z) Z (E7 (B2 TySz.out Z Z Z Z Z Z) (A7 ?_))))))))
 refine G6 (J75 754 CHunk 2 W1 59 (kb:=11) (o:=3) Z Z Z) ?_
 refine k2 ?_
 have e0:((n:Int)+1).toNat=n+1:=by omega
 have hz:List.replicate (n+1) (0:Int)=F6 (rows.take 0) n:=by
  refine List.ext_getElem (by simp [F6]) fun q h1 h2=>?_
  simp [F6,N4,G8]
 refine A4 (A3 (A8 Z) Z (A3 (A9 Z Z Z) Z (A3 (C6 Z Z (by omega)) Z (C5 (A59 720 Int G7 0 Z Z (by omega) (by omega) (fun _=>by first | exact ⟨⟨rfl,rfl⟩,trivial⟩ | exact ⟨S2 _ _ _,trivial⟩) (by first | rfl | (simp [G4,J6,Ob.free,SV.free,S1.free,TC.free]<;>rfl))) Z ?_))));refine C5 (E8 12 Z) Z (E7 (B2 TySz.out Z Z Z Z Z Z) (A7 ?_))
 rw [e0,hz]
 refine k1 (k2 ?_)
 refine A4 (C5 (E8 13 Z) Z (E7 (B2 TySz.out Z Z Z Z Z Z) (A7 ?_)))
 refine k1 (k2 ?_)
 refine A4 (A3 (A44 Z Z) Z (A3 (A6 Z Z) Z (A7 ?_)))
 refine k1 (k2 (k2 ?_))
 refine A4 (A3 (A5 Z Z) Z (A3 (E3 Z (.pure _ _ _ _)) Z (A3 (A5 Z Z) Z (A7 ?_))))
 refine k1 (k3 ?_)
 refine E2 (X:=Nat × Nat × List CHunk) (fun x=>([(5,.s (.one (.ref 5 0))),(8,.s (.one (.ref 8 0))),(11,.s (.one (.ref 11 0))),(12,.s (.one (.ref 12 0))),(14,.s (.one (.clo 165 [] [(5,0),(13,0),(12,0)]))),(45,C7 Span 2 spanC sp),(46,C0 sp.length),(47,C0 x.1)],[(5,.box (pTable ⟨n,rows⟩).s1.cells),(8,z59),(11,.box [.p (.v (.string ⟨path.toArray⟩)),.p (.v (.bool d)),.p (.v (.int .i64 n)),.buf 754 CHunk 2 W1 x.2.2]),(754,.spare x.2.2.length 2 59),(12,.box [.mut 720]),(13,t8 x.2.1),(720,.arr Int 1 G7 (F6 (rows.take x.2.1) n))])) (fun x=>x.1≤sp.length∧x.2.1≤rows.length∧x.2.2.length≤x.1∧W=A20 n rows x.2.1 x.2.2 (sp.drop x.1)∧E50 rows.length x.2.1 (sp.drop x.1)=true) (fun x=>sp.length - x.1) (0,0,[]) ⟨Nat.zero_le _,Nat.zero_le _,Nat.le_refl _,hWd,hord⟩ (J70 ⟨le1 rfl,le1 rfl,le1 rfl,le1 rfl,le1 rfl,le1 rfl,le1 rfl,le1 rfl,trivial⟩ ⟨rfl,rfl,rfl,rfl,rfl,rfl,rfl,trivial⟩) ?_
 rintro ⟨k,e,hs⟩ ⟨hk,he,hsl,hp,ho⟩
 dsimp only at hk he hsl hp ho ⊢
 refine k2 ?_
 refine A4 (A3 (F0 Z Z) Z (A7 ?_))
 refine k1 (k2 ?_)
 refine B6 rfl (fun ht=>?_) (fun ht=>?_)
 rotate_left
 ·have hkl:k=sp.length:=by have:=A1 ht;omega
  rw [hkl,K15 (Nat.le_refl _)] at hp
  have hp:W=some hs:=hp
  obtain ⟨z1,z2⟩:=hcs hs hp
  rw [hp]
  dsimp only
  refine k6 (k2 (k2 ?_))
  refine A4 (A3 (D1 Z Z Z) Z (C9 (F67 ⟨path,d,n,hs⟩ z1 z2) Z Z Z ?_));rintro _ rfl;refine A3 (A6 Z Z) Z (A7 ?_)
  refine k1 (k2 ?_)
  refine A4 (A3 (A5 Z Z) Z (A3 (K2 Z Z) Z (A7 ?_)))
  refine k1 ?_
  refine B6 rfl (fun ht=>?_) (fun ht=>?_)
  ·have h2:=A0 ht
   refine k2 ?_
   refine A4 (A3 (F9 Z) Z (A3 (A5 Z Z) Z (E7 (B2 TySz.out Z Z Z Z Z Z) (A3 (A6 Z Z) Z (A7 ?_)))))
   refine k1 ?_
   refine G6 (J72 CHunk 2 W1 8 3 Z Z) ?_
   refine k10 (k11 ?_)
   exact B7 (rs:=[A19 comb0,G5 (J4 ⟨path,d,n,hs⟩)]) (X7 rfl rfl rfl rfl rfl rfl rfl) (by rw [if_pos h2])
  ·have h2:=A1 ht
   refine k5 (k1 (k2 ?_))
   refine A4 (A3 (D1 Z Z Z) Z (E7 (B2 TySz.out Z Z Z Z Z Z) (A3 (A6 Z Z) Z (A7 ?_))))
   refine k1 (k10 ?_)
   exact B7 (rs:=[A19 ⟨path,d,n,hs⟩,G5 0]) (X7 rfl rfl rfl rfl rfl rfl rfl) (by rw [if_neg h2])
 have hlt:k < sp.length:=by have:=A0 ht;omega
 have hv:sp[k]?=some sp[k]:=by simp [hlt]
 rw [K11 hlt,A20] at hp
 rw [K11 hlt,E50] at ho
 obtain ⟨s,hsd⟩:∃s,s=sp[k]:=⟨_,rfl⟩
 rw [←hsd] at hp hv ho
 have hc:¬(s.From < (e:Int)∨s.To≤s.From∨(rows.length:Int) < s.To):=by
  intro hc
  rw [if_pos hc] at ho;cases ho
 rw [if_neg hc] at hp ho
 simp only [not_or,Int.not_lt,Int.not_le] at hc
 obtain ⟨c1,c2,c3⟩:=hc
 obtain ⟨F,hF⟩:∃F:Nat,s.From=F:=⟨s.From.toNat,by omega⟩
 obtain ⟨T,hT⟩:∃T:Nat,s.To=T:=⟨s.To.toNat,by omega⟩
 obtain ⟨sF,sT⟩:=s
 have hF:sF=(F:Int):=hF
 have hT:sT=(T:Int):=hT
 subst hF hT
 dsimp only at c1 c2 c3 hp ho
 rw [K12,K12] at hp
 have hsub:((rows.drop F).take (T - F)).length=T - F:=by rw [K22,K24];omega
 have hcl:(F6 (rows.take F) n).length=n+1:=by simp [F6]
 refine k5 (k1 (k2 (k3 (k2 ?_))))
 refine A4 (A3 (B4 Z (.pure _ _ _ _) Z (by omega) hv) Z (A3 (D6 Z Z) Z (C5 (E8 16 Z) Z (E7 (B2 TySz.out Z Z Z Z Z Z) (A7 ?_)))))
 refine M7 [(5,.s (.one (.ref 5 0))),(8,.s (.one (.ref 8 0))),(11,.s (.one (.ref 11 0))),(12,.s (.one (.ref 12 0))),(14,.s (.one (.clo 165 [] [(5,0),(13,0),(12,0)]))),(16,.s (.one (.ref 16 0))),(45,C7 Span 2 spanC sp),(46,C0 sp.length),(47,C0 k)] [(5,.box (pTable ⟨n,rows⟩).s1.cells),(8,z59),(11,.box [.p (.v (.string ⟨path.toArray⟩)),.p (.v (.bool d)),.p (.v (.int .i64 n)),.buf 754 CHunk 2 W1 hs]),(754,.spare hs.length 2 59),(12,.box [.mut 720]),(13,t8 e),(720,.arr Int 1 G7 (F6 (rows.take e) n)),(16,.box [.p (.v (.int .i64 F)),.p (.v (.int .i64 T))])] (J70 ⟨le1 rfl,le1 rfl,le1 rfl,le1 rfl,le1 rfl,le1 rfl,le1 rfl,le1 rfl,le1 rfl,trivial⟩ ⟨rfl,rfl,rfl,rfl,rfl,rfl,rfl,rfl,trivial⟩) ?_
 refine k2 ?_
 refine A4 (A3 (A5 Z Z) Z (A3 (A8 Z) Z (A3 (A9 Z Z Z) Z (B11 (E49 ⟨n,rows⟩ n e F Z (by omega) hr (by dsimp only;omega) (by omega) (by dsimp only;omega) Z Z Z Z) Z Z Z Z ?_))));rintro _ _ ⟨rfl,rfl⟩;refine A7 ?_
 refine M7 [(5,.s (.one (.ref 5 0))),(8,.s (.one (.ref 8 0))),(11,.s (.one (.ref 11 0))),(12,.s (.one (.ref 12 0))),(14,.s (.one (.clo 165 [] [(5,0),(13,0),(12,0)]))),(16,.s (.one (.ref 16 0))),(45,C7 Span 2 spanC sp),(46,C0 sp.length),(47,C0 k)] [(5,.box (pTable ⟨n,rows⟩).s1.cells),(8,z59),(11,.box [.p (.v (.string ⟨path.toArray⟩)),.p (.v (.bool d)),.p (.v (.int .i64 n)),.buf 754 CHunk 2 W1 hs]),(754,.spare hs.length 2 59),(12,.box [.mut 720]),(13,t8 F),(720,.arr Int 1 G7 (F6 (rows.take F) n)),(16,.box [.p (.v (.int .i64 F)),.p (.v (.int .i64 T))])] (J70 ⟨le1 rfl,le1 rfl,le1 rfl,le1 rfl,le1 rfl,le1 rfl,le1 rfl,le1 rfl,le1 rfl,trivial⟩ ⟨rfl,rfl,rfl,rfl,rfl,rfl,rfl,rfl,trivial⟩) ?_
 refine k2 ?_
 have hCR:=F68 ((rows.drop F).take (T - F)) (by omega)
 have hCI:=fun gf ob h=>H79 (gf:=gf) (ob:=ob) (F6 (rows.take F) n) (by omega) h
 refine Q4 [16,14,3] [[],[3],[14,3],[16,14,3]] [(3,([],[])),(14,([754],[56])),(16,([],[]))] [(0,[]),(1,[]),(2,[]),(3,[]),(4,[]),(5,[]),(6,[]),(7,[]),(8,[]),(9,[]),(10,[]),(11,[3]),(12,[3]),(13,[3]),(14,[3]),(15,[14,3]),(16,[14,3])] [(0,[3]),(1,[3]),(4,[3]),(5,[3]),(6,[3]),(7,[3]),(8,[3]),(9,[3]),(10,[3])] (by kernel_rfl) (by kernel_rfl) (D9 Z Z (by kernel_rfl) Z Z (A8 Z) (D9 Z Z (by kernel_rfl) Z Z (A9 Z Z Z) (D9 Z Z (by kernel_rfl) Z Z (A9 Z Z Z) (i7 Z Z (by kernel_rfl) Z Z (G65 (fun gf=>hCI gf _ Z) Z Z) Z (D9 Z Z (by kernel_rfl) Z Z (A8 Z) (D9 Z Z (by kernel_rfl) Z Z (A9 Z Z Z) (D9 Z Z (by kernel_rfl) Z Z (A8 Z) (D9 Z Z (by kernel_rfl) Z Z (A9 Z Z Z) (D9 Z Z (by kernel_rfl) Z Z (A8 Z) (D9 Z Z (by kernel_rfl) Z Z (A9 Z Z Z) (D9 Z Z (by kernel_rfl) Z Z (O8 Z (.pure _ _ _ _) Z Z (by (first | omega | (dsimp only;omega))) (by (first | omega | (dsimp only;omega))) (by (first | omega | (dsimp only;omega)))) (D9 Z Z (by kernel_rfl) Z Z (I0 (hCR) Z Z) (D9 Z Z (by kernel_rfl) Z Z (F9 Z) (D9 Z Z (by kernel_rfl) Z Z (E6 (c:=W1) (ys:=[⟨F6 (rows.take F) n,(rows.drop F).take (T - F)⟩]) (F3 Z Z Z Z I6) Z Z Z) (i7 Z Z (by kernel_rfl) Z Z (D21 (fun frc hU=>I9 (m9 hU Z) Z (m9 hU Z) (.pure _ _ _ _) (by (simp only [K07,K10];omega)) Z)) Z (D9 Z Z (by kernel_rfl) Z Z (A8 Z) (i7 Z Z (by kernel_rfl) Z Z (F55 (fun frc hU=>B2 TySz.out (m9 hU Z) Z (m9 hU Z) Z Z Z)) Z ?_)))))))))))))))));refine D52 (by kernel_rfl) rfl ?_ ?_
 ·refine J0 Z Z (by kernel_rfl) Z Z (A8 Z) (J0 Z Z (by kernel_rfl) Z Z (A9 Z Z Z) (J0 Z Z (by kernel_rfl) Z Z (A8 Z) (J0 Z Z (by kernel_rfl) Z Z (A9 Z Z Z) (J0 Z Z (by kernel_rfl) Z Z (A8 Z) (J0 Z Z (by kernel_rfl) Z Z (A9 Z Z Z) (J0 Z Z (by kernel_rfl) Z Z (A8 Z) (J0 Z Z (by kernel_rfl) Z Z (A9 Z Z Z) (J0 Z Z (by kernel_rfl) Z Z (O8 Z (.pure _ _ _ _) Z Z (by (first | omega | (dsimp only;omega))) (by (first | omega | (dsimp only;omega))) (by (first | omega | (dsimp only;omega)))) ?_))))))));exact C71
 refine M7 [(5,.s (.one (.ref 5 0))),(8,.s (.one (.ref 8 0))),(11,.s (.one (.ref 11 0))),(12,.s (.one (.ref 12 0))),(14,.s (.one (.clo 165 [] [(5,0),(13,0),(12,0)]))),(16,.s (.one (.ref 16 0))),(45,C7 Span 2 spanC sp),(46,C0 sp.length),(47,C0 k)] [(5,.box (pTable ⟨n,rows⟩).s1.cells),(8,z59),(11,.box [.p (.v (.string ⟨path.toArray⟩)),.p (.v (.bool d)),.p (.v (.int .i64 n)),.buf 754 CHunk 2 W1 (hs++[⟨F6 (rows.take F) n,(rows.drop F).take (T - F)⟩])]),(754,.spare (hs++[(⟨F6 (rows.take F) n,(rows.drop F).take (T - F)⟩:CHunk)]).length 2 59),(12,.box [.mut 720]),(13,t8 F),(720,.arr Int 1 G7 (F6 (rows.take F) n)),(16,.box [.p (.v (.int .i64 F)),.p (.v (.int .i64 T))])] (J70 ⟨le1 rfl,le1 rfl,le1 rfl,le1 rfl,le1 rfl,le1 rfl,le1 rfl,le1 rfl,le1 rfl,trivial⟩ ⟨rfl,rfl,rfl,rfl,rfl,rfl,rfl,rfl,trivial⟩) ?_
 skip
 refine A4 (A3 (A5 Z Z) Z (A3 (A8 Z) Z (A3 (A9 Z Z Z) Z (B11 (E49 ⟨n,rows⟩ n F T Z (by omega) hr (by dsimp only;omega) (by omega) (by dsimp only;omega) Z Z Z Z) Z Z Z Z ?_))));rintro _ _ ⟨rfl,rfl⟩;refine A7 ?_
 refine k4 (k1 ?_)
 refine A4 (A3 (C6 Z Z (by omega)) Z (A3 (A5 Z Z) Z (A7 ?_)))
 refine k1 ?_
 exact ⟨(k+1,T,hs++[⟨F6 (rows.take F) n,(rows.drop F).take (T - F)⟩]),⟨by dsimp only;omega,by dsimp only;omega,by dsimp only;rw [K05];simp;omega,hp,ho⟩,by dsimp only;omega,J70 ⟨le1 rfl,le1 rfl,le1 rfl,le1 rfl,le1 rfl,le1 rfl,le1 rfl,le1 rfl,trivial⟩ ⟨rfl,rfl,rfl,rfl,rfl,rfl,rfl,trivial⟩⟩
def D61 (t:Table):List Span:=if 0 < t.Rows.length then [⟨0,t.Rows.length⟩] else []
def A22 (path x:Str) (r:List Str):Comb × Int :=
 if K4 path=false then (comb0,120) else if (G1 x r).2≠0 then (comb0,(G1 x r).2) else A30 path (G1 x r).1 (D61 (G1 x r).1) false
set_option maxHeartbeats 1000000
theorem J44 (path x:Str) (r:List Str) (h:Small16 x r) (hL:∀b∈x::r,(B8 b).length≤16):FnOk Tryz.prog 43 [M9 path,M9 x,d6 r] (fun rs=>rs=[A19 (A22 path x r).1,G5 (A22 path x r).2]):=by
 have hx:=h.hx
 obtain ⟨s1,s2,s3⟩:=h.sums
 have hl:=h.len
 have hrows:=h.rows
 have hrn:=h.n
 have hm:=J37 x r 16 (by omega) (by omega) ⟨hL x (by simp),by omega⟩ (fun b hb=>⟨hL b (by simp [hb]),by have:=h.hr b hb;omega⟩)
 obtain ⟨t,e,hte⟩:∃t e,G1 x r=(t,e):=⟨_,_,rfl⟩
 rw [hte] at s1 s2 hl hrows hm
 dsimp only at s1 s2 hl hrows hm
 have hc:=pcut_ok path t (D61 t) false hrows (by omega) (by omega) (by unfold D61;split<;>simp)
 have hres:A22 path x r=if K4 path=false then (comb0,120) else if e≠0 then (comb0,e) else A30 path t (D61 t) false:=by
  unfold A22;rw [hte]
 rw [hres]
 refine FnOk.intro Tryz.func43 (by decide) Z Z Z Z ?_
 refine k2 ?_
 refine A4 (C5 (E8 6 Z) Z (A3 (A6 Z Z) Z (A7 ?_)))
 refine k1 (k2 (k2 ?_))
 refine A4 (A3 (A5 Z Z) Z (C9 (D26 path) Z Z Z ?_));rintro _ rfl;refine A3 (I7 Z) Z (A7 ?_)
 refine k1 ?_
 refine B6 rfl (fun ht=>?_) (fun ht=>?_)
 ·have h:K4 path=false:=by simpa using ht
  refine k2 ?_
  refine A4 (A3 (F9 Z) Z (E7 (B2 TySz.out Z Z Z Z Z Z) (A3 (A6 Z Z) Z (A7 ?_))))
  refine k1 ?_
  refine G6 (J72 CHunk 2 W1 6 3 Z Z) ?_
  refine k10 (k11 ?_)
  exact B7 (rs:=[A19 comb0,G5 120]) (X7 rfl rfl rfl rfl rfl rfl rfl) (by rw [if_pos h])
 have h1:K4 path=true:=by simpa using ht
 rw [if_neg (by rw [h1];decide)]
 refine k5 (k1 (k2 ?_))
 refine A4 (A3 (A5 Z Z) Z (A3 (A5 Z Z) Z (C9 (hm) Z Z Z ?_)));rintro _ rfl;refine A3 (A5 Z Z) Z (A3 (C1 Z Z) Z (A3 (C1 Z Z) Z (C5 (E8 8 Z) Z (E7 (B2 TySz.out Z Z Z Z Z Z) (A3 (A6 Z Z) Z (A7 ?_))))))
 refine k1 (k2 (k2 ?_))
 refine A4 (A3 (A5 Z Z) Z (A3 (K2 Z Z) Z (A7 ?_)))
 refine k1 ?_
 refine B6 rfl (fun ht=>?_) (fun ht=>?_)
 ·have h2:=A0 ht
  refine k2 ?_
  refine A4 (A3 (F9 Z) Z (A3 (A5 Z Z) Z (E7 (B2 TySz.out Z Z Z Z Z Z) (A3 (A6 Z Z) Z (A7 ?_)))))
  refine k1 ?_
  refine G6 (J72 CHunk 2 W1 6 3 Z Z) ?_
  refine k10 (k11 ?_)
  exact B7 (rs:=[A19 comb0,G5 e]) (X7 rfl rfl rfl rfl rfl rfl rfl) (by rw [if_pos h2])
 have h2:=A1 ht
 rw [if_neg h2]
 refine k5 (k1 (k2 ?_))
 refine A4 (A3 (T0 _ 2 spanC) Z (A7 ?_))
 refine k1 (k2 (k2 ?_))
 refine A4 (A3 (A8 Z) Z (A3 (A9 Z Z Z) Z (A3 (E3 Z (.pure _ _ _ _)) Z (A3 (R5 Z Z) Z (A7 ?_)))))
 refine k1 ?_
 refine B6 rfl (fun ht=>?_) (fun ht=>?_)
 ·have h3:=A0 ht
  have hsp:D61 t=[⟨0,t.Rows.length⟩]:=by unfold D61;rw [if_pos (by omega)]
  rw [hsp] at hc ⊢
  skip
  refine A4 (A3 (A8 Z) Z (A3 (A9 Z Z Z) Z (A3 (E3 Z (.pure _ _ _ _)) Z (A3 (F9 Z) Z (A3 (E6 (c:=spanC) (ys:=[⟨0,(t.Rows.length:Int)⟩]) (F3 Z Z Z Z I6) Z Z Z) Z (A3 (A6 Z Z) Z (A7 ?_)))))))
  refine k1 (k2 ?_)
  refine A4 (A3 (A5 Z Z) Z (A3 (D1 Z Z Z) Z (A3 (A5 Z Z) Z (C9 (hc) Z Z Z ?_))));rintro _ rfl;refine A3 (C1 Z Z) Z (A3 (C1 Z Z) Z (E7 (B2 TySz.out Z Z Z Z Z Z) (A3 (A6 Z Z) Z (A7 ?_))))
  refine k1 (k10 ?_)
  exact B7 (X7 rfl rfl rfl rfl rfl rfl rfl) rfl
 ·have h3:=A1 ht
  have hsp:D61 t=[]:=by unfold D61;rw [if_neg (by omega)]
  rw [hsp] at hc ⊢
  refine k5 (k1 (k2 ?_))
  refine A4 (A3 (A5 Z Z) Z (A3 (D1 Z Z Z) Z (A3 (A5 Z Z) Z (C9 (hc) Z Z Z ?_))));rintro _ rfl;refine A3 (C1 Z Z) Z (A3 (C1 Z Z) Z (E7 (B2 TySz.out Z Z Z Z Z Z) (A3 (A6 Z Z) Z (A7 ?_))))
  refine k1 (k10 ?_)
  exact B7 (X7 rfl rfl rfl rfl rfl rfl rfl) rfl
theorem J45 {raw:List Int} {n:Int} {x:Str} {r:List Str} (h:y1 raw n=x::r):∀b∈x::r,(B8 b).length≤16:=by rw [←h];exact fun b hb=>(E53 raw n b hb).1
theorem B19 {x:Str} {r:List Str} (h:Small16 x r) (h1:1≤r.length) (hL:∀b∈x::r,(B8 b).length≤16):(G1 x r).2=0∧L5 (G1 x r).1=0∧(G1 x r).1.Parents=r.length∧Made16 x r (G1 x r).1.Rows:=by
 have hn:=h.n
 have hz:(G1 x r).2=0:=H42 (B:=16) ⟨h1,hn⟩ (hL x (by simp)) (fun b hb=>hL b (by simp [hb])) (by omega)
 have hx1:=hL x (by simp)
 have h2:∀b∈r,(B8 b).length≤4096:=fun b hb=>by have:=hL b (by simp [hb]);omega
 have h3:=D83 (by omega) h2 hz
 exact ⟨hz,G42 (by omega) h2 hz,h3.2⟩
theorem G94 {path:Str} {x:Str} {r:List Str} {sp:List Span} (d:Bool) (hp:K4 path=true) (hpl:path.length≤400) (h:Small16 x r) (h1:1≤r.length) (hL:∀b∈x::r,(B8 b).length≤16) (hsp:CutSp (G1 x r).1.Rows.length 0 sp) :
  A30 path (G1 x r).1 sp d=(⟨path,d,r.length,V7 r.length (G1 x r).1.Rows sp⟩,0)∧J4 ⟨path,d,r.length,V7 r.length (G1 x r).1.Rows sp⟩=0:=by
 obtain ⟨_,g2,g3,_⟩:=B19 h h1 hL
 have hl:=h.len
 have hs:=h.sums.2.2 r.length (by have:=h.n;omega)
 have hg:=I11 (path:=path) (sp:=sp) (d:=d) hp g2 (by omega) hsp (by rw [g3,K12];omega)
 rw [g3,K12] at hg
 exact ⟨hg.1,hg.2.1⟩
theorem G95 {path x:Str} {r:List Str} (hp:K4 path=true) (hpl:path.length≤400) (h:Small16 x r) (h1:1≤r.length) (hL:∀b∈x::r,(B8 b).length≤16) :
  A22 path x r=(⟨path,false,r.length,V7 r.length (G1 x r).1.Rows (x4 (G1 x r).1.Rows.length)⟩,0)∧J4 ⟨path,false,r.length,V7 r.length (G1 x r).1.Rows (x4 (G1 x r).1.Rows.length)⟩=0∧A22 path x r=A30 path (G1 x r).1 (x4 (G1 x r).1.Rows.length) false:=by
 obtain ⟨g1,g2,_,_⟩:=B19 h h1 hL
 obtain ⟨c1,c2⟩:=G94 (path:=path) false hp hpl h h1 hL (H43 _)
 have e:A22 path x r=A30 path (G1 x r).1 (x4 (G1 x r).1.Rows.length) false:=by
  unfold A22
  rw [if_neg (by rw [hp];decide),g1,if_neg (by decide)]
  rfl
 exact ⟨e.trans c1,c2,e⟩
theorem I86 {path x:Str} {r:List Str} (h:Small16 x r):szC (A22 path x r).1.Hunks≤268435456∧∀y∈(A22 path x r).1.Hunks,K1 y.Rows:=by
 unfold A22
 split
 ·exact ⟨Nat.zero_le _,fun y hy=>by cases hy⟩
 ·split
  ·exact ⟨Nat.zero_le _,fun y hy=>by cases hy⟩
  ·exact J42 h.rows (by have:=h.sums.2.1;omega)
set_option maxHeartbeats 1000000
theorem C24 {c:Comb} (h:J4 c=0):(1≤c.Parents∧c.Parents≤32)∧w8 c.Parents.toNat c.Hunks=true∧W6 c.Parents.toNat (List.replicate (c.Parents.toNat+1) 0) c.Hunks=true∧l9 (Y1 c.Hunks) c.Parents.toNat=true:=by
 unfold J4 at h
 split at h
 ·cases h
 ·split at h
  ·cases h
  ·rename_i h0
   split at h
   ·cases h
   ·rename_i h1
    split at h
    ·cases h
    ·rename_i h2
     have h2:j9 c.Parents.toNat c.Hunks=true:=by simpa using h2
     unfold j9 at h2
     rw [K08] at h2
     exact ⟨by omega,by simpa using h1,h2.1,h2.2⟩
theorem E55 {n:Int} {rows:List Row} (hp:1≤n∧n≤32) (hm:Q5 rows n.toNat=true) (ht:l9 rows n.toNat=true):L5 ⟨n,rows⟩=0:=by
 unfold L5
 rw [if_neg (by dsimp only;omega),if_neg (by dsimp only;rw [hm];decide),if_neg (by dsimp only;rw [ht];decide)]
theorem at_nn {n:Nat} {hs:List CHunk} (hg:W6 n (List.replicate (n+1) 0) hs=true) {h:CHunk} (hm:h∈hs):h.At.length=n+1∧h.Rows≠[]∧∀v∈h.At,0≤v:=by
 obtain ⟨a1,a2,a3⟩:=D40 hs _ (fun k hk=>by rw [K09,List.getElem?_replicate_of_lt hk];exact Int.le_refl _) hg h hm
 refine ⟨a1,a2,fun v hv=>?_⟩
 obtain ⟨k,hk,rfl⟩:=List.getElem_of_mem hv
 have:=(a3 k (by omega)).1
 rw [K09,K06 hk] at this
 exact this
theorem D62 {c:Comb} (h:J4 c≠0):I1 c=(⟨0,[]⟩,J4 c):=by unfold I1;rw [if_pos h]
theorem D63 {p:Str} {d:Bool} {n:Int} (h:J4 ⟨p,d,n,[]⟩=0):I1 ⟨p,d,n,[]⟩=(⟨n,[]⟩,0):=by unfold I1;rw [if_neg (fun q=>q h)]
theorem C79 {p:Str} {d:Bool} {n:Int} {x y:CHunk} {r:List CHunk} (h:J4 ⟨p,d,n,x::y::r⟩=0):I1 ⟨p,d,n,x::y::r⟩=(⟨0,[]⟩,121):=by
 unfold I1
 rw [if_neg (fun q=>q h)]
 dsimp only
 rw [if_pos (.inl (by simp))]
theorem D64 {p:Str} {d:Bool} {n:Int} {x:CHunk} (h:J4 ⟨p,d,n,[x]⟩=0) {v:Int} (hv:v∈x.At) (h0:v≠0):I1 ⟨p,d,n,[x]⟩=(⟨0,[]⟩,121):=by
 unfold I1
 rw [if_neg (fun q=>q h)]
 dsimp only
 rw [if_pos (.inr ⟨v,hv,h0⟩)]
theorem D65 {p:Str} {d:Bool} {n:Int} {x:CHunk} (h:J4 ⟨p,d,n,[x]⟩=0) (hz:∀v∈x.At,v=0):I1 ⟨p,d,n,[x]⟩=(⟨n,x.Rows⟩,0):=by
 unfold I1
 rw [if_neg (fun q=>q h)]
 dsimp only
 rw [if_neg]
 rintro (q | ⟨v,hv,q⟩)
 ·exact q rfl
 ·exact q (hz v hv)
theorem H85 (c:Comb) (hz:szC c.Hunks≤268435456) (hr:∀h∈c.Hunks,K1 h.Rows):K1 (I1 c).1.Rows∧(I1 c).1.Rows.length≤268435456∧P4 (I1 c).1.Rows≤268435456∧((I1 c).2=0→J4 c=0∧L5 (I1 c).1=0∧(I1 c).1.Parents=c.Parents):=by
 obtain ⟨p,d,n,hs⟩:=c
 dsimp only at hz hr
 have hnil:K1 []:=fun r hr=>by cases hr
 by_cases hc:J4 ⟨p,d,n,hs⟩=0
 ·obtain ⟨p1,p2,p3,p4⟩:=C24 hc
  dsimp only at p1 p2 p3 p4
  cases hs with
  | nil =>
   rw [D63 hc]
   exact ⟨hnil,Nat.zero_le _,Nat.zero_le _,fun _=>⟨hc,E55 p1 rfl p4,rfl⟩⟩
  | cons x r =>
   cases r with
   | cons y r =>
    rw [C79 hc]
    exact ⟨hnil,Nat.zero_le _,Nat.zero_le _,fun h=>by cases h⟩
   | nil =>
    by_cases hv:∀v∈x.At,v=0
    ·rw [D65 hc hv]
     have h1:=A00 x.Rows
     have h2:=C54 x.Rows
     have h3:szC [x]=2048+x.At.length+(x.Rows.map Y2).sum:=by simp [szC,D90]
     have e:Y1 [x]=x.Rows:=by simp [Y1]
     rw [e] at p4
     exact ⟨hr x (by simp),by dsimp only;omega,by dsimp only;omega,fun _=>⟨hc,E55 p1 (by simpa [w8] using p2) p4,rfl⟩⟩
    ·have:∃v,v∈x.At∧v≠0:=Classical.byContradiction fun q=>hv fun v h=>Classical.byContradiction fun h2=>q ⟨v,h,h2⟩
     obtain ⟨v,hv1,hv2⟩:=this
     rw [D64 hc hv1 hv2]
     exact ⟨hnil,Nat.zero_le _,Nat.zero_le _,fun h=>by cases h⟩
 ·rw [D62 hc]
  exact ⟨hnil,Nat.zero_le _,Nat.zero_le _,fun h=>absurd h hc⟩
theorem G96 {t:Table} {q:Int} (h:L5 t=0) (hq:-1≤q∧q < t.Parents):R8 t q=K3 (G8 t.Rows q):=by
 unfold R8
 rw [if_neg (fun e=>e h),if_neg (by omega)]
theorem G97 (l:List Str):Few (K3 l).1:=I15
def E56 (c:Comb) (p ctx:Int):Patch × Int :=
 if (I1 c).2≠0 then (X6,(I1 c).2) else if p < 0∨c.Parents≤p then (X6,3)
 else if (K3 (G8 (I1 c).1.Rows p)).2≠0 then (X6,(K3 (G8 (I1 c).1.Rows p)).2)
 else if (K3 (G8 (I1 c).1.Rows (-1))).2≠0 then (X6,(K3 (G8 (I1 c).1.Rows (-1))).2)
 else C50 c.Path c.Path (K3 (G8 (I1 c).1.Rows p)).1 (K3 (G8 (I1 c).1.Rows (-1))).1 ctx false
set_option maxHeartbeats 1000000
theorem I87 (c:Comb) (hz:szC c.Hunks≤268435456) (hr:∀h∈c.Hunks,K1 h.Rows):FnOk Tryz.prog 54 [A19 c] (fun rs=>rs=[pTable (I1 c).1,G5 (I1 c).2]):=by
 have hC:=F67 c hz hr
 obtain ⟨p,d,n,hs⟩:=c
 dsimp only at hz hr
 refine FnOk.intro Tryz.func54 (by decide) Z Z Z Z ?_
 refine k2 ?_
 refine A4 (C5 (Q1 1 Z Z Z) Z (C5 (E8 2 Z) Z (A3 (A6 Z Z) Z (A7 ?_))))
 refine k1 (k2 (k2 ?_))
 refine A4 (A3 (D1 Z Z Z) Z (C9 (hC) Z Z Z ?_));rintro _ rfl;refine A3 (A6 Z Z) Z (A7 ?_)
 refine k1 (k2 ?_)
 refine A4 (A3 (A5 Z Z) Z (A3 (K2 Z Z) Z (A7 ?_)))
 refine k1 ?_
 refine B6 rfl (fun ht=>?_) (fun ht=>?_)
 ·have h:=A0 ht
  refine k2 ?_
  refine A4 (A3 (F9 Z) Z (A3 (A5 Z Z) Z (E7 (B2 TySz.out Z Z Z Z Z Z) (A3 (A6 Z Z) Z (A7 ?_)))))
  refine k1 ?_
  refine G6 (J72 Row 3 rowC 2 1 Z Z) ?_
  refine k10 (k11 ?_)
  exact B7 (rs:=[pTable ⟨0,[]⟩,G5 (J4 ⟨p,d,n,hs⟩)]) (X7 rfl rfl rfl rfl rfl rfl rfl) (by rw [D62 h])
 have h0:J4 ⟨p,d,n,hs⟩=0:=by have:=A1 ht;(try dsimp only at this);omega
 obtain ⟨p1,p2,p3,p4⟩:=C24 h0
 dsimp only at p1 p2 p3 p4
 refine k5 (k1 (k2 ?_))
 refine A4 (A3 (A8 Z) Z (A3 (A9 Z Z Z) Z (A3 (F9 Z) Z (C5 (E8 5 Z) Z (E7 (B2 TySz.out Z Z Z Z Z Z) (A7 ?_))))))
 refine k1 (k2 (k3 (k2 ?_)))
 refine A4 (A3 (A8 Z) Z (A3 (A9 Z Z Z) Z (A3 (E3 Z (.pure _ _ _ _)) Z (A3 (Q0 Z Z) Z (A3 (A6 Z Z) Z (A7 ?_))))))
 refine k1 ?_
 refine B6 rfl (fun ht=>?_) (fun ht=>?_)
 ·have hh:hs=[]:=List.eq_nil_of_length_eq_zero (by have:=A0 ht;(try dsimp only at this);omega)
  subst hh
  refine k2 ?_
  refine A4 (A3 (D1 Z Z Z) Z (E7 (B2 TySz.out Z Z Z Z Z Z) (A3 (A6 Z Z) Z (A7 ?_))))
  refine k1 ?_
  refine G6 (J72 Row 3 rowC 2 1 Z Z) ?_
  refine k10 (k12 (k11 ?_))
  exact B7 (rs:=[pTable ⟨n,[]⟩,G5 0]) (X7 rfl rfl rfl rfl rfl rfl rfl) (by rw [D63 h0])
 have hne:=A1 ht
 cases hs with
 | nil=>exact absurd rfl hne
 | cons x r =>
  have hv:(x::r)[(0:Int).toNat]?=some x:=rfl
  obtain ⟨a1,a2,a3⟩:=at_nn p3 (h:=x) (by simp)
  have hxz:D90 x≤268435456:=by unfold szC at hz;rw [K13,K34] at hz;omega
  have hx1:=A00 x.Rows
  have hx2:0 < x.Rows.length:=List.length_pos_iff.2 a2
  unfold D90 at hxz
  cases r with
  | cons y r =>
   have hd:decide ((((x::y::r).length:Nat):Int) > 1)=true:=decide_eq_true (by simp;omega)
   refine k2 ?_
   refine A4 (A3 (A8 Z) Z (A3 (A9 Z Z Z) Z (A3 (E3 Z (.pure _ _ _ _)) Z (A3 (R5 Z Z) Z (A3 (A5 Z Z) Z (J5 Z Z Z (by rw [hd];decide) Z ?_))))));refine J5 Z Z Z (by rw [hd];decide) Z ?_;refine J5 Z Z Z (by rw [hd];decide) Z ?_;refine J5 Z Z Z (by rw [hd];decide) Z ?_;refine J5 Z Z Z (by rw [hd];decide) Z ?_;refine J5 Z Z Z (by rw [hd];decide) Z ?_;refine J5 Z Z Z (by rw [hd];decide) Z ?_;refine A3 (E26 Z (hd) Z) Z (A3 (A6 Z Z) Z (A7 ?_))
   refine k1 ?_
   refine B6 rfl (fun ht=>?_) (fun ht=>?_)
   ·refine k2 ?_
    refine A4 (A3 (F9 Z) Z (E7 (B2 TySz.out Z Z Z Z Z Z) (A3 (A6 Z Z) Z (A7 ?_))))
    refine k1 ?_
    refine G6 (J72 Row 3 rowC 2 1 Z Z) ?_
    refine k10 (k12 (k11 ?_))
    exact B7 (rs:=[pTable ⟨0,[]⟩,G5 121]) (X7 rfl rfl rfl rfl rfl rfl rfl) (by rw [C79 h0])
   ·cases ht
  | nil =>
   have hd:decide (((([x]:List CHunk).length:Nat):Int) > 1)=false:=decide_eq_false (by simp)
   refine k2 ?_
   refine A4 (A3 (A8 Z) Z (A3 (A9 Z Z Z) Z (A3 (E3 Z (.pure _ _ _ _)) Z (A3 (R5 Z Z) Z (A3 (A5 Z Z) Z (H3 Z Z Z hd (A3 (A8 Z) Z (H3 Z Z Z hd (A3 (A9 Z Z Z) Z (H3 Z Z Z hd (A3 (B4 Z (.pure _ _ _ _) Z (by omega) hv) Z (H3 Z Z Z hd (A3 (s5 Z) Z (H3 Z Z Z hd (A3 (C8 Z Z) Z (H3 Z Z Z hd (C9 (I33 x.At (by omega)) Z Z Z ?_)))))))))))))))));rintro _ ⟨m,rfl,hm⟩;refine H3 Z Z Z hd (A3 (R5 Z Z) Z (A3 (B57 Z (hd) Z) Z (A3 (A6 Z Z) Z (A7 ?_))))
   refine k1 ?_
   refine B6 rfl (fun ht=>?_) (fun ht=>?_)
   ·have hm0:0 < m:=A0 ht
    have:∃v,v∈x.At∧v≠0:=Classical.byContradiction fun q=>by
     have:m≤0:=(hm 0).2 fun e he=>by
      have:e=0:=Classical.byContradiction fun h2=>q ⟨e,he,h2⟩
      omega
     omega
    obtain ⟨v,hv1,hv2⟩:=this
    refine k2 ?_
    refine A4 (A3 (F9 Z) Z (E7 (B2 TySz.out Z Z Z Z Z Z) (A3 (A6 Z Z) Z (A7 ?_))))
    refine k1 ?_
    refine G6 (J72 Row 3 rowC 2 1 Z Z) ?_
    refine k10 (k12 (k11 ?_))
    exact B7 (rs:=[pTable ⟨0,[]⟩,G5 121]) (X7 rfl rfl rfl rfl rfl rfl rfl) (by rw [D64 h0 hv1 hv2])
   ·have hm0:m≤0:=by have:=A1 ht;(try dsimp only at this);omega
    have hall:∀v∈x.At,v=0:=fun v h=>by have h1:=a3 v h;have h2:=(hm 0).1 hm0 v h;omega
    refine k5 (k2 ?_)
    refine A4 (A3 (A8 Z) Z (A3 (A9 Z Z Z) Z (A3 (B4 Z (.pure _ _ _ _) Z (by omega) hv) Z (A3 (s5 Z) Z (A3 (C8 Z Z) Z (C9 (F68 x.Rows (by omega)) Z Z Z ?_))))));rintro _ rfl;refine A3 (A8 Z) Z (E7 (B2 TySz.out Z Z Z Z Z Z) (A7 ?_))
    refine k1 (k2 ?_)
    refine A4 (A3 (D1 Z Z Z) Z (E7 (B2 TySz.out Z Z Z Z Z Z) (A3 (A6 Z Z) Z (A7 ?_))))
    refine k1 (k10 ?_)
    exact B7 (rs:=[pTable ⟨n,x.Rows⟩,G5 0]) (X7 rfl rfl rfl rfl rfl rfl rfl) (by rw [D65 h0 hall])
theorem J46 (c:Comb) (pa ctx:Int) (hz:szC c.Hunks≤268435456) (hr:∀h∈c.Hunks,K1 h.Rows):FnOk Tryz.prog 58 [A19 c,G5 pa,G5 ctx] (fun rs=>rs=[pPatch (E56 c pa ctx).1,G5 (E56 c pa ctx).2]):=by
 have hT:=I87 c hz hr
 obtain ⟨t1,t2,t3,t4⟩:=H85 c hz hr
 have hsd:E56 c pa ctx=if (I1 c).2≠0 then (X6,(I1 c).2) else if pa < 0∨c.Parents≤pa then (X6,3)
  else if (K3 (G8 (I1 c).1.Rows pa)).2≠0 then (X6,(K3 (G8 (I1 c).1.Rows pa)).2)
  else if (K3 (G8 (I1 c).1.Rows (-1))).2≠0 then (X6,(K3 (G8 (I1 c).1.Rows (-1))).2)
  else C50 c.Path c.Path (K3 (G8 (I1 c).1.Rows pa)).1 (K3 (G8 (I1 c).1.Rows (-1))).1 ctx false:=rfl
 obtain ⟨t,e,hte⟩:∃t e,I1 c=(t,e):=⟨_,_,rfl⟩
 rw [hte] at hT t1 t2 t3 t4 hsd
 dsimp only at hT t1 t2 t3 t4 hsd
 have c1:=C43 t pa t1 (by omega) (by omega)
 have c2:=C43 t (-1) t1 (by omega) (by omega)
 have f1:=G97 (G8 t.Rows pa)
 have f2:=G97 (G8 t.Rows (-1))
 obtain ⟨a,ea,ha⟩:∃a e,K3 (G8 t.Rows pa)=(a,e):=⟨_,_,rfl⟩
 obtain ⟨b,eb,hb⟩:∃a e,K3 (G8 t.Rows (-1))=(a,e):=⟨_,_,rfl⟩
 rw [ha] at c1 f1 hsd
 rw [hb] at c2 f2 hsd
 dsimp only at c1 c2 f1 f2 hsd
 have hm:=I79 c.Path c.Path a b ctx false f1 f2
 rw [hsd]
 obtain ⟨p,d,n,hs⟩:=c
 dsimp only at hz hr hm ⊢
 refine FnOk.intro Tryz.func58 (by decide) Z Z Z Z ?_
 refine k2 ?_
 refine A4 (C5 (Q1 3 Z Z Z) Z (C5 (E8 6 Z) Z (A3 (A6 Z Z) Z (A7 ?_))))
 refine k1 (k2 ?_)
 refine A4 (A3 (D1 Z Z Z) Z (C9 (hT) Z Z Z ?_));rintro _ rfl;refine A3 (A5 Z Z) Z (A3 (C1 Z Z) Z (A3 (C1 Z Z) Z (C5 (E8 8 Z) Z (E7 (B2 TySz.out Z Z Z Z Z Z) (A3 (A6 Z Z) Z (A7 ?_))))))
 refine k1 (k2 (k3 (k2 ?_)))
 refine A4 (A3 (A5 Z Z) Z (A3 (K2 Z Z) Z (A3 (A6 Z Z) Z (A7 ?_))))
 refine k1 ?_
 refine B6 rfl (fun ht=>?_) (fun ht=>?_)
 ·have h:=A0 ht
  refine k2 ?_
  refine A4 (A3 (F9 Z) Z (A3 (A5 Z Z) Z (E7 (B2 TySz.out Z Z Z Z Z Z) (A3 (A6 Z Z) Z (A7 ?_)))))
  refine k1 ?_
  refine G6 (J72 PatchHunk 3 phunkC 6 2 Z Z) ?_
  refine k10 (k12 (k11 ?_))
  exact B7 (rs:=[pPatch X6,G5 e]) (X7 rfl rfl rfl rfl rfl rfl rfl) (by rw [if_pos h])
 have h:=A1 ht
 rw [if_neg h]
 refine k2 ?_
 refine A4 (A3 (A5 Z Z) Z (A3 (F0 Z Z) Z (A3 (A5 Z Z) Z (B1 Z Z Z Z (fun hg=>by rw [hg];exact A5 Z Z) ?_))));refine B1 Z Z Z Z (fun hg=>by rw [hg];exact A8 Z) ?_;refine B1 Z Z Z Z (fun hg=>by rw [hg];exact A9 Z Z Z) ?_;refine B1 Z Z Z Z (fun hg=>by rw [hg];exact A88 Z Z) ?_;refine A3 (B5 Z (fun h=>by first | rfl | (rw [h];rfl)) (fun h=>by first | rfl | (rw [h];rfl))) Z ?_;refine A3 (A6 Z Z) Z (A7 ?_)
 refine k1 ?_
 refine B6 rfl (fun ht=>?_) (fun ht=>?_)
 ·have h1:=A0 (or_pick.symm.trans ht)
  refine k2 ?_
  refine A4 (A3 (F9 Z) Z (E7 (B2 TySz.out Z Z Z Z Z Z) (A3 (A6 Z Z) Z (A7 ?_))))
  refine k1 ?_
  refine G6 (J72 PatchHunk 3 phunkC 6 2 Z Z) ?_
  refine k10 (k12 (k11 ?_))
  exact B7 (rs:=[pPatch X6,G5 3]) (X7 rfl rfl rfl rfl rfl rfl rfl) (by rw [if_pos (by omega)])
 have h1:=A1 (or_pick.symm.trans ht)
 rw [if_neg (show ¬(pa < 0∨n≤pa) by omega)]
 refine k5 (k2 ?_)
 refine A4 (A3 (D1 Z Z Z) Z (A3 (A5 Z Z) Z (C9 (c1) Z Z Z ?_)));rintro _ rfl;refine A3 (A5 Z Z) Z (A3 (C1 Z Z) Z (A3 (C1 Z Z) Z (A3 (A6 Z Z) Z (A3 (A6 Z Z) Z (A7 ?_)))))
 refine k1 (k2 (k2 ?_))
 refine A4 (A3 (A5 Z Z) Z (A3 (K2 Z Z) Z (A7 ?_)))
 refine k1 ?_
 refine B6 rfl (fun ht=>?_) (fun ht=>?_)
 ·have h2:=A0 ht
  refine k2 ?_
  refine A4 (A3 (F9 Z) Z (A3 (A5 Z Z) Z (E7 (B2 TySz.out Z Z Z Z Z Z) (A3 (A6 Z Z) Z (A7 ?_)))))
  refine k1 ?_
  refine G6 (J72 PatchHunk 3 phunkC 6 2 Z Z) ?_
  refine k10 (k11 ?_)
  exact B7 (rs:=[pPatch X6,G5 ea]) (X7 rfl rfl rfl rfl rfl rfl rfl) (by rw [if_pos h2])
 have h2:=A1 ht
 rw [if_neg h2]
 refine k5 (k1 (k2 ?_))
 refine A4 (A3 (D1 Z Z Z) Z (C9 (c2) Z Z Z ?_));rintro _ rfl;refine A3 (A5 Z Z) Z (A3 (C1 Z Z) Z (A3 (C1 Z Z) Z (A3 (A6 Z Z) Z (A3 (A6 Z Z) Z (A7 ?_)))))
 refine k1 (k2 (k2 ?_))
 refine A4 (A3 (A5 Z Z) Z (A3 (K2 Z Z) Z (A7 ?_)))
 refine k1 ?_
 refine B6 rfl (fun ht=>?_) (fun ht=>?_)
 ·have h3:=A0 ht
  refine k2 ?_
  refine A4 (A3 (F9 Z) Z (A3 (A5 Z Z) Z (E7 (B2 TySz.out Z Z Z Z Z Z) (A3 (A6 Z Z) Z (A7 ?_)))))
  refine k1 ?_
  refine G6 (J72 PatchHunk 3 phunkC 6 2 Z Z) ?_
  refine k10 (k11 ?_)
  exact B7 (rs:=[pPatch X6,G5 eb]) (X7 rfl rfl rfl rfl rfl rfl rfl) (by rw [if_pos h3])
 have h3:=A1 ht
 rw [if_neg h3]
 refine k5 (k1 (k2 ?_))
 refine A4 (A3 (A8 Z) Z (A3 (A9 Z Z Z) Z (A3 (A8 Z) Z (A3 (A9 Z Z Z) Z (A3 (A5 Z Z) Z (A3 (A5 Z Z) Z (A3 (A5 Z Z) Z (C9 (hm) Z Z Z ?_))))))));rintro _ rfl;refine A3 (C1 Z Z) Z (A3 (C1 Z Z) Z (E7 (B2 TySz.out Z Z Z Z Z Z) (A3 (A6 Z Z) Z (A7 ?_))))
 refine k1 (k10 ?_)
 exact B7 (X7 rfl rfl rfl rfl rfl rfl rfl) rfl
theorem I88 {x:Str} {r:List Str} (hsm:Small16 x r) (h1:1≤r.length) (hL:∀b∈x::r,(B8 b).length≤16):∃(c:Comb) (rows:List Row),A22 [120] x r=(c,0)∧(c.Path=[120]∧c.Parents=r.length)∧J4 c=0∧G1 x r=(⟨r.length,rows⟩,0)∧I1 c=(⟨r.length,rows⟩,0)∧L5 ⟨r.length,rows⟩=0 ∧
  (szC c.Hunks≤268435456∧∀y∈c.Hunks,K1 y.Rows)∧(K1 rows∧rows.length≤1105∧P4 rows≤154700)∧R8 ⟨r.length,rows⟩ (-1)=(x,0)∧(∀q:Nat,q < r.length→R8 ⟨r.length,rows⟩ q=(r.getD q [],0))∧c.Hunks=V7 r.length rows (x4 rows.length):=by
 obtain ⟨g1,g2,g3,g4⟩:=B19 hsm h1 hL
 obtain ⟨F1,F2,_⟩:=G95 (path:=[120]) (by decide) (by decide) hsm h1 hL
 have hz:=I86 (path:=[120]) hsm
 obtain ⟨s1,s2,_⟩:=hsm.sums
 have hl:=hsm.len
 have hrw:=hsm.rows
 obtain ⟨m1,m2⟩:=H44 g2 g3 g4 (by have:=hsm.hx;omega) (fun b hb=>by have:=hsm.hr b hb;omega)
 have htf:=I14 (path:=[120]) (d:=false) (t:=(G1 x r).1) (by rw [g3,K12];exact F2)
 rw [g3,K12] at htf
 rw [F1] at hz
 obtain ⟨t,e,hte⟩:∃t e,G1 x r=(t,e):=⟨_,_,rfl⟩
 rw [hte] at g1 g2 g3 F1 F2 hz s1 hl hrw m1 m2 htf
 obtain ⟨tp,rows⟩:=t
 dsimp only at g1 g2 g3 F1 F2 hz s1 hl hrw m1 m2 htf
 subst g1 g3
 exact ⟨_,rows,F1,⟨rfl,rfl⟩,F2,hte,htf,g2,hz,⟨hrw,hl,s1⟩,m1,m2,rfl⟩
theorem J47 (on nn a b:Str) (ctx:Int) (d:Bool) (hn:K4 on=true) (hn':K4 nn=true) (hc:0≤ctx∧ctx≤1048576) (ha:a.length≤4096) (hb:b.length≤4096):∃hs:List PatchHunk,C50 on nn a b ctx d=(⟨on,nn,hs⟩,0)∧szP hs≤134217728∧A71 ⟨on,nn,hs⟩ a=(b,0):=by
 obtain ⟨f1,h1⟩:=Z6 a
 obtain ⟨f2,h2⟩:=Z6 b
 obtain ⟨hf,_⟩:=B82 (B8 a) (B8 b) d (by omega) (by omega)
 have hm:=J05 on nn a b _ ctx hn hn' (by omega) ha hb hf
 have hz:=hf.size hc.1 (R9 a).1 (R9 b).1
 have hch:=hf.chain0 hc.1
 obtain ⟨hs,hhs⟩:∃hs,hs=P8 (B35 (B8 a) (B8 b) d) (B8 a) (B8 b) ctx:=⟨_,rfl⟩
 have hck:=hm.chk
 rw [←hhs] at hz hch hck
 refine ⟨hs,?_,by omega,F43 hck ha hb hch⟩
 unfold C50
 rw [if_neg (by rw [hn,hn'];simp),if_neg (by omega),hhs]
set_option maxHeartbeats 1000000
theorem G18 (raw:List Int) (n pa ctx:Int):FnOk Tryz.prog 15 [P7 raw,G5 n,G5 pa,G5 ctx] (fun rs=>rs=[O9 true]):=by
 obtain ⟨x,r,hpk,hxl,_⟩:=G92 raw n
 have hsm:=H84 hpk
 have hL:=J45 hpk
 have h1:=(E54 raw n hpk).1
 have h4:=(E54 raw n hpk).2
 have hP:=pick_ok raw n x r hpk
 have hF:=J44 [120] x r hsm hL
 have hm:=Y7 pa (n:=r.length) (by omega)
 have hmod:=D22 pa r.length (by omega) (by omega)
 have hmc:=Y7 ctx (n:=4) (by omega)
 have hmod4:=D22 ctx 4 (by omega) (by omega)
 obtain ⟨K,hK⟩:∃K:Nat,R7 pa r.length=K:=⟨(R7 pa r.length).toNat,by omega⟩
 obtain ⟨cx,hcx⟩:∃cx,cx=R7 ctx 4:=⟨_,rfl⟩
 rw [←hcx] at hmc hmod4
 rw [hK] at hm hmod
 have hKr:K < r.length:=by omega
 have hv:r[K]?=some (r.getD K []):=by rw [K09,K06 hKr];rfl
 obtain ⟨a,ha⟩:∃a,a=r.getD K []:=⟨_,rfl⟩
 have hal:a.length≤140:=hsm.hr a (K16 (by rw [hv,ha]))
 obtain ⟨c,rows,e1,⟨e2,e3⟩,e4,e5,e6,e7,⟨z1,z2⟩,⟨r1,r2,r3⟩,c1,c2,_⟩:=I88 hsm h1 hL
 have c2:=c2 K hKr
 rw [←ha] at c2 hv
 rw [G96 e7 (by dsimp only;omega)] at c1 c2
 dsimp only at c1 c2
 obtain ⟨hs,w1,w2,w3⟩:=J47 [120] [120] a x cx false (by decide) (by decide) (by omega) (by omega) (by omega)
 have hS:=J46 c K cx z1 z2
 have hsd:E56 c K cx=(⟨[120],[120],hs⟩,0):=by
  unfold E56
  rw [e6,if_neg (fun h=>h rfl),if_neg (by omega)]
  dsimp only
  rw [c1,c2,if_neg (fun h=>h rfl),if_neg (fun h=>h rfl),e2]
  exact w1
 rw [hsd] at hS
 rw [e1] at hF
 have hA:=G82 ⟨[120],[120],hs⟩ a w2 (by omega)
 rw [w3] at hA
 refine FnOk.intro Tryz.func15 (by decide) Z Z Z Z ?_
 refine k2 ?_
 refine A4 (A3 (A6 Z Z) Z (A7 ?_))
 refine k1 (k2 ?_)
 refine A4 (A3 (A5 Z Z) Z (A3 (A5 Z Z) Z (C9 (hP) Z Z Z ?_)));rintro _ rfl;refine A3 (A5 Z Z) Z (A3 (C1 Z Z) Z (A3 (C1 Z Z) Z (A3 (A6 Z Z) Z (A3 (A6 Z Z) Z (A7 ?_)))))
 refine k1 (k2 ?_)
 refine A4 (A3 (A5 Z Z) Z (A3 (A5 Z Z) Z (C9 (hF) Z Z Z ?_)));rintro _ rfl;refine A3 (A5 Z Z) Z (A3 (C1 Z Z) Z (A3 (C1 Z Z) Z (C5 (E8 11 Z) Z (E7 (B2 TySz.out Z Z Z Z Z Z) (A3 (A6 Z Z) Z (A7 ?_))))))
 refine k1 (k2 ?_)
 refine A4 (A3 (A5 Z Z) Z (A3 (A5 Z Z) Z (A3 (E3 Z (.pure _ _ _ _)) Z (C9 (hmod) Z Z Z ?_))));rintro _ rfl;refine A3 (A6 Z Z) Z (A7 ?_)
 refine k1 (k2 ?_)
 refine B10 [9,8] [[],[8],[9,8]] [(0,[8]),(1,[8]),(2,[8]),(3,[8]),(4,[8]),(5,[8]),(6,[8]),(7,[8]),(7,[9,8])] (by kernel_rfl) (by kernel_rfl) (V5 Z (D1 Z Z Z) (V5 Z (A5 Z Z) (V5 Z (A5 Z Z) (V5 Z (I0 (hmod4) Z Z) (V5 Z (I0 (hS) Z Z) (V5 Z (A5 Z Z) (V5 Z (C1 Z Z) (V5 Z (C1 Z Z) (G07 14 Z Z (C69 (p7 TySz.out Z Z Z Z Z Z) (V5 Z (A6 Z Z) ?_)))))))))));refine a_nil rfl ?_ ?_
 ·refine L7 Z Z (D1 Z Z Z) (L7 Z Z (A5 Z Z) (L7 Z Z (A5 Z Z) (L7 Z Z (I0 (hmod4) Z Z) (L7 Z Z (I0 (hS) Z Z) (L7 Z Z (A5 Z Z) (L7 Z Z (C1 Z Z) (L7 Z Z (C1 Z Z) (L7 Z Z (C1 Z Z) ?_))))))));exact o_nil
 refine k1 (k2 ?_)
 refine E1 (by kernel_rfl) (by kernel_rfl) (B0 (D1 Z Z Z) Z Z (B0 (A5 Z Z) Z Z (B0 (A5 Z Z) Z Z (B0 (B4 Z (.pure _ _ _ _) Z (by omega) hv) Z Z (B0 (C8 Z Z) Z Z (B0 (I0 (hA) Z Z) Z Z (B0 (A5 Z Z) Z Z (B0 (C1 Z Z) Z Z (B0 (C1 Z Z) Z Z (B0 (A6 Z Z) Z Z (B0 (A6 Z Z) Z Z (L4 ?_))))))))))))
 refine k1 (k2 ?_)
 refine A4 (A3 (A5 Z Z) Z (A3 (Q0 Z Z) Z (A3 (A5 Z Z) Z (B1 Z Z Z Z (fun hg=>by rw [hg];exact A5 Z Z) ?_))));refine B1 Z Z Z Z (fun hg=>by rw [hg];exact Q0 Z Z) ?_;refine A3 (B5 Z (fun h=>by first | rfl | (rw [h];rfl)) (fun h=>by first | rfl | (rw [h];rfl))) Z ?_;refine A3 (A5 Z Z) Z (B1 Z Z Z Z (fun hg=>by rw [hg];exact A5 Z Z) ?_);refine B1 Z Z Z Z (fun hg=>by rw [hg];exact Q0 Z Z) ?_;refine A3 (B5 Z (fun h=>by first | rfl | (rw [h];rfl)) (fun h=>by first | rfl | (rw [h];rfl))) Z ?_;refine A3 (A5 Z Z) Z (B1 Z Z Z Z (fun hg=>by rw [hg];exact A5 Z Z) ?_);refine B1 Z Z Z Z (fun hg=>by rw [hg];exact A5 Z Z) ?_;refine B1 Z Z Z Z (fun hg=>by rw [hg];exact B89 Z Z) ?_;refine A3 (B5 Z (fun h=>by first | rfl | (rw [h];rfl)) (fun h=>by first | rfl | (rw [h];rfl))) Z ?_;refine A3 (A5 Z Z) Z (B1 Z Z Z Z (fun hg=>by have hq:=hg;(try simp at hq);rw [hg];exact I0 (J43) Z Z) ?_);refine A3 (B5 Z (fun h=>by first | rfl | (rw [h];rfl)) (fun h=>by first | rfl | (rw [h];rfl))) Z ?_;refine A3 (A6 Z Z) Z (A7 ?_)
 refine k1 (k10 ?_)
 exact B7 (H6 rfl rfl rfl) (by simp)
end Go.Proofs.YtbiadkkamhpdnaaGreatDoor
