/- Walks of the program's functions. -/
import Derived.Test.YtgejaedjnbjpoaaGreatDoorFd
import Derived.Test.YtgejaedjnbjpoaaGreatDoorFf
import Derived.Test.YtgejaedjnbjpoaaGreatDoorFc
import Derived.Test.YtgejaedjnbjpoaaGreatDoorFs
import Derived.Test.YtgejaedjnbjpoaaGreatDoorFb
import Derived.Test.YtgejaedjnbjpoaaGreatDoorFa
namespace Go.Proofs.YtgejaedjnbjpoaaGreatDoor
open Go Go.AL
set_option maxRecDepth 100000
theorem G08 (rows:List Row) (n:Nat) (hn:n≤32) (hr:I7 rows) (hl:rows.length≤268435456):FnOk Tryz.prog 112 [pRows rows,G8 n] (fun rs=>rs=[L8 (H9 rows n)]) :=
 H91 (k:=720) rfl (B06 rows n hn hr hl)
theorem G09 {gf:Fr} {ob:Obs} (l:List Int) (hl:0 < l.length∧l.length≤1073741824) (h:C2 ob 720=some (.arr Int 1 F5 l)) :
  AL.Met Tryz.prog 113 [.one (.mut 720)] gf ob [] (fun rs ob'=>rs=[.one (.p (.list Int 1 F5 l))]∧ob'=ob):=by
 refine AL.Met.intro Tryz.func113 (by decide) Z Z Z ?_
 refine k2 ?_
 refine A3 (A2 (A5 Z Z) Z (A6 ?_))
 refine k1 (k2 (k2 ?_))
 refine A3 (A2 (A4 Z Z) Z (A2 (D80 Z h) Z (A6 ?_)))
 refine k1 ?_
 refine B4 rfl (fun ht=>?_) (fun ht=>?_)
 ·cases ht
 refine k5 (k1 (k2 ?_))
 refine A3 (A2 (n8 (c:=F5) (ys:=[]) E7 Z Z Z) Z (A2 (A4 Z Z) Z (A2 (B91 Z Z h (by (simp;omega)) (hl.1)) Z (A2 (A5 Z Z) Z (A6 ?_)))))
 rw [I28]
 refine k1 (k10 ?_)
 exact l9 (B83 rfl rfl) (by repeat (first | exact H4 | refine H5 rfl ?_ | refine O8 _ ?_)) (fun _ _ h=>h) ⟨rfl,rfl⟩
theorem G99 (l:List Row) (hl:0 < l.length∧l.length≤1073741824):FnOk Tryz.prog 114 [pRows l] (fun rs=>rs=[pRows l]):=by
 refine FnOk.intro Tryz.func114 (by decide) Z Z Z Z ?_
 refine k2 ?_
 refine A3 (A2 (A5 Z Z) Z (A6 ?_))
 refine k1 (k2 (k2 ?_))
 refine A3 (A2 (A4 Z Z) Z ?_);(first | (refine E46 (E08 rfl (.pure _ _ _ _)) rfl ?_) | (refine E46 (E08 rfl (.buf _ _ _ _ _)) rfl ?_));rintro _ ⟨b1,rfl,hnil⟩;refine A6 ?_
 refine k1 ?_
 refine B4 rfl (fun ht=>?_) (fun ht=>?_)
 ·have:=hnil ht
  rw [this] at hl
  exact absurd hl.1 (by simp)
 refine k5 (k1 (k2 ?_))
 refine A3 (A2 (n8 (c:=rowC) (ys:=[]) E7 Z Z Z) Z (A2 (A4 Z Z) Z (A2 (m6 Z Z (.pure _ _ _ _) (by (simp;omega)) (hl.1)) Z (A2 (A5 Z Z) Z (A6 ?_)))))
 rw [I28]
 refine k1 (k10 ?_)
 exact B5 (F2 rfl rfl rfl) rfl
theorem G10 (rows:List Row) (n k:Nat) {e t:Nat} (h:e≤t):L7 (rows.take t) n k=L7 (rows.take e) n k+L7 ((rows.drop e).take (t - e)) n k:=by
 have h1:rows.take t=rows.take e++(rows.drop e).take (t - e):=by
  have:=List.take_add (l:=rows) (i:=e) (j:=t - e)
  rwa [show e+(t - e)=t by omega] at this
 unfold L7
 rw [h1]
 unfold O1
 rw [List.filter_append,I09,H95,Int.natCast_add]
def A77 (rows:List Row) (n e t i:Nat):List Int:=(List.range (n+1)).map fun k=>if k < i then L7 (rows.take t) n k else L7 (rows.take e) n k
theorem H00 (rows:List Row) (n e t i:Nat):(A77 rows n e t i).length=n+1:=by simp [A77]
theorem G11 (rows:List Row) (n e t:Nat):A77 rows n e t 0=H9 (rows.take e) n:=by
 unfold A77 H9
 exact List.map_congr_left fun k _=>if_neg (by omega)
theorem G12 (rows:List Row) (n e t:Nat):A77 rows n e t (n+1)=H9 (rows.take t) n:=by
 unfold A77 H9
 exact List.map_congr_left fun k hk=>if_pos (by simpa using hk)
theorem H01 (rows:List Row) (n e t i:Nat) (hi:i < n+1):(A77 rows n e t i)[i]?=some (L7 (rows.take e) n i):=by
 unfold A77
 rw [A27 (n+1) i _ hi,if_neg (by omega)]
theorem H02 (rows:List Row) (n e t i:Nat):(A77 rows n e t i).set i (L7 (rows.take t) n i)=A77 rows n e t (i+1):=by
 refine A26 (n+1) i _ _ _ (fun _=>if_pos (by omega)) (fun q _ hq=>?_)
 by_cases h:q < i
 ·rw [if_pos h,if_pos (by omega)]
 ·rw [if_neg h,if_neg (by omega)]
theorem G63 (rows:List Row) (n k:Nat):0≤L7 rows n k∧L7 rows n k≤rows.length:=by
 unfold L7
 have:=B28 rows (Q6 n k)
 omega
set_option maxHeartbeats 1000000
theorem D34 {gf:Fr} {ob:Obs} (t:Table) (n e z:Nat) (hn:t.Parents=n) (hn2:n≤32) (hr:I7 t.Rows) (hl:t.Rows.length≤8388608) (h1:e≤z) (h2:z≤t.Rows.length)
  (h5:C2 ob 5=some (.box (pTable t).s1.cells)) (h13:C2 ob 13=some (i8 e)) (h12:C2 ob 12=some (.box [.mut 720])) (h720:C2 ob 720=some (.arr Int 1 F5 (H9 (t.Rows.take e) n))) :
  AL.Met Tryz.prog 111 [iS z,.one (.ref 5 0),.one (.ref 13 0),.one (.ref 12 0)] gf ob []
   (fun rs ob'=>rs=[]∧ob'=(13,i8 z)::(720,.arr Int 1 F5 (H9 (t.Rows.take z) n))::(5,.box (pTable t).s1.cells)::(12,.box [.mut 720])::ob):=by
 obtain ⟨tp,rows⟩:=t
 have hn:tp=(n:Int):=hn
 subst hn
 dsimp only at hr hl h2 h720 ⊢
 have hsl:((rows.drop e).take (z - e)).length=z - e:=by rw [I13,I10];omega
 have hC:=G08 ((rows.drop e).take (z - e)) n hn2 (fun r hm=>hr r (List.mem_of_mem_drop (List.mem_of_mem_take hm))) (by omega)
 obtain ⟨cs,hcs⟩:∃cs,cs=H9 ((rows.drop e).take (z - e)) n:=⟨_,rfl⟩
 have hcl:cs.length=n+1:=by rw [hcs];simp [H9]
 rw [←hcs] at hC
 refine AL.Met.introH Tryz.func111 (by decide) rfl rfl rfl (fun hH=>?_)
 refine k2 (k2 ?_)
 refine C6 (by kernel_rfl) (by kernel_rfl) (A9 (A7 Z) Z Z (A9 (A8 Z h5 Z) Z Z (A9 (A8 Z h13 Z) Z Z (A9 (A4 Z Z) Z Z (A9 (T7 Z (.pure _ _ _ _) Z Z (by (first | omega | (dsimp only;omega))) (by (first | omega | (dsimp only;omega))) (by (first | omega | (dsimp only;omega)))) Z Z (A9 (A7 Z) Z Z (A9 (A8 Z h5 Z) Z Z (A9 (H6 (hC) Z Z) Z Z (A9 (D4 Z (.pure _ _ _ _)) Z Z (A9 (A4 Z Z) Z Z (K0 ?_)))))))))))
 refine k1 (k3 ?_)
 refine C9 (X:=Nat) (fun i=>([(0,B7 z),(1,.s (.one (.ref 5 0))),(2,.s (.one (.ref 13 0))),(3,.s (.one (.ref 12 0))),(14,C0 Int 1 F5 cs),(15,B7 cs.length),(16,B7 i)]++gf,(13,i8 e)::(720,.arr Int 1 F5 (A77 rows n e z i))::(5,.box (pTable ⟨n,rows⟩).s1.cells)::(12,.box [.mut 720])::ob)) (fun i=>i≤n+1) (fun i=>n+1 - i) 0 (Nat.zero_le _) ?_ ?_
 ·dsimp only
  rw [G11]
  exact H63 ⟨le1 rfl,le1 rfl,le1 rfl,le1 rfl,le1 rfl,le1 rfl,le1 rfl,trivial⟩ hH (by repeat (first | exact H4 | refine H5 rfl ?_)) (B24 (L:=[(13,_),(720,_),(5,_),(12,_)]) ⟨h13,h720,h5,h12,trivial⟩ B00)
 intro i hi
 dsimp only at hi ⊢
 have hal:=H00 rows n e z i
 refine k2 ?_
 refine A3 (A2 (D8 Z Z) Z (A6 ?_))
 refine k1 (k2 ?_)
 refine B4 rfl (fun ht=>?_) (fun ht=>?_)
 ·have hlt:i < n+1:=by have:=A0 ht;omega
  have hv:cs[i]?=some (L7 ((rows.drop e).take (z - e)) n i):=by rw [hcs];unfold H9;exact A27 (n+1) i _ hlt
  have hg:=H01 rows n e z i hlt
  have hst:=H02 rows n e z i
  have hsp:=G10 rows n i h1
  have b1:=G63 (rows.take e) n i
  have b2:=G63 ((rows.drop e).take (z - e)) n i
  have hte:(rows.take e).length=e:=by rw [I13];omega
  have hv2:(A77 rows n e z i)[((i:Nat):Int).toNat]?=some (L7 (rows.take e) n i):=by rw [I03];exact hg
  refine k5 (k1 (k2 (k3 (k2 ?_))))
  refine A3 (A2 (A4 Z Z) Z (A2 (B0 Z (.pure _ _ _ _) Z (by omega) hv) Z (A2 (B2 Z Z) Z (A2 (A5 Z Z) Z (A2 (A5 Z Z) Z (A6 ?_))))))
  refine k1 ?_
  refine A3 (A2 (A8 Z Z Z) Z (A2 (A4 Z Z) Z (A2 (E0 Z Z Z (by omega) (by (rw [hal];omega))) Z ?_)));refine A2 (L9 Z Z hv2 Z) Z (A2 (A4 Z Z) Z (A2 (B9 Z Z (by omega)) Z (A2 (E0 Z Z Z (by omega) (by (rw [hal];omega))) Z ?_)));refine F6 (G1 TySz.out Z Z (by (rw [hal];omega)) Z Z) ?_;refine A6 ?_
  rw [I03,←hsp,hst]
  refine k4 (k1 ?_)
  refine A3 (A2 (B9 Z Z (by omega)) Z (A2 (A4 Z Z) Z (A6 ?_)))
  refine k1 ?_
  refine ⟨i+1,by omega,by omega,?_⟩
  exact H63 ⟨le1 rfl,le1 rfl,le1 rfl,le1 rfl,le1 rfl,le1 rfl,le1 rfl,trivial⟩ hH (by repeat (first | exact H4 | refine H5 rfl ?_)) (B24 (L:=[(13,_),(720,_),(5,_),(12,_)]) ⟨rfl,rfl,rfl,rfl,trivial⟩ (by repeat (first | exact B00 | refine B01 rfl ?_)))
 have hin:i=n+1:=by have:=A1 ht;omega
 rw [hin,G12]
 refine k6 (k7 (k7 (k8 Z (k1 ?_))))
 refine A3 (A2 (A4 Z Z) Z (F6 (B8 TySz.out Z Z Z Z Z Z) (A6 ?_)))
 skip
 exact D05 (rets0 rfl) (by repeat (first | exact H4 | refine H5 rfl ?_)) (B24 (L:=[(13,_),(720,_),(5,_),(12,_)]) ⟨rfl,rfl,rfl,rfl,trivial⟩ (by repeat (first | exact B00 | refine B01 rfl ?_))) ⟨rfl,rfl⟩
def D35 (n:Int):Int→List Span→Bool
 | _,[]=>true
 | e,s::r=>if s.From < e∨s.To≤s.From∨n < s.To then false else D35 n s.To r
theorem F36 (sp:List Span) (n:Int) (hl:sp.length≤536870912):FnOk Tryz.prog 110 [pSpans sp,G8 n] (fun rs=>rs=[J5 (D35 n 0 sp)]):=by
 obtain ⟨W,hW⟩:∃W,W=D35 n 0 sp:=⟨_,rfl⟩
 rw [←hW]
 refine FnOk.intro Tryz.func110 (by decide) Z Z Z Z ?_
 refine k2 ?_
 refine A3 (A2 (A5 Z Z) Z (A6 ?_))
 refine k1 (k2 ?_)
 refine A3 (A2 (A5 Z Z) Z (A6 ?_))
 refine k1 (k2 (k2 ?_))
 refine A3 (A2 (A4 Z Z) Z (A2 (D4 Z (.pure _ _ _ _)) Z (A2 (A4 Z Z) Z (A6 ?_))))
 refine k1 (k3 ?_)
 refine C9 (X:=Nat × Int) (fun x=>([(1,B7 n),(5,B7 x.2),(8,C0 Span 2 spanC sp),(9,B7 sp.length),(10,B7 x.1)],[])) (fun x=>x.1≤sp.length∧W=D35 n x.2 (sp.drop x.1)) (fun x=>sp.length - x.1) (0,0) ⟨Nat.zero_le _,hW⟩ (H62 ⟨le1 rfl,le1 rfl,le1 rfl,le1 rfl,le1 rfl,trivial⟩ trivial) ?_
 rintro ⟨k,e⟩ ⟨hk,hp⟩
 dsimp only at hk hp ⊢
 refine k2 ?_
 refine A3 (A2 (D8 Z Z) Z (A6 ?_))
 refine k1 (k2 ?_)
 refine B4 rfl (fun ht=>?_) (fun ht=>?_)
 rotate_left
 ·have hkl:k=sp.length:=by have:=A1 ht;omega
  rw [hkl,I02 (Nat.le_refl _)] at hp
  have hp:W=true:=hp
  refine k6 (k2 ?_)
  refine A3 (A2 (A5 Z Z) Z (A6 ?_))
  refine k1 (k10 ?_)
  exact B5 (F2 rfl rfl rfl) (by rw [hp])
 have hlt:k < sp.length:=by have:=A0 ht;omega
 have hv:sp[k]?=some sp[k]:=by simp [hlt]
 rw [I01 hlt,D35] at hp
 obtain ⟨s,hsd⟩:∃s,s=sp[k]:=⟨_,rfl⟩
 rw [←hsd] at hp hv
 refine k5 (k1 (k2 (k3 (k2 ?_))))
 refine A3 (A2 (B0 Z (.pure _ _ _ _) Z (by omega) hv) Z (A2 (E8 Z Z) Z (C1 (G3 757 Z) Z (F6 (B8 TySz.out Z Z Z Z Z Z) (A6 ?_)))))
 refine k1 (k2 (k2 ?_))
 refine A3 (A2 (A7 Z) Z (A2 (A8 Z Z Z) Z (A2 (A4 Z Z) Z (A2 (D8 Z Z) Z (A2 (A4 Z Z) Z (B1 Z Z Z Z (fun hg=>by rw [hg];exact A7 Z) ?_))))));refine B1 Z Z Z Z (fun hg=>by rw [hg];exact A8 Z Z Z) ?_;refine B1 Z Z Z Z (fun hg=>by rw [hg];exact A7 Z) ?_;refine B1 Z Z Z Z (fun hg=>by rw [hg];exact A8 Z Z Z) ?_;refine B1 Z Z Z Z (fun hg=>by rw [hg];exact c6 Z Z) ?_;refine A2 (B6 Z (fun h=>by first | rfl | (rw [h];rfl)) (fun h=>by first | rfl | (rw [h];rfl))) Z ?_;refine A2 (A4 Z Z) Z (B1 Z Z Z Z (fun hg=>by rw [hg];exact A7 Z) ?_);refine B1 Z Z Z Z (fun hg=>by rw [hg];exact A8 Z Z Z) ?_;refine B1 Z Z Z Z (fun hg=>by rw [hg];exact A4 Z Z) ?_;refine B1 Z Z Z Z (fun hg=>by rw [hg];exact M7 Z Z) ?_;refine A2 (B6 Z (fun h=>by first | rfl | (rw [h];rfl)) (fun h=>by first | rfl | (rw [h];rfl))) Z ?_;refine A6 ?_
 refine k1 ?_
 refine B4 rfl (fun ht=>?_) (fun ht=>?_)
 ·have hc:s.From < e∨s.To≤s.From∨n < s.To:=by
   by_cases q1:s.From < e
   ·exact .inl q1
   ·by_cases q2:s.To≤s.From
    ·exact .inr (.inl q2)
    ·simp [q1,q2] at ht
     exact .inr (.inr ht)
  rw [if_pos hc] at hp
  refine k2 ?_
  refine A3 (A2 (A5 Z Z) Z (A6 ?_))
  refine k1 (k10 (k11 (k12 (k11 (k11 (k12 (k11 ?_)))))))
  exact B5 (F2 rfl rfl rfl) (by rw [hp])
 have hc:¬(s.From < e∨s.To≤s.From∨n < s.To):=by
  rintro (q | q | q)
  ·simp [q] at ht
  ·simp [q] at ht
  ·simp [q] at ht
 rw [if_neg hc] at hp
 refine k5 (k1 ?_)
 refine A3 (A2 (A7 Z) Z (A2 (A8 Z Z Z) Z (A2 (A5 Z Z) Z (A6 ?_))))
 refine k4 (k1 ?_)
 refine A3 (A2 (B9 Z Z (by omega)) Z (A2 (A4 Z Z) Z (A6 ?_)))
 refine k1 ?_
 exact ⟨(k+1,s.To),⟨hlt,hp⟩,by dsimp only;omega,H62 ⟨le1 rfl,le1 rfl,le1 rfl,le1 rfl,le1 rfl,trivial⟩ trivial⟩
end Go.Proofs.YtgejaedjnbjpoaaGreatDoor
namespace Go.Proofs.YtgejaedjnbjpoaaGreatDoor
open Go Go.AL
set_option maxRecDepth 100000
theorem B62 (k n:Nat):FnOk Tryz.prog 117 [G8 k,G8 n] (fun rs=>rs=[G8 (Q6 n k)]):=by
 refine FnOk.intro Tryz.func117 (by decide) Z Z Z Z ?_
 refine k2 ?_
 refine A3 (A2 (A5 Z Z) Z (A6 ?_))
 refine k1 (k2 (k2 ?_))
 refine A3 (A2 (A4 Z Z) Z (A2 (A4 Z Z) Z (A2 (K1 Z Z) Z (A6 ?_))))
 refine k1 ?_
 refine B4 rfl (fun ht=>?_) (fun ht=>?_)
 ·have h:=A0 ht
  refine k2 ?_
  refine A3 (A2 (A5 Z Z) Z (A6 ?_))
  refine k1 (k10 (k11 ?_))
  exact B5 (rs:=[G8 (-1)]) (F2 rfl rfl rfl) (by unfold Q6;rw [if_pos (by omega)])
 ·have h:=A1 ht
  refine k5 (k1 (k2 ?_))
  refine A3 (A2 (A4 Z Z) Z (A2 (A5 Z Z) Z (A6 ?_)))
  refine k1 (k10 ?_)
  exact B5 (F2 rfl rfl rfl) (by unfold Q6;rw [if_neg (by omega)])
theorem F37 (c:Comb) (hn:0≤c.Parents∧c.Parents≤32) (hr:∀h∈c.Hunks,I7 h.Rows) (hz:szC c.Hunks≤268435456):FnOk Tryz.prog 101 [R2 c] (fun rs=>rs=[J5 (V2 c.Parents.toNat c.Hunks)]):=by
 obtain ⟨n,hN⟩:∃n,n=c.Parents.toNat:=⟨_,rfl⟩
 rw [←hN]
 have hzl:=A04 c.Hunks
 refine FnOk.intro Tryz.func101 (by decide) Z Z Z Z ?_
 refine k2 ?_
 refine A3 (C1 (Q4 1 Z Z Z) Z (A2 (A5 Z Z) Z (A6 ?_)))
 refine k1 (k2 (k2 ?_))
 refine A3 (A2 (A5 Z Z) Z (A6 ?_))
 refine k1 (k3 ?_)
 refine C9 (X:=Nat) (fun k=>([(1,.s (.one (.ref 1 0))),(3,B7 k)],[(1,A12 c)])) (fun k=>k≤c.Hunks.length∧V2 n c.Hunks=V2 n (c.Hunks.drop k)) (fun k=>c.Hunks.length - k) 0 ⟨Nat.zero_le _,rfl⟩ (H62 ⟨le1 rfl,le1 rfl,trivial⟩ ⟨rfl,trivial⟩) ?_
 rintro k ⟨hk,hp⟩
 dsimp only at hk hp ⊢
 refine k2 (k2 ?_)
 refine A3 (A2 (A4 Z Z) Z (A2 (A7 Z) Z (A2 (A8 Z Z Z) Z (A2 (D4 Z (.pure _ _ _ _)) Z (A2 (D8 Z Z) Z (A6 ?_))))))
 refine k1 ?_
 refine B4 rfl (fun ht=>?_) (fun ht=>?_)
 ·have hlt:k < c.Hunks.length:=by have:=A0 ht;omega
  have hv:c.Hunks[k]?=some c.Hunks[k]:=by simp [hlt]
  have hrw:=hr _ (I07 hlt)
  rw [I01 hlt] at hp
  obtain ⟨h,hx⟩:∃x,x=c.Hunks[k]:=⟨_,rfl⟩
  rw [←hx] at hv hrw hp
  have hp:V2 n c.Hunks=(L6 h.Rows n&&V2 n (c.Hunks.drop (k+1))):=hp
  have hm:=D26 h.Rows c.Parents hn hrw
  rw [←hN] at hm
  refine k5 (k1 (k2 (k3 (k2 ?_))))
  refine C6 (by kernel_rfl) (by kernel_rfl) (A9 (A7 Z) Z Z (A9 (A8 Z Z Z) Z Z (A9 (A4 Z Z) Z Z (A9 (B0 Z (.pure _ _ _ _) Z (by omega) hv) Z Z (A9 (D6 Z) Z Z (A9 (B2 Z Z) Z Z (A9 (A7 Z) Z Z (A9 (A8 Z Z Z) Z Z (A9 (H6 (hm) Z Z) Z Z (A9 (K9 Z) Z Z (K0 ?_)))))))))))
  refine k1 ?_
  refine B4 rfl (fun ht=>?_) (fun ht=>?_)
  ·have h2:L6 h.Rows n=false:=by simpa using ht
   rw [h2,Bool.false_and] at hp
   refine k2 ?_
   refine A3 (A2 (A5 Z Z) Z (A6 ?_))
   refine k1 (k10 (k12 (k11 (k11 (k12 (k11 ?_))))))
   exact B5 (F2 rfl rfl rfl) (by rw [hp])
  ·have h2:L6 h.Rows n=true:=by simpa using ht
   rw [h2,Bool.true_and] at hp
   refine k5 (k4 (k1 ?_))
   refine A3 (A2 (A4 Z Z) Z (A2 (B9 Z Z (by omega)) Z (A2 (A5 Z Z) Z (A6 ?_))))
   refine k1 ?_
   exact ⟨k+1,⟨by omega,hp⟩,by omega,H62 ⟨le1 rfl,le1 rfl,trivial⟩ ⟨rfl,trivial⟩⟩
 ·have hkl:k=c.Hunks.length:=by have:=A1 ht;omega
  rw [hkl,I02 (Nat.le_refl _)] at hp
  refine k6 (k2 ?_)
  refine A3 (A2 (A5 Z Z) Z (A6 ?_))
  refine k1 (k10 ?_)
  exact B5 (F2 rfl rfl rfl) (by rw [hp];rfl)
def T9 (n:Nat) (ends:List Int) (h:CHunk) (k:Nat):List Int:=(List.range (n+1)).map fun j=>if j < k then h.At.getD j 0+L7 h.Rows n j else ends.getD j 0
theorem C57 (n:Nat) (ends:List Int) (h:CHunk) (k:Nat):(T9 n ends h k).length=n+1:=by unfold T9;simp
theorem E69 {n:Nat} {ends:List Int} (h:CHunk) (hl:ends.length=n+1):T9 n ends h 0=ends:=by
 unfold T9
 refine List.ext_getElem (by simp [hl]) fun k h1 h2=>?_
 rw [List.getElem_map,List.getElem_range,if_neg (by omega),I00,H97 h2];rfl
theorem F38 (n:Nat) (ends:List Int) (h:CHunk) (k:Nat) (hk:k < n+1):(T9 n ends h k)[k]?=some (ends.getD k 0):=by
 unfold T9
 rw [I20,I23 hk];simp
theorem E70 (n:Nat) (ends:List Int) (h:CHunk) (k:Nat) (hk:k < n+1):(T9 n ends h (k+1))[k]?=some (h.At.getD k 0+L7 h.Rows n k):=by
 unfold T9
 rw [I20,I23 hk];simp
theorem F39 (n:Nat) (ends:List Int) (h:CHunk) (k:Nat):(T9 n ends h k).set k (h.At.getD k 0+L7 h.Rows n k)=T9 n ends h (k+1):=by
 unfold T9
 rw [B69]
 refine List.map_congr_left fun j hj=>?_
 by_cases e:j=k
 ·subst e;rw [if_pos rfl,if_pos (by omega)]
 ·rw [if_neg e]
  by_cases h3:j < k
  ·rw [if_pos h3,if_pos (by omega)]
  ·rw [if_neg h3,if_neg (by omega)]
theorem E71 (n:Nat) (ends:List Int) (h:CHunk):T9 n ends h (n+1)=T4 n h:=by
 unfold T9 T4
 refine List.map_congr_left fun k hk=>?_
 rw [if_pos (List.mem_range.1 hk)]
theorem G13 (n:Nat) (ends:List Int) (h:CHunk):A17 n ends h=true↔(h.At.length=n+1∧h.Rows≠[])∧∀k,k < n+1→(ends.getD k 0≤h.At.getD k 0∧h.At.getD k 0≤4096)∧h.At.getD k 0+L7 h.Rows n k≤4096:=by
 unfold A17
 simp only [H99,decide_eq_true_eq,List.all_eq_true,List.mem_range]
theorem B63:∀(hs:List CHunk),((J8 hs).map Q7).sum≤szC hs
 | []=>by simp [J8,szC]
 | h::r=>by
  have ih:=B63 r
  have e1:J8 (h::r)=h.Rows++J8 r:=by simp [J8]
  have e2:szC (h::r)=A88 h+szC r:=by simp [szC]
  have e3:(h.Rows.map Q7).sum≤A88 h:=by unfold A88;exact Nat.le_add_left _ _
  rw [e1,e2,I09,I41]
  exact Nat.add_le_add e3 ih
theorem E72 (hs:List CHunk) (k:Nat) (h:k < hs.length):J8 (hs.take (k+1))=J8 (hs.take k)++hs[k].Rows:=by
 unfold J8
 rw [I04 h,I09,I21];simp
theorem F40 (c:Comb) (hn:1≤c.Parents∧c.Parents≤32) (hr:∀h∈c.Hunks,I7 h.Rows) (hz:szC c.Hunks≤268435456) :
  FnOk Tryz.prog 102 [R2 c] (fun rs=>rs=[J5 (P7 c.Parents.toNat c.Hunks)]):=by
 obtain ⟨n,hN⟩:∃n,n=c.Parents.toNat:=⟨_,rfl⟩
 have hNc:c.Parents=(n:Int):=by omega
 rw [←hN]
 have e0:(c.Parents+1).toNat=n+1:=by omega
 have hzl:=A04 c.Hunks
 have hsa:=B63 c.Hunks
 have hfalse:∀{A B:Bool} {Y:Prop},A=false→[J5 false]=[J5 (A&&B)]:=fun h=>by rw [h];rfl
 refine FnOk.intro Tryz.func102 (by decide) Z Z Z Z ?_
 refine k2 ?_
 refine A3 (C1 (Q4 1 Z Z Z) Z (A2 (A5 Z Z) Z (A6 ?_)))
 refine k1 (k2 ?_)
 refine A3 (C1 (S8 721 _ rowC Z) Z (A6 ?_))
 refine k1 (k2 ?_)
 refine A3 (A2 (A7 Z) Z (A2 (A8 Z Z Z) Z (A2 (B9 Z Z (by omega)) Z (C1 (V3 720 Int F5 0 Z Z (by omega) (by omega) (fun _=>by first | exact ⟨⟨rfl,rfl⟩,trivial⟩ | exact ⟨M9 _ _ _,trivial⟩) (by first | rfl | (simp [F9,H0,Ob.free,SV.free,S1.free,TC.free]<;>rfl))) Z ?_))));refine A2 (A5 Z Z) Z (A6 ?_)
 rw [e0]
 refine k1 (k2 (k2 ?_))
 refine A3 (A2 (A5 Z Z) Z (A6 ?_))
 refine k1 (k3 ?_)
 refine C9 (X:=Nat × List Int) (fun x=>([(1,.s (.one (.ref 1 0))),(3,.s (.one (.buf 721 Row 3 rowC (J8 (c.Hunks.take x.1))))),(4,.s (.one (.mut 720))),(5,B7 x.1)],[(1,A12 c),(720,.arr Int 1 F5 x.2),(721,.spare (J8 (c.Hunks.take x.1)).length 3 69)])) (fun x=>x.1≤c.Hunks.length∧x.2.length=n+1∧(∀e∈x.2,0≤e)∧U5 n (List.replicate (n+1) 0) c.Hunks=U5 n x.2 (c.Hunks.drop x.1)) (fun x=>c.Hunks.length - x.1) (0,List.replicate (n+1) 0) ⟨Nat.zero_le _,by simp,fun e he=>by have:=(List.mem_replicate.1 he).2;omega,rfl⟩ (H62 ⟨le1 rfl,le1 rfl,le1 rfl,le1 rfl,trivial⟩ ⟨rfl,rfl,rfl,trivial⟩) ?_
 rintro ⟨k,ends⟩ ⟨hk,hel,he0,hp⟩
 dsimp only at hk hel he0 hp ⊢
 refine k2 (k2 ?_)
 refine A3 (A2 (A4 Z Z) Z (A2 (A7 Z) Z (A2 (A8 Z Z Z) Z (A2 (D4 Z (.pure _ _ _ _)) Z (A2 (D8 Z Z) Z (A6 ?_))))))
 refine k1 ?_
 refine B4 rfl (fun ht=>?_) (fun ht=>?_)
 ·have hlt:k < c.Hunks.length:=by have:=A0 ht;omega
  have hv:c.Hunks[k]?=some c.Hunks[k]:=by simp [hlt]
  have hmem:=I07 hlt
  have hrw:=hr _ hmem
  have hzm:=A68 hmem
  have hat:=E72 c.Hunks k hlt
  have hst:=B63 (c.Hunks.take k)
  have hst2:=D62 c.Hunks k
  have hst3:=R7 (J8 (c.Hunks.take k))
  rw [I01 hlt,U5] at hp
  obtain ⟨h,hx⟩:∃x,x=c.Hunks[k]:=⟨_,rfl⟩
  rw [←hx] at hv hrw hzm hp hat
  have hz1:=R7 h.Rows
  unfold A88 at hzm
  have hno:A17 n ends h=false→[J5 false]=[J5 (P7 n c.Hunks)]:=fun e=>by
   unfold P7;rw [hp,e];rfl
  have hiff:=G13 n ends h
  refine k5 (k1 (k2 (k3 (k2 ?_))))
  refine A3 (A2 (A7 Z) Z (A2 (A8 Z Z Z) Z (A2 (A4 Z Z) Z (A2 (B0 Z (.pure _ _ _ _) Z (by omega) hv) Z (A2 (E8 Z Z) Z (C1 (G3 6 Z) Z (F6 (B8 TySz.out Z Z Z Z Z Z) (A6 ?_))))))))
  refine k1 (k2 (k2 ?_))
  refine A3 (A2 (A7 Z) Z (A2 (A8 Z Z Z) Z (A2 (D4 Z (.pure _ _ _ _)) Z (A2 (A7 Z) Z (A2 (A8 Z Z Z) Z (A2 (B9 Z Z (by omega)) Z (A2 (O3 Z Z) Z (A2 (A4 Z Z) Z (B1 Z Z Z Z (fun hg=>by rw [hg];exact A7 Z) ?_)))))))));refine B1 Z Z Z Z (fun hg=>by rw [hg];exact A8 Z Z Z) ?_;refine B1 Z Z Z Z (fun hg=>by rw [hg];exact D4 Z (.pure _ _ _ _)) ?_;refine B1 Z Z Z Z (fun hg=>by rw [hg];exact K1 Z Z) ?_;refine A2 (B6 Z (fun h=>by first | rfl | (rw [h];rfl)) (fun h=>by first | rfl | (rw [h];rfl))) Z ?_;refine A6 ?_
  refine k1 ?_
  refine B4 rfl (fun ht=>?_) (fun ht=>?_)
  ·have h1:=A0 (or_pick.symm.trans ht)
   refine k2 ?_
   refine A3 (A2 (A5 Z Z) Z (A6 ?_))
   refine k1 (k10 (k11 (k12 (k11 (k11 (k12 (k11 ?_)))))))
   refine B5 (F2 rfl rfl rfl) (hno ?_)
   rw [Bool.eq_false_iff]
   intro hq
   have h2:=(hiff.1 hq).1
   rcases h1 with h1 | h1
   ·omega
   ·exact h2.2 (List.length_eq_zero_iff.1 (by omega))
  have h1:=A1 (or_pick.symm.trans ht)
  simp only [not_or,Decidable.not_not] at h1
  have hal:h.At.length=n+1:=by omega
  have hne:h.Rows≠[]:=fun e=>h1.2 (by rw [e];rfl)
  refine L1 [(1,.s (.one (.ref 1 0))),(3,.s (.one (.buf 721 Row 3 rowC (J8 (c.Hunks.take k))))),(4,.s (.one (.mut 720))),(5,B7 k),(6,.s (.one (.ref 6 0)))] [(1,A12 c),(720,.arr Int 1 F5 ends),(721,.spare (J8 (c.Hunks.take k)).length 3 69),(6,.box (A65 h).s1.cells)] (H62 ⟨le1 rfl,le1 rfl,le1 rfl,le1 rfl,le1 rfl,trivial⟩ ⟨rfl,rfl,rfl,rfl,trivial⟩) ?_
  refine k5 (k1 (k2 (k2 ?_)))
  refine A3 (A2 (A5 Z Z) Z (A6 ?_))
  refine k1 (k3 ?_)
  refine C9 (X:=Nat) (fun j=>([(1,.s (.one (.ref 1 0))),(3,.s (.one (.buf 721 Row 3 rowC (J8 (c.Hunks.take k))))),(4,.s (.one (.mut 720))),(5,B7 k),(6,.s (.one (.ref 6 0))),(7,B7 j)],[(1,A12 c),(720,.arr Int 1 F5 (T9 n ends h j)),(721,.spare (J8 (c.Hunks.take k)).length 3 69),(6,.box (A65 h).s1.cells)])) (fun j=>j≤n+1∧∀i,i < j→(ends.getD i 0≤h.At.getD i 0∧h.At.getD i 0≤4096)∧h.At.getD i 0+L7 h.Rows n i≤4096) (fun j=>n+1 - j) 0 ⟨Nat.zero_le _,fun i hi=>by omega⟩ (by rw [E69 h hel];exact H62 ⟨le1 rfl,le1 rfl,le1 rfl,le1 rfl,le1 rfl,le1 rfl,trivial⟩ ⟨rfl,rfl,rfl,rfl,trivial⟩) ?_
  rintro j ⟨hj,hq⟩
  dsimp only at hj hq ⊢
  have hml:=C57 n ends h j
  refine k2 (k2 ?_)
  refine A3 (A2 (A4 Z Z) Z (A2 (A7 Z) Z (A2 (A8 Z Z Z) Z (A2 (c6 Z Z) Z (A6 ?_)))))
  refine k1 ?_
  refine B4 rfl (fun ht=>?_) (fun ht=>?_)
  ·have hlt2:j < n+1:=by have:=A0 ht;omega
   have hva:=D63 (l:=h.At) (i:=j) (by omega)
   have hge:=F38 n ends h j hlt2
   have hge1:=E70 n ends h j hlt2
   have hset:=F39 n ends h j
   have hml1:=C57 n ends h (j+1)
   have hej:0≤ends.getD j 0:=he0 _ (I12 (D63 (l:=ends) (i:=j) (by omega)))
   have hcl:=B68 h.Rows n j
   have hcol:=y9 h.Rows (Q6 n j) hrw (by omega)
   have hcn:=B62 j n
   rw [←hNc] at hcn
   have hcc:((O1 h.Rows (Q6 n j)).length:Int)=L7 h.Rows n j:=rfl
   obtain ⟨a,ha⟩:∃a,a=h.At.getD j 0:=⟨_,rfl⟩
   obtain ⟨e,hee⟩:∃e,e=ends.getD j 0:=⟨_,rfl⟩
   obtain ⟨q,hqq⟩:∃q,q=L7 h.Rows n j:=⟨_,rfl⟩
   have hno2:¬((e≤a∧a≤4096)∧a+q≤4096)→A17 n ends h=false:=fun hc=>by
    rw [Bool.eq_false_iff]
    intro hqq2
    have:=(hiff.1 hqq2).2 j hlt2
    rw [←ha,←hee,←hqq] at this
    exact hc this
   rw [←ha] at hva hge1 hset
   rw [←hee] at hge hej
   rw [←hqq] at hge1 hset hcl hcc
   refine k5 (k1 (k2 (k3 (k2 (k2 ?_)))))
   refine C6 (by kernel_rfl) (by kernel_rfl) (A9 (A7 Z) Z Z (A9 (A8 Z Z Z) Z Z (A9 (A4 Z Z) Z Z (A9 (B0 Z (.pure _ _ _ _) Z (by omega) hva) Z Z (A9 (B2 Z Z) Z Z (A9 (A4 Z Z) Z Z (A9 (A4 Z Z) Z Z (A9 (E0 Z Z Z (by omega) (by (rw [hml];omega))) Z Z ?_))))))));refine A9 (L9 Z Z hge Z) Z Z (A9 (D8 Z Z) Z Z (A9 (A4 Z Z) Z Z (D1 Z Z (fun hg=>by rw [hg];exact A7 Z) Z Z ?_)));refine D1 Z Z (fun hg=>by rw [hg];exact A8 Z Z Z) Z Z ?_;refine D1 Z Z (fun hg=>by rw [hg];exact A4 Z Z) Z Z ?_;refine D1 Z Z (fun hg=>by have hq:=hg;(try simp at hq);rw [hg];exact B0 Z (.pure _ _ _ _) Z (by omega) hva) Z Z ?_;refine D1 Z Z (fun hg=>by rw [hg];exact B2 Z Z) Z Z ?_;refine D1 Z Z (fun hg=>by rw [hg];exact M7 Z Z) Z Z ?_;refine A9 (B6 Z (fun h=>by first | rfl | (rw [h];rfl)) (fun h=>by first | rfl | (rw [h];rfl))) Z Z ?_;refine K0 ?_
   refine k1 ?_
   refine B4 rfl (fun ht=>?_) (fun ht=>?_)
   ·have h2:=A0 (or_pick.symm.trans ht)
    refine k2 ?_
    refine A3 (A2 (A5 Z Z) Z (A6 ?_))
    refine k1 (k10 (k11 (k12 (k11 (k11 (k12 (k11 (k12 (k11 (k11 (k12 (k11 ?_))))))))))))
    exact B5 (F2 rfl rfl rfl) (hno (hno2 (by omega)))
   have h2:=A1 (or_pick.symm.trans ht)
   refine L1 [(1,.s (.one (.ref 1 0))),(3,.s (.one (.buf 721 Row 3 rowC (J8 (c.Hunks.take k))))),(4,.s (.one (.mut 720))),(5,B7 k),(6,.s (.one (.ref 6 0))),(7,B7 j)] [(1,A12 c),(720,.arr Int 1 F5 (T9 n ends h j)),(721,.spare (J8 (c.Hunks.take k)).length 3 69),(6,.box (A65 h).s1.cells)] (H62 ⟨le1 rfl,le1 rfl,le1 rfl,le1 rfl,le1 rfl,le1 rfl,trivial⟩ ⟨rfl,rfl,rfl,rfl,trivial⟩) ?_
   refine k5 (k1 (k2 ?_))
   refine C6 (by kernel_rfl) (by kernel_rfl) (A9 (A4 Z Z) Z Z (A9 (A4 Z Z) Z Z (A9 (A7 Z) Z Z (A9 (A8 Z Z Z) Z Z (A9 (A4 Z Z) Z Z (A9 (B0 Z (.pure _ _ _ _) Z (by omega) hva) Z Z (A9 (B2 Z Z) Z Z (A9 (A7 Z) Z Z (A9 (A8 Z Z Z) Z Z (A9 (A4 Z Z) Z Z (A9 (A7 Z) Z Z (A9 (A8 Z Z Z) Z Z (A9 (H6 (hcn) Z Z) Z Z (A9 (H6 (hcol) Z Z) Z Z (A9 (D4 Z (.pure _ _ _ _)) Z Z (A9 (B9 Z Z (by omega)) Z Z (A9 (E0 Z Z Z (by omega) (by (rw [hml];omega))) Z Z ?_)))))))))))))))));refine v8 (G1 TySz.out Z Z (by (rw [hml];omega)) Z Z) Z ?_;refine K0 ?_
   rw [hcc,I03,hset]
   refine k1 (k2 ?_)
   refine A3 (A2 (A4 Z Z) Z (A2 (A4 Z Z) Z (A2 (E0 Z Z Z (by omega) (by (rw [hml1];omega))) Z ?_)));refine A2 (L9 Z Z hge1 Z) Z (A2 (M7 Z Z) Z (A6 ?_))
   refine k1 ?_
   refine B4 rfl (fun ht=>?_) (fun ht=>?_)
   ·have h3:=A0 ht
    refine k2 ?_
    refine A3 (A2 (A5 Z Z) Z (A6 ?_))
    refine k1 (k10 (k12 (k11 (k11 (k12 (k11 (k12 (k11 (k11 (k12 (k11 ?_)))))))))))
    exact B5 (F2 rfl rfl rfl) (hno (hno2 (by omega)))
   have h3:=A1 ht
   refine k5 (k4 (k1 ?_))
   refine A3 (A2 (A4 Z Z) Z (A2 (B9 Z Z (by omega)) Z (A2 (A5 Z Z) Z (A6 ?_))))
   refine k1 ?_
   refine ⟨j+1,⟨by omega,fun i hi=>?_⟩,by omega,H62 ⟨le1 rfl,le1 rfl,le1 rfl,le1 rfl,le1 rfl,le1 rfl,trivial⟩ ⟨rfl,rfl,rfl,rfl,trivial⟩⟩
   by_cases e1:i=j
   ·subst e1;rw [←ha,←hee,←hqq];omega
   ·exact hq i (by omega)
  ·have hjn:j=n+1:=by have:=A1 ht;omega
   subst hjn
   rw [E71]
   have hok:A17 n ends h=true:=hiff.2 ⟨⟨hal,hne⟩,hq⟩
   rw [hok,Bool.true_and] at hp
   refine k6 (k7 (k7 (k8 Z (k1 ?_))))
   refine A3 (A2 (A4 Z Z) Z (A2 (A7 Z) Z (A2 (A8 Z Z Z) Z (C1 (F3 Z Z Z (.pure _ _ _ _) (by omega) Z) Z (A2 (A5 Z Z) Z (A6 ?_))))))
   refine k4 (k1 ?_)
   refine A3 (A2 (A4 Z Z) Z (A2 (B9 Z Z (by omega)) Z (A2 (A5 Z Z) Z (A6 ?_))))
   refine k1 ?_
   refine ⟨(k+1,T4 n h),⟨by dsimp only;omega,A66 n h,?_,hp⟩,by dsimp only;omega,?_⟩
   ·intro e hm
    obtain ⟨i,hi,rfl⟩:=List.mem_map.1 hm
    have hi:=List.mem_range.1 hi
    have h4:=hq i hi
    have h5:=he0 _ (I12 (D63 (l:=ends) (i:=i) (by omega)))
    have h6:=B68 h.Rows n i
    omega
   ·dsimp only
    rw [hat]
    exact H62 ⟨le1 rfl,le1 rfl,le1 rfl,le1 rfl,trivial⟩ ⟨rfl,rfl,rfl,trivial⟩
 ·have hkl:k=c.Hunks.length:=by have:=A1 ht;omega
  rw [hkl,I02 (Nat.le_refl _)] at hp
  rw [hkl,I16]
  have hp:U5 n (List.replicate (n+1) 0) c.Hunks=true:=hp
  have hl1:=R7 (J8 c.Hunks)
  have hl2:=A67 (J8 c.Hunks)
  have hri:I7 (J8 c.Hunks):=by
   intro r hrm
   obtain ⟨l,h1,h2⟩:=List.mem_flatten.1 hrm
   obtain ⟨x,hx,rfl⟩:=List.mem_map.1 h1
   exact hr x hx r h2
  have htx:=D27 (J8 c.Hunks) c.Parents (by omega) hri (by omega) (by omega)
  rw [←hN] at htx
  refine k6 (k2 ?_)
  refine A3 (A2 (A4 Z Z) Z (A2 (A7 Z) Z (A2 (A8 Z Z Z) Z (C3 (htx) Z Z Z ?_))));rintro _ rfl;refine A2 (A5 Z Z) Z (A6 ?_)
  refine k1 (k10 ?_)
  exact B5 (F2 rfl rfl rfl) (by unfold P7;rw [hp];rfl)
theorem rats_ok (n:Nat) (hn:n≤1048576):FnOk Tryz.prog 156 [G8 n] (fun rs=>rs=[L4 (atS n)]):=by
 refine FnOk.intro Tryz.func156 (by decide) Z Z Z Z ?_
 refine k2 ?_
 refine A3 (A2 (A5 Z Z) Z (A6 ?_))
 refine k1 (k2 ?_)
 refine A3 (A2 (A5 Z Z) Z (A6 ?_))
 refine k1 (k2 (k2 ?_))
 refine A3 (A2 (A5 Z Z) Z (A6 ?_))
 refine k1 (k3 ?_)
 refine C9 (X:=Nat) (fun i=>([(0,B7 n),(3,R3 (atS i)),(4,B7 i)],[])) (fun i=>i≤n) (fun i=>n - i) 0 (Nat.zero_le _) (H62 ⟨le1 rfl,le1 rfl,le1 rfl,trivial⟩ trivial) ?_
 intro i hi
 dsimp only at hi ⊢
 have hl:=C94 i
 refine k2 (k2 ?_)
 refine A3 (A2 (A4 Z Z) Z (A2 (A4 Z Z) Z (A2 (D8 Z Z) Z (A6 ?_))))
 refine k1 ?_
 refine B4 rfl (fun ht=>?_) (fun ht=>?_)
 ·have hlt:i < n:=by have:=A0 ht;omega
  refine k5 (k1 (k2 (k3 ?_)))
  refine A3 (A2 (A4 Z Z) Z (A2 (F0 Z Z (by (first | omega | (simp only [H95,H96,H98];omega)))) Z (A2 (A5 Z Z) Z (A6 ?_))))
  refine k4 (k1 ?_)
  refine A3 (A2 (A4 Z Z) Z (A2 (B9 Z Z (by omega)) Z (A2 (A5 Z Z) Z (A6 ?_))))
  refine k1 ?_
  refine ⟨i+1,by omega,by omega,?_⟩
  rw [show atS (i+1)=atS i++[64] by unfold atS;exact List.replicate_succ']
  exact H62 ⟨le1 rfl,le1 rfl,le1 rfl,trivial⟩ trivial
 ·have hin:i=n:=by have:=A1 ht;omega
  subst hin
  refine k6 (k2 ?_)
  refine A3 (A2 (A4 Z Z) Z (A2 (A5 Z Z) Z (A6 ?_)))
  refine k1 (k10 ?_)
  exact B5 (F2 rfl rfl rfl) rfl
theorem E73 (r:Row) (n:Nat) (hn:n≤32) (hm:0≤r.Marks∧r.Marks < 4294967296):FnOk Tryz.prog 157 [pRow r,G8 n] (fun rs=>rs=[L4 (Z6 n r)]):=by
 refine FnOk.intro Tryz.func157 (by decide) Z Z Z Z ?_
 refine k2 ?_
 refine A3 (C1 (Q4 2 Z Z Z) Z (A2 (A5 Z Z) Z (A6 ?_)))
 refine k1 (k2 ?_)
 refine A3 (C1 (S8 730 _ u8C Z) Z (A6 ?_))
 refine k1 (k2 (k2 ?_))
 refine A3 (A2 (A5 Z Z) Z (A6 ?_))
 refine k1 (k3 ?_)
 refine C9 (X:=Nat) (fun p=>([(1,B7 n),(2,.s (.one (.ref 2 0))),(5,.s (.one (.buf 730 UInt8 1 u8C (Z6 p r)))),(6,B7 p)],[(2,.box (pRow r).s1.cells),(730,.spare (Z6 p r).length 1 5)])) (fun p=>p≤n) (fun p=>n - p) 0 (Nat.zero_le _) (H62 ⟨le1 rfl,le1 rfl,le1 rfl,le1 rfl,trivial⟩ ⟨rfl,rfl,trivial⟩) ?_
 intro p hp
 dsimp only at hp ⊢
 have hml:=A30 p r
 have hsucc:=C76 p r
 refine k2 (k2 ?_)
 refine A3 (A2 (A4 Z Z) Z (A2 (A4 Z Z) Z (A2 (D8 Z Z) Z (A6 ?_))))
 refine k1 ?_
 refine B4 rfl (fun ht=>?_) (fun ht=>?_)
 ·have hlt:p < n:=by have:=A0 ht;omega
  have hu:=A51 (n:=(p:Int)) (by omega)
  have h3:0≤r.Marks / 2 ^ p:=Int.ediv_nonneg hm.1 (Int.pow_nonneg (by decide))
  have h4:r.Marks / 2 ^ p≤r.Marks:=Int.ediv_le_self _ hm.1
  have e32:r.Marks.fdiv (2 ^ (min (p:Int).toNat IntKind.u32.bits))=r.Marks / 2 ^ p:=E28 r.Marks p (by omega)
  have e1:=C00 (r.Marks / 2 ^ p) (by omega)
  refine k5 (k1 (k2 (k3 (k3 (k2 ?_)))))
  refine A3 (A2 (A7 Z) Z (A2 (A8 Z Z Z) Z (A2 (A4 Z Z) Z (A2 (M1 Z) Z (A2 (A72 Z Z (by (rw [hu];omega))) Z ?_)))));refine A2 (X6 Z Z Z (fun _=>rfl)) Z (A2 (K1 Z Z) Z (A2 (A5 Z Z) Z (A6 ?_)))
  rw [hu,e32,e1]
  refine k1 ?_
  refine B4 rfl (fun ht=>?_) (fun ht=>?_)
  ·have ht:=A0 ht
   have hb:A28 r.Marks p=false:=by unfold A28;simp;omega
   have hmk:A81 r p=32:=by unfold A81;rw [if_pos hb]
   rw [hmk] at hsucc
   skip
   refine A3 (A2 (A4 Z Z) Z (A2 (C8 (c:=u8C) (ys:=[32]) (D7 Z Z Z Z E7) Z Z Z) Z (C1 (F3 Z Z Z (.pure _ _ _ _) (by (simp only [H96,H98];omega)) Z) Z (A2 (A5 Z Z) Z (A6 ?_)))))
   refine k4 (k4 (k1 ?_))
   refine A3 (A2 (A4 Z Z) Z (A2 (B9 Z Z (by omega)) Z (A2 (A5 Z Z) Z (A6 ?_))))
   refine k1 ?_
   refine ⟨p+1,by omega,by omega,?_⟩
   rw [hsucc]
   exact H62 ⟨le1 rfl,le1 rfl,le1 rfl,le1 rfl,trivial⟩ ⟨rfl,rfl,trivial⟩
  have ht:=A1 ht
  have hb:A28 r.Marks p=true:=by unfold A28;simp;omega
  refine k2 ?_
  refine A3 (A2 (A7 Z) Z (A2 (A8 Z Z Z) Z (A2 (A5 Z Z) Z (A6 ?_))))
  refine k1 ?_
  refine B4 rfl (fun ht=>?_) (fun ht=>?_)
  ·have hl:r.Lost=true:=ht
   have hmk:A81 r p=45:=by unfold A81;rw [hb,if_neg (by decide),if_pos hl]
   rw [hmk] at hsucc
   skip
   refine A3 (A2 (A4 Z Z) Z (A2 (C8 (c:=u8C) (ys:=[45]) (D7 Z Z Z Z E7) Z Z Z) Z (C1 (F3 Z Z Z (.pure _ _ _ _) (by (simp only [H96,H98];omega)) Z) Z (A2 (A5 Z Z) Z (A6 ?_)))))
   refine k4 (k4 (k1 ?_))
   refine A3 (A2 (A4 Z Z) Z (A2 (B9 Z Z (by omega)) Z (A2 (A5 Z Z) Z (A6 ?_))))
   refine k1 ?_
   refine ⟨p+1,by omega,by omega,?_⟩
   rw [hsucc]
   exact H62 ⟨le1 rfl,le1 rfl,le1 rfl,le1 rfl,trivial⟩ ⟨rfl,rfl,trivial⟩
  ·have hl:r.Lost=false:=ht
   have hmk:A81 r p=43:=by unfold A81;rw [hb,if_neg (by decide),hl,if_neg (by decide)]
   rw [hmk] at hsucc
   skip
   refine A3 (A2 (A4 Z Z) Z (A2 (C8 (c:=u8C) (ys:=[43]) (D7 Z Z Z Z E7) Z Z Z) Z (C1 (F3 Z Z Z (.pure _ _ _ _) (by (simp only [H96,H98];omega)) Z) Z (A2 (A5 Z Z) Z (A6 ?_)))))
   refine k4 (k4 (k1 ?_))
   refine A3 (A2 (A4 Z Z) Z (A2 (B9 Z Z (by omega)) Z (A2 (A5 Z Z) Z (A6 ?_))))
   refine k1 ?_
   refine ⟨p+1,by omega,by omega,?_⟩
   rw [hsucc]
   exact H62 ⟨le1 rfl,le1 rfl,le1 rfl,le1 rfl,trivial⟩ ⟨rfl,rfl,trivial⟩
 ·have hpn:p=n:=by have:=A1 ht;omega
  subst hpn
  refine k6 (k2 ?_)
  refine A3 (A2 (A4 Z Z) Z (A2 (W0 TyStr.out Z (.buf _ _ _ _ _)) Z (A2 (A5 Z Z) Z (A6 ?_))))
  refine k1 (k10 ?_)
  exact B5 (F2 rfl rfl rfl) rfl
def u6 (c:Comb):List Str:=[A82 c.Dense++X1 c.Path++[10],parS++Y5 c.Parents++[10]]
theorem H03 (n:Nat) (r:Row):(T6 n r).length≤2:=by unfold T6;split<;>simp
theorem D36 (n:Nat) (rs:List Row):(rs.map (T6 n)).flatten.length≤(rs.map Q7).sum:=by
 induction rs with
 | nil=>simp
 | cons x r ih =>
  have h1:=H03 n x
  have h2:2≤Q7 x:=by unfold Q7;omega
  simp only [I05,I11,H95,I27];omega
theorem E74 (n:Nat) (hs:List CHunk):(hs.map (P1 n)).flatten.length≤szC hs:=by
 unfold szC
 induction hs with
 | nil=>simp
 | cons x r ih =>
  have h1:=D36 n x.Rows
  have h2:(P1 n x).length≤A88 x:=by unfold P1 A88;rw [H96];omega
  rw [I05,I11,H95,I05,I27]
  exact Nat.add_le_add h2 ih
set_option maxHeartbeats 1000000
theorem F41 (c:Comb) (hc:CFit c):FnOk Tryz.prog 82 [R2 c] (fun rs=>rs=[L4 (A16 c)]):=by
 obtain ⟨h1,h2,h3,h4,h5⟩:=hc
 have hzl:=A04 c.Hunks
 have hm29:markS.length=29:=rfl
 have hq:=B70 c.Path
 have hf:=E97 c.Parents
 have hkl:(A82 c.Dense).length≤16:=by cases c.Dense<;>decide
 have hpl:parS.length=8:=rfl
 obtain ⟨n,hN⟩:∃n,n=c.Parents.toNat:=⟨_,rfl⟩
 have hNc:c.Parents=(n:Int):=by omega
 have hn:n≤32:=by omega
 have hct:=E98 c (by omega) c.Hunks.length
 have hats:FnOk Tryz.prog 156 [G8 (c.Parents+1)] (fun rs=>rs=[L4 (atS (n+1))]):=by
  have:=rats_ok (n+1) (by omega)
  rwa [show ((n+1:Nat):Int)=c.Parents+1 by omega] at this
 have hal:=C94 (n+1)
 rw [←hN] at h5
 have htl:(u6 c).length=2:=rfl
 refine FnOk.intro Tryz.func82 (by decide) Z Z Z Z ?_
 refine k2 ?_
 refine A3 (C1 (Q4 1 Z Z Z) Z (A2 (A5 Z Z) Z (A6 ?_)))
 refine k1 (k2 ?_)
 refine A3 (A2 (A5 Z Z) Z (A6 ?_))
 refine J4 ?_
 refine r7 [(1,.s (.one (.ref 1 0))),(3,R3 (A82 c.Dense))] [(1,A12 c)] ?_ ?_
 ·refine k2 ?_
  refine A3 (A2 (A7 Z) Z (A2 (A8 Z Z Z) Z (A6 ?_)))
  refine k1 ?_
  refine B4 rfl (fun ht=>?_) (fun ht=>?_)
  ·have h:c.Dense=true:=ht
   skip
   refine A3 (A2 (A5 Z Z) Z (A6 ?_))
   refine k1 ?_
   rw [show A82 c.Dense=ccS by unfold A82;rw [if_pos h]]
   exact H62 ⟨le1 rfl,le1 rfl,trivial⟩ ⟨rfl,trivial⟩
  ·have h:c.Dense=false:=ht
   refine k5 (k1 ?_)
   rw [show A82 c.Dense=combS by unfold A82;rw [h,if_neg (by decide)]]
   exact H62 ⟨le1 rfl,le1 rfl,trivial⟩ ⟨rfl,trivial⟩
 refine k2 ?_
 refine A08 11 (by kernel_rfl) (by kernel_rfl) Z (A9 (A4 Z Z) Z Z (A9 (A7 Z) Z Z (A9 (A8 Z Z Z) Z Z (A9 (H6 (G89 c.Path (by omega)) Z Z) Z Z (A9 (F0 Z Z (by (first | omega | (simp only [H95,H96,H98];omega)))) Z Z (A9 (F0 Z Z (by (first | omega | (simp only [H95,H96,H98];omega)))) Z Z (A9 (A7 Z) Z Z (A9 (A8 Z Z Z) Z Z (A9 (H6 (w9 c.Parents) Z Z) Z Z (A9 (F0 Z Z (by (first | omega | (simp only [H95,H96,H98];omega)))) Z Z (A9 (F0 Z Z (by (first | omega | (simp only [H95,H96,H98];omega)))) Z Z (K0 (d_turn (w7 722 (c:=J9) (ys:=(u6 c)) (D7 Z Z Z Z (D7 Z Z Z Z E7)) Z Z Z (by first | rfl | (simp [F9,H0,Ob.free,SV.free,S1.free,TC.free]<;>rfl))) Z ?_)))))))))))));refine A9 (A5 Z Z) Z Z (K0 ?_)
 refine k1 (k2 (k2 ?_))
 refine A3 (A2 (A5 Z Z) Z (A6 ?_))
 refine k1 (k3 ?_)
 refine C9 (X:=Nat) (fun k=>([(1,.s (.one (.ref 1 0))),(4,.s (.one (.buf 722 Str 1 J9 (u6 c++((c.Hunks.take k).map (P1 n)).flatten)))),(5,B7 k)],[(1,A12 c),(722,.spare (u6 c++((c.Hunks.take k).map (P1 n)).flatten).length 1 9)])) (fun k=>k≤c.Hunks.length) (fun k=>c.Hunks.length - k) 0 (Nat.zero_le _) (H62 ⟨le1 rfl,le1 rfl,le1 rfl,trivial⟩ ⟨rfl,rfl,trivial⟩) ?_
 intro k hk
 dsimp only at hk ⊢
 have hcp:=E74 n (c.Hunks.take k)
 have hct2:=D62 c.Hunks k
 refine k2 (k2 ?_)
 refine A3 (A2 (A4 Z Z) Z (A2 (A7 Z) Z (A2 (A8 Z Z Z) Z (A2 (D4 Z (.pure _ _ _ _)) Z (A2 (D8 Z Z) Z (A6 ?_))))))
 refine k1 ?_
 refine B4 rfl (fun ht=>?_) (fun ht=>?_)
 ·have hlt:k < c.Hunks.length:=by have:=A0 ht;omega
  have hv:c.Hunks[k]?=some c.Hunks[k]:=by simp [hlt]
  have hmem:=I07 hlt
  have hrw:=h4 _ hmem
  have hat:=h5 _ hmem
  have hzm:=A68 hmem
  have hsucc:((c.Hunks.take (k+1)).map (P1 n)).flatten=((c.Hunks.take k).map (P1 n)).flatten++P1 n c.Hunks[k]:=by
   rw [I04 hlt]
   simp only [I09,I05,I25,I21,I11,I39,I14]
  obtain ⟨h,hx⟩:∃x,x=c.Hunks[k]:=⟨_,rfl⟩
  rw [←hx] at hv hrw hat hzm hsucc
  have hz1:=R7 h.Rows
  unfold A88 at hzm
  have hhl:=B33 hn h
  have hgA:∀j,j < n+1→h.At[j]?=some (h.At.getD j 0):=fun j hj=>D63 (by omega)
  have hrA:∀j,j < n+1 → -4611686018427387904≤h.At.getD j 0∧h.At.getD j 0≤4611686018427387904:=fun j hj=>hat.2 _ (I12 (hgA j hj))
  obtain ⟨base,hbase⟩:∃base,base=u6 c++((c.Hunks.take k).map (P1 n)).flatten:=⟨_,rfl⟩
  have hbl:base.length≤2+268435456:=by rw [hbase,H95];omega
  rw [←hbase]
  refine k5 (k1 (k2 (k3 (k2 ?_))))
  refine A3 (A2 (A7 Z) Z (A2 (A8 Z Z Z) Z (A2 (A4 Z Z) Z (A2 (B0 Z (.pure _ _ _ _) Z (by omega) hv) Z (A2 (E8 Z Z) Z (C1 (G3 6 Z) Z (F6 (B8 TySz.out Z Z Z Z Z Z) (A6 ?_))))))))
  refine k1 (k2 ?_)
  refine A3 (A2 (A7 Z) Z (A2 (A8 Z Z Z) Z (A2 (B9 Z Z (by omega)) Z (C3 (hats) Z Z Z ?_))));rintro _ rfl;refine A2 (A5 Z Z) Z (A6 ?_)
  refine k1 (k2 (k2 ?_))
  refine A3 (A2 (A5 Z Z) Z (A6 ?_))
  refine k1 (k3 ?_)
  refine C9 (X:=Nat) (fun j=>([(1,.s (.one (.ref 1 0))),(4,.s (.one (.buf 722 Str 1 J9 base))),(5,B7 k),(6,.s (.one (.ref 6 0))),(7,R3 (atS (n+1)++T3 n h j)),(8,B7 j)],[(1,A12 c),(722,.spare base.length 1 9),(6,.box (A65 h).s1.cells)])) (fun j=>j≤n+1) (fun j=>n+1 - j) 0 (Nat.zero_le _) ?_ ?_
  ·rw [show T3 n h 0=[] from rfl,I14]
   exact H62 ⟨le1 rfl,le1 rfl,le1 rfl,le1 rfl,le1 rfl,le1 rfl,trivial⟩ ⟨rfl,rfl,rfl,trivial⟩
  intro j hj
  dsimp only at hj ⊢
  have hsl:=A69 n h j
  have hss:=A05 n h j
  refine k2 (k2 ?_)
  refine A3 (A2 (A4 Z Z) Z (A2 (A7 Z) Z (A2 (A8 Z Z Z) Z (A2 (c6 Z Z) Z (A6 ?_)))))
  refine k1 ?_
  refine B4 rfl (fun ht=>?_) (fun ht=>?_)
  ·have hlt2:j < n+1:=by have:=A0 ht;omega
   have hga:=hgA j hlt2
   have hra:=hrA j hlt2
   have hcl:=B28 h.Rows (Q6 n j)
   have hrl:=A00 (h.At.getD j 0) (L7 h.Rows n j)
   have hcol:=y9 h.Rows (Q6 n j) hrw (by omega)
   have hcn:=B62 j n
   rw [←hNc] at hcn
   have hrr:=G88 (h.At.getD j 0) ((O1 h.Rows (Q6 n j)).length:Int) hra (by omega)
   have hsw:C73 n h j=[32,E94 n j]++N5 (h.At.getD j 0) ((O1 h.Rows (Q6 n j)).length:Int):=rfl
   have hrl:(N5 (h.At.getD j 0) ((O1 h.Rows (Q6 n j)).length:Int)).length≤21:=hrl
   obtain ⟨S,hS⟩:∃S,S=atS (n+1)++T3 n h j:=⟨_,rfl⟩
   have hSl:S.length≤1000:=by rw [hS,H95];omega
   have hSs:atS (n+1)++T3 n h (j+1)=S++[32,E94 n j]++N5 (h.At.getD j 0) ((O1 h.Rows (Q6 n j)).length:Int):=by rw [hss,hS,hsw];simp
   rw [←hS]
   refine k5 (k1 (k2 (k3 (k2 ?_))))
   refine A3 (A2 (A5 Z Z) Z (A6 ?_))
   refine k1 (k2 (k2 ?_))
   refine A3 (A2 (A4 Z Z) Z (A2 (A7 Z) Z (A2 (A8 Z Z Z) Z (A2 (K1 Z Z) Z (A6 ?_)))))
   refine k1 ?_
   refine B4 rfl (fun ht=>?_) (fun ht=>?_)
   ·have hjn:=A0 ht
    have hsg:E94 n j=43:=by unfold E94;rw [if_pos (by omega)]
    rw [hsg] at hSs
    skip
    refine A3 (A2 (A5 Z Z) Z (A6 ?_))
    refine k1 ?_
    refine C6 (by kernel_rfl) (by kernel_rfl) (A9 (A4 Z Z) Z Z (A9 (A4 Z Z) Z Z (A9 (F0 Z Z (by (first | omega | (simp only [H95,H96,H98];omega)))) Z Z (A9 (A7 Z) Z Z (A9 (A8 Z Z Z) Z Z (A9 (A4 Z Z) Z Z (A9 (B0 Z (.pure _ _ _ _) Z (by omega) hga) Z Z (A9 (B2 Z Z) Z Z (A9 (A7 Z) Z Z (A9 (A8 Z Z Z) Z Z (A9 (A4 Z Z) Z Z (A9 (A7 Z) Z Z (A9 (A8 Z Z Z) Z Z (A9 (H6 (hcn) Z Z) Z Z (A9 (H6 (hcol) Z Z) Z Z (A9 (D4 Z (.pure _ _ _ _)) Z Z (A9 (H6 (hrr) Z Z) Z Z (A9 (F0 Z Z (by (first | omega | (simp only [H95,H96,H98];omega)))) Z Z (A9 (A5 Z Z) Z Z (K0 ?_))))))))))))))))))))
    refine k4 (k1 ?_)
    refine A3 (A2 (A4 Z Z) Z (A2 (B9 Z Z (by omega)) Z (A2 (A5 Z Z) Z (A6 ?_))))
    refine k1 ?_
    refine ⟨j+1,by omega,by omega,?_⟩
    rw [hSs]
    exact H62 ⟨le1 rfl,le1 rfl,le1 rfl,le1 rfl,le1 rfl,le1 rfl,trivial⟩ ⟨rfl,rfl,rfl,trivial⟩
   ·have hjn:=A1 ht
    have hsg:E94 n j=45:=by unfold E94;rw [if_neg (by omega)]
    rw [hsg] at hSs
    refine k5 (k1 ?_)
    refine C6 (by kernel_rfl) (by kernel_rfl) (A9 (A4 Z Z) Z Z (A9 (A4 Z Z) Z Z (A9 (F0 Z Z (by (first | omega | (simp only [H95,H96,H98];omega)))) Z Z (A9 (A7 Z) Z Z (A9 (A8 Z Z Z) Z Z (A9 (A4 Z Z) Z Z (A9 (B0 Z (.pure _ _ _ _) Z (by omega) hga) Z Z (A9 (B2 Z Z) Z Z (A9 (A7 Z) Z Z (A9 (A8 Z Z Z) Z Z (A9 (A4 Z Z) Z Z (A9 (A7 Z) Z Z (A9 (A8 Z Z Z) Z Z (A9 (H6 (hcn) Z Z) Z Z (A9 (H6 (hcol) Z Z) Z Z (A9 (D4 Z (.pure _ _ _ _)) Z Z (A9 (H6 (hrr) Z Z) Z Z (A9 (F0 Z Z (by (first | omega | (simp only [H95,H96,H98];omega)))) Z Z (A9 (A5 Z Z) Z Z (K0 ?_))))))))))))))))))))
    refine k4 (k1 ?_)
    refine A3 (A2 (A4 Z Z) Z (A2 (B9 Z Z (by omega)) Z (A2 (A5 Z Z) Z (A6 ?_))))
    refine k1 ?_
    refine ⟨j+1,by omega,by omega,?_⟩
    rw [hSs]
    exact H62 ⟨le1 rfl,le1 rfl,le1 rfl,le1 rfl,le1 rfl,le1 rfl,trivial⟩ ⟨rfl,rfl,rfl,trivial⟩
  ·have hjn:j=n+1:=by have:=A1 ht;omega
   subst hjn
   obtain ⟨S,hS⟩:∃S,S=atS (n+1)++T3 n h (n+1):=⟨_,rfl⟩
   have hSl:S.length≤1000:=by rw [hS,H95];omega
   have hhd:A80 n h++[10]=S++[32]++atS (n+1)++[10]:=by unfold A80;rw [hS]
   rw [←hS]
   refine k6 (k2 ?_)
   refine A3 (A2 (A4 Z Z) Z (A2 (A4 Z Z) Z (A2 (F0 Z Z (by (first | omega | (simp only [H95,H96,H98];omega)))) Z (A2 (A7 Z) Z (A2 (A8 Z Z Z) Z (A2 (B9 Z Z (by omega)) Z (C3 (hats) Z Z Z ?_)))))));rintro _ rfl;refine A2 (F0 Z Z (by (first | omega | (simp only [H95,H96,H98];omega)))) Z (A2 (F0 Z Z (by (first | omega | (simp only [H95,H96,H98];omega)))) Z (A2 (C8 (c:=J9) (ys:=[_]) (D7 Z Z Z Z E7) Z Z Z) Z (C1 (F3 Z Z Z (.pure _ _ _ _) (by (simp only [H96,H98];omega)) Z) Z (A2 (A5 Z Z) Z (A6 ?_)))))
   rw [←hhd]
   refine k1 (k2 ?_)
   refine A3 (A2 (A5 Z Z) Z (A6 ?_))
   refine k1 (k3 ?_)
   obtain ⟨hd,hhd2⟩:∃hd,hd=A80 n h++[10]:=⟨_,rfl⟩
   rw [←hhd2]
   refine C9 (X:=Nat) (fun i=>([(1,.s (.one (.ref 1 0))),(4,.s (.one (.buf 722 Str 1 J9 (base++(hd::((h.Rows.take i).map (T6 n)).flatten))))),(5,B7 k),(6,.s (.one (.ref 6 0))),(10,B7 i)],[(1,A12 c),(722,.spare (base++(hd::((h.Rows.take i).map (T6 n)).flatten)).length 1 9),(6,.box (A65 h).s1.cells)])) (fun i=>i≤h.Rows.length) (fun i=>h.Rows.length - i) 0 (Nat.zero_le _) (H62 ⟨le1 rfl,le1 rfl,le1 rfl,le1 rfl,le1 rfl,trivial⟩ ⟨rfl,rfl,rfl,trivial⟩) ?_
   intro i hi
   dsimp only at hi ⊢
   have hrp:=D36 n (h.Rows.take i)
   have hrt:=D61 h.Rows i
   refine k2 (k2 ?_)
   refine A3 (A2 (A4 Z Z) Z (A2 (A7 Z) Z (A2 (A8 Z Z Z) Z (A2 (D4 Z (.pure _ _ _ _)) Z (A2 (D8 Z Z) Z (A6 ?_))))))
   refine k1 ?_
   refine B4 rfl (fun ht=>?_) (fun ht=>?_)
   ·have hlt2:i < h.Rows.length:=by have:=A0 ht;omega
    have hv2:h.Rows[i]?=some h.Rows[i]:=by simp [hlt2]
    have hmem2:=I07 hlt2
    have hrm:=C44 hmem2
    have hmm:=hrw _ hmem2
    have hsucc2:((h.Rows.take (i+1)).map (T6 n)).flatten=((h.Rows.take i).map (T6 n)).flatten++T6 n h.Rows[i]:=by
     rw [I04 hlt2]
     simp only [I09,I05,I25,I21,I11,I39,I14]
    obtain ⟨r,hy⟩:∃x,x=h.Rows[i]:=⟨_,rfl⟩
    rw [←hy] at hv2 hrm hmm hsucc2
    have hrm:r.Text.length+96≤(h.Rows.map Q7).sum:=hrm
    have hml:=A30 n r
    have hmk:=E73 r n hn hmm
    rw [←hNc] at hmk
    obtain ⟨bs,hbs⟩:∃bs,bs=base++(hd::((h.Rows.take i).map (T6 n)).flatten):=⟨_,rfl⟩
    have hbsl:bs.length≤2+268435456+1+268435456:=by rw [hbs,H95,H96];omega
    have hsucc3:base++(hd::((h.Rows.take (i+1)).map (T6 n)).flatten)=bs++T6 n r:=by rw [hsucc2,hbs];simp
    rw [←hbs]
    refine k5 (k1 (k2 (k3 (k2 ?_))))
    refine C6 (by kernel_rfl) (by kernel_rfl) (A9 (A4 Z Z) Z Z (A9 (A7 Z) Z Z (A9 (A8 Z Z Z) Z Z (A9 (A4 Z Z) Z Z (A9 (B0 Z (.pure _ _ _ _) Z (by omega) hv2) Z Z (A9 (E8 Z Z) Z Z (A9 (A7 Z) Z Z (A9 (A8 Z Z Z) Z Z (A9 (H6 (hmk) Z Z) Z Z (A9 (A7 Z) Z Z (A9 (A8 Z Z Z) Z Z (A9 (A4 Z Z) Z Z (A9 (B0 Z (.pure _ _ _ _) Z (by omega) hv2) Z Z (A9 (D6 Z) Z Z (A9 (B2 Z Z) Z Z (A9 (F0 Z Z (by (first | omega | (simp only [H95,H96,H98];omega)))) Z Z (A9 (C8 (c:=J9) (ys:=[_]) (D7 Z Z Z Z E7) Z Z Z) Z Z (B51 (F3 Z Z Z (.pure _ _ _ _) (by (simp only [H96,H98];omega)) Z) Z Z (A9 (A5 Z Z) Z Z (K0 ?_))))))))))))))))))))
    refine k1 (k2 ?_)
    refine A3 (A2 (A7 Z) Z (A2 (A8 Z Z Z) Z (A2 (A4 Z Z) Z (A2 (B0 Z (.pure _ _ _ _) Z (by omega) hv2) Z (A2 (D6 Z) Z (A2 (B2 Z Z) Z (C3 (F20 r.Text (by omega)) Z Z Z ?_)))))));rintro _ rfl;refine A2 (K9 Z) Z (A6 ?_)
    refine k1 ?_
    refine B4 rfl (fun ht=>?_) (fun ht=>?_)
    ·have he:ended r.Text=false:=by simpa using ht
     have e:T6 n r=[Z6 n r++r.Text]++[markS]:=by unfold T6;rw [he,if_neg (by decide)];rfl
     skip
     refine A3 (A2 (A4 Z Z) Z (A2 (C8 (c:=J9) (ys:=[markS]) (D7 Z Z Z Z E7) Z Z Z) Z (C1 (F3 Z Z Z (.pure _ _ _ _) (by (first | omega | (simp only [H95,H96,H98];omega))) Z) Z (A2 (A5 Z Z) Z (A6 ?_)))))
     refine k4 (k1 ?_)
     refine A3 (A2 (A4 Z Z) Z (A2 (B9 Z Z (by omega)) Z (A2 (A5 Z Z) Z (A6 ?_))))
     refine k1 ?_
     refine ⟨i+1,by omega,by omega,?_⟩
     rw [hsucc3,e,←I06]
     exact H62 ⟨le1 rfl,le1 rfl,le1 rfl,le1 rfl,le1 rfl,trivial⟩ ⟨rfl,rfl,rfl,trivial⟩
    ·have he:ended r.Text=true:=by simpa using ht
     have e:T6 n r=[Z6 n r++r.Text]:=by unfold T6;rw [if_pos he]
     refine k5 (k4 (k1 ?_))
     refine A3 (A2 (A4 Z Z) Z (A2 (B9 Z Z (by omega)) Z (A2 (A5 Z Z) Z (A6 ?_))))
     refine k1 ?_
     refine ⟨i+1,by omega,by omega,?_⟩
     rw [hsucc3,e]
     exact H62 ⟨le1 rfl,le1 rfl,le1 rfl,le1 rfl,le1 rfl,trivial⟩ ⟨rfl,rfl,rfl,trivial⟩
   ·have hil:i=h.Rows.length:=by have:=A1 ht;omega
    subst hil
    rw [I16]
    have e:u6 c++((c.Hunks.take (k+1)).map (P1 n)).flatten=base++(hd::(h.Rows.map (T6 n)).flatten):=by
     rw [hsucc,←I06,←hbase,hhd2];rfl
    refine k6 (k7 (k7 (k8 Z (k4 (k1 ?_)))))
    refine A3 (A2 (A4 Z Z) Z (A2 (B9 Z Z (by omega)) Z (A2 (A5 Z Z) Z (A6 ?_))))
    refine k1 ?_
    refine ⟨k+1,by omega,by omega,?_⟩
    rw [e]
    exact H62 ⟨le1 rfl,le1 rfl,le1 rfl,trivial⟩ ⟨rfl,rfl,trivial⟩
 ·have hkl:k=c.Hunks.length:=by have:=A1 ht;omega
  subst hkl
  have e:(u6 c++((c.Hunks.take c.Hunks.length).map (P1 n)).flatten).flatten=A16 c:=by
   rw [I16,hN];unfold A16 G32 u6;simp
  rw [D66] at hct
  have hao:=all_ok (u6 c++((c.Hunks.take c.Hunks.length).map (P1 n)).flatten) (by rw [e];omega)
  rw [e] at hao
  refine k6 (k2 ?_)
  refine A3 (A2 (A4 Z Z) Z (C3 (hao) Z Z Z ?_));rintro _ rfl;refine A2 (A5 Z Z) Z (A6 ?_)
  refine k1 (k10 ?_)
  exact B5 (F2 rfl rfl rfl) rfl
theorem F42 (c:Comb) (hz:szC c.Hunks≤268435456) (hr:∀h∈c.Hunks,I7 h.Rows):FnOk Tryz.prog 50 [R2 c] (fun rs=>rs=[G8 (I5 c)]):=by
 refine FnOk.intro Tryz.func50 (by decide) Z Z Z Z ?_
 refine k2 ?_
 refine A3 (C1 (Q4 1 Z Z Z) Z (A2 (A5 Z Z) Z (A6 ?_)))
 refine k1 (k2 (k3 (k2 ?_)))
 refine A3 (A2 (A7 Z) Z (A2 (A8 Z Z Z) Z (C3 (F29 c.Path) Z Z Z ?_)));rintro _ rfl;refine A2 (K9 Z) Z (A2 (A5 Z Z) Z (A6 ?_))
 refine k1 ?_
 refine B4 rfl (fun ht=>?_) (fun ht=>?_)
 ·have h:S7 c.Path=false:=by simpa using ht
  refine k2 ?_
  refine A3 (A2 (A5 Z Z) Z (A6 ?_))
  refine k1 (k10 (k12 (k11 ?_)))
  exact B5 (F2 rfl rfl rfl) (by unfold I5;rw [if_pos h])
 have h:S7 c.Path=true:=by simpa using ht
 have hpl:=A0 h
 refine k2 ?_
 refine A3 (A2 (A7 Z) Z (A2 (A8 Z Z Z) Z (A2 (D8 Z Z) Z (A2 (A4 Z Z) Z (B1 Z Z Z Z (fun hg=>by rw [hg];exact A7 Z) ?_)))));refine B1 Z Z Z Z (fun hg=>by rw [hg];exact A8 Z Z Z) ?_;refine B1 Z Z Z Z (fun hg=>by rw [hg];exact M7 Z Z) ?_;refine A2 (B6 Z (fun h=>by first | rfl | (rw [h];rfl)) (fun h=>by first | rfl | (rw [h];rfl))) Z ?_;refine A2 (A5 Z Z) Z (A6 ?_)
 refine k1 ?_
 refine B4 rfl (fun ht=>?_) (fun ht=>?_)
 ·have h1:=A0 (or_pick.symm.trans ht)
  refine k2 ?_
  refine A3 (A2 (A5 Z Z) Z (A6 ?_))
  refine k1 (k10 (k12 (k11 ?_)))
  exact B5 (F2 rfl rfl rfl) (by unfold I5;rw [if_neg (by rw [h];decide),if_pos (by omega)])
 have h1:=A1 (or_pick.symm.trans ht)
 have hn:1≤c.Parents∧c.Parents≤32:=by omega
 refine k2 ?_
 refine A3 (A2 (D2 Z Z Z) Z (C3 (F37 c (by omega) hr hz) Z Z Z ?_));rintro _ rfl;refine A2 (K9 Z) Z (A2 (A5 Z Z) Z (A6 ?_))
 refine k1 ?_
 refine B4 rfl (fun ht=>?_) (fun ht=>?_)
 ·have h2:V2 c.Parents.toNat c.Hunks=false:=by simpa using ht
  refine k2 ?_
  refine A3 (A2 (A5 Z Z) Z (A6 ?_))
  refine k1 (k10 (k12 (k11 ?_)))
  exact B5 (F2 rfl rfl rfl) (by unfold I5;rw [if_neg (by rw [h];decide),if_neg (by omega),if_pos h2])
 have h2:V2 c.Parents.toNat c.Hunks=true:=by simpa using ht
 refine k2 ?_
 refine A3 (A2 (D2 Z Z Z) Z (C3 (F40 c hn hr hz) Z Z Z ?_));rintro _ rfl;refine A2 (K9 Z) Z (A2 (A5 Z Z) Z (A6 ?_))
 refine k1 ?_
 refine B4 rfl (fun ht=>?_) (fun ht=>?_)
 ·have h3:P7 c.Parents.toNat c.Hunks=false:=by simpa using ht
  refine k2 ?_
  refine A3 (A2 (A5 Z Z) Z (A6 ?_))
  refine k1 (k10 (k12 (k11 ?_)))
  exact B5 (F2 rfl rfl rfl) (by unfold I5;rw [if_neg (by rw [h];decide),if_neg (by omega),if_neg (by rw [h2];decide),if_pos h3])
 have h3:P7 c.Parents.toNat c.Hunks=true:=by simpa using ht
 refine k2 ?_
 refine A3 (A2 (D2 Z Z Z) Z (C3 (F41 c (C30 (by omega) hn hz hr h3)) Z Z Z ?_));rintro _ rfl;refine A2 (L0 Z) Z (A2 (M7 Z Z) Z (A2 (A5 Z Z) Z (A6 ?_)))
 refine k1 ?_
 refine B4 rfl (fun ht=>?_) (fun ht=>?_)
 ·have h4:=A0 ht
  refine k2 ?_
  refine A3 (A2 (A5 Z Z) Z (A6 ?_))
  refine k1 (k10 (k12 (k11 ?_)))
  exact B5 (F2 rfl rfl rfl) (by unfold I5;rw [if_neg (by rw [h];decide),if_neg (by omega),if_neg (by rw [h2];decide),if_neg (by rw [h3];decide),if_pos (by omega)])
 have h4:=A1 ht
 refine k5 (k2 ?_)
 refine A3 (A2 (A5 Z Z) Z (A6 ?_))
 refine k1 (k10 ?_)
 exact B5 (F2 rfl rfl rfl) (by unfold I5;rw [if_neg (by rw [h];decide),if_neg (by omega),if_neg (by rw [h2];decide),if_neg (by rw [h3];decide),if_neg (by omega)])
end Go.Proofs.YtgejaedjnbjpoaaGreatDoor
namespace Go.Proofs.YtgejaedjnbjpoaaGreatDoor
open Go Go.AL
set_option maxRecDepth 100000
theorem B45 {b:Str} (h:b.length≤200):W9 b=0:=by
 have:=Q5 b
 rw [W9,if_neg (by omega)]
theorem H04 {m r:Nat} {z:TC} (h:r < m):(Q9 m m z)[r]?=some (.mut (r+1000)):=by
 unfold Q9;rw [I20,I23 h];simp [h]
def A78 (f:Int→Int) (l:List Int) (k:Nat):List Int:=(l.take k).map f++l.drop k
theorem E75 (f:Int→Int) (l:List Int) (k:Nat):(A78 f l k).length=l.length:=by simp [A78];omega
theorem H05 (f:Int→Int) (l:List Int) (k:Nat) (h:k < l.length):(A78 f l k)[k]?=some (l.getD k 0):=by
 unfold A78
 rw [I17 (by simp;omega)]
 simp [show k - min k l.length=0 by omega,H97 h,I00]
theorem H06 (f:Int→Int) (l:List Int) (k:Nat) (h:k < l.length):(A78 f l k).set k (f (l.getD k 0))=A78 f l (k+1):=by
 unfold A78
 rw [List.set_append_right _ _ (by simp;omega),I01 h,I04 h]
 have e:k - min k l.length=0:=by omega
 simp only [I19,I13,e,List.set_cons_zero,I09,I05,I25,I06,I40,I00,H97 h,Option.getD_some]
theorem G14 (f:Int→Int) (l:List Int):A78 f l 0=l:=by simp [A78]
theorem G15 (f:Int→Int) (l:List Int):A78 f l l.length=l.map f:=by simp [A78]
set_option maxHeartbeats 1000000
theorem H07 (result:Str) (parents:List Str) (h0:result.length≤200) (h1:∀b∈parents,b.length≤200):FnOk Tryz.prog 51 [L4 result,t6 parents] (fun rs=>rs=[pTable (M5 result parents).1,G8 (M5 result parents).2]):=by
 refine FnOk.intro Tryz.func51 (by decide) Z Z Z Z ?_
 refine y4 (t:=1) rfl (.pure _ _ _ _) fun hplen=>?_
 refine k2 ?_
 refine A3 (C1 (G3 4 Z) Z (A2 (A5 Z Z) Z (A6 ?_)))
 refine k1 (k2 ?_)
 refine A3 (A2 (A4 Z Z) Z (A2 (D4 Z (.pure _ _ _ _)) Z (A2 (A5 Z Z) Z (A6 ?_))))
 refine k1 (k2 (k2 ?_))
 refine A3 (A2 (A4 Z Z) Z (A2 (D8 Z Z) Z (A2 (A4 Z Z) Z (B1 Z Z Z Z (fun hg=>by rw [hg];exact A4 Z Z) ?_))));refine B1 Z Z Z Z (fun hg=>by rw [hg];exact M7 Z Z) ?_;refine A2 (B6 Z (fun h=>by first | rfl | (rw [h];rfl)) (fun h=>by first | rfl | (rw [h];rfl))) Z ?_;refine A6 ?_
 refine k1 ?_
 refine B4 rfl (fun ht=>?_) (fun ht=>?_)
 ·have h:=A0 (or_pick.symm.trans ht)
  refine k2 ?_
  refine A3 (A2 (G6 Z) Z (F6 (B8 TySz.out Z Z Z Z Z Z) (A2 (A5 Z Z) Z (A6 ?_))))
  refine k1 ?_
  refine G4 (H65 Row 3 rowC 4 1 Z Z) ?_
  refine k10 (k11 ?_)
  exact B5 (rs:=[pTable ⟨0,[]⟩,G8 2]) (c9 rfl rfl rfl rfl rfl rfl rfl) (by rw [M5,if_pos (by omega)])
 ·have h := A1 (or_pick.symm.trans ht)
  refine L1 [(0,R3 result),(1,C0 Str 1 J9 parents),(4,.s (.one (.ref 4 0))),(6,B7 parents.length)] [(4,.box [.p (.v (.int .i64 0)),.p (.v (.slice none 0 0))])] (H62 ⟨le1 rfl,le1 rfl,le1 rfl,le1 rfl,trivial⟩ ⟨rfl,trivial⟩) ?_
  refine k5 (k1 (k2 ?_))
  refine A3 (A2 (A4 Z Z) Z (C3 (B92 result (by omega)) Z Z Z ?_));rintro _ rfl;refine C1 (w7 39 (c:=strsC) (ys:=[_]) (D7 Z Z Z Z E7) Z Z Z (by first | rfl | (simp [F9,H0,Ob.free,SV.free,S1.free,TC.free]<;>rfl))) Z ?_;refine A2 (A5 Z Z) Z (A6 ?_)
  refine k1 (k2 (k2 ?_))
  refine A3 (A2 (A4 Z Z) Z (C3 (F21 result (by omega)) Z Z Z ?_));rintro _ rfl;refine A2 (A5 Z Z) Z (A6 ?_)
  refine k1 (k2 ?_)
  rw [B45 h0]
  refine A3 (A2 (A4 Z Z) Z (A2 (O3 Z Z) Z (A6 ?_)))
  refine k1 ?_
  refine B4 rfl (fun ht=>?_) (fun ht=>?_)
  ·cases A0 ht rfl
  ·refine k5 (k1 (k2 (k2 ?_)))
   refine A3 (A2 (A5 Z Z) Z (A6 ?_))
   refine k1 (k3 ?_)
   obtain ⟨n,hn⟩:∃n,n=parents.length:=⟨_,rfl⟩
   rw [←hn] at h
   refine C9 (X:=Nat) (fun p=>([(1,C0 Str 1 J9 parents),(4,.s (.one (.ref 4 0))),(6,B7 n),(7,.s (.one (.buf 39 (List Str) 1 strsC (C4 result::(parents.take p).map C4)))),(9,B7 p)],[(4,.box [.p (.v (.int .i64 0)),.p (.v (.slice none 0 0))]),(39,.spare (C4 result::(parents.take p).map C4).length 1 76)])) (fun p=>p≤n) (fun p=>n - p) 0 (Nat.zero_le _) (by rw [hn];exact H62 ⟨le1 rfl,le1 rfl,le1 rfl,le1 rfl,le1 rfl,trivial⟩ ⟨rfl,rfl,trivial⟩) ?_
   intro p hp
   dsimp only at hp ⊢
   have hfl:(C4 result::(parents.take p).map C4).length=p+1:=by simp;omega
   refine k2 (k2 ?_)
   refine A3 (A2 (A4 Z Z) Z (A2 (A4 Z Z) Z (A2 (D8 Z Z) Z (A6 ?_))))
   refine k1 ?_
   refine B4 rfl (fun ht=>?_) (fun ht=>?_)
   ·have hlt:p < parents.length:=by have:=A0 ht;omega
    have hv:parents[p]?=some parents[p]:=by simp [hlt]
    have hb:=h1 _ (I07 hlt)
    have hst:C4 result::(parents.take (p+1)).map C4=(C4 result::(parents.take p).map C4)++[C4 parents[p]]:=by
     rw [List.take_add_one,hv,Option.toList_some,I09];rfl
    refine k5 (k1 (k2 (k3 (k2 (k2 ?_)))))
    refine A3 (A2 (A4 Z Z) Z (A2 (A4 Z Z) Z ?_));refine A2 (B0 rfl (.pure _ _ _ _) rfl (by omega) (H97 (by omega))) rfl ?_;refine A2 (B2 Z Z) Z (C3 (F21 parents[p] (by omega)) Z Z Z ?_);rintro _ rfl;refine A2 (A5 Z Z) Z (A6 ?_)
    refine k1 (k2 ?_)
    rw [B45 hb]
    refine A3 (A2 (A4 Z Z) Z (A2 (O3 Z Z) Z (A6 ?_)))
    refine k1 ?_
    refine B4 rfl (fun ht=>?_) (fun ht=>?_)
    ·cases A0 ht rfl
    ·refine k5 (k1 ?_)
     refine A3 (A2 (A4 Z Z) Z (A2 (A4 Z Z) Z (A2 (A4 Z Z) Z ?_)));refine A2 (B0 rfl (.pure _ _ _ _) rfl (by omega) (H97 (by omega))) rfl ?_;refine A2 (B2 Z Z) Z (C3 (B92 parents[p] (by omega)) Z Z Z ?_);rintro _ rfl;refine A2 (C8 (c:=strsC) (ys:=[_]) (D7 Z Z Z Z E7) Z Z Z) Z (C1 (F3 Z Z Z (.pure _ _ _ _) (by (rw [hfl];simp only [H96,H98];omega)) Z) Z ?_);refine A2 (A5 Z Z) Z (A6 ?_)
     refine k4 (k1 ?_)
     refine A3 (A2 (A4 Z Z) Z (A2 (B9 Z Z (by omega)) Z (A2 (A5 Z Z) Z (A6 ?_))))
     refine k1 ?_
     refine ⟨p+1,by omega,by omega,?_⟩
     rw [hst]
     exact H62 ⟨le1 rfl,le1 rfl,le1 rfl,le1 rfl,le1 rfl,trivial⟩ ⟨rfl,rfl,trivial⟩
   ·have hp':p=n:=by have:=A1 ht;omega
    rw [hp',hn,I16]
    rw [hp',hn,I16] at hfl
    rw [←hn] at hfl ⊢
    obtain ⟨fs,hfs⟩:∃fs,fs=C4 result::parents.map C4:=⟨_,rfl⟩
    rw [←hfs] at hfl ⊢
    have hfsB:∀f∈fs,f.length≤200∧f.flatten.length≤200:=by
     intro f hf
     rw [hfs] at hf
     rcases List.mem_cons.1 hf with rfl | hf
     ·have:=Q5 result;rw [U2];omega
     ·obtain ⟨b,hb,rfl⟩:=List.mem_map.1 hf
      have:=Q5 b;have:=h1 b hb;rw [U2];omega
    have hmk:M5 result parents=if ∃k,k < (C4 result).length+1∧(E9 ((P9 (fs.map (K3 (E1 fs))) (C4 result).length n n).2 k)).2≠0 then (⟨0,[]⟩,1) else (⟨n,U0 (E1 fs) (C4 result) (P9 (fs.map (K3 (E1 fs))) (C4 result).length n n) ((C4 result).length+1)⟩,0):=by
     rw [M5,if_neg (by omega),hn,hfs]
    have hn1:fs.length=n+1:=by rw [hfl]
    have hf0:fs[0]?=some (C4 result):=by rw [hfs];rfl
    have hflat:fs.flatten.length≤6600:=by
     have key:∀l:List (List Str),(∀f∈l,f.length≤200∧f.flatten.length≤200)→l.flatten.length≤200*l.length:=by
      intro l hl
      induction l with
      | nil=>simp
      | cons x r ih=>have:=ih (fun f hf=>hl f (by simp [hf]));have:=(hl x (by simp)).1;simp only [I11,H95,H96];omega
     have:=key fs hfsB;omega
    obtain ⟨names,hnames⟩:∃names,names=E1 fs:=⟨_,rfl⟩
    obtain ⟨ids,hids⟩:∃ids,ids=fs.map (K3 names):=⟨_,rfl⟩
    obtain ⟨L,hL⟩:∃L,L=(C4 result).length:=⟨_,rfl⟩
    have hLB:L≤200:=by rw [hL];exact (hfsB _ (by rw [hfs];simp)).1
    have hidsl:ids.length=n+1:=by rw [hids,I19,hn1]
    have hidB:∀x∈ids,x.length≤200∧∀v∈x,0≤v∧v < (names.length:Int):=by
     intro x hx
     rw [hids,hnames] at hx
     have h2:=ids_in fs x hx
     obtain ⟨f,hf,rfl⟩:=List.mem_map.1 hx
     exact ⟨by rw [K3,I19];exact (hfsB f hf).1,by rw [hnames];exact h2⟩
    have hid0:(ids.getD 0 []).length=L:=by rw [hids,I00,I20,hf0,hL];simp [K3]
    have hv0:ids[0]?=some (ids.getD 0 []):=by rw [I00,H97 (by omega)];rfl
    refine L1 [(4,.s (.one (.ref 4 0))),(6,B7 n),(7,C0 (List Str) 1 strsC fs)] [(4,.box [.p (.v (.int .i64 0)),.p (.v (.slice none 0 0))])] (H62 ⟨le1 rfl,le1 rfl,leL rfl,trivial⟩ ⟨rfl,trivial⟩) ?_
    refine k6 (k2 ?_)
    refine A3 (A2 (A4 Z Z) Z (C3 (F23 fs (by omega)) Z Z Z ?_));rintro _ rfl;refine A2 (A4 Z Z) Z (C3 (ids_ok fs (by omega) (by omega)) Z Z Z ?_);rintro _ rfl;refine A2 (A5 Z Z) Z (A2 (A5 Z Z) Z (A6 ?_))
    rw [←hnames,←hids]
    refine k1 (k2 ?_)
    refine A3 (A2 (A4 Z Z) Z (A2 (B0 Z (.pure _ _ _ _) Z (by omega) hf0) Z (A2 (B2 Z Z) Z (A2 (D4 Z (.pure _ _ _ _)) Z (A2 (A5 Z Z) Z (A6 ?_))))))
    rw [←hL]
    refine k1 (k2 ?_)
    refine A3 (A2 (A4 Z Z) Z (C1 (V3 14 Int Z1 0 Z Z (by omega) (by omega) (fun _=>by first | exact ⟨⟨rfl,rfl⟩,trivial⟩ | exact ⟨M9 _ _ _,trivial⟩) (by first | rfl | (simp [F9,H0,Ob.free,SV.free,S1.free,TC.free]<;>rfl))) Z ?_));refine A2 (A5 Z Z) Z (A6 ?_)
    refine k1 (k2 ?_)
    refine A3 (A2 (A4 Z Z) Z (A2 (B9 Z Z (by omega)) Z (C1 (V3 15 (List (List Int)) intssC [] Z Z (by omega) (by omega) (fun _=>by first | exact ⟨⟨rfl,rfl⟩,trivial⟩ | exact ⟨M9 _ _ _,trivial⟩) (by first | rfl | (simp [F9,H0,Ob.free,SV.free,S1.free,TC.free]<;>rfl))) Z ?_)));refine A2 (A5 Z Z) Z (A6 ?_)
    refine k1 (k2 (k2 ?_))
    refine A3 (A2 (A5 Z Z) Z (A6 ?_))
    refine k1 (k3 ?_)
    refine G4 (H77 15 Z) ?_
    obtain ⟨z,hz⟩:∃z:TC,z=.p (intssC [] 0):=⟨_,rfl⟩
    have hzf:∀k,z.free k=true:=fun k=>by rw [hz];rfl
    have hrep:(List.replicate ((L:Int)+1).toNat ([]:List (List Int))).map (fun x=>TC.p (intssC x 0))=Q9 (L+1) 0 z:=by
     rw [←F88,hz];simp
    refine C9 (X:=Nat) (fun k=>([(4,.s (.one (.ref 4 0))),(6,B7 n),(7,C0 (List Str) 1 strsC fs),(11,C0 Str 1 J9 names),(12,C0 (List Int) 1 intsC ids),(13,B7 L),(14,.s (.one (.mut 14))),(15,.s (.one (.mut 15))),(16,B7 k)],
     (4,.box [.p (.v (.int .i64 0)),.p (.v (.slice none 0 0))])::(14,.arr Int 1 Z1 (List.replicate L 0))::(15,.tarr (L+1) 1 (Q9 (L+1) k z))::H1 intsC (fun _=>List.replicate n []) (List.range k))) (fun k=>k≤L+1) (fun k=>L+1 - k) 0 (Nat.zero_le _) ?_ ?_
    ·refine H62 ⟨⟨_,rfl,.same _⟩,⟨_,rfl,.same _⟩,⟨_,rfl,.same _⟩,⟨_,rfl,.same _⟩,⟨_,rfl,.same _⟩,⟨_,rfl,.same _⟩,⟨_,rfl,.same _⟩,⟨_,rfl,.same _⟩,⟨_,rfl,.same _⟩,trivial⟩ ⟨rfl,rfl,?_,trivial⟩
     rw [←hrep];simp [C2,List.length_replicate]
    ·intro k hk
     dsimp only at hk ⊢
     refine k2 (k2 ?_)
     refine A3 (A2 (A4 Z Z) Z (A2 (A4 Z Z) Z (A2 (c6 Z Z) Z (A6 ?_))))
     refine k1 ?_
     refine B4 rfl (fun ht=>?_) (fun ht=>?_)
     ·have hlt:k < L+1:=by have:=A0 ht;omega
      have hfree:H0 (k+1000) ((4,.box [.p (.v (.int .i64 0)),.p (.v (.slice none 0 0))])::(14,.arr Int 1 Z1 (List.replicate L 0))::(15,.tarr (L+1) 1 (Q9 (L+1) k z))::H1 intsC (fun _=>List.replicate n ([]:List Int)) (List.range k))=true:=by
       have h1:=A36 (k:=k+1000) (by omega) (List.range k) (fun r hr=>by have:=List.mem_range.1 hr;omega) (c:=intsC) (g:=fun _=>List.replicate n ([]:List Int))
       have h2:=F90 (m:=L+1) (k:=k) (hzf (k+1000))
       simp only [H0,Ob.free,h1,h2,I0 (show 4≠k+1000 by omega),I0 (show 14≠k+1000 by omega),I0 (show 15≠k+1000 by omega)]
       rfl
      refine k5 (k1 (k2 (k3 ?_)))
      refine A3 (A2 (A4 Z Z) Z (A2 (A4 Z Z) Z (A2 (A4 Z Z) Z (C1 (V3 (k+1000) (List Int) intsC [] Z Z (by omega) (by omega) (fun _=>by first | exact ⟨⟨rfl,rfl⟩,trivial⟩ | exact ⟨M9 _ _ _,trivial⟩) (by simp only [F9,SV.free,S1.free,TC.free,hfree,I0 (show 4≠k+1000 by omega),I0 (show 14≠k+1000 by omega),I0 (show 15≠k+1000 by omega)];rfl)) Z ?_))));refine A2 (F8 Z (by rw [B3 (by omega)];rfl) Z (by omega) (by omega)) Z ?_;refine F6 (d7 TySz.out Z (by rw [B3 (by omega)];rfl) (by (rw [B81];omega)) Z Z) ?_;refine A6 ?_
      refine k4 (k1 ?_)
      refine A3 (A2 (A4 Z Z) Z (A2 (B9 Z Z (by omega)) Z (A2 (A5 Z Z) Z (A6 ?_))))
      refine k1 ?_
      refine ⟨k+1,by omega,by omega,?_⟩
      refine H64 ⟨⟨_,rfl,.same _⟩,⟨_,rfl,.same _⟩,⟨_,rfl,.same _⟩,⟨_,rfl,.same _⟩,⟨_,rfl,.same _⟩,⟨_,rfl,.same _⟩,⟨_,rfl,.same _⟩,⟨_,rfl,.same _⟩,⟨_,rfl,.eq (by simp)⟩,trivial⟩ ?_
      refine H31 (g:=fun _=>List.replicate n ([]:List Int)) (pre:=[(4,.box [.p (.v (.int .i64 0)),.p (.v (.slice none 0 0))]),(14,.arr Int 1 Z1 (List.replicate L 0)),(15,.tarr (L+1) 1 (Q9 (L+1) k z))])
       (pre':=[(4,.box [.p (.v (.int .i64 0)),.p (.v (.slice none 0 0))]),(14,.arr Int 1 Z1 (List.replicate L 0)),(15,.tarr (L+1) 1 (Q9 (L+1) (k+1) z))]) (top:=[(15,.tarr (L+1) 1 ((Q9 (L+1) k z).set k (.mut (k+1000))))]) rfl rfl ?_ rfl
      intro k' o ho
      rw [G80]
      by_cases h15:15=k'
      ·subst h15;exact ho
      ·by_cases h4:4=k'
       ·subst h4;rw [I40,B3 (by omega),B3 (by omega)];exact ho
       ·by_cases h14:14=k'
        ·subst h14;rw [I40,B3 (by omega),B3 (by omega)];exact ho
        ·rw [B3 h4,B3 h14,B3 h15] at ho;cases ho
     ·have hkL:k=L+1:=by have:=A1 ht;omega
      rw [hkL]
      clear hkL ht hk k
      refine L1 [(4,.s (.one (.ref 4 0))),(6,B7 n),(7,C0 (List Str) 1 strsC fs),(11,C0 Str 1 J9 names),(12,C0 (List Int) 1 intsC ids),(13,B7 L),(14,.s (.one (.mut 14))),(15,.s (.one (.mut 15)))]
       ((4,.box [.p (.v (.int .i64 0)),.p (.v (.slice none 0 0))])::(14,.arr Int 1 Z1 (List.replicate L 0))::(15,.tarr (L+1) 1 (Q9 (L+1) (L+1) z))::H1 intsC (fun _=>List.replicate n []) (List.range (L+1))) (H64 ⟨⟨_,rfl,.same _⟩,⟨_,rfl,.same _⟩,⟨_,rfl,.same _⟩,⟨_,rfl,.same _⟩,⟨_,rfl,.same _⟩,⟨_,rfl,.same _⟩,⟨_,rfl,.same _⟩,⟨_,rfl,.same _⟩,trivial⟩ (fun _ _ h=>h)) ?_
      refine k6 (k2 (k2 ?_))
      refine A3 (A2 (A5 Z Z) Z (A6 ?_))
      refine k1 (k3 ?_)
      obtain ⟨s,hs⟩:∃s:Nat→Loom,s=fun p=>P9 ids L n p:=⟨_,rfl⟩
      have hok:∀p,LoomOk (fun v=>0≤v∧v < (names.length:Int)) 200 L n (s p):=fun p=>by rw [hs];exact B29 hidB p
      refine C9 (X:=Nat) (fun p=>([(4,.s (.one (.ref 4 0))),(6,B7 n),(7,C0 (List Str) 1 strsC fs),(11,C0 Str 1 J9 names),(12,C0 (List Int) 1 intsC ids),(13,B7 L),(14,.s (.one (.mut 14))),(15,.s (.one (.mut 15))),(17,B7 p)],
       (4,.box [.p (.v (.int .i64 0)),.p (.v (.slice none 0 0))])::(14,.arr Int 1 Z1 (s p).1)::(15,.tarr (L+1) 1 (Q9 (L+1) (L+1) z))::H1 intsC (s p).2 (List.range (L+1)))) (fun p=>p≤n) (fun p=>n - p) 0 (Nat.zero_le _) ?_ ?_
      ·have h0s:s 0=u0 L n:=by rw [hs];rfl
       rw [h0s]
       exact H64 ⟨⟨_,rfl,.same _⟩,⟨_,rfl,.same _⟩,⟨_,rfl,.same _⟩,⟨_,rfl,.same _⟩,⟨_,rfl,.same _⟩,⟨_,rfl,.same _⟩,⟨_,rfl,.same _⟩,⟨_,rfl,.same _⟩,⟨_,rfl,.same _⟩,trivial⟩ (fun _ _ h=>h)
      intro p hp
      dsimp only at hp ⊢
      have hsp:=hok p
      refine k2 (k2 ?_)
      refine A3 (A2 (A4 Z Z) Z (A2 (A4 Z Z) Z (A2 (D8 Z Z) Z (A6 ?_))))
      refine k1 ?_
      refine B4 rfl (fun ht=>?_) (fun ht=>?_)
      ·have hlt:p < n:=by have:=A0 ht;omega
       have hv1:ids[p+1]?=some (ids.getD (p+1) []):=by rw [I00,H97 (by omega)];rfl
       have hstep:s (p+1)=K7 ids (s p) p:=by rw [hs];exact B10 ids L n p
       have hfB:=hidB _ (I12 hv1)
       obtain ⟨file,hfile⟩:∃f,f=ids.getD (p+1) []:=⟨_,rfl⟩
       obtain ⟨base,hbase⟩:∃f,f=ids.getD 0 []:=⟨_,rfl⟩
       rw [←hbase] at hid0 hv0
       rw [←hfile] at hv1 hfB
       have hwb:=A49 file base
       have hmw:=A48 file base
       have hwg:=B93 file base 0 0
       have hwl:=S6 0 0 file base
       have hml:=m7 (F1 0 0 file base) 0 0 file.length base.length
       obtain ⟨sc,hsc⟩:∃sc,sc=K5 file base:=⟨_,rfl⟩
       have hscl:sc.length≤201:=by rw [hsc];have h2:(K5 file base).length=(N2 0 0 (F1 0 0 file base) file.length base.length).length:=rfl;omega
       rw [←hsc] at hwb hmw
       refine k5 (k1 (k2 (k3 (k2 ?_))))
       refine C6 (by kernel_rfl) (by kernel_rfl) (A9 (A4 Z Z) Z Z (A9 (A4 Z Z) Z Z (A9 (B9 Z Z (by omega)) Z Z (A9 (B0 Z (.pure _ _ _ _) Z (by omega) (by rw [show ((p:Int)+1).toNat=p+1 by omega];exact hv1)) Z Z ?_))));refine A9 (B2 Z Z) Z Z (A9 (A4 Z Z) Z Z (A9 (B0 Z (.pure _ _ _ _) Z (by omega) hv0) Z Z (A9 (B2 Z Z) Z Z (A9 (H6 (G56 file base (by omega) (by omega)) Z Z) Z Z (A9 (A5 Z Z) Z Z (K0 ?_))))))
       rw [←hsc]
       obtain ⟨m0,hm0⟩:∃m0,m0=(s p).1:=⟨_,rfl⟩
       have hm0l:m0.length=L:=by rw [hm0];exact hsp.len
       have hbit:=B58 p
       refine k1 (k2 (k2 ?_))
       refine A3 (A2 (A5 Z Z) Z (A6 ?_))
       refine k1 (k3 ?_)
       refine C9 (X:=Nat) (fun k=>([(4,.s (.one (.ref 4 0))),(6,B7 n),(7,C0 (List Str) 1 strsC fs),(11,C0 Str 1 J9 names),(12,C0 (List Int) 1 intsC ids),(13,B7 L),(14,.s (.one (.mut 14))),(15,.s (.one (.mut 15))),(17,B7 p),(18,C0 Change 4 changeC sc),(19,B7 k)],(4,.box [.p (.v (.int .i64 0)),.p (.v (.slice none 0 0))])::(14,.arr Int 1 Z1 (A78 (K6 · (H3 p)) m0 k))::(15,.tarr (L+1) 1 (Q9 (L+1) (L+1) z))::H1 intsC (s p).2 (List.range (L+1)))) (fun k=>k≤L) (fun k=>L - k) 0 (Nat.zero_le _) ?_ ?_
       ·rw [G14,hm0]
        exact H64 ⟨⟨_,rfl,.same _⟩,⟨_,rfl,.same _⟩,⟨_,rfl,.same _⟩,⟨_,rfl,.same _⟩,⟨_,rfl,.same _⟩,⟨_,rfl,.same _⟩,⟨_,rfl,.same _⟩,⟨_,rfl,.same _⟩,⟨_,rfl,.same _⟩,⟨_,rfl,.same _⟩,⟨_,rfl,.same _⟩,trivial⟩ (fun _ _ h=>h)
       intro k hk
       dsimp only at hk ⊢
       refine k2 (k2 ?_)
       refine A3 (A2 (A4 Z Z) Z (A2 (A4 Z Z) Z (A2 (D8 Z Z) Z (A6 ?_))))
       refine k1 ?_
       refine B4 rfl (fun ht=>?_) (fun ht=>?_)
       ·have hkl:k < m0.length:=by have:=A0 ht;omega
        have hget:=H05 (K6 · (H3 p)) m0 k hkl
        have hset:=H06 (K6 · (H3 p)) m0 k hkl
        have hml':=E75 (K6 · (H3 p)) m0 k
        refine k5 (k1 (k2 (k3 ?_)))
        refine A3 (A2 (A4 Z Z) Z (A2 (A4 Z Z) Z (A2 (A4 Z Z) Z (A2 (A4 Z Z) Z (A2 (E0 Z Z Z (by omega) (by (rw [hml'];omega))) Z ?_)))));refine A2 (L9 Z Z hget Z) Z (A2 (A4 Z Z) Z (A2 (M1 Z) Z (A2 (D99 Z Z (by (exact hbit))) Z ?_)));refine A2 (X6 Z Z Z (fun _=>rfl)) Z (A2 (E0 Z Z Z (by omega) (by (rw [hml'];omega))) Z ?_);refine F6 (G1 TySz.out Z Z (by (rw [hml'];exact hkl)) Z Z) ?_;refine A6 ?_
        refine k4 (k1 ?_)
        refine A3 (A2 (A4 Z Z) Z (A2 (B9 Z Z (by omega)) Z (A2 (A5 Z Z) Z (A6 ?_))))
        refine k1 ?_
        refine ⟨k+1,by omega,by omega,?_⟩
        rw [←hset]
        exact H64 ⟨⟨_,rfl,.same _⟩,⟨_,rfl,.same _⟩,⟨_,rfl,.same _⟩,⟨_,rfl,.same _⟩,⟨_,rfl,.same _⟩,⟨_,rfl,.same _⟩,⟨_,rfl,.same _⟩,⟨_,rfl,.same _⟩,⟨_,rfl,.same _⟩,⟨_,rfl,.same _⟩,⟨_,rfl,.eq (by simp)⟩,trivial⟩ (E04 rfl trivial trivial)
       ·have hkL:k=m0.length:=by have:=A1 ht;omega
        rw [hkL,G15]
        clear hkL ht hk k
        obtain ⟨m1,hm1⟩:∃m1,m1=m0.map (K6 · (H3 p)):=⟨_,rfl⟩
        have hm1l:m1.length=L:=by rw [hm1,I19,hm0l]
        rw [←hm1]
        refine k6 (k2 ?_)
        refine A3 (A2 (A4 Z Z) Z (A2 (A4 Z Z) Z (A2 (A4 Z Z) Z (A2 (B9 Z Z (by omega)) Z (A2 (B0 Z (.pure _ _ _ _) Z (by omega) (by rw [show ((p:Int)+1).toNat=p+1 by omega];exact hv1)) Z ?_)))));refine A2 (B2 Z Z) Z (A2 (D4 Z (.pure _ _ _ _)) Z (C3 (D24 sc file.length (by omega) (by omega) (fun c hc=>by have:=hwb c hc;omega)) Z Z Z ?_));rintro _ rfl;refine A2 (A5 Z Z) Z (A6 ?_)
        rw [hmw]
        obtain ⟨ps,hps⟩:∃ps,ps=F1 0 0 file base:=⟨_,rfl⟩
        rw [←hps] at hwg hwl hmw ⊢
        refine k1 (k2 (k2 ?_))
        refine A3 (A2 (A5 Z Z) Z (A6 ?_))
        refine k1 (k3 ?_)
        have hcl:∀k,((ps.take k).foldl (J1 p) m1).length=L:=fun k=>by
         have key:∀(l:List Span) (ms:List Int),(l.foldl (J1 p) ms).length=ms.length:=by
          intro l;induction l with
          | nil=>intro ms;rfl
          | cons x r ih=>intro ms;rw [I22,ih];simp [J1]
         rw [key,hm1l]
        refine C9 (X:=Nat) (fun k=>([(4,.s (.one (.ref 4 0))),(6,B7 n),(7,C0 (List Str) 1 strsC fs),(11,C0 Str 1 J9 names),(12,C0 (List Int) 1 intsC ids),(13,B7 L),(14,.s (.one (.mut 14))),(15,.s (.one (.mut 15))),(17,B7 p),(18,C0 Change 4 changeC sc),(20,C0 Span 2 spanC ps),(21,B7 k)],(4,.box [.p (.v (.int .i64 0)),.p (.v (.slice none 0 0))])::(14,.arr Int 1 Z1 ((ps.take k).foldl (J1 p) m1))::(15,.tarr (L+1) 1 (Q9 (L+1) (L+1) z))::H1 intsC (s p).2 (List.range (L+1)))) (fun k=>k≤ps.length) (fun k=>ps.length - k) 0 (Nat.zero_le _) ?_ ?_
        ·exact H64 ⟨⟨_,rfl,.same _⟩,⟨_,rfl,.same _⟩,⟨_,rfl,.same _⟩,⟨_,rfl,.same _⟩,⟨_,rfl,.same _⟩,⟨_,rfl,.same _⟩,⟨_,rfl,.same _⟩,⟨_,rfl,.same _⟩,⟨_,rfl,.same _⟩,⟨_,rfl,.same _⟩,⟨_,rfl,.same _⟩,⟨_,rfl,.same _⟩,trivial⟩ (fun _ _ h=>h)
        intro k hk
        dsimp only at hk ⊢
        refine k2 (k2 ?_)
        refine A3 (A2 (A4 Z Z) Z (A2 (A4 Z Z) Z (A2 (D4 Z (.pure _ _ _ _)) Z (A2 (D8 Z Z) Z (A6 ?_)))))
        refine k1 ?_
        refine B4 rfl (fun ht=>?_) (fun ht=>?_)
        ·have hkl:k < ps.length:=by have:=A0 ht;omega
         have hpv:ps[k]?=some ps[k]:=by simp [hkl]
         have hpb:=hwg ps[k] (I07 hkl)
         have hclk:=hcl k
         have hlt2:ps[k].To.toNat < ((ps.take k).foldl (J1 p) m1).length:=by omega
         have hget:((ps.take k).foldl (J1 p) m1)[ps[k].To.toNat]?=some (((ps.take k).foldl (J1 p) m1).getD ps[k].To.toNat 0):=by rw [I00,H97 hlt2];rfl
         have hset:(ps.take (k+1)).foldl (J1 p) m1=((ps.take k).foldl (J1 p) m1).set ps[k].To.toNat (Z5 (((ps.take k).foldl (J1 p) m1).getD ps[k].To.toNat 0) (H3 p)):=by
          rw [I04 hkl,I29];rfl
         refine k5 (k1 (k2 (k3 ?_)))
         refine C6 (by kernel_rfl) (by kernel_rfl) (A9 (A4 Z Z) Z Z (A9 (A4 Z Z) Z Z (A9 (A4 Z Z) Z Z (A9 (B0 Z (.pure _ _ _ _) Z (by omega) hpv) Z Z (A9 (D6 Z) Z Z (A9 (B2 Z Z) Z Z (A9 (A4 Z Z) Z Z (A9 (A4 Z Z) Z Z (A9 (A4 Z Z) Z Z (A9 (B0 Z (.pure _ _ _ _) Z (by omega) hpv) Z Z (A9 (D6 Z) Z Z (A9 (B2 Z Z) Z Z (A9 (E0 Z Z Z (by omega) (by omega)) Z Z (A9 (L9 Z Z hget Z) Z Z (A9 (A4 Z Z) Z Z (A9 (M1 Z) Z Z (A9 (D99 Z Z (by (exact hbit))) Z Z ?_)))))))))))))))));refine A9 (X6 Z Z Z (fun _=>rfl)) Z Z (A9 (E0 Z Z Z (by omega) (by omega)) Z Z (v8 (G1 TySz.out Z Z (by (exact hlt2)) Z Z) Z ?_));refine K0 ?_
         refine k4 (k1 ?_)
         refine A3 (A2 (A4 Z Z) Z (A2 (B9 Z Z (by omega)) Z (A2 (A5 Z Z) Z (A6 ?_))))
         refine k1 ?_
         refine ⟨k+1,by omega,by omega,?_⟩
         rw [hset]
         exact H64 ⟨⟨_,rfl,.same _⟩,⟨_,rfl,.same _⟩,⟨_,rfl,.same _⟩,⟨_,rfl,.same _⟩,⟨_,rfl,.same _⟩,⟨_,rfl,.same _⟩,⟨_,rfl,.same _⟩,⟨_,rfl,.same _⟩,⟨_,rfl,.same _⟩,⟨_,rfl,.same _⟩,⟨_,rfl,.same _⟩,⟨_,rfl,.eq (by simp)⟩,trivial⟩ (E04 rfl trivial trivial)
        ·have hkL:k=ps.length:=by have:=A1 ht;omega
         rw [hkL,I16]
         clear hkL ht hk k
         have hcl':=hcl ps.length
         rw [I16] at hcl'
         clear hcl
         obtain ⟨m2,hm2⟩:∃m2,m2=ps.foldl (J1 p) m1:=⟨_,rfl⟩
         rw [←hm2] at hcl' ⊢
         have hgl:∀k q,((sc.take k).foldl (I8 p file) (s p).2 q).length=n:=fun k q=>(A52 hfB (sc.take k) hsp.gaps q).1
         refine k6 (k2 ?_)
         refine A3 (A2 (A5 Z Z) Z (A6 ?_))
         refine k1 (k3 ?_)
         refine C9 (X:=Nat) (fun k=>([(4,.s (.one (.ref 4 0))),(6,B7 n),(7,C0 (List Str) 1 strsC fs),(11,C0 Str 1 J9 names),(12,C0 (List Int) 1 intsC ids),(13,B7 L),(14,.s (.one (.mut 14))),(15,.s (.one (.mut 15))),(17,B7 p),(18,C0 Change 4 changeC sc),(22,B7 k)],(4,.box [.p (.v (.int .i64 0)),.p (.v (.slice none 0 0))])::(14,.arr Int 1 Z1 m2)::(15,.tarr (L+1) 1 (Q9 (L+1) (L+1) z))::H1 intsC ((sc.take k).foldl (I8 p file) (s p).2) (List.range (L+1)))) (fun k=>k≤sc.length) (fun k=>sc.length - k) 0 (Nat.zero_le _) ?_ ?_
         ·exact H64 ⟨⟨_,rfl,.same _⟩,⟨_,rfl,.same _⟩,⟨_,rfl,.same _⟩,⟨_,rfl,.same _⟩,⟨_,rfl,.same _⟩,⟨_,rfl,.same _⟩,⟨_,rfl,.same _⟩,⟨_,rfl,.same _⟩,⟨_,rfl,.same _⟩,⟨_,rfl,.same _⟩,⟨_,rfl,.same _⟩,trivial⟩ (fun _ _ h=>h)
         intro k hk
         dsimp only at hk ⊢
         refine k2 (k2 ?_)
         refine A3 (A2 (A4 Z Z) Z (A2 (A4 Z Z) Z (A2 (D4 Z (.pure _ _ _ _)) Z (A2 (D8 Z Z) Z (A6 ?_)))))
         refine k1 ?_
         refine B4 rfl (fun ht=>?_) (fun ht=>?_)
         ·have hkl:k < sc.length:=by have:=A0 ht;omega
          have hcv:sc[k]?=some sc[k]:=by simp [hkl]
          have hcb:=hwb sc[k] (I07 hkl)
          have hgk:=hgl k sc[k].New.toNat
          have hN:sc[k].New.toNat < L+1:=by omega
          have hrow:(Q9 (L+1) (L+1) z)[sc[k].New.toNat]?=some (.mut (sc[k].New.toNat+1000)):=H04 hN
          have hrl:(Q9 (L+1) (L+1) z).length=L+1:=B81
          have hob:C2 ((4,.box [.p (.v (.int .i64 0)),.p (.v (.slice none 0 0))])::(14,.arr Int 1 Z1 m2)::(15,.tarr (L+1) 1 (Q9 (L+1) (L+1) z))::H1 intsC ((sc.take k).foldl (I8 p file) (s p).2) (List.range (L+1))) (sc[k].New.toNat+1000)=some (.arr (List Int) 1 intsC ((sc.take k).foldl (I8 p file) (s p).2 sc[k].New.toNat)):=by
           rw [B3 (by omega),B3 (by omega),B3 (by omega)]
           exact l8 (List.mem_range.2 hN)
          have hnew:((sc.take k).foldl (I8 p file) (s p).2 sc[k].New.toNat).set p ((file.drop sc[k].Old.toNat).take ((sc[k].Old+sc[k].OldLen).toNat - sc[k].Old.toNat))=(sc.take (k+1)).foldl (I8 p file) (s p).2 sc[k].New.toNat:=by
           rw [I04 hkl,I29]
           show _=I8 p file _ sc[k] _
           rw [I8,if_pos rfl]
          have hsame:∀q,q≠sc[k].New.toNat→(sc.take (k+1)).foldl (I8 p file) (s p).2 q=(sc.take k).foldl (I8 p file) (s p).2 q:=by
           intro q hq
           rw [I04 hkl,I29]
           show I8 p file _ sc[k] _=_
           rw [I8,if_neg hq]
          refine k5 (k1 (k2 (k3 ?_)))
          refine C6 (by kernel_rfl) (by kernel_rfl) (A9 (A4 Z Z) Z Z (A9 (A4 Z Z) Z Z (A9 (A4 Z Z) Z Z (A9 (B0 Z (.pure _ _ _ _) Z (by omega) hcv) Z Z (A9 (D6 Z) Z Z (A9 (B2 Z Z) Z Z (A9 (F8 Z Z Z (by omega) (by omega)) Z Z (A9 (K8 Z Z hrow) Z Z (A9 (A4 Z Z) Z Z (A9 (A4 Z Z) Z Z (A9 (A4 Z Z) Z Z (A9 (B9 Z Z (by omega)) Z Z (A9 (B0 Z (.pure _ _ _ _) Z (by omega) (by rw [show ((p:Int)+1).toNat=p+1 by omega];exact hv1)) Z Z ?_)))))))))))));refine A9 (B2 Z Z) Z Z (A9 (A4 Z Z) Z Z (A9 (A4 Z Z) Z Z (A9 (B0 Z (.pure _ _ _ _) Z (by omega) hcv) Z Z (A9 (D6 Z) Z Z (A9 (B2 Z Z) Z Z (A9 (A4 Z Z) Z Z (A9 (A4 Z Z) Z Z (A9 (B0 Z (.pure _ _ _ _) Z (by omega) hcv) Z Z (A9 (D6 Z) Z Z (A9 (B2 Z Z) Z Z (A9 (A4 Z Z) Z Z (A9 (A4 Z Z) Z Z (A9 (B0 Z (.pure _ _ _ _) Z (by omega) hcv) Z Z (A9 (D6 Z) Z Z (A9 (B2 Z Z) Z Z (A9 (B9 Z Z (by omega)) Z Z (A9 (T7 Z (.pure _ _ _ _) Z Z (by omega) (by omega) (by omega)) Z Z (A9 (E0 Z hob Z (by omega) (by omega)) Z Z (v8 (G1 TySz.out Z hob (by omega) Z Z) Z (K0 ?_))))))))))))))))))))
          refine k4 (k1 ?_)
          refine A3 (A2 (A4 Z Z) Z (A2 (B9 Z Z (by omega)) Z (A2 (A5 Z Z) Z (A6 ?_))))
          refine k1 ?_
          refine ⟨k+1,by omega,by omega,?_⟩
          refine H64 ⟨⟨_,rfl,.same _⟩,⟨_,rfl,.same _⟩,⟨_,rfl,.same _⟩,⟨_,rfl,.same _⟩,⟨_,rfl,.same _⟩,⟨_,rfl,.same _⟩,⟨_,rfl,.same _⟩,⟨_,rfl,.same _⟩,⟨_,rfl,.same _⟩,⟨_,rfl,.same _⟩,⟨_,rfl,.eq (by simp)⟩,trivial⟩ ?_
          show ∀k' o,_→C2 ((sc[k].New.toNat+1000,.arr (List Int) 1 intsC (((sc.take k).foldl (I8 p file) (s p).2 sc[k].New.toNat).set p ((file.drop sc[k].Old.toNat).take ((sc[k].Old+sc[k].OldLen).toNat - sc[k].Old.toNat))))::((4,.box [.p (.v (.int .i64 0)),.p (.v (.slice none 0 0))])::(14,.arr Int 1 Z1 m2)::(15,.tarr (L+1) 1 (Q9 (L+1) (L+1) z))::H1 intsC ((sc.take k).foldl (I8 p file) (s p).2) (List.range (L+1)))) k'=some o
          rw [hnew]
          exact F07 (pre:=[(4,.box [.p (.v (.int .i64 0)),.p (.v (.slice none 0 0))]),(14,.arr Int 1 Z1 m2),(15,.tarr (L+1) 1 (Q9 (L+1) (L+1) z))]) rfl (List.mem_range.2 hN) hsame
         ·have hkL:k=sc.length:=by have:=A1 ht;omega
          rw [hkL,I16]
          have hs1:s (p+1)=(m2,sc.foldl (I8 p file) (s p).2):=by
           have e:K7 ids (s p) p=((O2 (K5 (ids.getD (p+1) []) (ids.getD 0 [])) (ids.getD (p+1) []).length).foldl (J1 p) ((s p).1.map (K6 · (H3 p))),(K5 (ids.getD (p+1) []) (ids.getD 0 [])).foldl (I8 p (ids.getD (p+1) [])) (s p).2):=rfl
           rw [hstep,e,←hfile,←hbase,←hsc,hmw,←hm0,←hm1,←hm2]
          refine k6 (k7 (k7 (k8 Z (k4 (k1 ?_)))))
          refine A3 (A2 (A4 Z Z) Z (A2 (B9 Z Z (by omega)) Z (A2 (A5 Z Z) Z (A6 ?_))))
          refine k1 ?_
          refine ⟨p+1,by omega,by omega,?_⟩
          rw [hs1]
          exact H64 ⟨⟨_,rfl,.same _⟩,⟨_,rfl,.same _⟩,⟨_,rfl,.same _⟩,⟨_,rfl,.same _⟩,⟨_,rfl,.same _⟩,⟨_,rfl,.same _⟩,⟨_,rfl,.same _⟩,⟨_,rfl,.same _⟩,⟨_,rfl,.eq (by simp)⟩,trivial⟩ (fun _ _ h=>h)
      ·have hpn:p=n:=by have:=A1 ht;omega
       rw [hpn] at hsp ⊢
       clear hpn ht hp p
       obtain ⟨ms,hms⟩:∃ms,ms=(s n).1:=⟨_,rfl⟩
       obtain ⟨g,hg⟩:∃g,g=(s n).2:=⟨_,rfl⟩
       refine L1 [(4,.s (.one (.ref 4 0))),(6,B7 n),(7,C0 (List Str) 1 strsC fs),(11,C0 Str 1 J9 names),(13,B7 L),(14,.s (.one (.mut 14))),(15,.s (.one (.mut 15)))] ([(4,.box [.p (.v (.int .i64 0)),.p (.v (.slice none 0 0))]),(14,.arr Int 1 Z1 ms)]++((15,.tarr (L+1) 1 (I9 intsC (L+1) 0 g))::H1 intsC g (List.range (L+1)))) ?_ ?_
       ·rw [hms,hg,←F89 (z:=z)]
        exact H64 ⟨⟨_,rfl,.same _⟩,⟨_,rfl,.same _⟩,⟨_,rfl,.same _⟩,⟨_,rfl,.same _⟩,⟨_,rfl,.same _⟩,⟨_,rfl,.same _⟩,⟨_,rfl,.same _⟩,trivial⟩ (fun _ _ h=>h)
       refine G4 (H85 (by omega) rfl rfl (fun r _=>?_) (fun r _=>rfl)) ?_
       ·simp only [F9,SV.free,S1.free,TC.free,I0 (show 4≠r+1000 by omega),I0 (show 14≠r+1000 by omega),I0 (show 15≠r+1000 by omega)];rfl
       obtain ⟨gs,hgs⟩:∃gs,gs=(List.range (L+1)).map g:=⟨_,rfl⟩
       rw [←hgs]
       refine G4 (Sees.freeze (k:=14) Z) ?_
       refine G4 (Sees.freeze (k:=15) Z) ?_
       refine L1 [(4,.s (.one (.ref 4 0))),(6,B7 n),(7,C0 (List Str) 1 strsC fs),(11,C0 Str 1 J9 names),(13,B7 L),(14,C0 Int 1 Z1 ms),(15,C0 (List (List Int)) 1 intssC gs)] [(4,.box [.p (.v (.int .i64 0)),.p (.v (.slice none 0 0))])] (H62 ⟨le1 rfl,le1 rfl,le1 rfl,le1 rfl,le1 rfl,le1 rfl,le1 rfl,trivial⟩ ⟨rfl,trivial⟩) ?_
       obtain ⟨f0,hf0'⟩:∃f0,f0=C4 result:=⟨_,rfl⟩
       rw [←hf0'] at hL hf0 hmk
       obtain ⟨R,hR⟩:∃R:Nat→List Row,R=fun k=>U0 names f0 (s n) k:=⟨_,rfl⟩
       obtain ⟨F,hF⟩:∃F:Merged→Row,F=fun m=>⟨true,m.Parents,names.getD m.Line.toNat []⟩:=⟨_,rfl⟩
       have hcs:∀k,(E9 (g k)).1.length≤6400∧∀m∈(E9 (g k)).1,(0≤m.Parents∧m.Parents < 4294967296)∧0≤m.Line∧m.Line < (names.length:Int):=fun k=>by
        have h2:=hsp.gaps k
        have h3:=A14 (fun v=>0≤v∧v < (names.length:Int)) 200 (g k) (by rw [hg];exact h2.2)
        rw [show (g k).length=n by rw [hg];exact h2.1] at h3
        exact ⟨by omega,h3.2⟩
       have hR1:∀k,R (k+1)=R k++((E9 (g k)).1.map F++(if k < f0.length then [⟨false,ms.getD k 0,f0.getD k []⟩] else [])):=fun k=>by
        rw [hR];dsimp only;rw [a7,U9,hF,hg,hms]
       have hRl:∀k,(R k).length≤k*6401:=fun k=>by
        induction k with
        | zero=>rw [hR];simp [U0]
        | succ k ih=>rw [hR1];have:=(hcs k).1;simp only [H95,I19];split<;>simp<;>omega
       have hmsl:ms.length=L:=by rw [hms];exact hsp.len
       refine k6 (k2 ?_)
       refine A3 (A2 (A4 Z Z) Z (A2 (G6 Z) Z (C1 (G3 23 Z) Z (F6 (B8 TySz.out Z Z Z Z Z Z) (A6 ?_)))))
       refine k1 (k2 (k2 ?_))
       refine A3 (A2 (A5 Z Z) Z (A6 ?_))
       refine k1 (k3 ?_)
       refine G4 (H68 88 Row 3 rowC 69 (kb:=23) (o:=1) Z Z Z) ?_
       refine C9 (X:=Nat) (fun k=>([(4,.s (.one (.ref 4 0))),(6,B7 n),(7,C0 (List Str) 1 strsC fs),(11,C0 Str 1 J9 names),(13,B7 L),(14,C0 Int 1 Z1 ms),(15,C0 (List (List Int)) 1 intssC gs),(23,.s (.one (.ref 23 0))),(24,B7 k)],[(4,.box [.p (.v (.int .i64 0)),.p (.v (.slice none 0 0))]),(23,.box [.p (.v (.int .i64 n)),.buf 88 Row 3 rowC (R k)]),(88,.spare (R k).length 3 69)])) (fun k=>k≤L+1∧∀q,q < k→(E9 (g q)).2=0) (fun k=>L+1 - k) 0 ⟨Nat.zero_le _,fun q hq=>by omega⟩ (by rw [show R 0=[] by rw [hR];rfl];exact H62 ⟨le1 rfl,le1 rfl,le1 rfl,le1 rfl,le1 rfl,le1 rfl,le1 rfl,le1 rfl,le1 rfl,trivial⟩ ⟨rfl,rfl,rfl,trivial⟩) ?_
       rintro k ⟨hk,hz0⟩
       dsimp only at hk hz0 ⊢
       have hRk:=hRl k
       refine k2 (k2 ?_)
       refine A3 (A2 (A4 Z Z) Z (A2 (A4 Z Z) Z (A2 (c6 Z Z) Z (A6 ?_))))
       refine k1 ?_
       refine B4 rfl (fun ht=>?_) (fun ht=>?_)
       ·have hlt:k < L+1:=by have:=A0 ht;omega
        have hgv:gs[k]?=some (g k):=by rw [hgs,I20,I23 hlt];rfl
        have hck:=hcs k
        refine k5 (k1 (k2 (k3 (k2 ?_))))
        refine A3 (A2 (A4 Z Z) Z (A2 (A4 Z Z) Z (A2 (B0 Z (.pure _ _ _ _) Z (by omega) hgv) Z (A2 (B2 Z Z) Z (C3 (F24 (g k)) Z Z Z ?_)))));rintro _ rfl;refine A2 (A4 Z Z) Z (A2 (D5 Z Z) Z (A2 (D5 Z Z) Z (A2 (A5 Z Z) Z (A2 (A5 Z Z) Z (A6 ?_)))))
        obtain ⟨l,hl⟩:∃l,l=(E9 (g k)).1:=⟨_,rfl⟩
        obtain ⟨e,he⟩:∃e,e=(E9 (g k)).2:=⟨_,rfl⟩
        rw [←hl,←he]
        rw [←hl] at hck
        refine k1 (k2 (k2 ?_))
        refine A3 (A2 (A4 Z Z) Z (A2 (O3 Z Z) Z (A6 ?_)))
        refine k1 ?_
        refine B4 rfl (fun ht=>?_) (fun ht=>?_)
        ·have hne:=A0 ht
         refine k2 ?_
         refine A3 (A2 (G6 Z) Z (F6 (B8 TySz.out Z Z Z Z Z Z) (A2 (A5 Z Z) Z (A6 ?_))))
         refine k1 ?_
         refine G4 (H65 Row 3 rowC 4 1 Z Z) ?_
         refine k10 (k11 (k12 (k11 (k11 (k12 (k11 ?_))))))
         exact B5 (rs:=[pTable ⟨0,[]⟩,G8 1]) (c9 rfl rfl rfl rfl rfl rfl rfl) (by rw [hmk,if_pos];refine ⟨k,by omega,?_⟩;rw [←hnames,←hids,←hL];rw [hg,hs] at he;dsimp only at he;rw [←he];exact hne)
        ·have he0:e=0:=by simpa using A1 ht
         refine k5 (k1 (k2 (k2 ?_)))
         refine A3 (A2 (A5 Z Z) Z (A6 ?_))
         refine k1 (k3 ?_)
         refine C9 (X:=Nat) (fun i=>([(4,.s (.one (.ref 4 0))),(6,B7 n),(7,C0 (List Str) 1 strsC fs),(11,C0 Str 1 J9 names),(13,B7 L),(14,C0 Int 1 Z1 ms),(15,C0 (List (List Int)) 1 intssC gs),(23,.s (.one (.ref 23 0))),(24,B7 k),(25,C0 Merged 2 mergedC l),(27,B7 i)],[(4,.box [.p (.v (.int .i64 0)),.p (.v (.slice none 0 0))]),(23,.box [.p (.v (.int .i64 n)),.buf 88 Row 3 rowC (R k++(l.take i).map F)]),(88,.spare (R k++(l.take i).map F).length 3 69)])) (fun i=>i≤l.length) (fun i=>l.length - i) 0 (Nat.zero_le _) (by have e0:R k++(l.take 0).map F=R k:=(by simp);dsimp only;rw [e0];exact H62 ⟨le1 rfl,le1 rfl,le1 rfl,le1 rfl,le1 rfl,le1 rfl,le1 rfl,le1 rfl,le1 rfl,le1 rfl,le1 rfl,trivial⟩ ⟨rfl,rfl,rfl,trivial⟩) ?_
         intro i hi
         dsimp only at hi ⊢
         have hil:(R k++(l.take i).map F).length≤k*6401+6400:=by simp only [H95,I19,I13];omega
         refine k2 (k2 ?_)
         refine A3 (A2 (A4 Z Z) Z (A2 (A4 Z Z) Z (A2 (D4 Z (.pure _ _ _ _)) Z (A2 (D8 Z Z) Z (A6 ?_)))))
         refine k1 ?_
         refine B4 rfl (fun ht=>?_) (fun ht=>?_)
         ·have hli:i < l.length:=by have:=A0 ht;omega
          have hlv:l[i]?=some l[i]:=by simp [hli]
          have hlb:=hck.2 l[i] (I07 hli)
          have hnv:names[l[i].Line.toNat]?=some (names.getD l[i].Line.toNat []):=by rw [I00,H97 (by omega)];rfl
          have hFi:F l[i]=⟨true,l[i].Parents,names.getD l[i].Line.toNat []⟩:=by rw [hF]
          refine k5 (k1 (k2 (k3 ?_)))
          refine C6 (by kernel_rfl) (by kernel_rfl) (A9 (A7 Z) Z Z (A9 (A8 Z Z Z) Z Z (A9 (A4 Z Z) Z Z (A9 (A4 Z Z) Z Z (A9 (B0 Z (.pure _ _ _ _) Z (by omega) hlv) Z Z (A9 (D6 Z) Z Z (A9 (B2 Z Z) Z Z (A9 (A4 Z Z) Z Z (A9 (A4 Z Z) Z Z (A9 (A4 Z Z) Z Z (A9 (B0 Z (.pure _ _ _ _) Z (by omega) hlv) Z Z (A9 (D6 Z) Z Z (A9 (B2 Z Z) Z Z (A9 (B0 Z (.pure _ _ _ _) Z (by omega) hnv) Z Z (A9 (B2 Z Z) Z Z (A9 (G6 Z) Z Z (A9 (C8 (c:=rowC) (ys:=[⟨true,l[i].Parents,names.getD l[i].Line.toNat []⟩]) (D7 Z Z Z Z E7) Z Z Z) Z Z (B51 (F3 Z Z Z (.pure _ _ _ _) (by (simp only [H96,H98];omega)) Z) Z Z (A9 (A7 Z) Z Z (v8 (B8 TySz.out Z Z Z Z Z Z) Z (K0 ?_)))))))))))))))))))))
          refine k4 (k1 ?_)
          refine A3 (A2 (A4 Z Z) Z (A2 (B9 Z Z (by omega)) Z (A2 (A5 Z Z) Z (A6 ?_))))
          refine k1 ?_
          refine ⟨i+1,by omega,by omega,?_⟩
          have e1:R k++(l.take (i+1)).map F=R k++(l.take i).map F++[⟨true,l[i].Parents,names.getD l[i].Line.toNat []⟩]:=by rw [I04 hli,I09,I05,I25,←I06,hFi]
          rw [e1]
          exact H62 ⟨le1 rfl,le1 rfl,le1 rfl,le1 rfl,le1 rfl,le1 rfl,le1 rfl,le1 rfl,le1 rfl,le1 rfl,le1 rfl,trivial⟩ ⟨rfl,rfl,rfl,trivial⟩
         ·have hli:i=l.length:=by have:=A1 ht;omega
          rw [hli,I16] at hil ⊢
          refine k6 (k2 ?_)
          refine A3 (A2 (A4 Z Z) Z (A2 (A4 Z Z) Z (A2 (D8 Z Z) Z (A6 ?_))))
          refine k1 ?_
          refine B4 rfl (fun ht=>?_) (fun ht=>?_)
          ·have hkL:k < f0.length:=by have:=A0 ht;omega
           have hmv:ms[k]?=some (ms.getD k 0):=by rw [I00,H97 (by omega)];rfl
           have hfv:f0[k]?=some (f0.getD k []):=by rw [I00,H97 (by omega)];rfl
           have hR2:=hR1 k
           rw [if_pos hkL,←hl,←I06] at hR2
           skip
           refine C6 (by kernel_rfl) (by kernel_rfl) (A9 (A7 Z) Z Z (A9 (A8 Z Z Z) Z Z (A9 (A4 Z Z) Z Z (A9 (A4 Z Z) Z Z (A9 (B0 Z (.pure _ _ _ _) Z (by omega) hmv) Z Z (A9 (B2 Z Z) Z Z (A9 (A4 Z Z) Z Z (A9 (B0 Z (.pure _ _ _ _) Z (by omega) hf0) Z Z (A9 (B2 Z Z) Z Z (A9 (A4 Z Z) Z Z (A9 (B0 Z (.pure _ _ _ _) Z (by omega) hfv) Z Z (A9 (B2 Z Z) Z Z (A9 (G6 Z) Z Z (A9 (C8 (c:=rowC) (ys:=[⟨false,ms.getD k 0,f0.getD k []⟩]) (D7 Z Z Z Z E7) Z Z Z) Z Z (B51 (F3 Z Z Z (.pure _ _ _ _) (by (simp only [H96,H98];omega)) Z) Z Z (A9 (A7 Z) Z Z (v8 (B8 TySz.out Z Z Z Z Z Z) Z (K0 ?_))))))))))))))))))
           refine k4 (k1 ?_)
           refine A3 (A2 (A4 Z Z) Z (A2 (B9 Z Z (by omega)) Z (A2 (A5 Z Z) Z (A6 ?_))))
           refine k1 ?_
           refine ⟨k+1,⟨by omega,fun q hq=>?_⟩,by omega,?_⟩
           ·by_cases h2:q=k
            ·rw [h2,←he,he0]
            ·exact hz0 q (by omega)
           rw [hR2]
           exact H62 ⟨le1 rfl,le1 rfl,le1 rfl,le1 rfl,le1 rfl,le1 rfl,le1 rfl,le1 rfl,le1 rfl,trivial⟩ ⟨rfl,rfl,rfl,trivial⟩
          ·have hkL:¬k < f0.length:=by have:=A1 ht;omega
           have hR2:=hR1 k
           rw [if_neg hkL,←hl,I14] at hR2
           refine k5 (k4 (k1 ?_))
           refine A3 (A2 (A4 Z Z) Z (A2 (B9 Z Z (by omega)) Z (A2 (A5 Z Z) Z (A6 ?_))))
           refine k1 ?_
           refine ⟨k+1,⟨by omega,fun q hq=>?_⟩,by omega,?_⟩
           ·by_cases h2:q=k
            ·rw [h2,←he,he0]
            ·exact hz0 q (by omega)
           rw [hR2]
           exact H62 ⟨le1 rfl,le1 rfl,le1 rfl,le1 rfl,le1 rfl,le1 rfl,le1 rfl,le1 rfl,le1 rfl,trivial⟩ ⟨rfl,rfl,rfl,trivial⟩
       ·have hkL:k=L+1:=by have:=A1 ht;omega
        refine k6 (k2 ?_)
        refine A3 (A2 (D2 Z Z Z) Z (F6 (B8 TySz.out Z Z Z Z Z Z) (A2 (A5 Z Z) Z (A6 ?_))))
        refine k1 (k10 ?_)
        refine B5 (rs:=[pTable ⟨n,R k⟩,G8 0]) (c9 Z Z Z Z Z Z Z) ?_
        have hno:¬∃q,q < f0.length+1∧(E9 ((P9 (fs.map (K3 (E1 fs))) f0.length n n).2 q)).2≠0:=by
         rintro ⟨q,hq1,hq2⟩
         refine hq2 ?_
         have:=hz0 q (by omega)
         rw [hg,hs,hids,hnames,hL] at this
         exact this
        rw [hmk,if_neg hno,hkL,hR,hs,hids,hnames,hL]
theorem G16 {rows:List Row} (h:I7 rows) (i:Nat):I7 (rows.take i):=fun r hr=>h r (List.mem_of_mem_take hr)
theorem E76 {n:Nat} {rows:List Row} {sp:List Span} {hs:List CHunk} (hn:n≤32) (hr:I7 rows) (hW:(rows.map Q7).sum≤8388608) (h:X4 n rows 0 [] sp=some hs):szC hs≤268435456∧∀x∈hs,I7 x.Rows:=by
 have h1:=G77 Q7 2081 n rows sp 0 [] hs (Int.le_refl _) h (by simp) (by simp)
 have h2:=D68 hr sp 0 [] hs h (fun x hx=>by cases hx)
 have hl:=R7 rows
 refine ⟨?_,fun x hx=>(h2 x hx).2⟩
 have h3:szC hs=(hs.map fun h=>(2048+h.At.length)+(h.Rows.map Q7).sum).sum:=rfl
 have h4:szC hs≤(hs.map fun h=>2081+(h.Rows.map Q7).sum).sum:=by
  rw [h3]
  clear h h1 h3
  induction hs with
  | nil=>simp
  | cons x r ih =>
   have h5:=(h2 x (by simp)).1
   have h6:=ih fun y hy=>h2 y (by simp [hy])
   rw [I05,I27,I05,I27]
   omega
 have h5:=h1.2
 simp only [H98] at h5
 have h6:=h1.1
 omega
theorem F43 {path:Str} {t:Table} {sp:List Span} {d:Bool} (hr:I7 t.Rows) (hW:(t.Rows.map Q7).sum≤8388608):szC (V5 path t sp d).1.Hunks≤268435456∧∀x∈(V5 path t sp d).1.Hunks,I7 x.Rows:=by
 have h0:szC comb0.Hunks≤268435456∧∀x∈comb0.Hunks,I7 x.Rows:=⟨by decide,fun x hx=>by cases hx⟩
 unfold V5
 split
 ·exact h0
 ·split
  ·exact h0
  ·rename_i hc
   cases hg:X4 t.Parents.toNat t.Rows 0 [] sp with
   | none=>exact h0
   | some hs =>
    dsimp only
    split
    ·exact h0
    ·refine E76 ?_ hr hW hg
     unfold N4 at hc
     split at hc
     ·exact absurd hc (by decide)
     ·omega
theorem C58 {t:Table} (h:N4 t=0):1≤t.Parents∧t.Parents≤32:=by
 unfold N4 at h
 split at h
 ·cases h
 ·omega
theorem F44 (rows:List Row) (n p:Nat):(List.range (p+1)).map (L7 rows n)=(List.range p).map (L7 rows n)++[L7 rows n p]:=by rw [I31,I09];rfl
set_option maxHeartbeats 1000000
theorem G64 (path:Str) (t:Table) (sp:List Span) (d:Bool) (hr:I7 t.Rows) (hW:(t.Rows.map Q7).sum≤8388608) (hx:P6 t.Rows≤8388608) (hsp:sp.length≤536870912) :
  FnOk Tryz.prog 53 [L4 path,pTable t,pSpans sp,J5 d] (fun rs=>rs=[R2 (V5 path t sp d).1,G8 (V5 path t sp d).2]):=by
 have hl:=R7 t.Rows
 have hll:t.Rows.length≤8388608:=by omega
 refine FnOk.intro Tryz.func53 (by decide) Z Z Z Z ?_
 refine k2 ?_
 refine A3 (C1 (Q4 5 Z Z Z) Z (C1 (G3 8 Z) Z (A2 (A5 Z Z) Z (A6 ?_))))
 refine k1 (k2 (k2 ?_))
 refine A3 (A2 (A4 Z Z) Z (C3 (F29 path) Z Z Z ?_));rintro _ rfl;refine A2 (K9 Z) Z (A6 ?_)
 refine k1 ?_
 refine B4 rfl (fun ht=>?_) (fun ht=>?_)
 ·have h:S7 path=false:=by simpa using ht
  refine k2 ?_
  refine A3 (A2 (G6 Z) Z (F6 (B8 TySz.out Z Z Z Z Z Z) (A2 (A5 Z Z) Z (A6 ?_))))
  refine k1 ?_
  refine G4 (H65 CHunk 2 M6 8 3 Z Z) ?_
  refine k10 (k11 ?_)
  exact B5 (rs:=[R2 comb0,G8 120]) (c9 rfl rfl rfl rfl rfl rfl rfl) (by unfold V5;rw [if_pos h])
 have h:S7 path=true:=by simpa using ht
 refine k5 (k1 (k2 (k2 ?_)))
 refine A3 (A2 (D2 Z Z Z) Z (C3 (F95 t hr (by omega) (by omega)) Z Z Z ?_));rintro _ rfl;refine A2 (A5 Z Z) Z (A6 ?_)
 refine k1 (k2 ?_)
 refine A3 (A2 (A4 Z Z) Z (A2 (O3 Z Z) Z (A6 ?_)))
 refine k1 ?_
 refine B4 rfl (fun ht=>?_) (fun ht=>?_)
 ·have h1:=A0 ht
  refine k2 ?_
  refine A3 (A2 (G6 Z) Z (A2 (A4 Z Z) Z (F6 (B8 TySz.out Z Z Z Z Z Z) (A2 (A5 Z Z) Z (A6 ?_)))))
  refine k1 ?_
  refine G4 (H65 CHunk 2 M6 8 3 Z Z) ?_
  refine k10 (k11 ?_)
  exact B5 (rs:=[R2 comb0,G8 (N4 t)]) (c9 rfl rfl rfl rfl rfl rfl rfl) (by unfold V5;rw [if_neg (by rw [h];decide),if_pos h1])
 have h1:=A1 ht
 have h10:N4 t=0:=by omega
 obtain ⟨hn1,hn2⟩:=C58 h10
 obtain ⟨n,hn⟩:∃n:Nat,t.Parents=n:=⟨t.Parents.toNat,by omega⟩
 obtain ⟨tp,rows⟩:=t
 have hn:tp=(n:Int):=hn
 subst hn
 dsimp only at hr hW hx hl hll hn1 hn2
 have hcut:V5 path ⟨n,rows⟩ sp d=match X4 n rows 0 [] sp with
  | none=>(comb0,3)
  | some hs=>if I5 ⟨path,d,(n:Int),hs⟩≠0 then (comb0,I5 ⟨path,d,(n:Int),hs⟩) else (⟨path,d,(n:Int),hs⟩,0):=by
  unfold V5;rw [if_neg (by rw [h];decide),if_neg (by omega)];rfl
 rw [hcut]
 have hno:X4 n rows 0 [] sp=none→[R2 comb0,G8 3]=[R2 (match X4 n rows 0 [] sp with
  | none=>(comb0,3)
  | some hs=>if I5 ⟨path,d,(n:Int),hs⟩≠0 then (comb0,I5 ⟨path,d,(n:Int),hs⟩) else (⟨path,d,(n:Int),hs⟩,0)).1,G8 (match X4 n rows 0 [] sp with
  | none=>(comb0,3)
  | some hs=>if I5 ⟨path,d,(n:Int),hs⟩≠0 then (comb0,I5 ⟨path,d,(n:Int),hs⟩) else (⟨path,d,(n:Int),hs⟩,0)).2]:=fun e=>by rw [e]
 obtain ⟨W,hWd⟩:∃W,W=X4 n rows 0 [] sp:=⟨_,rfl⟩
 have hcs:∀hs,W=some hs→szC hs≤268435456∧∀x∈hs,I7 x.Rows:=fun hs e=>E76 (n:=n) (by omega) hr hW (by rw [←hWd];exact e)
 rw [←hWd] at hno ⊢
 refine k5 (k1 (k2 ?_))
 refine A3 (A2 (A4 Z Z) Z (A2 (A4 Z Z) Z (A2 (A7 Z) Z (A2 (A8 Z Z Z) Z (A2 (G6 Z) Z (C1 (G3 11 Z) Z (F6 (B8 TySz.out Z Z Z Z Z Z) (A6 ?_))))))))
 refine G4 (H68 754 CHunk 2 M6 82 (kb:=11) (o:=3) Z Z Z) ?_
 refine k2 ?_
 refine A3 (A2 (A5 Z Z) Z (A6 ?_))
 refine k1 (k2 (k2 ?_))
 refine A3 (A2 (A5 Z Z) Z (A6 ?_))
 refine k1 (k3 ?_)
 refine C9 (X:=Nat × Int × List CHunk) (fun x=>([(2,C0 Span 2 spanC sp),(5,.s (.one (.ref 5 0))),(8,.s (.one (.ref 8 0))),(11,.s (.one (.ref 11 0))),(12,B7 x.2.1),(13,B7 x.1)],[(5,.box (pTable ⟨n,rows⟩).s1.cells),(8,.box [.p (.v (.string ⟨#[]⟩)),.p (.v (.bool false)),.p (.v (.int .i64 0)),.p (.v (.slice none 0 0))]),(11,.box [.p (.v (.string ⟨path.toArray⟩)),.p (.v (.bool d)),.p (.v (.int .i64 n)),.buf 754 CHunk 2 M6 x.2.2]),(754,.spare x.2.2.length 2 82)])) (fun x=>x.1≤sp.length∧0≤x.2.1∧x.2.2.length≤x.1∧W=X4 n rows x.2.1 x.2.2 (sp.drop x.1)) (fun x=>sp.length - x.1) (0,0,[]) ⟨Nat.zero_le _,Int.le_refl _,Nat.le_refl _,hWd⟩ (H62 ⟨le1 rfl,le1 rfl,le1 rfl,le1 rfl,le1 rfl,le1 rfl,trivial⟩ ⟨rfl,rfl,rfl,rfl,trivial⟩) ?_
 rintro ⟨k,e,hs⟩ ⟨hk,he,hsl,hp⟩
 dsimp only at hk he hsl hp ⊢
 refine k2 (k2 ?_)
 refine A3 (A2 (A4 Z Z) Z (A2 (A4 Z Z) Z (A2 (D4 Z (.pure _ _ _ _)) Z (A2 (D8 Z Z) Z (A6 ?_)))))
 refine k1 ?_
 refine B4 rfl (fun ht=>?_) (fun ht=>?_)
 rotate_left
 ·have hkl:k=sp.length:=by have:=A1 ht;omega
  rw [hkl,I02 (Nat.le_refl _)] at hp
  have hp:W=some hs:=hp
  obtain ⟨z1,z2⟩:=hcs hs hp
  rw [hp]
  dsimp only
  refine k6 (k2 (k2 ?_))
  refine A3 (A2 (D2 Z Z Z) Z (C3 (F42 ⟨path,d,n,hs⟩ z1 z2) Z Z Z ?_));rintro _ rfl;refine A2 (A5 Z Z) Z (A6 ?_)
  refine k1 (k2 ?_)
  refine A3 (A2 (A4 Z Z) Z (A2 (O3 Z Z) Z (A6 ?_)))
  refine k1 ?_
  refine B4 rfl (fun ht=>?_) (fun ht=>?_)
  ·have h2:=A0 ht
   refine k2 ?_
   refine A3 (A2 (G6 Z) Z (A2 (A4 Z Z) Z (F6 (B8 TySz.out Z Z Z Z Z Z) (A2 (A5 Z Z) Z (A6 ?_)))))
   refine k1 ?_
   refine G4 (H65 CHunk 2 M6 8 3 Z Z) ?_
   refine k10 (k11 ?_)
   exact B5 (rs:=[R2 comb0,G8 (I5 ⟨path,d,n,hs⟩)]) (c9 rfl rfl rfl rfl rfl rfl rfl) (by rw [if_pos h2])
  ·have h2:=A1 ht
   refine k5 (k1 (k2 ?_))
   refine A3 (A2 (D2 Z Z Z) Z (F6 (B8 TySz.out Z Z Z Z Z Z) (A2 (A5 Z Z) Z (A6 ?_))))
   refine k1 (k10 ?_)
   exact B5 (rs:=[R2 ⟨path,d,n,hs⟩,G8 0]) (c9 rfl rfl rfl rfl rfl rfl rfl) (by rw [if_neg h2])
 have hlt:k < sp.length:=by have:=A0 ht;omega
 have hv:sp[k]?=some sp[k]:=by simp [hlt]
 rw [I01 hlt,X4] at hp
 obtain ⟨s,hsd⟩:∃s,s=sp[k]:=⟨_,rfl⟩
 rw [←hsd] at hp hv
 refine k5 (k1 (k2 (k3 (k2 (k2 ?_)))))
 refine C6 (by kernel_rfl) (by kernel_rfl) (A9 (A4 Z Z) Z Z (A9 (A4 Z Z) Z Z (A9 (B0 Z (.pure _ _ _ _) Z (by omega) hv) Z Z (A9 (D6 Z) Z Z (A9 (B2 Z Z) Z Z (A9 (A4 Z Z) Z Z (A9 (D8 Z Z) Z Z (A9 (A4 Z Z) Z Z (D1 Z Z (fun hg=>by rw [hg];exact A4 Z Z) Z Z ?_)))))))));refine D1 Z Z (fun hg=>by rw [hg];exact A4 Z Z) Z Z ?_;refine D1 Z Z (fun hg=>by have hq:=hg;(try simp at hq);rw [hg];exact B0 Z (.pure _ _ _ _) Z (by omega) hv) Z Z ?_;refine D1 Z Z (fun hg=>by rw [hg];exact D6 Z) Z Z ?_;refine D1 Z Z (fun hg=>by rw [hg];exact B2 Z Z) Z Z ?_;refine D1 Z Z (fun hg=>by rw [hg];exact A4 Z Z) Z Z ?_;refine D1 Z Z (fun hg=>by rw [hg];exact A4 Z Z) Z Z ?_;refine D1 Z Z (fun hg=>by have hq:=hg;(try simp at hq);rw [hg];exact B0 Z (.pure _ _ _ _) Z (by omega) hv) Z Z ?_;refine D1 Z Z (fun hg=>by rw [hg];exact D6 Z) Z Z ?_;refine D1 Z Z (fun hg=>by rw [hg];exact B2 Z Z) Z Z ?_;refine D1 Z Z (fun hg=>by rw [hg];exact c6 Z Z) Z Z ?_;refine A9 (B6 Z (fun h=>by first | rfl | (rw [h];rfl)) (fun h=>by first | rfl | (rw [h];rfl))) Z Z ?_;refine A9 (A4 Z Z) Z Z (D1 Z Z (fun hg=>by rw [hg];exact A4 Z Z) Z Z ?_);refine D1 Z Z (fun hg=>by rw [hg];exact A4 Z Z) Z Z ?_;refine D1 Z Z (fun hg=>by have hq:=hg;(try simp at hq);rw [hg];exact B0 Z (.pure _ _ _ _) Z (by omega) hv) Z Z ?_;refine D1 Z Z (fun hg=>by rw [hg];exact D6 Z) Z Z ?_;refine D1 Z Z (fun hg=>by rw [hg];exact B2 Z Z) Z Z ?_;refine D1 Z Z (fun hg=>by rw [hg];exact A7 Z) Z Z ?_;refine D1 Z Z (fun hg=>by rw [hg];exact A8 Z Z Z) Z Z ?_;refine D1 Z Z (fun hg=>by rw [hg];exact D4 Z (.pure _ _ _ _)) Z Z ?_;refine D1 Z Z (fun hg=>by rw [hg];exact M7 Z Z) Z Z ?_;refine A9 (B6 Z (fun h=>by first | rfl | (rw [h];rfl)) (fun h=>by first | rfl | (rw [h];rfl))) Z Z ?_;refine K0 ?_
 refine k1 ?_
 refine B4 rfl (fun ht=>?_) (fun ht=>?_)
 ·have hc:s.From < e∨s.To≤s.From∨(rows.length:Int) < s.To:=by
   by_cases q1:s.From < e
   ·exact .inl q1
   ·by_cases q2:s.To≤s.From
    ·exact .inr (.inl q2)
    ·simp [q1,q2] at ht
     exact .inr (.inr ht)
  rw [if_pos hc] at hp
  refine k2 ?_
  refine A3 (A2 (G6 Z) Z (F6 (B8 TySz.out Z Z Z Z Z Z) (A2 (A5 Z Z) Z (A6 ?_))))
  refine k1 ?_
  refine G4 (H65 CHunk 2 M6 8 3 Z Z) ?_
  refine k10 (k11 (k12 (k11 (k11 (k12 (k11 ?_))))))
  exact B5 (rs:=[R2 comb0,G8 3]) (c9 rfl rfl rfl rfl rfl rfl rfl) (hno hp)
 have hc:¬(s.From < e∨s.To≤s.From∨(rows.length:Int) < s.To):=by
  rintro (q | q | q)
  ·simp [q] at ht
  ·simp [q] at ht
  ·simp [q] at ht
 rw [if_neg hc] at hp
 simp only [not_or,Int.not_lt,Int.not_le] at hc
 obtain ⟨c1,c2,c3⟩:=hc
 obtain ⟨F,hF⟩:∃F:Nat,s.From=F:=⟨s.From.toNat,by omega⟩
 obtain ⟨T,hT⟩:∃T:Nat,s.To=T:=⟨s.To.toNat,by omega⟩
 obtain ⟨sF,sT⟩:=s
 have hF:sF=(F:Int):=hF
 have hT:sT=(T:Int):=hT
 subst hF hT
 dsimp only at c1 c2 c3 hp
 rw [I03,I03] at hp
 have hsub:((rows.drop F).take (T - F)).length=T - F:=by rw [I13,I10];omega
 have hFl:(F:Int)≤rows.length:=by omega
 refine k5 (k1 (k2 ?_))
 refine L1 [(2,C0 Span 2 spanC sp),(5,.s (.one (.ref 5 0))),(8,.s (.one (.ref 8 0))),(11,.s (.one (.ref 11 0))),(13,B7 k)] [(5,.box (pTable ⟨n,rows⟩).s1.cells),(8,.box [.p (.v (.string ⟨#[]⟩)),.p (.v (.bool false)),.p (.v (.int .i64 0)),.p (.v (.slice none 0 0))]),(11,.box [.p (.v (.string ⟨path.toArray⟩)),.p (.v (.bool d)),.p (.v (.int .i64 n)),.buf 754 CHunk 2 M6 hs]),(754,.spare hs.length 2 82)] (H62 ⟨le1 rfl,le1 rfl,le1 rfl,le1 rfl,le1 rfl,trivial⟩ ⟨rfl,rfl,rfl,rfl,trivial⟩) ?_
 refine S2 [17,16,14] [[],[14],[16],[16,14],[17,16,14]] [(14,([],[])),(16,([14],[])),(17,([],[]))] [(0,[]),(1,[]),(2,[]),(3,[]),(4,[]),(5,[]),(6,[]),(7,[]),(8,[]),(9,[]),(10,[]),(11,[]),(12,[]),(13,[]),(14,[]),(15,[14]),(16,[]),(16,[14]),(17,[16,14])] [(0,[16]),(1,[16]),(2,[16]),(3,[16]),(4,[16]),(5,[16]),(6,[16]),(7,[16]),(8,[16]),(9,[16]),(10,[16]),(11,[16]),(12,[16]),(13,[16]),(14,[16]),(15,[16,14])] (by kernel_rfl) (by kernel_rfl) (D9 Z Z (by kernel_rfl) Z Z (n8 (c:=rowC) (ys:=[]) E7 Z Z Z) (D9 Z Z (by kernel_rfl) Z Z (A7 Z) (D9 Z Z (by kernel_rfl) Z Z (A8 Z Z Z) (D9 Z Z (by kernel_rfl) Z Z (A4 Z Z) (D9 Z Z (by kernel_rfl) Z Z (A4 Z Z) (D9 Z Z (by kernel_rfl) Z Z (B0 Z (.pure _ _ _ _) Z (by omega) hv) (D9 Z Z (by kernel_rfl) Z Z (D6 Z) (D9 Z Z (by kernel_rfl) Z Z (B2 Z Z) (D9 Z Z (by kernel_rfl) Z Z (A4 Z Z) (D9 Z Z (by kernel_rfl) Z Z (A4 Z Z) (D9 Z Z (by kernel_rfl) Z Z (B0 Z (.pure _ _ _ _) Z (by omega) hv) (D9 Z Z (by kernel_rfl) Z Z (D6 Z) (D9 Z Z (by kernel_rfl) Z Z (B2 Z Z) (D9 Z Z (by kernel_rfl) Z Z (T7 Z (.pure _ _ _ _) Z Z (by (first | omega | (dsimp only;omega))) (by (first | omega | (dsimp only;omega))) (by (first | omega | (dsimp only;omega)))) (X3 Z Z (by kernel_rfl) Z Z (r_neu (fun frc hU=>m6 (V0 hU Z) (V0 hU Z) (.pure _ _ _ _) (by (rw [I03,I03,hsub];simp;omega)) (by rw [I03,I03,hsub];omega))) Z ?_)))))))))))))));refine D9 Z Z (by kernel_rfl) Z Z (G6 Z) (X3 Z Z (by kernel_rfl) Z Z (G53 Z) Z (w_again Z Z (by kernel_rfl) Z Z (G53 Z) Z (X3 Z Z (by kernel_rfl) Z Z (D20 (fun frc hU=>B8 TySz.out (V0 hU Z) Z (V0 hU Z) Z Z Z)) Z ?_)));refine D18 (by kernel_rfl) rfl ?_ ?_
 ·refine I3 Z Z (by kernel_rfl) Z Z (n8 (c:=rowC) (ys:=[]) E7 Z Z Z) (I3 Z Z (by kernel_rfl) Z Z (A7 Z) (I3 Z Z (by kernel_rfl) Z Z (A8 Z Z Z) (I3 Z Z (by kernel_rfl) Z Z (A4 Z Z) (I3 Z Z (by kernel_rfl) Z Z (A4 Z Z) (I3 Z Z (by kernel_rfl) Z Z (B0 Z (.pure _ _ _ _) Z (by omega) hv) (I3 Z Z (by kernel_rfl) Z Z (D6 Z) (I3 Z Z (by kernel_rfl) Z Z (B2 Z Z) (I3 Z Z (by kernel_rfl) Z Z (A4 Z Z) (I3 Z Z (by kernel_rfl) Z Z (A4 Z Z) (I3 Z Z (by kernel_rfl) Z Z (B0 Z (.pure _ _ _ _) Z (by omega) hv) (I3 Z Z (by kernel_rfl) Z Z (D6 Z) (I3 Z Z (by kernel_rfl) Z Z (B2 Z Z) (I3 Z Z (by kernel_rfl) Z Z (T7 Z (.pure _ _ _ _) Z Z (by (first | omega | (dsimp only;omega))) (by (first | omega | (dsimp only;omega))) (by (first | omega | (dsimp only;omega)))) ?_)))))))))))));refine x_eff rfl rfl (by kernel_rfl) rfl rfl (r_neu (fun frc hU=>m6 (V0 hU rfl) (V0 hU rfl) (.pure _ _ _ _) (by (rw [I03,I03,hsub];simp;omega)) (by rw [I03,I03,hsub];omega))) rfl (H35 (by repeat (first | exact trivial | refine ⟨.inr rfl,?_⟩ | refine ⟨.inl rfl,?_⟩))) ?_;refine I3 Z Z (by kernel_rfl) Z Z (G6 Z) ?_;exact C51
 rw [I03,I03,I28]
 refine G4 (H68 755 Int 1 F5 3 (kb:=14) (o:=0) Z Z Z) ?_
 refine k2 (k2 ?_)
 refine A3 (A2 (A5 Z Z) Z (A6 ?_))
 refine k1 (k3 ?_)
 obtain ⟨R,hR⟩:∃R,R=(rows.drop F).take (T - F):=⟨_,rfl⟩
 rw [←hR] at hp hsub ⊢
 refine C9 (X:=Nat) (fun p=>([(2,C0 Span 2 spanC sp),(5,.s (.one (.ref 5 0))),(8,.s (.one (.ref 8 0))),(11,.s (.one (.ref 11 0))),(13,B7 k),(14,.s (.one (.ref 14 0))),(15,B7 p)],[(5,.box (pTable ⟨n,rows⟩).s1.cells),(8,.box [.p (.v (.string ⟨#[]⟩)),.p (.v (.bool false)),.p (.v (.int .i64 0)),.p (.v (.slice none 0 0))]),(11,.box [.p (.v (.string ⟨path.toArray⟩)),.p (.v (.bool d)),.p (.v (.int .i64 n)),.buf 754 CHunk 2 M6 hs]),(754,.spare hs.length 2 82),(14,.box [.buf 755 Int 1 F5 ((List.range p).map (L7 (rows.take F) n)),.p (.list Row 3 rowC R)]),(755,.spare ((List.range p).map (L7 (rows.take F) n)).length 1 3)])) (fun p=>p≤n+1) (fun p=>n+1 - p) 0 (Nat.zero_le _) (H62 ⟨le1 rfl,le1 rfl,le1 rfl,le1 rfl,le1 rfl,le1 rfl,le1 rfl,trivial⟩ ⟨rfl,rfl,rfl,rfl,rfl,rfl,trivial⟩) ?_
 intro p hpn
 dsimp only at hpn ⊢
 have hml:((List.range p).map (L7 (rows.take F) n)).length=p:=by simp
 refine k2 (k2 ?_)
 refine A3 (A2 (A4 Z Z) Z (A2 (A7 Z) Z (A2 (A8 Z Z Z) Z (A2 (c6 Z Z) Z (A6 ?_)))))
 refine k1 ?_
 refine B4 rfl (fun ht=>?_) (fun ht=>?_)
 ·have hle:p≤n:=by have:=A0 ht;omega
  have hst:=F44 (rows.take F) n p
  have htl:(rows.take F).length=F:=by rw [I13];omega
  have hcm:=B62 p n
  have hcol:=y9 (rows.take F) (Q6 n p) (G16 hr F) (by omega)
  refine k5 (k1 (k2 (k3 ?_)))
  refine C6 (by kernel_rfl) (by kernel_rfl) (A9 (A7 Z) Z Z (A9 (A8 Z Z Z) Z Z (A9 (A7 Z) Z Z (A9 (A8 Z Z Z) Z Z (A9 (A4 Z Z) Z Z (A9 (A4 Z Z) Z Z (A9 (B0 Z (.pure _ _ _ _) Z (by omega) hv) Z Z (A9 (D6 Z) Z Z (A9 (B2 Z Z) Z Z (A9 (C18 Z (.pure _ _ _ _) Z (by (first | omega | (dsimp only;omega))) (by (first | omega | (dsimp only;omega)))) Z Z (A9 (A4 Z Z) Z Z (A9 (A7 Z) Z Z (A9 (A8 Z Z Z) Z Z (A9 (H6 (hcm) Z Z) Z Z (A9 (H6 (hcol) Z Z) Z Z (A9 (D4 Z (.pure _ _ _ _)) Z Z (A9 (C8 (c:=F5) (ys:=[L7 (rows.take F) n p]) (D7 Z Z Z Z E7) Z Z Z) Z Z (B51 (F3 Z Z Z (.pure _ _ _ _) (by (rw [hml];simp only [H96,H98];omega)) Z) Z Z ?_))))))))))))))))));refine A9 (A7 Z) Z Z (v8 (B8 TySz.out Z Z Z Z Z Z) Z (K0 ?_))
  refine k4 (k1 ?_)
  refine A3 (A2 (A4 Z Z) Z (A2 (B9 Z Z (by omega)) Z (A2 (A5 Z Z) Z (A6 ?_))))
  refine k1 ?_
  refine ⟨p+1,by omega,by omega,?_⟩
  rw [hst]
  exact H62 ⟨le1 rfl,le1 rfl,le1 rfl,le1 rfl,le1 rfl,le1 rfl,le1 rfl,trivial⟩ ⟨rfl,rfl,rfl,rfl,rfl,rfl,trivial⟩
 have hpl:p=n+1:=by have:=A1 ht;omega
 rw [hpl]
 refine k6 (k2 ?_)
 refine A3 (A2 (A7 Z) Z (A2 (A8 Z Z Z) Z (A2 (D2 Z Z Z) Z (A2 (C8 (c:=M6) (ys:=[⟨H9 (rows.take F) n,R⟩]) (D7 Z Z Z Z E7) Z Z Z) Z (C1 (F3 Z Z Z (.pure _ _ _ _) (by (simp only [H96,H98];omega)) Z) Z (A2 (A7 Z) Z (F6 (B8 TySz.out Z Z Z Z Z Z) (A6 ?_))))))))
 refine k1 ?_
 refine A3 (A2 (A4 Z Z) Z (A2 (A4 Z Z) Z (A2 (B0 Z (.pure _ _ _ _) Z (by omega) hv) Z (A2 (D6 Z) Z (A2 (B2 Z Z) Z (A2 (A5 Z Z) Z (A6 ?_)))))))
 refine k4 (k1 ?_)
 refine A3 (A2 (A4 Z Z) Z (A2 (B9 Z Z (by omega)) Z (A2 (A5 Z Z) Z (A6 ?_))))
 refine k1 ?_
 exact ⟨(k+1,(T:Int),hs++[⟨H9 (rows.take F) n,R⟩]),⟨by dsimp only;omega,by dsimp only;omega,by dsimp only;rw [H95];simp;omega,hp⟩,by dsimp only;omega,H62 ⟨le1 rfl,le1 rfl,le1 rfl,le1 rfl,le1 rfl,le1 rfl,trivial⟩ ⟨rfl,rfl,rfl,rfl,trivial⟩⟩
end Go.Proofs.YtgejaedjnbjpoaaGreatDoor
