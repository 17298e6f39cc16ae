/- Walks of the program's functions. -/
import Derived.Test.YtgejaedjnbjpoaaGreatDoorFd
import Derived.Test.YtgejaedjnbjpoaaGreatDoorFf
import Derived.Test.YtgejaedjnbjpoaaGreatDoorFc
import Derived.Test.YtgejaedjnbjpoaaGreatDoorFs
import Derived.Test.YtgejaedjnbjpoaaGreatDoorFb
import Derived.Test.YtgejaedjnbjpoaaGreatDoorFa
namespace Go.Proofs.YtgejaedjnbjpoaaGreatDoor
open Go Go.AL
set_option maxRecDepth 100000
theorem I24 (rows:List Row) (n:Nat) (hn:n≤32) (hr:K3 rows) (hl:rows.length≤268435456):FnOk Tryz.prog 112 [pRows rows,F2 n] (fun rs=>rs=[Q9 (G1 rows n)]) :=
 K89 (k:=720) rfl (B58 rows n hn hr hl)
theorem I25 {gf:Fr} {ob:Obs} (l:List Int) (hl:0 < l.length∧l.length≤1073741824) (h:C2 ob 720=some (.arr Int 1 G6 l)) :
  AL.Met Tryz.prog 113 [.one (.mut 720)] gf ob [] (fun rs ob'=>rs=[.one (.p (.list Int 1 G6 l))]∧ob'=ob):=by
 refine AL.Met.intro Tryz.func113 (by decide) Z Z Z ?_
 refine k2 ?_
 refine A4 (A3 (A6 Z Z) Z (A7 ?_))
 refine k1 (k2 (k2 ?_))
 refine A4 (A3 (A5 Z Z) Z (A3 (F44 Z h) Z (A7 ?_)))
 refine k1 ?_
 refine B4 rfl (fun ht=>?_) (fun ht=>?_)
 ·cases ht
 refine k5 (k1 (k2 ?_))
 refine A4 (A3 (B53 (c:=G6) (ys:=[]) I6 Z Z Z) Z (A3 (A5 Z Z) Z (A3 (C86 Z Z h (by (simp;omega)) (hl.1)) Z (A3 (A6 Z Z) Z (A7 ?_)))))
 rw [L18]
 refine k1 (k10 ?_)
 exact G8 (R6 rfl rfl) (by repeat (first | exact C5 | refine tail_cons rfl ?_ | refine D3 _ ?_)) (fun _ _ h=>h) ⟨rfl,rfl⟩
theorem J35 (l:List Row) (hl:0 < l.length∧l.length≤1073741824):FnOk Tryz.prog 114 [pRows l] (fun rs=>rs=[pRows l]):=by
 refine FnOk.intro Tryz.func114 (by decide) Z Z Z Z ?_
 refine k2 ?_
 refine A4 (A3 (A6 Z Z) Z (A7 ?_))
 refine k1 (k2 (k2 ?_))
 refine A4 (A3 (A5 Z Z) Z ?_);(first | (refine G31 (F74 rfl (.pure _ _ _ _)) rfl ?_) | (refine G31 (F74 rfl (.buf _ _ _ _ _)) rfl ?_));rintro _ ⟨b1,rfl,hnil⟩;refine A7 ?_
 refine k1 ?_
 refine B4 rfl (fun ht=>?_) (fun ht=>?_)
 ·have:=hnil ht
  rw [this] at hl
  exact absurd hl.1 (by simp)
 refine k5 (k1 (k2 ?_))
 refine A4 (A3 (B53 (c:=rowC) (ys:=[]) I6 Z Z Z) Z (A3 (A5 Z Z) Z (A3 (C16 Z Z (.pure _ _ _ _) (by (simp;omega)) (hl.1)) Z (A3 (A6 Z Z) Z (A7 ?_)))))
 rw [L18]
 refine k1 (k10 ?_)
 exact B8 (I2 rfl rfl rfl) rfl
theorem I26 (rows:List Row) (n k:Nat) {e t:Nat} (h:e≤t):M2 (rows.take t) n k=M2 (rows.take e) n k+M2 ((rows.drop e).take (t - e)) n k:=by
 have h1:rows.take t=rows.take e++(rows.drop e).take (t - e):=by
  have:=List.take_add (l:=rows) (i:=e) (j:=t - e)
  rwa [show e+(t - e)=t by omega] at this
 unfold M2
 rw [h1]
 unfold N7
 rw [L44,L14,K96,Int.natCast_add]
def B30 (rows:List Row) (n e t i:Nat):List Int:=(List.range (n+1)).map fun k=>if k < i then M2 (rows.take t) n k else M2 (rows.take e) n k
theorem J36 (rows:List Row) (n e t i:Nat):(B30 rows n e t i).length=n+1:=by simp [B30]
theorem I27 (rows:List Row) (n e t:Nat):B30 rows n e t 0=G1 (rows.take e) n:=by
 unfold B30 G1
 exact List.map_congr_left fun k _=>if_neg (by omega)
theorem I28 (rows:List Row) (n e t:Nat):B30 rows n e t (n+1)=G1 (rows.take t) n:=by
 unfold B30 G1
 exact List.map_congr_left fun k hk=>if_pos (by simpa using hk)
theorem J37 (rows:List Row) (n e t i:Nat) (hi:i < n+1):(B30 rows n e t i)[i]?=some (M2 (rows.take e) n i):=by
 unfold B30
 rw [D45 (n+1) i _ hi,if_neg (by omega)]
theorem J38 (rows:List Row) (n e t i:Nat):(B30 rows n e t i).set i (M2 (rows.take t) n i)=B30 rows n e t (i+1):=by
 refine B94 (n+1) i _ _ _ (fun _=>if_pos (by omega)) (fun q _ hq=>?_)
 by_cases h:q < i
 ·rw [if_pos h,if_pos (by omega)]
 ·rw [if_neg h,if_neg (by omega)]
theorem I85 (rows:List Row) (n k:Nat):0≤M2 rows n k∧M2 rows n k≤rows.length:=by
 unfold M2
 have:=D46 rows (A08 n k)
 omega
set_option maxHeartbeats 1000000
theorem E73 {gf:Fr} {ob:Obs} (t:Table) (n e z:Nat) (hn:t.Parents=n) (hn2:n≤32) (hr:K3 t.Rows) (hl:t.Rows.length≤8388608) (h1:e≤z) (h2:z≤t.Rows.length)
  (h5:C2 ob 5=some (.box (pTable t).s1.cells)) (h13:C2 ob 13=some (n9 e)) (h12:C2 ob 12=some (.box [.mut 720])) (h720:C2 ob 720=some (.arr Int 1 G6 (G1 (t.Rows.take e) n))) :
  AL.Met Tryz.prog 111 [iS z,.one (.ref 5 0),.one (.ref 13 0),.one (.ref 12 0)] gf ob []
   (fun rs ob'=>rs=[]∧ob'=(13,n9 z)::(720,.arr Int 1 G6 (G1 (t.Rows.take z) n))::(5,.box (pTable t).s1.cells)::(12,.box [.mut 720])::ob):=by
 obtain ⟨tp,rows⟩:=t
 have hn:tp=(n:Int):=hn
 subst hn
 dsimp only at hr hl h2 h720 ⊢
 have hsl:((rows.drop e).take (z - e)).length=z - e:=by rw [L08,L05];omega
 have hC:=I24 ((rows.drop e).take (z - e)) n hn2 (fun r hm=>hr r (List.mem_of_mem_drop (List.mem_of_mem_take hm))) (by omega)
 obtain ⟨cs,hcs⟩:∃cs,cs=G1 ((rows.drop e).take (z - e)) n:=⟨_,rfl⟩
 have hcl:cs.length=n+1:=by rw [hcs];simp [G1]
 rw [←hcs] at hC
 refine AL.Met.introH Tryz.func111 (by decide) rfl rfl rfl (fun hH=>?_)
 refine k2 (k2 ?_)
 refine D4 (by kernel_rfl) (by kernel_rfl) (B1 (A8 Z) Z Z (B1 (A9 Z h5 Z) Z Z (B1 (A9 Z h13 Z) Z Z (B1 (A5 Z Z) Z Z (B1 (d7 Z (.pure _ _ _ _) Z Z (by (first | omega | (dsimp only;omega))) (by (first | omega | (dsimp only;omega))) (by (first | omega | (dsimp only;omega)))) Z Z (B1 (A8 Z) Z Z (B1 (A9 Z h5 Z) Z Z (B1 (K9 (hC) Z Z) Z Z (B1 (F1 Z (.pure _ _ _ _)) Z Z (B1 (A5 Z Z) Z Z (L4 ?_)))))))))))
 refine k1 (k3 ?_)
 refine E1 (X:=Nat) (fun i=>([(0,C0 z),(1,.s (.one (.ref 5 0))),(2,.s (.one (.ref 13 0))),(3,.s (.one (.ref 12 0))),(14,D2 Int 1 G6 cs),(15,C0 cs.length),(16,C0 i)]++gf,(13,n9 e)::(720,.arr Int 1 G6 (B30 rows n e z i))::(5,.box (pTable ⟨n,rows⟩).s1.cells)::(12,.box [.mut 720])::ob)) (fun i=>i≤n+1) (fun i=>n+1 - i) 0 (Nat.zero_le _) ?_ ?_
 ·dsimp only
  rw [I27]
  exact K61 ⟨le1 rfl,le1 rfl,le1 rfl,le1 rfl,le1 rfl,le1 rfl,le1 rfl,trivial⟩ hH (by repeat (first | exact C5 | refine tail_cons rfl ?_)) (B90 (L:=[(13,_),(720,_),(5,_),(12,_)]) ⟨h13,h720,h5,h12,trivial⟩ B49)
 intro i hi
 dsimp only at hi ⊢
 have hal:=J36 rows n e z i
 refine k2 ?_
 refine A4 (A3 (E6 Z Z) Z (A7 ?_))
 refine k1 (k2 ?_)
 refine B4 rfl (fun ht=>?_) (fun ht=>?_)
 ·have hlt:i < n+1:=by have:=A0 ht;omega
  have hv:cs[i]?=some (M2 ((rows.drop e).take (z - e)) n i):=by rw [hcs];unfold G1;exact D45 (n+1) i _ hlt
  have hg:=J37 rows n e z i hlt
  have hst:=J38 rows n e z i
  have hsp:=I26 rows n i h1
  have b1:=I85 (rows.take e) n i
  have b2:=I85 ((rows.drop e).take (z - e)) n i
  have hte:(rows.take e).length=e:=by rw [L08];omega
  have hv2:(B30 rows n e z i)[((i:Nat):Int).toNat]?=some (M2 (rows.take e) n i):=by rw [L01];exact hg
  refine k5 (k1 (k2 (k3 (k2 ?_))))
  refine A4 (A3 (A5 Z Z) Z (A3 (B9 Z (.pure _ _ _ _) Z (by omega) hv) Z (A3 (C8 Z Z) Z (A3 (A6 Z Z) Z (A3 (A6 Z Z) Z (A7 ?_))))))
  refine k1 ?_
  refine A4 (A3 (A9 Z Z Z) Z (A3 (A5 Z Z) Z (A3 (F5 Z Z Z (by omega) (by (rw [hal];omega))) Z ?_)));refine A3 (U3 Z Z hv2 Z) Z (A3 (A5 Z Z) Z (A3 (C6 Z Z (by omega)) Z (A3 (F5 Z Z Z (by omega) (by (rw [hal];omega))) Z ?_)));refine E5 (H4 TySz.out Z Z (by (rw [hal];omega)) Z Z) ?_;refine A7 ?_
  rw [L01,←hsp,hst]
  refine k4 (k1 ?_)
  refine A4 (A3 (C6 Z Z (by omega)) Z (A3 (A5 Z Z) Z (A7 ?_)))
  refine k1 ?_
  refine ⟨i+1,by omega,by omega,?_⟩
  exact K61 ⟨le1 rfl,le1 rfl,le1 rfl,le1 rfl,le1 rfl,le1 rfl,le1 rfl,trivial⟩ hH (by repeat (first | exact C5 | refine tail_cons rfl ?_)) (B90 (L:=[(13,_),(720,_),(5,_),(12,_)]) ⟨rfl,rfl,rfl,rfl,trivial⟩ (by repeat (first | exact B49 | refine B50 rfl ?_)))
 have hin:i=n+1:=by have:=A1 ht;omega
 rw [hin,I28]
 refine k6 (k7 (k7 (k8 Z (k1 ?_))))
 refine A4 (A3 (A5 Z Z) Z (E5 (B7 TySz.out Z Z Z Z Z Z) (A7 ?_)))
 skip
 exact E37 (rets0 rfl) (by repeat (first | exact C5 | refine tail_cons rfl ?_)) (B90 (L:=[(13,_),(720,_),(5,_),(12,_)]) ⟨rfl,rfl,rfl,rfl,trivial⟩ (by repeat (first | exact B49 | refine B50 rfl ?_))) ⟨rfl,rfl⟩
def E74 (n:Int):Int→List Span→Bool
 | _,[]=>true
 | e,s::r=>if s.From < e∨s.To≤s.From∨n < s.To then false else E74 n s.To r
theorem H31 (sp:List Span) (n:Int) (hl:sp.length≤536870912):FnOk Tryz.prog 110 [pSpans sp,F2 n] (fun rs=>rs=[E3 (E74 n 0 sp)]):=by
 obtain ⟨W,hW⟩:∃W,W=E74 n 0 sp:=⟨_,rfl⟩
 rw [←hW]
 refine FnOk.intro Tryz.func110 (by decide) Z Z Z Z ?_
 refine k2 ?_
 refine A4 (A3 (A6 Z Z) Z (A7 ?_))
 refine k1 (k2 ?_)
 refine A4 (A3 (A6 Z Z) Z (A7 ?_))
 refine k1 (k2 (k2 ?_))
 refine A4 (A3 (A5 Z Z) Z (A3 (F1 Z (.pure _ _ _ _)) Z (A3 (A5 Z Z) Z (A7 ?_))))
 refine k1 (k3 ?_)
 refine E1 (X:=Nat × Int) (fun x=>([(1,C0 n),(5,C0 x.2),(8,D2 Span 2 spanC sp),(9,C0 sp.length),(10,C0 x.1)],[])) (fun x=>x.1≤sp.length∧W=E74 n x.2 (sp.drop x.1)) (fun x=>sp.length - x.1) (0,0) ⟨Nat.zero_le _,hW⟩ (K60 ⟨le1 rfl,le1 rfl,le1 rfl,le1 rfl,le1 rfl,trivial⟩ trivial) ?_
 rintro ⟨k,e⟩ ⟨hk,hp⟩
 dsimp only at hk hp ⊢
 refine k2 ?_
 refine A4 (A3 (E6 Z Z) Z (A7 ?_))
 refine k1 (k2 ?_)
 refine B4 rfl (fun ht=>?_) (fun ht=>?_)
 rotate_left
 ·have hkl:k=sp.length:=by have:=A1 ht;omega
  rw [hkl,L07 (Nat.le_refl _)] at hp
  have hp:W=true:=hp
  refine k6 (k2 ?_)
  refine A4 (A3 (A6 Z Z) Z (A7 ?_))
  refine k1 (k10 ?_)
  exact B8 (I2 rfl rfl rfl) (by rw [hp])
 have hlt:k < sp.length:=by have:=A0 ht;omega
 have hv:sp[k]?=some sp[k]:=by simp [hlt]
 rw [L03 hlt,E74] at hp
 obtain ⟨s,hsd⟩:∃s,s=sp[k]:=⟨_,rfl⟩
 rw [←hsd] at hp hv
 refine k5 (k1 (k2 (k3 (k2 ?_))))
 refine A4 (A3 (B9 Z (.pure _ _ _ _) Z (by omega) hv) Z (A3 (F4 Z Z) Z (C7 (F9 757 Z) Z (E5 (B7 TySz.out Z Z Z Z Z Z) (A7 ?_)))))
 refine k1 (k2 (k2 ?_))
 refine A4 (A3 (A8 Z) Z (A3 (A9 Z Z Z) Z (A3 (A5 Z Z) Z (A3 (E6 Z Z) Z (A3 (A5 Z Z) Z (B0 Z Z Z Z (fun hg=>by rw [hg];exact A8 Z) ?_))))));refine B0 Z Z Z Z (fun hg=>by rw [hg];exact A9 Z Z Z) ?_;refine B0 Z Z Z Z (fun hg=>by rw [hg];exact A8 Z) ?_;refine B0 Z Z Z Z (fun hg=>by rw [hg];exact A9 Z Z Z) ?_;refine B0 Z Z Z Z (fun hg=>by rw [hg];exact B27 Z Z) ?_;refine A3 (B5 Z (fun h=>by first | rfl | (rw [h];rfl)) (fun h=>by first | rfl | (rw [h];rfl))) Z ?_;refine A3 (A5 Z Z) Z (B0 Z Z Z Z (fun hg=>by rw [hg];exact A8 Z) ?_);refine B0 Z Z Z Z (fun hg=>by rw [hg];exact A9 Z Z Z) ?_;refine B0 Z Z Z Z (fun hg=>by rw [hg];exact A5 Z Z) ?_;refine B0 Z Z Z Z (fun hg=>by rw [hg];exact R5 Z Z) ?_;refine A3 (B5 Z (fun h=>by first | rfl | (rw [h];rfl)) (fun h=>by first | rfl | (rw [h];rfl))) Z ?_;refine A7 ?_
 refine k1 ?_
 refine B4 rfl (fun ht=>?_) (fun ht=>?_)
 ·have hc:s.From < e∨s.To≤s.From∨n < s.To:=by
   by_cases q1:s.From < e
   ·exact .inl q1
   ·by_cases q2:s.To≤s.From
    ·exact .inr (.inl q2)
    ·simp [q1,q2] at ht
     exact .inr (.inr ht)
  rw [if_pos hc] at hp
  refine k2 ?_
  refine A4 (A3 (A6 Z Z) Z (A7 ?_))
  refine k1 (k10 (k11 (k12 (k11 (k11 (k12 (k11 ?_)))))))
  exact B8 (I2 rfl rfl rfl) (by rw [hp])
 have hc:¬(s.From < e∨s.To≤s.From∨n < s.To):=by
  rintro (q | q | q)
  ·simp [q] at ht
  ·simp [q] at ht
  ·simp [q] at ht
 rw [if_neg hc] at hp
 refine k5 (k1 ?_)
 refine A4 (A3 (A8 Z) Z (A3 (A9 Z Z Z) Z (A3 (A6 Z Z) Z (A7 ?_))))
 refine k4 (k1 ?_)
 refine A4 (A3 (C6 Z Z (by omega)) Z (A3 (A5 Z Z) Z (A7 ?_)))
 refine k1 ?_
 exact ⟨(k+1,s.To),⟨hlt,hp⟩,by dsimp only;omega,K60 ⟨le1 rfl,le1 rfl,le1 rfl,le1 rfl,le1 rfl,trivial⟩ trivial⟩
def rowR (s:Str) (n:Int):List PV:=match A44 s n with
 | some r=>[pRow r,E3 true]
 | none=>[pRow ⟨false,0,[]⟩,E3 false]
theorem A81 {s:Str} {n:Int} (h:A44 s n=none):rowR s n=[pRow ⟨false,0,[]⟩,E3 false]:=by unfold rowR;rw [h]
theorem D43 {s:Str} {n:Int} {r:Row} (h:A44 s n=some r):rowR s n=[pRow r,E3 true]:=by unfold rowR;rw [h]
theorem G61 (s:Str) (n:Int):FnOk Tryz.prog 40 [G7 s,F2 n] (fun rs=>rs=rowR s n):=by
 refine FnOk.intro Tryz.func40 (by decide) Z Z Z Z ?_
 refine k2 ?_
 refine A4 (C7 (F9 4 Z) Z (A3 (A6 Z Z) Z (A7 ?_)))
 refine k1 (k2 (k2 ?_))
 refine A4 (A3 (A5 Z Z) Z (A3 (E6 Z Z) Z (A3 (A5 Z Z) Z (B0 Z Z Z Z (fun hg=>by rw [hg];exact A5 Z Z) ?_))));refine B0 Z Z Z Z (fun hg=>by rw [hg];exact R5 Z Z) ?_;refine A3 (B5 Z (fun h=>by first | rfl | (rw [h];rfl)) (fun h=>by first | rfl | (rw [h];rfl))) Z ?_;refine A3 (A5 Z Z) Z (B0 Z Z Z Z (fun hg=>by rw [hg];exact A5 Z Z) ?_);refine B0 Z Z Z Z (fun hg=>by rw [hg];exact E7 Z) ?_;refine B0 Z Z Z Z (fun hg=>by rw [hg];exact A5 Z Z) ?_;refine B0 Z Z Z Z (fun hg=>by rw [hg];exact E6 Z Z) ?_;refine A3 (B5 Z (fun h=>by first | rfl | (rw [h];rfl)) (fun h=>by first | rfl | (rw [h];rfl))) Z ?_;refine A7 ?_
 refine k1 ?_
 refine B4 rfl (fun ht=>?_) (fun ht=>?_)
 ·simp only [or_pick] at ht
  have h:=A0 ht
  refine k2 ?_
  refine A4 (A3 (G4 Z) Z (E5 (B7 TySz.out Z Z Z Z Z Z) (A3 (A6 Z Z) Z (A7 ?_))))
  refine k1 (k10 (k11 ?_))
  exact B8 (rs:=[pRow ⟨false,0,[]⟩,E3 false]) (U0 rfl rfl rfl rfl rfl rfl rfl) (A81 (rowI_no (by omega))).symm
 simp only [or_pick] at ht
 have h:=A1 ht
 obtain ⟨N,rfl⟩:∃N:Nat,n=N:=⟨n.toNat,by omega⟩
 have hN1:1≤N∧N≤32:=by omega
 have hN2:N≤s.length:=by omega
 refine K4 [(0,J3 s),(1,C0 N),(4,.s (.one (.ref 4 0)))] [(4,.box (pRow ⟨false,0,[]⟩).s1.cells)] (K60 ⟨le1 rfl,le1 rfl,le1 rfl,trivial⟩ ⟨rfl,trivial⟩) ?_
 refine k5 (k1 (k2 ?_))
 refine A4 (A3 (A6 Z Z) Z (A3 (A6 Z Z) Z (A7 ?_)))
 refine k1 (k2 (k2 ?_))
 refine A4 (A3 (A5 Z Z) Z (A3 (A5 Z Z) Z (A7 ?_)))
 refine k1 (k3 ?_)
 refine E1 (X:=Nat) (fun p=>([(0,J3 s),(1,C0 N),(4,.s (.one (.ref 4 0))),(6,I3 (.int .u32 (H6 43 s p:Nat))),(7,I3 (.int .u32 (H6 45 s p:Nat))),(22,C0 N),(23,C0 p)],[(4,.box (pRow ⟨false,0,[]⟩).s1.cells)])) (fun p=>p≤N∧(s.take p).all A86=true) (fun p=>N - p) 0 ⟨Nat.zero_le _,rfl⟩ (K60 ⟨le1 rfl,le1 rfl,le1 rfl,le1 rfl,le1 rfl,le1 rfl,le1 rfl,trivial⟩ ⟨rfl,trivial⟩) ?_
 rintro p ⟨hp,hq⟩
 dsimp only at hp hq ⊢
 have hl3:=E23 43 s p
 have hl5:=E23 45 s p
 refine k2 ?_
 refine A4 (A3 (E6 Z Z) Z (A7 ?_))
 refine k1 (k2 ?_)
 refine B4 rfl (fun ht=>?_) (fun ht=>?_)
 ·have hlt:p < N:=by have:=A0 ht;omega
  have hv:s[p]?=some s[p]:=by simp
  have hst3:=G18 hv 43
  have hst5:=G18 hv 45
  have hsg:=J74 hv
  rw [hq,Bool.true_and] at hsg
  have hsh:=shl_nat p (by omega)
  have ho3:=or_bit hl3 (by omega)
  have ho5:=or_bit hl5 (by omega)
  have hno:A86 s[p]=false→(s.take N).all A86=false:=fun hc=>sign_no hlt hv hc
  obtain ⟨c,hcc⟩:∃c,c=s[p]:=⟨_,rfl⟩
  rw [←hcc] at hv hst3 hst5 hsg hno
  refine k5 (k1 (k2 (k3 (k2 ?_))))
  refine A4 (A3 (A5 Z Z) Z (A3 (A6 Z Z) Z (A7 ?_)))
  refine k1 (k2 ?_)
  refine A4 (A3 (A5 Z Z) Z (A3 (A5 Z Z) Z (A3 (L5 Z Z (by omega) hv) Z (A7 ?_))))
  refine k1 (k3 (k2 ?_))
  refine A4 (A3 (I1 Z Z) Z (A3 (A6 Z Z) Z (A7 ?_)))
  refine k1 ?_
  refine B4 rfl (fun ht=>?_) (fun ht=>?_)
  ·have hc:c=43:=by simpa only [ke43,decide_eq_true_eq] using ht
   rw [if_pos hc] at hst3
   rw [if_neg (by rw [hc];decide),Nat.add_zero (H6 45 s p)] at hst5
   skip
   refine A4 (A3 (A5 Z Z) Z (A3 (A5 Z Z) Z (A3 (I71 Z Z (by omega)) Z (A3 (d6 Z Z Z (fun _=>rfl)) Z (A3 (A6 Z Z) Z (A7 ?_))))))
   refine k4 (k4 (k1 ?_))
   refine A4 (A3 (C6 Z Z (by omega)) Z (A3 (A5 Z Z) Z (A7 ?_)))
   refine k1 ?_
   refine ⟨p+1,⟨by omega,by rw [hsg,hc];rfl⟩,by omega,?_⟩
   rw [hst3,hst5,←ho3,←hsh]
   exact K60 ⟨le1 rfl,le1 rfl,le1 rfl,le1 rfl,le1 rfl,le1 rfl,le1 rfl,trivial⟩ ⟨rfl,trivial⟩
  have hc3:c≠43:=by simpa only [ke43,decide_eq_false_iff_not] using ht
  rw [if_neg hc3,Nat.add_zero (H6 43 s p)] at hst3
  refine k2 ?_
  refine A4 (A3 (I1 Z Z) Z (A3 (A6 Z Z) Z (A7 ?_)))
  refine k1 ?_
  refine B4 rfl (fun ht=>?_) (fun ht=>?_)
  ·have hc:c=45:=by simpa only [ke45,decide_eq_true_eq] using ht
   rw [if_pos hc] at hst5
   skip
   refine A4 (A3 (A5 Z Z) Z (A3 (A5 Z Z) Z (A3 (I71 Z Z (by omega)) Z (A3 (d6 Z Z Z (fun _=>rfl)) Z (A3 (A6 Z Z) Z (A7 ?_))))))
   refine k4 (k4 (k1 ?_))
   refine A4 (A3 (C6 Z Z (by omega)) Z (A3 (A5 Z Z) Z (A7 ?_)))
   refine k1 ?_
   refine ⟨p+1,⟨by omega,by rw [hsg,hc];rfl⟩,by omega,?_⟩
   rw [hst3,hst5,←ho5,←hsh]
   exact K60 ⟨le1 rfl,le1 rfl,le1 rfl,le1 rfl,le1 rfl,le1 rfl,le1 rfl,trivial⟩ ⟨rfl,trivial⟩
  have hc5:c≠45:=by simpa only [ke45,decide_eq_false_iff_not] using ht
  rw [if_neg hc5,Nat.add_zero (H6 45 s p)] at hst5
  refine k2 ?_
  refine A4 (A3 (I1 Z Z) Z (A3 (A6 Z Z) Z (A7 ?_)))
  refine k1 ?_
  refine B4 rfl (fun ht=>?_) (fun ht=>?_)
  ·have hc:c=32:=by simpa only [ke32,decide_eq_true_eq] using ht
   refine k5 (k4 (k4 (k1 ?_)))
   refine A4 (A3 (C6 Z Z (by omega)) Z (A3 (A5 Z Z) Z (A7 ?_)))
   refine k1 ?_
   refine ⟨p+1,⟨by omega,by rw [hsg,hc];rfl⟩,by omega,?_⟩
   rw [hst3,hst5]
   exact K60 ⟨le1 rfl,le1 rfl,le1 rfl,le1 rfl,le1 rfl,le1 rfl,le1 rfl,trivial⟩ ⟨rfl,trivial⟩
  have hc2:c≠32:=by simpa only [ke32,decide_eq_false_iff_not] using ht
  refine k2 ?_
  refine A4 (A3 (G4 Z) Z (E5 (B7 TySz.out Z Z Z Z Z Z) (A3 (A6 Z Z) Z (A7 ?_))))
  refine k1 (k10 (k12 (k12 (k11 (k11 (k12 (k11 ?_)))))))
  exact B8 (rs:=[pRow ⟨false,0,[]⟩,E3 false]) (U0 rfl rfl rfl rfl rfl rfl rfl) (A81 (J75 (hno (by unfold A86;simp [hc2,hc3,hc5])))).symm
 ·have hpN:p=N:=by have:=A1 ht;omega
  subst hpN
  refine k6 (k2 (k2 ?_))
  refine A4 (A3 (A5 Z Z) Z (A3 (O6 Z Z) Z (A3 (A5 Z Z) Z (B0 Z Z Z Z (fun hg=>by rw [hg];exact A5 Z Z) ?_))));refine B0 Z Z Z Z (fun hg=>by rw [hg];exact O6 Z Z) ?_;refine A3 (B5 Z (fun h=>by first | rfl | (rw [h];rfl)) (fun h=>by first | rfl | (rw [h];rfl))) Z ?_;refine A7 ?_
  refine k1 ?_
  refine B4 rfl (fun ht=>?_) (fun ht=>?_)
  ·simp only [L1] at ht
   have h2:=A0 ht
   refine k2 ?_
   refine A4 (A3 (G4 Z) Z (E5 (B7 TySz.out Z Z Z Z Z Z) (A3 (A6 Z Z) Z (A7 ?_))))
   refine k1 (k10 (k11 ?_))
   exact B8 (rs:=[pRow ⟨false,0,[]⟩,E3 false]) (U0 rfl rfl rfl rfl rfl rfl rfl) (A81 (J76 (by omega))).symm
  ·simp only [L1] at ht
   have h2:=A1 ht
   have h2':¬(H6 43 s p≠0∧H6 45 s p≠0):=by omega
   have hor:=bits_or hN1.2 h2'
   have hyes:=K42 hN1 hN2 hq h2'
   refine k5 (k1 (k2 ?_))
   refine A4 (A3 (A5 Z Z) Z (A3 (O6 Z Z) Z (A3 (A5 Z Z) Z (A3 (A5 Z Z) Z (A3 (d6 Z Z Z (fun _=>rfl)) Z (A3 (A5 Z Z) Z (A3 (A5 Z Z) Z (A3 (A91 Z Z (by omega) (by omega)) Z (A3 (G4 Z) Z (E5 (B7 TySz.out Z Z Z Z Z Z) (A3 (A6 Z Z) Z (A7 ?_))))))))))))
   refine k1 (k10 ?_)
   refine B8 (rs:=[pRow ⟨decide ((H6 45 s p:Int)≠0),J9 (H6 43 s p:Nat) (H6 45 s p:Nat),s.drop p⟩,E3 true]) (U0 Z Z Z Z Z Z Z) ?_
   rw [D43 hyes,hor]
   congr 3
   exact decide_eq_decide.2 (by omega)
end Go.Proofs.YtgejaedjnbjpoaaGreatDoor
namespace Go.Proofs.YtgejaedjnbjpoaaGreatDoor
open Go Go.AL
set_option maxRecDepth 100000
set_option maxHeartbeats 1000000
end Go.Proofs.YtgejaedjnbjpoaaGreatDoor
namespace Go.Proofs.YtgejaedjnbjpoaaGreatDoor
open Go Go.AL
set_option maxRecDepth 100000
set_option maxHeartbeats 1000000
theorem G62 {n:Nat} {rows:List Row} {sp:List Span} {hs:List CHunk} (hn:n≤32) (hr:K3 rows) (hW:(rows.map Q6).sum≤8388608) (h:j7 n rows 0 [] sp=some hs):szC hs≤268435456∧∀x∈hs,K3 x.Rows:=by
 have h1:=E25 Q6 2081 n rows sp 0 [] hs (Int.le_refl _) h (by simp) (by simp)
 have h2:=F21 hr sp 0 [] hs h (fun x hx=>by cases hx)
 have hl:=j6 rows
 refine ⟨?_,fun x hx=>(h2 x hx).2⟩
 have h3:szC hs=(hs.map fun h=>(2048+h.At.length)+(h.Rows.map Q6).sum).sum:=rfl
 have h4:szC hs≤(hs.map fun h=>2081+(h.Rows.map Q6).sum).sum:=by
  rw [h3]
  clear h h1 h3
  induction hs with
  | nil=>simp
  | cons x r ih =>
   have h5:=(h2 x (by simp)).1
   have h6:=ih fun y hy=>h2 y (by simp [hy])
   rw [L04,L29,L04,L29]
   omega
 have h5:=h1.2
 simp only [L02] at h5
 have h6:=h1.1
 omega
theorem K13 {path:Str} {t:Table} {sp:List Span} {d:Bool} (hr:K3 t.Rows) (hW:(t.Rows.map Q6).sum≤8388608):szC (b9 path t sp d).1.Hunks≤268435456∧∀x∈(b9 path t sp d).1.Hunks,K3 x.Rows:=by
 have h0:szC comb0.Hunks≤268435456∧∀x∈comb0.Hunks,K3 x.Rows:=⟨by decide,fun x hx=>by cases hx⟩
 unfold b9
 split
 ·exact h0
 ·split
  ·exact h0
  ·rename_i hc
   cases hg:j7 t.Parents.toNat t.Rows 0 [] sp with
   | none=>exact h0
   | some hs =>
    dsimp only
    split
    ·exact h0
    ·refine G62 ?_ hr hW hg
     unfold J2 at hc
     split at hc
     ·exact absurd hc (by decide)
     ·omega
theorem D80 {t:Table} (h:J2 t=0):1≤t.Parents∧t.Parents≤32:=by
 unfold J2 at h
 split at h
 ·cases h
 ·omega
set_option maxHeartbeats 1000000
end Go.Proofs.YtgejaedjnbjpoaaGreatDoor
