/- Walks of the program's functions. -/
import Derived.Test.YtgppobpengmbkaaGreatDoorFc
import Derived.Test.YtgppobpengmbkaaGreatDoorFb
import Derived.Test.YtgppobpengmbkaaGreatDoorFa
import Derived.Test.YtgppobpengmbkaaGreatDoorFs
import Derived.Test.YtgppobpengmbkaaGreatDoorAn
set_option linter.unusedSimpArgs false
namespace Go.Proofs.YtgppobpengmbkaaGreatDoor
open Go Go.AL
set_option maxRecDepth 100000
set_option maxHeartbeats 1000000
abbrev aa:Str:=[97,97]
abbrev A17 (a:Nat):Ob:=.box [.p (.list AL.State 7 Z1 auto5.States),.p (.v (.int .i64 5)),.p (.v (.string ⟨aa.toArray⟩)),.p (.v (.int .i64 a)),.mut 831,.mut 832]
abbrev w9:S1:=.one (.ref 830 0)
abbrev thG (l:List AL.Thread):Ob:=.grow 187 AL.Thread 2 Z6 l
abbrev snA (l:List Bool):Ob:=.arr Bool 1 v6 l
abbrev F39 (t:AL.Thread):PV:=.agg [.v (.int .i64 t.state),.v (.int .i64 t.from_)]
theorem I19:AL.Met Tryz.prog 113 [(C65 auto5).s1,.one (.p (.v (.string ⟨aa.toArray⟩))),N0 0] [] [] []
  (fun rs ob'=>rs=[w9]∧ob'=[(830,.box [.p (.list AL.State 7 Z1 auto5.States),.p (.v (.int .i64 5)),.p (.v (.string ⟨aa.toArray⟩)),.p (.v (.int .i64 0)),.p (.v (.slice none 0 0)),.mut 832]),(832,snA [false,false,false,false,false,false])]):=by
 have h6:auto5.States.length=6:=rfl
 refine AL.Met.intro Tryz.func113 (by decide) V V V ?_
 refine k2 (A2 (A5 (o6 V V V) V (A6 V V (A4 ?_))));refine k1 (k2 (O0 [8,6] [[],[6],[8,6]] [(6,([832],[])),(8,([830],[]))] [(0,[]),(1,[]),(2,[]),(3,[]),(4,[]),(5,[]),(6,[]),(7,[6]),(8,[6]),(9,[8,6])] [(0,[6]),(1,[6]),(2,[6])] (by kernel_rfl) (by kernel_rfl) (E1 V V (by kernel_rfl) V V (D7 V V) (E1 V V (by kernel_rfl) V V (B7 V V) (E1 V V (by kernel_rfl) V V (B7 V V) (E1 V V (by kernel_rfl) V V (B8 V) (E1 V V (by kernel_rfl) V V (A8 V V) (E1 V V (by kernel_rfl) V V (X7 V (.pure _ _ _ _)) (W6 V V (by kernel_rfl) V V (D46 (fun frc hU hk=>c8 832 Bool v6 false (R4 hU V) (R4 hU V) (by (first | omega | decide)) (by (first | omega | decide)) (fun _=>by first | exact ⟨⟨rfl,rfl⟩,trivial⟩ | exact ⟨G9 _ _ _,trivial⟩ | exact ⟨G9 _ _ _,⟨rfl,rfl⟩,G9 _ _ _,trivial⟩) (by rw [hk];rfl))) V ?_)))))))));refine E1 V V (by kernel_rfl) V V (K1 V) (W6 V V (by kernel_rfl) V V (D46 (fun frc hU hk=>x4 830 (R4 hU V) V (by rw [hk];rfl))) V ?_);refine E1 V V (by kernel_rfl) V V (I3 V V) ?_;refine E67 (by kernel_rfl) rfl ?_ ?_
 ·refine M6 V V (by kernel_rfl) V V (D7 V V) (M6 V V (by kernel_rfl) V V (B7 V V) (M6 V V (by kernel_rfl) V V (B7 V V) ?_));exact B24
 refine k1 (k10 ?_)
 exact G5 (K4 rfl rfl) (by repeat (first | exact B2 | refine tail_drop rfl ?_ | refine B3 rfl ?_)) (fun _ _ h=>h) ⟨rfl,rfl⟩
structure AS where
 opn:List Int
 th:List AL.Thread
 sn:List Bool
def topI (x:AS):Int:=atG x.opn (x.opn.length - 1)
def D47 (a:Nat) (fr:Int) (x:AS):AS :=
 if K0 x.sn (topI x).toNat=true then ⟨x.opn.take (x.opn.length - 1),x.th,x.sn⟩
 else ⟨x.opn.take (x.opn.length - 1)++m9 (auto5.States.getD (topI x).toNat Z8) (decide ((a:Int)=0)) (decide ((a:Int)=(aa.length:Int))),x.th++[⟨topI x,fr⟩],x.sn.set (topI x).toNat true⟩
def x5 (a:Nat) (fr:Int) (x:AS):Nat→AS
 | 0=>x
 | n+1=>D47 a fr (x5 a fr x n)
def F40 (y:AS):Prop:=0 < y.opn.length∧y.opn.length≤10∧0≤topI y∧topI y < 6∧y.sn.length=6∧y.th.length≤10
instance (y:AS):Decidable (F40 y):=by unfold F40;infer_instance
def addOk (a:Nat) (fr:Int) (x:AS) (n:Nat):Bool:=(List.range n).all (fun k=>decide (F40 (x5 a fr x k)))
theorem G22 {gf:Fr} {ob:Obs} (a:Nat) (q fr:Int) (th:List AL.Thread) (sn:List Bool) (n:Nat) (R:AS) (hok:addOk a fr ⟨[q],th,sn⟩ n=true) (hR:x5 a fr ⟨[q],th,sn⟩ n=R) (hR0:R.opn=[])
  (h0:B9 ob 830=some (A17 a)) (h1:B9 ob 831=some (thG th)) (h2:B9 ob 832=some (snA sn)) (h3:B9 ob 834=none) :
  AL.Met Tryz.prog 114 [w9,(F39 ⟨q,fr⟩).s1] gf ob [831,834] (fun rs ob'=>rs=[]∧ob'=(830,A17 a)::(831,thG R.th)::(832,snA R.sn)::G3 [831,834] ob):=by
 refine AL.Met.introH Tryz.func114 (by decide) rfl rfl rfl (fun hH=>?_)
 refine D8 (I92 831 (l:=[(0,.s w9),(1,.s (F39 ⟨q,fr⟩).s1)]) (L:=[(830,_),(831,_),(832,_)]) ⟨le1 rfl,le1 rfl,trivial⟩ hH (by repeat (first | exact B2 | refine B3 rfl ?_)) ⟨h0,h1,h2,trivial⟩) ?_
 refine D8 (Sees.forget 834) ?_
 refine D8 (I91 (gf':=C7 [831,834] gf) (l:=[(0,.s w9),(1,.s (F39 ⟨q,fr⟩).s1)]) (ob':=[(830,A17 a),(831,thG th),(832,snA sn)]++G3 [831,834] ob) ⟨le1 rfl,le1 rfl,trivial⟩ (E9 hH) (by repeat (first | exact B2 | refine tail_drop rfl ?_ | refine B3 rfl ?_ | refine H1 _ rfl ?_)) (E2 (L:=[(830,_),(831,_),(832,_)]) ⟨rfl,rfl,rfl,trivial⟩ (by repeat (first | exact D5 | refine D6 rfl ?_)))) ?_
 have hf3:B9 (G3 [831,834] ob) 834=none:=M7 h3
 refine k2 (A2 (A5 (o6 V V V) V (A4 ?_)));refine k1 (k2 (A2 (A5 (B8 V) V (A5 (A8 V V) V (C9 (H87 834 (c:=E3) (ys:=[q]) (D4 V V V V F9) V V V hf3 V) V (A6 V V (A4 ?_)))))));refine k1 (k3 ?_);refine C5 (X:=Nat) (fun k=>([(0,.s w9),(3,.s (.one (.eref Unit 2 (fun _ j=>[Cell.v (.int .i64 q),Cell.v (.int .i64 fr)].getD j (.v undef)) () 0))),(4,.s (.one (.mut 834)))]++C7 [831,834] gf,[(830,A17 a),(831,thG (x5 a fr ⟨[q],th,sn⟩ k).th),(832,snA (x5 a fr ⟨[q],th,sn⟩ k).sn),(834,.grow 3 Int 1 E3 (x5 a fr ⟨[q],th,sn⟩ k).opn)]++G3 [831,834] ob)) (fun k=>k≤n) (fun k=>n - k) 0 (Nat.zero_le _) ?_ ?_
 ·exact I91 ⟨le1 rfl,le1 rfl,le1 rfl,trivial⟩ (E9 hH) (by repeat (first | exact B2 | refine tail_drop rfl ?_ | refine B3 rfl ?_ | refine H1 _ rfl ?_)) (E2 (L:=[(830,_),(831,_),(832,_),(834,_)]) ⟨rfl,rfl,rfl,rfl,trivial⟩ (by repeat (first | exact D5 | refine D6 rfl ?_ | refine P9 _ rfl ?_)))
 intro k hk
 obtain ⟨y,hy⟩:∃y,y=x5 a fr ⟨[q],th,sn⟩ k:=⟨_,rfl⟩
 dsimp only at hk ⊢
 rw [←hy]
 refine k2 (k2 (A2 (A3 V V (A5 (V5 V V) V (A5 (M5 V V) V (A4 ?_))))));refine k1 ?_
 by_cases hkn:k=n
 ·have hyR:y=R:=by rw [hy,hkn,hR]
  have hy0:y.opn.length=0:=by rw [hyR,hR0];rfl
  refine B0 rfl (fun ht=>?_) (fun ht=>?_)
  ·have:=A0 ht
   omega
  rw [hyR]
  refine k6 (k7 (k7 (k8 V ?_)))
  exact R7 (A63 rfl) (by repeat (first | exact B2 | refine tail_drop rfl ?_ | refine B3 rfl ?_ | refine H1 _ rfl ?_)) (E2 (L:=[(830,_),(831,_),(832,_)]) ⟨rfl,rfl,rfl,trivial⟩ (by repeat (first | exact D5 | refine D6 rfl ?_ | refine F3 hf3 ?_ | refine P9 _ rfl ?_))) ⟨rfl,rfl⟩
 have hklt:k < n:=by omega
 obtain ⟨g1,g2,g3,g4,g5,g6⟩:F40 y:=by
  have:=List.all_eq_true.1 hok k (List.mem_range.2 hklt)
  rw [hy];exact A0 this
 have hstep:x5 a fr ⟨[q],th,sn⟩ (k+1)=D47 a fr y:=by rw [hy];rfl
 obtain ⟨i,hi⟩:∃i,i=topI y:=⟨_,rfl⟩
 rw [←hi] at g3 g4
 have hvl:y.opn[((y.opn.length:Int) - 1).toNat]?=some i:=by
  rw [hi,topI,atG,show ((y.opn.length:Int) - 1).toNat=y.opn.length - 1 by omega,J15 (by omega)];rfl
 have hcut:y.opn.take ((y.opn.length:Int) - 1).toNat=y.opn.take (y.opn.length - 1):=by congr 1;omega
 obtain ⟨r,hr⟩:∃r,r=y.opn.take (y.opn.length - 1):=⟨_,rfl⟩
 have hrl:r.length≤9:=by rw [hr,J25];omega
 rw [←hr] at hcut
 obtain ⟨b,hb⟩:∃b,b=K0 y.sn i.toNat:=⟨_,rfl⟩
 have hvb:y.sn[i.toNat]?=some b:=by
  rw [hb,K0,J15 (by omega)];rfl
 have hvs:auto5.States[i.toNat]?=some (auto5.States.getD i.toNat Z8):=by
  rw [J21,J15 (show i.toNat < 6 by omega)];rfl
 refine B0 rfl (fun ht=>?_) (fun ht=>?_)
 rotate_left
 ·have:=A1 ht
  omega
 refine k5 (k1 (k3 (k2 (A2 (A3 V V (A3 V V (A5 (V5 V V) V (A5 (K8 V V (by omega)) V (A5 (H7 V V V (by omega) (by omega)) V (A5 (A09 V V hvl V) V (A6 V V (A4 ?_))))))))))));refine k1 (k2 (A2 (A3 V V (A3 V V (A5 (V5 V V) V (A5 (K8 V V (by omega)) V (C9 (B61 V V V (by omega) (by omega) V) V (A6 V V (A4 ?_)))))))))
 rw [hcut]
 refine k1 (k2 (k2 (A2 (A3 V V (A5 (B4 V) V (A5 (A7 V) V (G4 V V V V (A3 V V (A5 (F1 V V V (by omega) (by omega)) V (A5 (M1 V V hvb V) V (A4 ?_)))))))))));refine k1 ?_;refine B0 rfl (fun ht=>?_) (fun ht=>?_)
 ·have hx:x5 a fr ⟨[q],th,sn⟩ (k+1)=⟨r,y.th,y.sn⟩:=by
   rw [hstep,D47,←hi,←hb,if_pos ht,←hr]
  refine k6 (k7 (k8 V (k1 ?_)));refine ⟨k+1,by omega,by omega,?_⟩
  rw [hx]
  exact I91 ⟨le1 rfl,le1 rfl,le1 rfl,trivial⟩ (E9 hH) (by repeat (first | exact B2 | refine tail_drop rfl ?_ | refine B3 rfl ?_ | refine H1 _ rfl ?_)) (E2 (L:=[(830,_),(831,_),(832,_),(834,_)]) ⟨rfl,rfl,rfl,rfl,trivial⟩ (by repeat (first | exact D5 | refine D6 rfl ?_ | refine P9 _ rfl ?_)))
 have hx:x5 a fr ⟨[q],th,sn⟩ (k+1)=⟨r++m9 (auto5.States.getD i.toNat Z8) (decide ((a:Int)=0)) (decide ((a:Int)=(aa.length:Int))),y.th++[⟨i,fr⟩],y.sn.set i.toNat true⟩:=by
  rw [hstep,D47,←hi,←hb,if_neg (by rw [ht];decide),←hr]
 refine k5 (k1 (k2 (A2 (A3 V V (A5 (B4 V) V (A5 (A7 V) V (G4 V V V V (A3 V V (A5 (F1 V V V (by omega) (by omega)) V (G8 (I1 TySz.out V V (by omega) V V) (A4 ?_)))))))))));refine k1 (k2 ?_);refine D8 (I91 (gf':=C7 [831,834] gf) (l:=[(0,.s w9),(3,.s (.one (.eref Unit 2 (fun _ j=>[Cell.v (.int .i64 q),Cell.v (.int .i64 fr)].getD j (.v undef)) () 0))),(4,.s (.one (.mut 834))),(5,C0 i)]) (ob':=[(830,A17 a),(831,thG y.th),(832,snA (y.sn.set i.toNat true)),(834,.grow 3 Int 1 E3 r)]++G3 [831,834] ob) ⟨le1 rfl,le1 rfl,le1 rfl,le1 rfl,trivial⟩ (E9 hH) (by repeat (first | exact B2 | refine tail_drop rfl ?_ | refine B3 rfl ?_ | refine H1 _ rfl ?_)) (E2 (L:=[(830,_),(831,_),(832,_),(834,_)]) ⟨rfl,rfl,rfl,rfl,trivial⟩ (by repeat (first | exact D5 | refine D6 rfl ?_ | refine P9 _ rfl ?_)))) ?_
 refine O0 [13,10] [[],[10],[13,10]] [(10,([831],[40])),(13,([],[]))] [(0,[]),(1,[]),(2,[]),(3,[]),(4,[]),(5,[]),(6,[]),(7,[]),(8,[]),(9,[]),(10,[]),(11,[10]),(12,[10]),(13,[10])] [(0,[10])] (by kernel_rfl) (by kernel_rfl) (E1 V V (by kernel_rfl) V V (B7 V V) (E1 V V (by kernel_rfl) V V (B7 V V) (E1 V V (by kernel_rfl) V V (B4 V) (E1 V V (by kernel_rfl) V V (A7 V) (E1 V V (by kernel_rfl) V V (C4 V V V) (E1 V V (by kernel_rfl) V V (B7 V V) (E1 V V (by kernel_rfl) V V (B8 V) (E1 V V (by kernel_rfl) V V (A8 V V) (E1 V V (by kernel_rfl) V V (K1 V) (E1 V V (by kernel_rfl) V V (C3 (c:=Z6) (ys:=[⟨i,fr⟩]) (D4 V V V V F9) V V V) (W6 V V (by kernel_rfl) V V (C77 (fun frc hU=>R8 (R4 hU V) V (R4 hU V) (.pure _ _ _ _) (by (simp only [J19,J22];omega)) V)) V (E1 V V (by kernel_rfl) V V (B4 V) (E1 V V (by kernel_rfl) V V (A7 V) (W6 V V (by kernel_rfl) V V (A23 (fun frc hU=>C1 TySz.out (R4 hU V) V (R4 hU V) V V V)) V ?_))))))))))))));refine C78 (ks:=[831,834]) rfl (by kernel_rfl) rfl ?_ ?_
 ·refine M6 V V (by kernel_rfl) V V (B7 V V) ?_;exact B24
 refine k1 ?_;refine D8 (I91 (gf':=C7 [831,834] gf) (l:=[(0,.s w9),(3,.s (.one (.eref Unit 2 (fun _ j=>[Cell.v (.int .i64 q),Cell.v (.int .i64 fr)].getD j (.v undef)) () 0))),(4,.s (.one (.mut 834))),(5,C0 i)]) (ob':=[(830,A17 a),(831,thG (y.th++[⟨i,fr⟩])),(832,snA (y.sn.set i.toNat true)),(834,.grow 3 Int 1 E3 r)]++G3 [831,834] ob) ⟨le1 rfl,le1 rfl,le1 rfl,le1 rfl,trivial⟩ (E9 hH) (by repeat (first | exact B2 | refine tail_drop rfl ?_ | refine B3 rfl ?_ | refine H1 _ rfl ?_)) (E2 (L:=[(830,_),(831,_),(832,_),(834,_)]) ⟨rfl,rfl,rfl,rfl,trivial⟩ (by repeat (first | exact D5 | refine D6 rfl ?_ | refine P9 _ rfl ?_)))) ?_
 have hsl:(m9 (auto5.States.getD i.toNat Z8) (decide ((a:Int)=0)) (decide ((a:Int)=(aa.length:Int)))).length≤2:=by
  unfold m9
  repeat' split
  all_goals first | exact Nat.le_refl _ | (simp only [J19,J22];omega)
 refine E6 (by kernel_rfl) (by kernel_rfl) (E5 V V (E5 V V (B5 (B4 V) V V (B5 (A7 V) V V (B5 (A7 V) V V (B5 (C4 V V V) V V (E5 V V (B5 (A9 V (.pure _ _ _ _) V (by omega) hvs) V V (B5 (D7 V V) V V (E5 V V (B5 (B4 V) V V (B5 (A7 V) V V (B5 (C4 V V V) V V (B5 (F7 V V) V V (E5 V V (B5 (B4 V) V V (B5 (A7 V) V V (B5 (C4 V V V) V V (E5 V V (B5 (B4 V) V V (B5 (A7 V) V V (B5 (C4 V V V) V V (B5 (J3 V) V V ?_)))))))))))))))))))))));refine B5 (F7 V V) V V (B5 (N4 (I74 (auto5.States.getD i.toNat Z8) (decide ((a:Int)=0)) (decide ((a:Int)=(aa.length:Int)))) V V) V V (G62 (R8 V V V (.pure _ _ _ _) (by omega) V) V V (B5 (I3 V V) V V (P0 ?_))));refine k4 (k1 ?_);refine ⟨k+1,by omega,by omega,?_⟩
 rw [hx]
 exact I91 ⟨le1 rfl,le1 rfl,le1 rfl,trivial⟩ (E9 hH) (by repeat (first | exact B2 | refine tail_drop rfl ?_ | refine B3 rfl ?_ | refine H1 _ rfl ?_)) (E2 (L:=[(830,_),(831,_),(832,_),(834,_)]) ⟨rfl,rfl,rfl,rfl,trivial⟩ (by repeat (first | exact D5 | refine D6 rfl ?_ | refine P9 _ rfl ?_)))
set_option maxHeartbeats 1000000
theorem E51 {gf:Fr} {ob:Obs} (a:Nat) (th:List AL.Thread) (sn:List Bool) (hst:∀t∈th,0≤t.state∧t.state < 6) (hl:th.length≤20) (h0:B9 ob 830=some (A17 a)) (h1:B9 ob 831=some (thG th)) (h2:B9 ob 832=some (snA sn)) (h3:B9 ob 835=none) :
  AL.Met Tryz.prog 115 [w9] gf ob [835] (fun rs ob'=>rs=[N0 (A01 auto5 th)]∧ob'=(830,A17 a)::(831,thG th)::(832,snA sn)::G3 [835] ob):=by
 refine AL.Met.introH Tryz.func115 (by decide) rfl rfl rfl (fun hH=>?_)
 refine D8 (I92 835 (l:=[(0,.s w9)]) (L:=[(830,_),(831,_),(832,_)]) ⟨le1 rfl,trivial⟩ hH (by repeat (first | exact B2 | refine B3 rfl ?_)) ⟨h0,h1,h2,trivial⟩) ?_
 refine D8 (I91 (gf':=C7 [835] gf) (l:=[(0,.s w9)]) (ob':=[(830,A17 a),(831,thG th),(832,snA sn)]++G3 [835] ob) ⟨le1 rfl,trivial⟩ (E9 hH) (by repeat (first | exact B2 | refine tail_drop rfl ?_ | refine B3 rfl ?_ | refine H1 _ rfl ?_)) (E2 (L:=[(830,_),(831,_),(832,_)]) ⟨rfl,rfl,rfl,trivial⟩ (by repeat (first | exact D5 | refine D6 rfl ?_)))) ?_
 have hf3:B9 (G3 [835] ob) 835=none:=M7 h3
 refine k2 (A2 (A6 V V (A4 ?_)));refine k1 (k2 (k2 (A2 (A3 V V (A5 (B4 V) V (A5 (A7 V) V (G4 V V V V (A5 (V5 V V) V (A3 V V (A4 ?_))))))))));refine k1 (k3 ?_);refine C5 (X:=Nat) (fun i=>([(0,.s w9),(8,.s (.one (.mut 831))),(9,C0 th.length),(10,C0 i)]++C7 [835] gf,[(830,A17 a),(831,thG th),(832,snA sn)]++G3 [835] ob)) (fun i=>i≤th.length∧A01 auto5 (th.drop i)=A01 auto5 th) (fun i=>th.length - i) 0 ⟨Nat.zero_le _,rfl⟩ ?_ ?_
 ·exact I91 ⟨le1 rfl,le1 rfl,le1 rfl,le1 rfl,trivial⟩ (E9 hH) (by repeat (first | exact B2 | refine tail_drop rfl ?_ | refine B3 rfl ?_ | refine H1 _ rfl ?_)) (E2 (L:=[(830,_),(831,_),(832,_)]) ⟨rfl,rfl,rfl,trivial⟩ (by repeat (first | exact D5 | refine D6 rfl ?_ | refine F3 hf3 ?_ | refine P9 _ rfl ?_)))
 rintro i ⟨hi,hA⟩
 dsimp only at hi hA ⊢
 refine k2 (A2 (E8 V V V (A4 ?_)));refine k1 (k2 ?_);refine B0 rfl (fun ht=>?_) (fun ht=>?_)
 rotate_left
 ·have hie:i=th.length:=by have:=A1 ht;omega
  rw [hie,List.drop_length] at hA
  rw [←hA]
  refine k6 (k2 (A2 (A6 V V (A4 ?_))));refine k1 (k10 ?_)
  exact G5 (K4 rfl rfl) (by repeat (first | exact B2 | refine tail_drop rfl ?_ | refine B3 rfl ?_ | refine H1 _ rfl ?_)) (E2 (L:=[(830,_),(831,_),(832,_)]) ⟨rfl,rfl,rfl,trivial⟩ (by repeat (first | exact D5 | refine D6 rfl ?_ | refine F3 hf3 ?_ | refine P9 _ rfl ?_))) ⟨rfl,rfl⟩
 have hlt:i < th.length:=by have:=A0 ht;omega
 obtain ⟨t,htd⟩:∃t,t=th[i]:=⟨_,rfl⟩
 have hv:th[i]?=some t:=by rw [htd];simp [hlt]
 obtain ⟨hs1,hs2⟩:=hst t (J32 hv)
 have hvs:auto5.States[t.state.toNat]?=some (C97 auto5 t.state):=by
  rw [C97,J21,J15 (show t.state.toNat < 6 by omega)];rfl
 rw [J24 hlt,←htd,A01] at hA
 refine k5 (k1 (k2 (k3 (k2 (A2 (A5 (H7 V V V (by omega) (by omega)) V (A5 (z7 V V hv V) V (C9 (A76 835 hf3 (by decide)) V (G8 (C1 TySz.out V V V V V V) (A4 ?_))))))))));refine k1 (k2 (E6 (by kernel_rfl) (by kernel_rfl) (E5 V V (B5 (B4 V) V V (B5 (A7 V) V V (B5 (A7 V) V V (B5 (C4 V V V) V V (B5 (A7 V) V V (B5 (C4 V V V) V V (B5 (A9 V (.pure _ _ _ _) V (by omega) hvs) V V (B5 (B8 V) V V (B5 (A8 V V) V V (B5 (F7 V V) V V (P0 ?_))))))))))))));refine k1 ?_;refine B0 rfl (fun ht=>?_) (fun ht=>?_)
 ·have hK:(C97 auto5 t.state).Kind=4:=A0 ht
  rw [if_pos hK] at hA
  rw [←hA]
  refine k2 (A2 (A5 (A7 V) V (G4 V V V V (A6 V V (A4 ?_)))));refine k1 (k10 (k12 (k11 (k11 (k12 (k11 ?_))))))
  exact G5 (K4 rfl rfl) (by repeat (first | exact B2 | refine tail_drop rfl ?_ | refine B3 rfl ?_ | refine H1 _ rfl ?_)) (E2 (L:=[(830,_),(831,_),(832,_)]) ⟨rfl,rfl,rfl,trivial⟩ (by repeat (first | exact D5 | refine D6 rfl ?_ | refine F3 hf3 ?_ | refine P9 _ rfl ?_))) ⟨rfl,rfl⟩
 have hK:¬(C97 auto5 t.state).Kind=4:=A1 ht
 rw [if_neg hK] at hA
 refine k5 (k4 (k1 (A2 (D2 V V V (A3 V V (A4 ?_))))));refine k1 ?_
 exact ⟨i+1,⟨by omega,hA⟩,by omega,I91 ⟨le1 rfl,le1 rfl,le1 rfl,le1 rfl,trivial⟩ (E9 hH) (by repeat (first | exact B2 | refine tail_drop rfl ?_ | refine B3 rfl ?_ | refine H1 _ rfl ?_)) (E2 (L:=[(830,_),(831,_),(832,_)]) ⟨rfl,rfl,rfl,trivial⟩ (by repeat (first | exact D5 | refine D6 rfl ?_ | refine F3 hf3 ?_ | refine P9 _ rfl ?_)))⟩
theorem I20 {gf:Fr} {ob:Obs} (a:Nat) (fr:Int) (th:List AL.Thread) (sn:List Bool) (n:Nat) (hn:n < th.length) (hlo:∀t∈th.take n,t.from_≤fr) (hhi:∀t,th[n]?=some t→t.from_ > fr) (hl:th.length≤20) (h0:B9 ob 830=some (A17 a)) (h1:B9 ob 831=some (thG th)) (h2:B9 ob 832=some (snA sn)) (h3:B9 ob 835=none) :
  AL.Met Tryz.prog 116 [w9,N0 fr] gf ob [831,835] (fun rs ob'=>rs=[]∧ob'=(830,A17 a)::(831,thG (th.take n))::(832,snA sn)::G3 [831,835] ob):=by
 refine AL.Met.introH Tryz.func116 (by decide) rfl rfl rfl (fun hH=>?_)
 refine D8 (I92 831 (l:=[(0,.s w9),(1,.s (N0 fr))]) (L:=[(830,_),(831,_),(832,_)]) ⟨le1 rfl,le1 rfl,trivial⟩ hH (by repeat (first | exact B2 | refine B3 rfl ?_)) ⟨h0,h1,h2,trivial⟩) ?_
 refine D8 (Sees.forget 835) ?_
 refine D8 (I91 (gf':=C7 [831,835] gf) (l:=[(0,.s w9),(1,.s (N0 fr))]) (ob':=[(830,A17 a),(831,thG th),(832,snA sn)]++G3 [831,835] ob) ⟨le1 rfl,le1 rfl,trivial⟩ (E9 hH) (by repeat (first | exact B2 | refine tail_drop rfl ?_ | refine B3 rfl ?_ | refine H1 _ rfl ?_)) (E2 (L:=[(830,_),(831,_),(832,_)]) ⟨rfl,rfl,rfl,trivial⟩ (by repeat (first | exact D5 | refine D6 rfl ?_)))) ?_
 have hf3:B9 (G3 [831,835] ob) 835=none:=M7 h3
 refine k2 (A2 (A3 V V (A5 (B4 V) V (A5 (A7 V) V (G4 V V V V (A5 (V5 V V) V (A3 V V (A4 ?_))))))));refine k1 (k3 ?_);refine C5 (X:=Nat) (fun i=>([(0,.s w9),(1,.s (N0 fr)),(9,.s (.one (.mut 831))),(10,C0 th.length),(11,C0 i)]++C7 [831,835] gf,[(830,A17 a),(831,thG th),(832,snA sn)]++G3 [831,835] ob)) (fun i=>i≤n) (fun i=>th.length - i) 0 (Nat.zero_le _) ?_ ?_
 ·exact I91 ⟨le1 rfl,le1 rfl,le1 rfl,le1 rfl,le1 rfl,trivial⟩ (E9 hH) (by repeat (first | exact B2 | refine tail_drop rfl ?_ | refine B3 rfl ?_ | refine H1 _ rfl ?_)) (E2 (L:=[(830,_),(831,_),(832,_)]) ⟨rfl,rfl,rfl,trivial⟩ (by repeat (first | exact D5 | refine D6 rfl ?_ | refine F3 hf3 ?_ | refine P9 _ rfl ?_)))
 intro i hi
 dsimp only at hi ⊢
 refine k2 (A2 (E8 V V V (A4 ?_)));refine k1 (k2 ?_);refine B0 rfl (fun ht=>?_) (fun ht=>?_)
 rotate_left
 ·have:=A1 ht
  omega
 have hlt:i < th.length:=by omega
 obtain ⟨t,htd⟩:∃t,t=th[i]:=⟨_,rfl⟩
 have hv:th[i]?=some t:=by rw [htd];simp [hlt]
 refine k5 (k1 (k2 (k3 (k2 (A2 (A3 V V (A5 (H7 V V V (by omega) (by omega)) V (A5 (z7 V V hv V) V (C9 (A76 835 hf3 (by decide)) V (A6 V V (G8 (C1 TySz.out V V V V V V) (A4 ?_))))))))))));refine k1 (k2 (A2 (A5 (A7 V) V (G4 V V V V (A3 V V (A5 (M5 V V) V (A4 ?_)))))));refine k1 ?_;refine B0 rfl (fun ht=>?_) (fun ht=>?_)
 ·have hgt:t.from_ > fr:=A0 ht
  have hin:i=n:=by
   rcases Nat.lt_or_ge i n with h | h
   ·have:=hlo t (by
     refine J32 (i:=i) ?_
     rw [J48 h];exact hv)
    omega
   ·omega
  subst hin
  refine k2 (A2 (A3 V V (A3 V V (A5 (B4 V) V (A5 (A7 V) V (G4 V V V V (A3 V V (C9 (B61 V V V (by omega) (by omega) V) V (A5 (B4 V) V (A5 (A7 V) V (G8 (C1 TySz.out V V V V V V) (A4 ?_))))))))))))
  rw [J17]
  refine k1 (k10 (k12 (k11 (k11 (k12 ?_)))))
  exact G5 (A63 rfl) (by repeat (first | exact B2 | refine tail_drop rfl ?_ | refine B3 rfl ?_ | refine H1 _ rfl ?_)) (E2 (L:=[(830,_),(831,_),(832,_)]) ⟨rfl,rfl,rfl,trivial⟩ (by repeat (first | exact D5 | refine D6 rfl ?_ | refine F3 hf3 ?_ | refine P9 _ rfl ?_))) ⟨rfl,rfl⟩
 have hle:¬t.from_ > fr:=A1 ht
 have hne:i≠n:=fun e=>hle (hhi t (by rw [←e];exact hv))
 refine k5 (k4 (k1 (A2 (D2 V V V (A3 V V (A4 ?_))))));refine k1 ?_
 exact ⟨i+1,by omega,by omega,I91 ⟨le1 rfl,le1 rfl,le1 rfl,le1 rfl,le1 rfl,trivial⟩ (E9 hH) (by repeat (first | exact B2 | refine tail_drop rfl ?_ | refine B3 rfl ?_ | refine H1 _ rfl ?_)) (E2 (L:=[(830,_),(831,_),(832,_)]) ⟨rfl,rfl,rfl,trivial⟩ (by repeat (first | exact D5 | refine D6 rfl ?_ | refine F3 hf3 ?_ | refine P9 _ rfl ?_)))⟩
set_option maxHeartbeats 1000000
def oZ (ks:List Nat) (ob:Obs):Obs:=(G3 ks ob).filter fun p=>!M4 ks p.1
theorem E02 (k:Nat) (o:Ob):(o.forget k).free k=true:=by
 have key:∀ts:List TC,(ts.map (TC.forget k)).all (TC.free k)=true:=fun ts=>by
  rw [List.all_map,List.all_eq_true]
  intro t _
  exact TC.free_forget k t
 cases o with
 | box ts=>exact key ts
 | tbx e ts=>exact key ts
 | tarr n m ts=>exact key ts
 | growT e n m ts=>exact key ts
 | growA e α ec c xs p ts=>exact key ts
 | _=>rfl
theorem E03 {k:Nat}:∀{Z:Obs},Nat.blt k 1000000=true→(∀p∈Z,p.1≠k∧p.2.free k=true)→J2 k Z=true
 | [],h,_=>h
 | (i,o)::r,h,hp=>by
  have h1:=hp (i,o) (List.mem_cons_self ..)
  simp only [J2,J16,Bool.not_eq_true']
  exact ⟨U4 h1.1,h1.2,E03 h fun p hm=>hp p (List.mem_cons_of_mem _ hm)⟩
theorem C10 {k:Nat}:∀{Z:Obs} {j:Nat} {x:Ob},J2 k Z=true→B9 Z j=some x→j≠k∧x.free k=true
 | [],j,x,_,h=>by cases h
 | (i,o)::r,j,x,hz,h=>by
  simp only [J2,J16,Bool.not_eq_true'] at hz
  by_cases e:i=j
  ·subst e
   rw [F6] at h
   cases h
   exact ⟨fun e=>(by rw [e,Nat.beq_refl] at hz;cases hz.1),hz.2.1⟩
  ·rw [C2 e] at h
   exact C10 hz.2.2 h
theorem C42 {k:Nat} {ks:List Nat} {ob:Obs} (hk:M4 ks k=true) (hb:Nat.blt k 1000000=true):J2 k (oZ ks ob)=true:=by
 refine E03 hb fun p hp=>?_
 obtain ⟨h1,h2⟩:=List.mem_filter.1 hp
 refine ⟨fun e=>(by rw [e,hk] at h2;cases h2),?_⟩
 rw [←A46 hk] at h1
 obtain ⟨q,_,rfl⟩:=List.mem_map.1 h1
 exact E02 k q.2
theorem B38 {f:Nat→Bool}:∀{ob:Obs} {j:Nat} {x:Ob},B9 (ob.filter fun p=>f p.1) j=some x→B9 ob j=some x
 | [],_,_,h=>by cases h
 | (i, o)::r,j,x,h=>by
  by_cases e:i=j
  ·subst e
   rw [J66] at h
   split at h
   ·rw [F6] at h ⊢;exact h
   ·rename_i hf
    exfalso
    have:∀(r:Obs),B9 (r.filter fun p=>f p.1) i=none:=by
     intro r
     induction r with
     | nil=>rfl
     | cons p r ih =>
      obtain ⟨a,b⟩:=p
      rw [J66]
      split
      ·rename_i h2
       have:a≠i:=fun e=>hf (by rw [e] at h2;exact h2)
       rw [C2 this];exact ih
      ·exact ih
    rw [this r] at h;cases h
  ·rw [J66] at h
   rw [C2 e]
   split at h
   ·rw [C2 e] at h;exact B38 h
   ·exact B38 h
theorem oZ_base {K ks:List Nat} {ob:Obs}:∀j x,M4 K j=false→B9 (oZ ks ob) j=some x→B9 (G3 ks ob) j=some x:=fun _ _ _ h=>B38 (f:=fun i=>!M4 ks i) h
theorem C43 {K:List Nat} {k:Nat} {T Z:Obs} (hz:J2 k Z=true) (h:∀j x,M4 K j=false→B9 Z j=some x→B9 T j=some x):∀j x,M4 K j=false→B9 Z j=some x→B9 (Obs.forget k T) j=some x:=by
 intro j x hj hx
 rw [J5,h j x hj hx]
 show some (x.forget k)=some x
 rw [Ob.forget_free (C10 hz hx).2]
theorem getO_mapO (f:Ob→Ob):∀(ob:Obs) (j:Nat),B9 (I93 f ob) j=(B9 ob j).map f
 | [],_=>rfl
 | (i,o)::r,j=>by
  show B9 ((i,f o)::I93 f r) j=_
  by_cases e:i=j
  ·subst e;rw [F6,F6];rfl
  ·rw [C2 e,C2 e,getO_mapO f r j]
theorem B65 {k j:Nat} (h:j≠k):∀(ob:Obs),B9 (Obs.drop k ob) j=B9 ob j
 | []=>rfl
 | (i,o)::r=>by
  unfold Obs.drop
  cases hb:Nat.beq i k
  ·show B9 ((i,o)::Obs.drop k r) j=_
   by_cases e:i=j
   ·subst e;rw [F6,F6]
   ·rw [C2 e,C2 e,B65 h r]
  ·have:i≠j:=fun e=>h (by rw [←e];exact Nat.eq_of_beq_eq_true hb)
   rw [C2 this]
   exact B65 h r
theorem y5 {K:List Nat} {k:Nat} {α:Type} {ec:Nat} {c:α→Nat→Cell} {xs:List α} {T Z:Obs} (hz:J2 k Z=true) (h:∀j x,M4 K j=false→B9 Z j=some x→B9 T j=some x) :
  ∀j x,M4 K j=false→B9 Z j=some x→B9 (I93 (Ob.freeze k α ec c xs) (Obs.drop k T)) j=some x:=by
 intro j x hj hx
 obtain ⟨h1,h2⟩:=C10 hz hx
 rw [getO_mapO,B65 h1,h j x hj hx]
 show some (x.freeze k α ec c xs)=some x
 rw [Ob.freeze_free h2]
theorem E04 {k:Nat} {α:Type} {ec:Nat} {c:α→Nat→Cell} {xs:List α} {s:SV} (h:s.free k=true):s.freeze k α ec c xs=s:=by
 cases s with
 | s x=>cases x with
  | one t=>simp only [SV.freeze,S1.freeze,TC.freeze_free (show t.free k=true from h)]
  | agg ts=>simp only [SV.freeze,S1.freeze];rw [U5 fun t ht=>TC.freeze_free (List.all_eq_true.1 (show ts.all (TC.free k)=true from h) t ht)]
 | tup l =>
  simp only [SV.freeze]
  rw [U5 fun x hx=>?_]
  have hf:=List.all_eq_true.1 (show l.all (S1.free k)=true from h) x hx
  cases x with
  | one t=>simp only [S1.freeze,TC.freeze_free (show t.free k=true from hf)]
  | agg ts=>simp only [S1.freeze];rw [U5 fun t ht=>TC.freeze_free (List.all_eq_true.1 (show ts.all (TC.free k)=true from hf) t ht)]
 | _=>rfl
theorem C11 {k:Nat}:∀{F:Fr},(∀p∈F,p.2.free k=true)→K2 k F=true
 | [],_=>rfl
 | (i,s)::r,h=>by
  simp only [K2,J16]
  exact ⟨h (i,s) (List.mem_cons_self ..),C11 fun p hp=>h p (List.mem_cons_of_mem _ hp)⟩
theorem I75 {F:Fr} {i:Nat} {s:SV}:F0 F i=some s→∃p∈F,p.2=s:=by
 induction F with
 | nil=>intro h;cases h
 | cons p r ih =>
  obtain ⟨j,t⟩:=p
  intro h
  by_cases e:j=i
  ·subst e;rw [E4] at h;cases h;exact ⟨_,List.mem_cons_self ..,rfl⟩
  ·rw [C8 e] at h
   obtain ⟨q,h1,h2⟩:=ih h
   exact ⟨q,List.mem_cons_of_mem _ h1,h2⟩
theorem c5 {ks:List Nat} {k:Nat} {α:Type} {ec:Nat} {c:α→Nat→Cell} {xs:List α} {gf fr:Fr} (hk:M4 ks k=true) (h:Tail (C7 ks gf) fr):Tail (C7 ks gf) (I99 (SV.freeze k α ec c xs) fr):=by
 intro i s hi hs
 have:=h i s hi hs
 rw [B59,this]
 obtain ⟨p,hp,rfl⟩:=I75 hs
 show some (p.2.freeze k α ec c xs)=some p.2
 rw [E04 (p9 hk p hp)]
theorem N1 {i k:Nat} {o:Ob} {r:Obs} (h1:Nat.beq i k=false) (h2:o.free k=true) (h3:J2 k r=true):J2 k ((i,o)::r)=true:=by
 simp only [J2,h1,h2,h3,Bool.not_false,Bool.and_self]
theorem B39 {i k:Nat} {s:SV} {r:Fr} (h1:s.free k=true) (h2:K2 k r=true):K2 k ((i,s)::r)=true:=by
 simp only [K2,h1,h2,Bool.and_self]
theorem H12 {b:Bool} (h:b=true):(true&&b)=true:=h
theorem and_tt {a b:Bool} (h1:a=true) (h2:b=true):(a&&b)=true:=by rw [h1,h2];rfl
theorem E05 {X:Obs}:∀{Z:Obs} {seen:List Nat},(∀j x,M4 seen j=false→B9 Z j=some x→B9 X j=some x)→H47 X seen Z
 | [],_,_=>trivial
 | (k,o)::r,seen,h=>by
  refine ⟨?_,E05 fun j x hj hx=>?_⟩
  ·cases hs:M4 seen k
   ·exact .inr (h k o hs (F6 _ _ _))
   ·exact .inl rfl
  ·have h1:k≠j∧M4 seen j=false:=by
    refine ⟨fun e=>?_,?_⟩
    ·have:M4 (k::seen) j=true:=by rw [hasN_iff];exact e ▸ List.mem_cons_self ..
     rw [this] at hj;cases hj
    ·cases hs:M4 seen j
     ·rfl
     ·have:M4 (k::seen) j=true:=by rw [hasN_iff];exact List.mem_cons_of_mem _ (hasN_iff.1 hs)
      rw [this] at hj;cases hj
   exact h j x h1.2 (by rw [C2 h1.1];exact hx)
abbrev macX (a:Nat) (x y:TC):Ob:=.box [.p (.list AL.State 7 Z1 auto5.States),.p (.v (.int .i64 5)),.p (.v (.string ⟨aa.toArray⟩)),.p (.v (.int .i64 a)),x,y]
def B40 (t:AL.Thread):Bool:=decide ((C97 auto5 t.state).Kind=0)
def rdN (a:Nat):Nat:=if a=1 then 3 else 4
def th0:AL.Thread:=⟨0,0⟩
def A48 (a:Nat) (old:List AL.Thread):Nat→AS
 | 0=>⟨[],[],[false,false,false,false,false,false]⟩
 | i+1=>if B40 (old.getD i th0)=true then x5 a (old.getD i th0).from_ ⟨[(C97 auto5 (old.getD i th0).state).Next],(A48 a old i).th,(A48 a old i).sn⟩ (rdN a) else A48 a old i
def rdOk (a:Nat) (old:List AL.Thread):Bool:=(List.range old.length).all fun i=>!B40 (old.getD i th0) ||
 (addOk a (old.getD i th0).from_ ⟨[(C97 auto5 (old.getD i th0).state).Next],(A48 a old i).th,(A48 a old i).sn⟩ (rdN a)&&decide ((x5 a (old.getD i th0).from_ ⟨[(C97 auto5 (old.getD i th0).state).Next],(A48 a old i).th,(A48 a old i).sn⟩ (rdN a)).opn=[]))
theorem I76:∀i:Nat,i < 6→(auto5.States.getD i Z8).Kind=0→auto5.States.getD i Z8=A47:=by decide
theorem I21 {gf:Fr} {ob:Obs} (a:Nat) (th:List AL.Thread) (sn:List Bool) (ha:a < 2) (hst:∀t∈th,0≤t.state∧t.state < 6) (hl:th.length≤20) (hok:rdOk (a+1) th=true) (h0:B9 ob 830=some (A17 a)) (h1:B9 ob 831=some (thG th)) (h2:B9 ob 832=some (snA sn)) :
  AL.Met Tryz.prog 117 [w9] gf ob [831,832,834,837,838] (fun rs ob'=>rs=[]∧ob'=(830,A17 (a+1))::(831,thG (A48 (a+1) th th.length).th)::(832,snA (A48 (a+1) th th.length).sn)::oZ [831,832,834,837,838] ob):=by
 refine AL.Met.introH Tryz.func117 (by decide) rfl rfl rfl (fun hH=>?_)
 refine D8 (I92 831 (l:=[(0,.s w9)]) (L:=[(830,_),(831,_),(832,_)]) ⟨le1 rfl,trivial⟩ hH (by repeat (first | exact B2 | refine B3 rfl ?_)) ⟨h0,h1,h2,trivial⟩) ?_
 refine D8 (I92 832 (l:=[(0,.s w9)]) (L:=[(830,_),(831,_),(832,_)]) ⟨le1 rfl,trivial⟩ (A21 hH) (by repeat (first | exact B2 | refine B3 rfl ?_)) ⟨rfl,rfl,rfl,trivial⟩) ?_
 refine D8 (Sees.forget 834) ?_
 refine D8 (Sees.forget 837) ?_
 refine D8 (Sees.forget 838) ?_
 refine D8 (I91 (gf':=C7 [831,832,834,837,838] gf) (l:=[(0,.s w9)]) (ob':=[(830,A17 a),(831,thG th),(832,snA sn)]++oZ [831,832,834,837,838] ob) ⟨le1 rfl,trivial⟩ (E9 hH) (by repeat (first | exact B2 | refine tail_drop rfl ?_ | refine B3 rfl ?_ | refine H1 _ rfl ?_ | refine c5 rfl ?_)) (E2 (L:=[(830,_),(831,_),(832,_)]) ⟨rfl,rfl,rfl,trivial⟩ (by repeat (first | exact oZ_base | refine D6 rfl ?_)))) ?_
 have z1:J2 831 (oZ [831,832,834,837,838] ob)=true:=C42 rfl rfl
 have z2:J2 832 (oZ [831,832,834,837,838] ob)=true:=C42 rfl rfl
 have z3:J2 834 (oZ [831,832,834,837,838] ob)=true:=C42 rfl rfl
 have z4:J2 837 (oZ [831,832,834,837,838] ob)=true:=C42 rfl rfl
 have z5:J2 838 (oZ [831,832,834,837,838] ob)=true:=C42 rfl rfl
 have f1:K2 831 (C7 [831,832,834,837,838] gf)=true:=C11 (p9 rfl)
 have f2:K2 832 (C7 [831,832,834,837,838] gf)=true:=C11 (p9 rfl)
 obtain ⟨Z,hZ⟩:∃Z,Z=oZ [831,832,834,837,838] ob:=⟨_,rfl⟩
 rw [←hZ] at z1 z2 z3 z4 z5 ⊢
 have hv:aa[((a:Nat):Int).toNat]?=some 97:=by
  rw [J17]
  rcases (show a=0∨a=1 by omega) with h | h<;>subst h<;>rfl
 refine k2 (E6 (by kernel_rfl) (by kernel_rfl) (E5 V V (B5 (B4 V) V V (B5 (A7 V) V V (B5 (C4 V V V) V V (E5 V V (B5 (B4 V) V V (B5 (A7 V) V V (B5 (C4 V V V) V V (B5 (j1 V V (by omega) hv) V V (B5 (I3 V V) V V (P0 ?_))))))))))));refine k1 (k2 (A2 (A3 V V (A5 (B4 V) V (A5 (A7 V) V (G4 V V V V (D2 V V V (A5 (B4 V) V (A5 (A7 V) V (G8 (C1 TySz.out V V V V V V) (A4 ?_)))))))))));refine k1 (k2 (A2 (A3 V V (A5 (B4 V) V (A5 (A7 V) V (G4 V V V V (A6 V V (A4 ?_))))))));refine k1 (k2 (D8 (Sees.freezeG (k:=831) (α:=AL.Thread) (ec:=2) (c:=Z6) (xs:=th) (e:=187) V V) ?_))
 refine D8 (I91 (gf':=C7 [831,832,834,837,838] gf) (l:=[(0,.s w9),(2,.s (b8 97)),(3,C6 AL.Thread 2 Z6 th)]) (ob':=[(830,macX (a+1) (.p (.list AL.Thread 2 Z6 th)) (.mut 832)),(832,snA sn)]++Z) ⟨le1 rfl,le1 rfl,le1 rfl,trivial⟩ (E9 hH) (by repeat (first | exact B2 | refine tail_drop rfl ?_ | refine B3 rfl ?_ | refine H1 _ rfl ?_ | refine c5 rfl ?_)) (E2 (L:=[(830,_),(832,_)]) ⟨rfl,rfl,trivial⟩ (by repeat (first | exact D5 | refine D6 rfl ?_ | refine F3 (H4 z2).2.1 ?_ | refine F3 (H4 z4).2.1 ?_ | refine F3 (H4 z5).2.1 ?_ | refine C43 (by first | exact z1 | exact z2 | exact z3 | exact z4 | exact z5) ?_ | refine y5 (by first | exact z1 | exact z2 | exact z3 | exact z4 | exact z5) ?_)))) ?_
 refine D8 (Sees.forget 832) ?_
 refine D8 (I91 (gf':=C7 [831,832,834,837,838] gf) (l:=[(0,.s w9),(2,.s (b8 97)),(3,C6 AL.Thread 2 Z6 th)]) (ob':=[(830,macX (a+1) (.p (.list AL.Thread 2 Z6 th)) .any)]++Z) ⟨le1 rfl,le1 rfl,le1 rfl,trivial⟩ (E9 hH) (by repeat (first | exact B2 | refine tail_drop rfl ?_ | refine B3 rfl ?_ | refine H1 _ rfl ?_ | refine c5 rfl ?_)) (E2 (L:=[(830,_)]) ⟨rfl,trivial⟩ (by repeat (first | exact D5 | refine D6 rfl ?_ | refine F3 (H4 z2).2.1 ?_ | refine F3 (H4 z4).2.1 ?_ | refine F3 (H4 z5).2.1 ?_ | refine C43 (by first | exact z1 | exact z2 | exact z3 | exact z4 | exact z5) ?_ | refine y5 (by first | exact z1 | exact z2 | exact z3 | exact z4 | exact z5) ?_)))) ?_
 have h6:auto5.States.length=6:=rfl
 refine O0 [14,11,8] [[],[8],[11],[11,8],[14,11,8]] [(8,([832],[])),(11,([],[])),(14,([],[]))] [(0,[]),(1,[]),(2,[]),(3,[]),(4,[]),(5,[]),(6,[]),(7,[]),(8,[]),(9,[]),(10,[]),(11,[]),(11,[8]),(12,[11,8]),(13,[11,8]),(14,[11,8])] [(0,[8]),(1,[8]),(1,[11]),(1,[11,8]),(7,[11]),(8,[11]),(9,[8]),(10,[8])] (by kernel_rfl) (by kernel_rfl) (E1 V V (by kernel_rfl) V V (B7 V V) (E1 V V (by kernel_rfl) V V (B7 V V) (E1 V V (by kernel_rfl) V V (B7 V V) (E1 V V (by kernel_rfl) V V (B4 V) (E1 V V (by kernel_rfl) V V (A7 V) (E1 V V (by kernel_rfl) V V (A7 V) (E1 V V (by kernel_rfl) V V (C4 V V V) (E1 V V (by kernel_rfl) V V (X7 V (.pure _ _ _ _)) ?_))))))));refine W6 rfl rfl (by kernel_rfl) rfl rfl (D46 (fun frc hU hk=>c8 832 Bool v6 false (R4 hU rfl) (R4 hU rfl) (by (first | omega | decide)) (by (first | omega | decide)) (fun _=>by first | exact ⟨⟨rfl,rfl⟩,trivial⟩ | exact ⟨G9 _ _ _,trivial⟩ | exact ⟨G9 _ _ _,⟨rfl,rfl⟩,G9 _ _ _,trivial⟩) (by rw [hk];(repeat (first | exact z2 | refine H12 ?_ | refine N1 rfl rfl ?_))))) rfl ?_;refine E1 V V (by kernel_rfl) V V (B4 V) (E1 V V (by kernel_rfl) V V (A7 V) (W6 V V (by kernel_rfl) V V (A23 (fun frc hU=>C1 TySz.out (R4 hU V) V (R4 hU V) V V V)) V (w_again V V (by kernel_rfl) V V (A23 (fun frc hU=>C1 TySz.out (R4 hU V) V (R4 hU V) V V V)) V (E1 V V (by kernel_rfl) V V (B4 V) (E1 V V (by kernel_rfl) V V (A7 V) (W6 V V (by kernel_rfl) V V (A23 (fun frc hU=>C1 TySz.out (R4 hU V) V (R4 hU V) V V V)) V ?_))))));refine C78 (ks:=[831,832,834,837,838]) rfl (by kernel_rfl) rfl ?_ ?_
 ·refine M6 V V (by kernel_rfl) V V (B7 V V) (M6 V V (by kernel_rfl) V V (B7 V V) (M6 V V (by kernel_rfl) V V (B7 V V) (M6 V V (by kernel_rfl) V V (B7 V V) (M6 V V (by kernel_rfl) V V (X7 V (.pure _ _ _ _)) ?_))));refine x_eff rfl rfl (by kernel_rfl) rfl rfl (D46 (fun frc hU hk=>c8 832 Bool v6 false (R4 hU rfl) (R4 hU rfl) (by (first | omega | decide)) (by (first | omega | decide)) (fun _=>by first | exact ⟨⟨rfl,rfl⟩,trivial⟩ | exact ⟨G9 _ _ _,trivial⟩ | exact ⟨G9 _ _ _,⟨rfl,rfl⟩,G9 _ _ _,trivial⟩) (by rw [hk];(repeat (first | exact z2 | refine H12 ?_ | refine N1 rfl rfl ?_))))) rfl (I49 (by repeat (first | exact trivial | refine ⟨.inr rfl,?_⟩ | refine ⟨.inl rfl,?_⟩ | exact E05 (by repeat (first | exact D5 | refine D6 rfl ?_))))) ?_;refine M6 V V (by kernel_rfl) V V (B4 V) (M6 V V (by kernel_rfl) V V (A7 V) ?_);exact B24
 have hz0:(List.replicate 6 false)=[false,false,false,false,false,false]:=rfl
 refine k1 (k2 ?_);refine D8 (I91 (gf':=C7 [831,832,834,837,838] gf) (l:=[(0,.s w9),(2,.s (b8 97)),(3,C6 AL.Thread 2 Z6 th)]) (ob':=[(830,macX (a+1) (.p (.v (.slice none 0 0))) (.mut 832)),(832,snA [false,false,false,false,false,false])]++Z) ⟨le1 rfl,le1 rfl,le1 rfl,trivial⟩ (E9 hH) (by repeat (first | exact B2 | refine tail_drop rfl ?_ | refine B3 rfl ?_ | refine H1 _ rfl ?_ | refine c5 rfl ?_)) (E2 (L:=[(830,_),(832,_)]) ⟨rfl,rfl,trivial⟩ (by repeat (first | exact D5 | refine D6 rfl ?_ | refine F3 (H4 z2).2.1 ?_ | refine F3 (H4 z4).2.1 ?_ | refine F3 (H4 z5).2.1 ?_ | refine C43 (by first | exact z1 | exact z2 | exact z3 | exact z4 | exact z5) ?_ | refine y5 (by first | exact z1 | exact z2 | exact z3 | exact z4 | exact z5) ?_)))) ?_
 refine D8 (I96 831 AL.Thread 2 Z6 187 (kb:=830) (o:=4) V V (and_tt (B39 V (B39 V (B39 V f1))) (N1 V V (N1 V V z1)))) ?_
 refine A2 (A3 V V (E0 V V (A3 V V (A4 ?_))));refine k1 (k3 ?_);refine C5 (X:=Nat) (fun i=>([(0,.s w9),(2,.s (b8 97)),(40,C6 AL.Thread 2 Z6 th),(41,C0 th.length),(42,C0 i)]++C7 [831,832,834,837,838] gf,[(830,A17 (a+1)),(831,thG (A48 (a+1) th i).th),(832,snA (A48 (a+1) th i).sn)]++Z)) (fun i=>i≤th.length) (fun i=>th.length - i) 0 (Nat.zero_le _) ?_ ?_
 ·exact I91 ⟨le1 rfl,le1 rfl,le1 rfl,le1 rfl,le1 rfl,trivial⟩ (E9 hH) (by repeat (first | exact B2 | refine tail_drop rfl ?_ | refine B3 rfl ?_ | refine H1 _ rfl ?_ | refine c5 rfl ?_)) (E2 (L:=[(830,_),(831,_),(832,_)]) ⟨rfl,rfl,rfl,trivial⟩ (by repeat (first | exact D5 | refine D6 rfl ?_ | refine F3 (H4 z2).2.1 ?_ | refine F3 (H4 z4).2.1 ?_ | refine F3 (H4 z5).2.1 ?_ | refine C43 (by first | exact z1 | exact z2 | exact z3 | exact z4 | exact z5) ?_ | refine y5 (by first | exact z1 | exact z2 | exact z3 | exact z4 | exact z5) ?_)))
 intro i hi
 obtain ⟨m,hm⟩:∃m,m=A48 (a+1) th i:=⟨_,rfl⟩
 dsimp only at hi ⊢
 rw [←hm]
 refine k2 (A2 (E8 V V V (A4 ?_)));refine k1 (k2 ?_);refine B0 rfl (fun ht=>?_) (fun ht=>?_)
 rotate_left
 ·have hie:i=th.length:=by have:=A1 ht;omega
  rw [hm,hie]
  refine k6 (k7 (k7 (k8 V ?_)))
  exact R7 (A63 rfl) (by repeat (first | exact B2 | refine tail_drop rfl ?_ | refine B3 rfl ?_ | refine H1 _ rfl ?_ | refine c5 rfl ?_)) (E2 (L:=[(830,_),(831,_),(832,_)]) ⟨rfl,rfl,rfl,trivial⟩ (by repeat (first | exact D5 | refine D6 rfl ?_ | refine F3 (H4 z2).2.1 ?_ | refine F3 (H4 z4).2.1 ?_ | refine F3 (H4 z5).2.1 ?_ | refine C43 (by first | exact z1 | exact z2 | exact z3 | exact z4 | exact z5) ?_ | refine y5 (by first | exact z1 | exact z2 | exact z3 | exact z4 | exact z5) ?_))) ⟨rfl,rfl⟩
 have hlt:i < th.length:=by have:=A0 ht;omega
 obtain ⟨t,htd⟩:∃t,t=th[i]:=⟨_,rfl⟩
 have hvt:th[i]?=some t:=by rw [htd];simp [hlt]
 have hgd:th.getD i th0=t:=by rw [J21,hvt];rfl
 obtain ⟨hs1,hs2⟩:=hst t (J32 hvt)
 obtain ⟨q,hqd⟩:∃q,q=C97 auto5 t.state:=⟨_,rfl⟩
 have hvs:auto5.States[t.state.toNat]?=some q:=by
  rw [hqd,C97,J21,J15 (show t.state.toNat < 6 by omega)];rfl
 refine k5 (k1 (k2 (k3 (k2 (A2 (A5 (A9 V (.pure _ _ _ _) V (by omega) hvt) V (A5 (D7 V V) V (C9 (A76 837 (H4 (N1 V V (N1 V V (N1 V V z4)))).2.1 (by decide)) V (G8 (C1 TySz.out V V V V V V) (A4 ?_))))))))));refine k1 (k2 ?_);refine D8 (I91 (gf':=C7 [831,832,834,837,838] gf) (l:=[(0,.s w9),(2,.s (b8 97)),(40,C6 AL.Thread 2 Z6 th),(41,C0 th.length),(42,C0 i),(5,.s (.one (.ref 837 0)))]) (ob':=[(830,A17 (a+1)),(831,thG m.th),(832,snA m.sn),(837,.box [.p (.v (.int .i64 t.state)),.p (.v (.int .i64 t.from_))])]++Z) ⟨le1 rfl,le1 rfl,le1 rfl,le1 rfl,le1 rfl,le1 rfl,trivial⟩ (E9 hH) (by repeat (first | exact B2 | refine tail_drop rfl ?_ | refine B3 rfl ?_ | refine H1 _ rfl ?_ | refine c5 rfl ?_)) (E2 (L:=[(830,_),(831,_),(832,_),(837,_)]) ⟨rfl,rfl,rfl,rfl,trivial⟩ (by repeat (first | exact D5 | refine D6 rfl ?_ | refine F3 (H4 z2).2.1 ?_ | refine F3 (H4 z4).2.1 ?_ | refine F3 (H4 z5).2.1 ?_ | refine C43 (by first | exact z1 | exact z2 | exact z3 | exact z4 | exact z5) ?_ | refine y5 (by first | exact z1 | exact z2 | exact z3 | exact z4 | exact z5) ?_)))) ?_
 refine O0 [10,9] [[],[9],[10,9]] [(9,([838],[])),(10,([],[]))] [(0,[]),(1,[]),(2,[]),(3,[]),(4,[]),(5,[]),(6,[]),(7,[]),(8,[]),(9,[]),(10,[9])] [(0,[9]),(1,[9]),(2,[9]),(3,[9]),(4,[9]),(5,[9]),(6,[9]),(7,[9]),(8,[9])] (by kernel_rfl) (by kernel_rfl) (E1 V V (by kernel_rfl) V V (B7 V V) (E1 V V (by kernel_rfl) V V (B4 V) (E1 V V (by kernel_rfl) V V (A7 V) (E1 V V (by kernel_rfl) V V (A7 V) (E1 V V (by kernel_rfl) V V (C4 V V V) (E1 V V (by kernel_rfl) V V (A7 V) (E1 V V (by kernel_rfl) V V (C4 V V V) (E1 V V (by kernel_rfl) V V (A9 V (.pure _ _ _ _) V (by omega) hvs) (E1 V V (by kernel_rfl) V V (D7 V V) ?_)))))))));refine W6 rfl rfl (by kernel_rfl) rfl rfl (r_alloc (by repeat (first | exact z5 | refine H12 ?_ | refine N1 rfl rfl ?_))) rfl ?_;refine W6 V V (by kernel_rfl) V V (A23 (fun frc hU=>C1 TySz.out (R4 hU V) V (R4 hU V) V V V)) V ?_;refine C78 (ks:=[831,832,834,837,838]) rfl (by kernel_rfl) rfl ?_ ?_
 ·refine M6 V V (by kernel_rfl) V V (B7 V V) (M6 V V (by kernel_rfl) V V (B4 V) (M6 V V (by kernel_rfl) V V (A7 V) (M6 V V (by kernel_rfl) V V (A7 V) (M6 V V (by kernel_rfl) V V (C4 V V V) (M6 V V (by kernel_rfl) V V (A7 V) (M6 V V (by kernel_rfl) V V (C4 V V V) (M6 V V (by kernel_rfl) V V (A9 V (.pure _ _ _ _) V (by omega) hvs) (M6 V V (by kernel_rfl) V V (D7 V V) ?_))))))));exact B24
 refine k1 (k2 ?_);refine D8 (I91 (gf':=C7 [831,832,834,837,838] gf) (l:=[(0,.s w9),(2,.s (b8 97)),(40,C6 AL.Thread 2 Z6 th),(41,C0 th.length),(42,C0 i),(5,.s (.one (.ref 837 0))),(6,.s (.one (.ref 838 0)))]) (ob':=[(830,A17 (a+1)),(831,thG m.th),(832,snA m.sn),(837,.box [.p (.v (.int .i64 t.state)),.p (.v (.int .i64 t.from_))]),(838,.box ((cellsOf Z1 q 0 7).map .p))]++Z) ⟨le1 rfl,le1 rfl,le1 rfl,le1 rfl,le1 rfl,le1 rfl,le1 rfl,trivial⟩ (E9 hH) (by repeat (first | exact B2 | refine tail_drop rfl ?_ | refine B3 rfl ?_ | refine H1 _ rfl ?_ | refine c5 rfl ?_)) (E2 (L:=[(830,_),(831,_),(832,_),(837,_),(838,_)]) ⟨rfl,rfl,rfl,rfl,rfl,trivial⟩ (by repeat (first | exact D5 | refine D6 rfl ?_ | refine F3 (H4 z2).2.1 ?_ | refine F3 (H4 z4).2.1 ?_ | refine F3 (H4 z5).2.1 ?_ | refine C43 (by first | exact z1 | exact z2 | exact z3 | exact z4 | exact z5) ?_ | refine y5 (by first | exact z1 | exact z2 | exact z3 | exact z4 | exact z5) ?_)))) ?_
 by_cases hK:q.Kind=0
 ·have hq2:q=A47:=by
   have e:q=auto5.States.getD t.state.toNat Z8:=hqd
   rw [e] at hK ⊢
   exact I76 _ (by omega) hK
  subst hq2
  refine A2 (A5 (A7 V) V (G4 V V V V (A5 (F7 V V) V (A3 V V (H0 V V V V (A3 V V (H0 V V V V (A5 (D41 V V (by omega)) V (H0 V V V V (A5 (A7 V) V (H0 V V V V (A5 (K6 V V (by first | omega | decide) (by (first | omega | decide))) V (H0 V V V V (G4 V V V V (H0 V V V V (A3 V V (H0 V V V V (A5 (A59 V V (by omega)) V (H0 V V V V (A5 (F69 V V (by (first | omega | decide))) V (H0 V V V V (A5 (C68 V V V (fun _=>rfl)) V (H0 V V V V ?_)))))))))))))))))))))));refine A5 (F7 V V) V (I6 V V ?_);refine A4 ?_;refine k1 ?_
  have hco:B40 (th.getD i th0)=true:=by
   rw [hgd];unfold B40;rw [←hqd];rfl
  have hokI:=List.all_eq_true.1 hok i (List.mem_range.2 hlt)
  rw [hco,Bool.not_true,Bool.false_or,J16,←hm,hgd,←hqd] at hokI
  obtain ⟨hk1,hk2⟩:=hokI
  have hk2:=A0 hk2
  obtain ⟨R,hR⟩:∃R,R=x5 (a+1) t.from_ ⟨[2],m.th,m.sn⟩ (rdN (a+1)):=⟨_,rfl⟩
  have hk2:R.opn=[]:=by rw [hR];exact hk2
  have hnx:A48 (a+1) th (i+1)=R:=by
   rw [hR]
   show (if B40 (th.getD i th0)=true then x5 (a+1) (th.getD i th0).from_ ⟨[(C97 auto5 (th.getD i th0).state).Next],(A48 (a+1) th i).th,(A48 (a+1) th i).sn⟩ (rdN (a+1)) else A48 (a+1) th i)=_
   rw [if_pos hco,hgd,←hqd,←hm]
  refine B0 rfl (fun ht=>?_) (fun ht=>?_)
  rotate_left
  ·exact absurd ht (by decide)
  skip
  refine A2 (A3 V V (A5 (A7 V) V (G4 V V V V (A5 (A7 V) V (G4 V V V V (A5 (K1 V) V (L1 (G22 (a+1) 2 t.from_ m.th m.sn (rdN (a+1)) R hk1 hR.symm hk2 V V V (H4 (N1 V V (N1 V V (N1 V V (N1 V V (N1 V V z3)))))).2.1) V V V ?_)))))));rintro _ _ ⟨rfl,rfl⟩;refine A4 ?_;refine k4 (k1 (A2 (D2 V V V (A3 V V (A4 ?_)))));refine k1 ?_;refine ⟨i+1,by omega,by omega,?_⟩
  rw [hnx]
  exact I91 ⟨le1 rfl,le1 rfl,le1 rfl,le1 rfl,le1 rfl,trivial⟩ (E9 hH) (by repeat (first | exact B2 | refine tail_drop rfl ?_ | refine B3 rfl ?_ | refine H1 _ rfl ?_ | refine c5 rfl ?_)) (E2 (L:=[(830,_),(831,_),(832,_)]) ⟨rfl,rfl,rfl,trivial⟩ (by repeat (first | exact D5 | refine D6 rfl ?_ | refine F3 (H4 z2).2.1 ?_ | refine F3 (H4 z4).2.1 ?_ | refine F3 (H4 z5).2.1 ?_ | refine C43 (by first | exact z1 | exact z2 | exact z3 | exact z4 | exact z5) ?_ | refine y5 (by first | exact z1 | exact z2 | exact z3 | exact z4 | exact z5) ?_)))
 have hco:B40 (th.getD i th0)=false:=by
  rw [hgd];unfold B40;rw [←hqd];exact decide_eq_false hK
 have hnx:A48 (a+1) th (i+1)=m:=by
  rw [hm]
  show (if B40 (th.getD i th0)=true then x5 (a+1) (th.getD i th0).from_ ⟨[(C97 auto5 (th.getD i th0).state).Next],(A48 (a+1) th i).th,(A48 (a+1) th i).sn⟩ (rdN (a+1)) else A48 (a+1) th i)=_
  rw [hco];rfl
 refine A2 (A5 (A7 V) V (G4 V V V V (A5 (F7 V V) V (A3 V V (B1 V V V V (fun hg=>by rw [hg];exact B7 V V) ?_)))));refine B1 V V V V (fun hg=>by have hq:=hg;(try simp at hq);rw [hg];exact D41 V V (by omega)) ?_;refine B1 V V V V (fun hg=>by rw [hg];exact A7 V) ?_;refine B1 V V V V (fun hg=>by rw [hg];exact K6 V V (by first | omega | decide) (by (first | omega | decide))) ?_;refine B1 V V V V (fun hg=>by rw [hg];exact C4 V V V) ?_;refine B1 V V V V (fun hg=>by rw [hg];exact B7 V V) ?_;refine B1 V V V V (fun hg=>by have hq:=hg;(try simp at hq);rw [hg];exact A59 V V (by omega)) ?_;refine B1 V V V V (fun hg=>by rw [hg];exact F69 V V (by (first | omega | decide))) ?_;refine B1 V V V V (fun hg=>by rw [hg];exact C68 V V V (fun _=>rfl)) ?_;refine B1 V V V V (fun hg=>by rw [hg];exact F7 V V) ?_;refine I6 V V ?_;refine A4 ?_;refine k1 ?_;refine B0 rfl (fun ht=>?_) (fun ht=>?_)
 ·rw [decide_eq_false hK] at ht
  cases ht
 refine k5 (k4 (k1 (A2 (D2 V V V (A3 V V (A4 ?_))))));refine k1 ?_;refine ⟨i+1,by omega,by omega,?_⟩
 rw [hnx]
 exact I91 ⟨le1 rfl,le1 rfl,le1 rfl,le1 rfl,le1 rfl,trivial⟩ (E9 hH) (by repeat (first | exact B2 | refine tail_drop rfl ?_ | refine B3 rfl ?_ | refine H1 _ rfl ?_ | refine c5 rfl ?_)) (E2 (L:=[(830,_),(831,_),(832,_)]) ⟨rfl,rfl,rfl,trivial⟩ (by repeat (first | exact D5 | refine D6 rfl ?_ | refine F3 (H4 z2).2.1 ?_ | refine F3 (H4 z4).2.1 ?_ | refine F3 (H4 z5).2.1 ?_ | refine C43 (by first | exact z1 | exact z2 | exact z3 | exact z4 | exact z5) ?_ | refine y5 (by first | exact z1 | exact z2 | exact z3 | exact z4 | exact z5) ?_)))
set_option maxHeartbeats 1000000
def befT:Nat→List AL.Thread
 | 0=>[]
 | 1=>[⟨2,0⟩,⟨1,0⟩,⟨3,0⟩]
 | _=>[⟨2,0⟩,⟨1,0⟩,⟨0,0⟩,⟨3,0⟩]
def befS:Nat→List Bool
 | 0=>[false,false,false,false,false,false]
 | 1=>[false,true,true,true,false,false]
 | _=>[true,true,true,true,false,false]
def E06:Nat→List AL.Thread
 | 0=>[⟨5,0⟩,⟨4,0⟩]
 | 1=>[⟨2,0⟩,⟨1,0⟩,⟨3,0⟩,⟨5,1⟩]
 | _=>[⟨2,0⟩,⟨1,0⟩,⟨0,0⟩,⟨3,0⟩,⟨5,2⟩]
def aftS:Nat→List Bool
 | 0=>[false,false,false,false,true,true]
 | 1=>[false,true,true,true,false,true]
 | _=>[true,true,true,true,false,true]
def fN:Nat→Nat
 | 0=>2
 | _=>1
theorem fd_ok:∀k,k < 3→addOk k k ⟨[5],befT k,befS k⟩ (fN k)=true:=three (by decide) (by decide) (by decide)
theorem fd_is:∀k:Nat,k < 3→x5 k k ⟨[5],befT k,befS k⟩ (fN k)=⟨[],E06 k,aftS k⟩:=three rfl rfl rfl
theorem fd_st:∀k,k < 3→(∀t∈E06 k,0≤t.state∧t.state < 6)∧(E06 k).length≤20:=three (by decide) (by decide) (by decide)
theorem fd_acc:∀k,k < 3→A01 auto5 (E06 k)=if k=2 then 0 else -1:=three rfl rfl rfl
theorem two_of {p:Nat→Prop} (h0:p 0) (h1:p 1):∀i,i < 2→p i
 | 0,_=>h0
 | 1,_=>h1
theorem fd_rok:∀k,k < 2→rdOk (k+1) (E06 k)=true:=two_of (by decide) (by decide)
theorem fd_rd:∀k,k < 2→A48 (k+1) (E06 k) (E06 k).length=⟨[],befT (k+1),befS (k+1)⟩:=two_of rfl rfl
theorem find_ok:FnOk Tryz.prog 83 [C65 auto5,M3 aa,F2 0] (fun rs=>rs=[.agg [.v (.int .i64 0),.v (.int .i64 2)],H5 true]):=by
 refine FnOk.intro Tryz.func83 (by decide) V V V V ?_
 refine k2 (A2 (A5 (o6 V V V) V (C9 (J4 6 V) V (A6 V V (A4 ?_)))));refine k1 (k2 (A2 (A5 (D7 V V) V (A3 V V (A3 V V (B26 (I19) V V V V ?_))))));rintro _ _ ⟨rfl,rfl⟩;refine ⟨rfl,?_⟩;refine A6 V V (A4 ?_);refine k1 (D8 (I96 831 AL.Thread 2 Z6 187 (kb:=830) (o:=4) V V V) ?_)
 refine k2 (A2 (C9 (J4 9 V) V (A4 ?_)));refine k1 (k2 (A2 (A6 V V (A4 ?_))));refine k1 (k3 (C5 (X:=Nat) (fun k=>([(1,T7 aa),(3,.s (.one (.eref Unit 2 (fun _ j=>[Cell.list AL.State 7 Z1 auto5.States,Cell.v (.int .i64 auto5.Start)].getD j (.v undef)) () 0))),(6,.s (.one (.ref 6 0))),(8,.s (.one (.ref 830 0))),(9,.s (.one (.ref 9 0))),(10,P2 false)],[(830,A17 k),(831,thG (befT k)),(832,snA (befS k)),(6,.box [.p (.v (.int .i64 0)),.p (.v (.int .i64 0))]),(9,.box [.p (.v (.int .i64 0)),.p (.v (.int .i64 0))])])) (fun k=>k≤2) (fun k=>2 - k) 0 (by decide) (I90 ⟨le1 rfl,le1 rfl,le1 rfl,le1 rfl,le1 rfl,le1 rfl,trivial⟩ ⟨rfl,rfl,rfl,rfl,rfl,trivial⟩) ?_))
 intro k hk
 have hk3:k < 3:=by omega
 have h1:=fd_ok k hk3
 have h2:=fd_is k hk3
 obtain ⟨h3,h4⟩:=fd_st k hk3
 have h5:=fd_acc k hk3
 obtain ⟨bt,hbt⟩:∃bt,bt=befT k:=⟨_,rfl⟩
 obtain ⟨bs,hbs⟩:∃bs,bs=befS k:=⟨_,rfl⟩
 dsimp only at hk ⊢
 rw [←hbt,←hbs] at h1 h2 ⊢
 refine k3 (k2 (k2 (A2 (A3 V V (A5 (U2 V) V (A4 ?_))))));refine k1 ?_;refine B0 rfl (fun ht=>?_) (fun ht=>?_)
 rotate_left
 ·cases ht
 skip
 refine E38 8 (by kernel_rfl) (by kernel_rfl) V (E5 V V (B5 (B8 V) V V (B5 (A8 V V) V V (E5 V V (B5 (B4 V) V V (B5 (A7 V) V V (B5 (C4 V V V) V V (B5 (K1 V) V V (P0 ?_)))))))));refine F74 (G22 k 5 k bt bs (fN k) ⟨[],E06 k,aftS k⟩ h1 h2 V V V V V) V V V ?_;rintro _ _ ⟨rfl,rfl⟩;refine ⟨_,rfl,?_⟩;refine P0 ?_;refine k1 (k2 (k2 ?_))
 obtain ⟨at',hat'⟩:∃at',at'=E06 k:=⟨_,rfl⟩
 obtain ⟨as',has'⟩:∃as',as'=aftS k:=⟨_,rfl⟩
 rw [←hat',←has']
 refine A05 [(1,T7 aa),(3,.s (.one (.eref Unit 2 (fun _ j=>[Cell.list AL.State 7 Z1 auto5.States,Cell.v (.int .i64 auto5.Start)].getD j (.v undef)) () 0))),(6,.s (.one (.ref 6 0))),(8,.s (.one (.ref 830 0))),(9,.s (.one (.ref 9 0))),(10,P2 false)] [(830,A17 k),(831,thG at'),(832,snA as'),(6,.box [.p (.v (.int .i64 0)),.p (.v (.int .i64 0))]),(9,.box [.p (.v (.int .i64 0)),.p (.v (.int .i64 0))])] (I90 ⟨le1 rfl,le1 rfl,le1 rfl,le1 rfl,le1 rfl,le1 rfl,trivial⟩ ⟨rfl,rfl,rfl,rfl,rfl,trivial⟩) ?_
 refine A2 (A3 V V (L1 (E51 k at' as' (by rw [hat'];exact h3) (by rw [hat'];exact h4) V V V V) V V V ?_));rintro _ _ ⟨rfl,rfl⟩;refine A6 V V (A4 ?_);refine k1 (k2 ?_)
 rw [hat',h5]
 by_cases hk2:k=2
 ·subst hk2
  refine A2 (A3 V V (A5 (W5 V V) V (A4 ?_)));refine k1 ?_;refine B0 rfl (fun ht=>?_) (fun ht=>?_)
  rotate_left
  ·cases ht
  refine k2 (A2 (A3 V V (A3 V V (A5 (B4 V) V (A5 (A7 V) V (G4 V V V V (A5 (K1 V) V (G8 (C1 TySz.out V V V V V V) (A6 V V (A4 ?_))))))))));refine k1 (A2 (A3 V V (A3 V V (L1 (I20 2 0 (E06 2) as' 4 (by decide) (by decide) (fun t ht=>by cases ht;decide) (by decide) V V V V) V V V ?_))));rintro _ _ ⟨rfl,rfl⟩;refine A4 ?_;refine k1 (k2 (k2 (A2 (A3 V V (A5 (B4 V) V (A5 (A7 V) V (G4 V V V V (A3 V V (A5 (J3 V) V (A5 (F7 V V) V (A3 V V (B1 V V V V (fun hg=>by rw [hg];exact B7 V V) ?_))))))))))));refine B1 V V V V (fun hg=>by rw [hg];exact B7 V V) ?_;refine L5 V V V (.gd (.val _)) V (fun hg=>by obtain ⟨hg1,hg2⟩:=N7 hg;(try rw [hg1]);(try rw [hg2]);exact B7 V V) ?_;refine L5 V V V (.gd (.val _)) V (fun hg=>by obtain ⟨hg1,hg2⟩:=N7 hg;(try rw [hg1]);(try rw [hg2]);exact B4 V) ?_;refine L5 V V V (.gd (.val _)) V (fun hg=>by obtain ⟨hg1,hg2⟩:=N7 hg;(try rw [hg1]);(try rw [hg2]);exact A7 V) ?_;refine L5 V V V (.gd (.val _)) V (fun hg=>by obtain ⟨hg1,hg2⟩:=N7 hg;(try rw [hg1]);(try rw [hg2]);exact C4 V V V) ?_;refine L5 V V V (.gd (.val _)) V (fun hg=>by obtain ⟨hg1,hg2⟩:=N7 hg;(try rw [hg1]);(try rw [hg2]);exact V5 V V) ?_;refine L5 V V V (.gd (.val _)) V (fun hg=>by obtain ⟨hg1,hg2⟩:=N7 hg;(try rw [hg1]);(try rw [hg2]);exact F7 V V) ?_;refine B1 V V V V (fun hg=>by rw [hg];exact K7 V (fun h=>by first | rfl | (rw [h];rfl)) (fun h=>by first | rfl | (rw [h];rfl))) ?_;refine I6 V V ?_;refine A4 ?_;refine k1 ?_;refine B0 rfl (fun ht=>?_) (fun ht=>?_)
  rotate_left
  ·exact absurd ht (by decide)
  refine k2 (A2 (A5 (P3 V V V) V (A3 V V (G8 (C1 TySz.out V V V V V V) (A6 V V (A4 ?_))))));refine k1 (k10 (k11 (k12 (k11 (k12 ?_)))))
  exact B6 (rs:=[.agg [.v (.int .i64 0),.v (.int .i64 2)],H5 true]) (retc2 rfl rfl rfl rfl rfl rfl rfl) rfl
 have hkl:k < 2:=by omega
 have hat2:decide ((k:Int)=(aa.length:Int))=false:=decide_eq_false (by have e:aa.length=2:=rfl;omega)
 rw [if_neg hk2]
 refine A2 (A3 V V (A5 (W5 V V) V (A4 ?_)));refine k1 ?_;refine B0 rfl (fun ht=>?_) (fun ht=>?_)
 ·cases ht
 refine k5 (k1 (k2 (k2 (A2 (A3 V V (A5 (B4 V) V (A5 (A7 V) V (G4 V V V V (A3 V V (A5 (J3 V) V (A5 (F7 V V) V (A3 V V (B1 V V V V (fun hg=>by rw [hg];exact B7 V V) ?_)))))))))))));refine B1 V V V V (fun hg=>by rw [hg];exact B7 V V) ?_;refine L5 V V V (.gd (.val _)) V (fun hg=>by obtain ⟨hg1,hg2⟩:=N7 hg;(try rw [hg1]);(try rw [hg2]);exact B7 V V) ?_;refine L5 V V V (.gd (.val _)) V (fun hg=>by obtain ⟨hg1,hg2⟩:=N7 hg;(try rw [hg1]);(try rw [hg2]);exact B4 V) ?_;refine L5 V V V (.gd (.val _)) V (fun hg=>by obtain ⟨hg1,hg2⟩:=N7 hg;(try rw [hg1]);(try rw [hg2]);exact A7 V) ?_;refine L5 V V V (.gd (.val _)) V (fun hg=>by obtain ⟨hg1,hg2⟩:=N7 hg;(try rw [hg1]);(try rw [hg2]);exact C4 V V V) ?_;refine L5 V V V (.gd (.val _)) V (fun hg=>by obtain ⟨hg1,hg2⟩:=N7 hg;(try rw [hg1]);(try rw [hg2]);exact V5 V V) ?_;refine L5 V V V (.gd (.val _)) V (fun hg=>by obtain ⟨hg1,hg2⟩:=N7 hg;(try rw [hg1]);(try rw [hg2]);exact F7 V V) ?_;refine B1 V V V V (fun hg=>by rw [hg];exact K7 V (fun h=>by first | rfl | (rw [h];rfl)) (fun h=>by first | rfl | (rw [h];rfl))) ?_;refine I6 V V ?_;refine A4 ?_;refine k1 ?_
 rw [hat2]
 refine B0 rfl (fun ht=>?_) (fun ht=>?_)
 ·cases ht
 refine k5 (k1 ?_)
 have hrd:=fd_rd k hkl
 refine A2 (A3 V V (L1 (I21 k (E06 k) as' hkl h3 h4 (fd_rok k hkl) V V V) V V V ?_));rintro _ _ ⟨rfl,rfl⟩;refine A4 ?_
 rw [hrd]
 refine k4 (k1 ?_)
 exact ⟨k+1,by omega,by omega,I90 ⟨le1 rfl,le1 rfl,le1 rfl,le1 rfl,le1 rfl,le1 rfl,trivial⟩ ⟨rfl,rfl,rfl,rfl,rfl,trivial⟩⟩
theorem any_ok:FnOk Tryz.prog 50 [C65 auto5,M3 aa] (fun rs=>rs=[H5 true,F2 0]):=by
 refine FnOk.intro Tryz.func50 (by decide) V V V V ?_
 refine k2 (A2 (A5 (o6 V V V) V (A6 V V (A6 V V (A4 ?_)))));refine k1 (k2 (k2 (A2 (A5 (D7 V V) V (D3 (I18) V V V ?_)))));rintro _ rfl;refine A6 V V (A4 ?_);refine k1 (k2 (A2 (A3 V V (A5 (Q8 V V) V (A4 ?_)))));refine k1 ?_;refine B0 rfl (fun ht=>?_) (fun ht=>?_)
 ·cases ht
 refine k5 (k1 (k2 (A2 (A5 (D7 V V) V (A3 V V (D3 (find_ok) V V V ?_))))));rintro _ rfl;refine A3 V V (H6 V V V (H6 V V V (C9 (J4 7 V) V (G8 (C1 TySz.out V V V V V V) (A6 V V (A4 ?_))))));refine k1 (k2 (A2 (A3 V V (A6 V V (A6 V V (A4 ?_))))));refine k1 (k10 ?_)
 exact B6 (rs:=[H5 true,F2 0]) (X8 rfl rfl rfl rfl rfl) rfl
set_option maxHeartbeats 1000000
def S9 (B:List (List Str)) (i:Nat):List Str:=(B.take i).flatten
theorem y6 {B:List (List Str)} {i:Nat} (h:i < B.length):S9 B (i+1)=S9 B i++B[i]:=by
 unfold S9
 rw [List.take_add_one,J15 h,Option.toList_some,J51];simp
theorem t7 {B:List (List Str)} (h:B.flatten.length≤1000000) (i:Nat):(S9 B i).length≤1000000:=by
 have e:B.flatten=(B.take i).flatten++(B.drop i).flatten:=by rw [←J51,J53]
 rw [e,J20] at h
 unfold S9;omega
abbrev F41 (l:List Str):Ob:=.grow 9 Str 1 Q0 l
theorem G23 (n:Nat) (hn:n≤1000000):AL.Met Tryz.prog 81 [.one (.p (.v (.slice none 0 0))),N0 n] [] [] [] (fun rs ob'=>rs=[.one (.mut 804)]∧ob'=[(804,F41 [])]):=by
 refine AL.Met.intro Tryz.func81 (by decide) V V V ?_
 refine k2 (A2 (A5 (I0 _ 1 Q0) V (A4 ?_)));refine k1 (k2 (k2 (A2 (A3 V V (E8 V V V (A4 ?_))))));refine k1 ?_;refine B0 rfl (fun ht=>?_) (fun ht=>?_)
 ·have h1:=A0 ht
  omega
 refine k5 (k1 (k2 (k2 (A2 (A3 V V (A3 V V (A5 (B62 V) V (A3 V V (A5 (B55 V) V (A5 (K8 V V (by omega)) V (A5 (K8 V V (by omega)) V (A6 V V (A4 ?_)))))))))))))
 rw [show (n:Int) - (0 - 0)=(n:Int) by omega]
 refine k1 (k2 (A2 (A3 V V (A5 (M5 V V) V (A4 ?_)))));refine k1 ?_;refine B0 rfl (fun ht=>?_) (fun ht=>?_)
 ·have h1:=A0 ht
  skip
  refine A2 (A3 V V (A3 V V (A5 (B62 V) V (A5 (B85 V V) V (A3 V V (C9 (E73 804 V V (by omega) (by omega) V V) V (A3 V V (A5 (B55 V) V (C9 (B61 V V V (by omega) (by omega) V) V (A6 V V (A4 ?_)))))))))));refine k1 (k2 ?_)
  rw [show Int.toNat 0=0 from rfl,List.take_zero]
  refine D8 (J05 (k:=804) Str Q0 V) ?_
  refine A2 (A3 V V (A6 V V (A4 ?_)));refine k1 (k10 ?_)
  exact G5 (K4 rfl rfl) (by repeat (first | exact B2 | refine B3 rfl ?_ | refine D1 _ ?_)) (ObIn.spec (ob':=[(804,F41 [])]) ⟨rfl,trivial⟩) ⟨rfl,rfl⟩
 ·refine D8 (J04 0 804 Str 1 Q0 9 V V) ?_
  refine k5 (k1 (k2 (A2 (A3 V V (A6 V V (A4 ?_))))));refine k1 (k10 ?_)
  exact G5 (K4 rfl rfl) (by repeat (first | exact B2 | refine B3 rfl ?_ | refine D1 _ ?_)) (ObIn.spec (ob':=[(804,F41 [])]) ⟨rfl,trivial⟩) ⟨rfl,rfl⟩
theorem F42 (B:List (List Str)) (hB1:B.length≤1000) (hB2:B.flatten.length≤1000000):FnOk Tryz.prog 49 [pStrss B] (fun rs=>rs=[C26 B.flatten]):=by
 have hBl:=hB1
 have hall:B.flatten=S9 B B.length:=by unfold S9;rw [J23]
 rw [hall]
 refine FnOk.intro Tryz.func49 (by decide) V V V V ?_
 refine k2 (A2 (A6 V V (A4 ?_)));refine k1 (k2 (A2 (A6 V V (A4 ?_))));refine k1 (k2 (k2 (A2 (A3 V V (E0 V V (A3 V V (A4 ?_)))))));refine k1 (k3 (C5 (X:=Nat) (fun i=>([(0,C6 (List Str) 1 strsC B),(3,C0 ((S9 B i).length:Nat)),(9,C6 (List Str) 1 strsC B),(10,C0 B.length),(11,C0 i)],[])) (fun i=>i≤B.length) (fun i=>B.length - i) 0 (Nat.zero_le _) (I90 ⟨le1 rfl,le1 rfl,le1 rfl,le1 rfl,le1 rfl,trivial⟩ trivial) ?_))
 intro i hi
 dsimp only at hi ⊢
 have hfl:=t7 hB2 i
 refine k2 (A2 (E8 V V V (A4 ?_)));refine k1 (k2 ?_);refine B0 rfl (fun ht=>?_) (fun ht=>?_)
 ·have hlt:i < B.length:=by have h1:=A0 ht;(try dsimp only at h1);omega
  obtain ⟨l,hl⟩:∃l,l=B[i]:=⟨_,rfl⟩
  have hv:B[i]?=some l:=by rw [hl];simp [hlt]
  have hfl1:=t7 hB2 (i+1)
  have hfs:(S9 B (i+1)).length=(S9 B i).length+l.length:=by rw [y6 hlt,J20,hl]
  have hs:((S9 B (i+1)).length:Int)=(S9 B i).length+l.length:=by rw [y6 hlt,J20,hl];omega
  refine k5 (k1 (k2 (k3 (k2 (A2 (A5 (A9 V (.pure _ _ _ _) V (by omega) hv) V (A5 (A8 V V) V (A6 V V (A4 ?_)))))))));refine k1 (k2 (A2 (A3 V V (A3 V V (E0 V V (D2 V V V (A6 V V (A4 ?_))))))));refine k1 (k2 (A2 (A3 V V (E8 V V V (A4 ?_)))));refine k1 ?_;refine B0 rfl (fun ht=>?_) (fun ht=>?_)
  ·have h1:=A0 ht
   omega
  refine k5 (k4 (k1 (A2 (D2 V V V (A3 V V (A4 ?_))))));refine k1 ?_;refine ⟨i+1,by omega,by omega,?_⟩
  rw [hs]
  exact (I90 ⟨le1 rfl,le1 rfl,le1 rfl,le1 rfl,le1 rfl,trivial⟩ trivial)
 have hie:i=B.length:=by have h1:=A1 ht;(try dsimp only at h1);omega
 rw [hie]
 have hfl2:=t7 hB2 B.length
 refine k6 (k2 (A2 (A3 V V (B26 (G23 (S9 B B.length).length (by omega)) V V V V ?_))));rintro _ _ ⟨rfl,rfl⟩;refine ⟨rfl,?_⟩;refine A6 V V (A4 ?_);refine k1 (k2 (k2 (A2 (A3 V V (E0 V V (A3 V V (A4 ?_)))))));refine k1 (k3 (C5 (X:=Nat) (fun i=>([(6,.s (.one (.mut 804))),(25,C6 (List Str) 1 strsC B),(26,C0 B.length),(27,C0 i)],[(804,F41 (S9 B i))])) (fun i=>i≤B.length) (fun i=>B.length - i) 0 (Nat.zero_le _) (I90 ⟨le1 rfl,le1 rfl,le1 rfl,le1 rfl,trivial⟩ ⟨rfl,trivial⟩) ?_))
 intro i hi
 dsimp only at hi ⊢
 have hfl:=t7 hB2 i
 refine k2 (A2 (E8 V V V (A4 ?_)));refine k1 (k2 ?_);refine B0 rfl (fun ht=>?_) (fun ht=>?_)
 ·have hlt:i < B.length:=by have h1:=A0 ht;(try dsimp only at h1);omega
  obtain ⟨l,hl⟩:∃l,l=B[i]:=⟨_,rfl⟩
  have hv:B[i]?=some l:=by rw [hl];simp [hlt]
  have hfl1:=t7 hB2 (i+1)
  have hfs:(S9 B (i+1)).length=(S9 B i).length+l.length:=by rw [y6 hlt,J20,hl]
  have hs:=y6 hlt
  rw [←hl] at hs
  refine k5 (k1 (k2 (k3 (k2 (A2 (A5 (A9 V (.pure _ _ _ _) V (by omega) hv) V (A5 (A8 V V) V (A6 V V (A4 ?_)))))))));refine k1 (A2 (A3 V V (A3 V V (C9 (R8 V V V (.pure _ _ _ _) (by omega) V) V (A6 V V (A4 ?_))))));refine k4 (k1 (A2 (D2 V V V (A3 V V (A4 ?_)))));refine k1 ?_;refine ⟨i+1,by omega,by omega,?_⟩
  rw [hs]
  exact (I90 ⟨le1 rfl,le1 rfl,le1 rfl,le1 rfl,trivial⟩ ⟨rfl,trivial⟩)
 have hie2:i=B.length:=by have h1:=A1 ht;(try dsimp only at h1);omega
 rw [hie2]
 refine k6 (k2 (D8 (Sees.freezeG (k:=804) V V) ?_))
 refine A2 (A3 V V (A6 V V (A4 ?_)));refine k1 (k10 ?_)
 exact B6 (rs:=[C26 (S9 B B.length)]) (G7 rfl rfl rfl) rfl
end Go.Proofs.YtgppobpengmbkaaGreatDoor
namespace Go.Proofs.YtgppobpengmbkaaGreatDoor
open Go Go.AL
set_option maxRecDepth 100000
end Go.Proofs.YtgppobpengmbkaaGreatDoor
namespace Go.Proofs.YtgppobpengmbkaaGreatDoor
open Go Go.AL
set_option maxRecDepth 100000
set_option maxHeartbeats 1000000
end Go.Proofs.YtgppobpengmbkaaGreatDoor
namespace Go.Proofs.YtgppobpengmbkaaGreatDoor
open Go Go.AL
set_option maxRecDepth 100000
end Go.Proofs.YtgppobpengmbkaaGreatDoor
namespace Go.Proofs.YtgppobpengmbkaaGreatDoor
open Go Go.AL
set_option maxRecDepth 100000
end Go.Proofs.YtgppobpengmbkaaGreatDoor
namespace Go.Proofs.YtgppobpengmbkaaGreatDoor
open Go Go.AL
set_option maxRecDepth 100000
end Go.Proofs.YtgppobpengmbkaaGreatDoor
namespace Go.Proofs.YtgppobpengmbkaaGreatDoor
open Go Go.AL
set_option maxRecDepth 100000
end Go.Proofs.YtgppobpengmbkaaGreatDoor
namespace Go.Proofs.YtgppobpengmbkaaGreatDoor
open Go Go.AL
set_option maxRecDepth 100000
theorem check12_good {p:Patch} (h1:¬C54 p≠0):C91 p.Hunks=true:=by
 by_cases hg:C91 p.Hunks=true
 ·exact hg
 ·exfalso;apply h1;unfold C54;split
  ·decide
  ·rw [if_pos (by simpa using hg)];decide
end Go.Proofs.YtgppobpengmbkaaGreatDoor
namespace Go.Proofs.YtgppobpengmbkaaGreatDoor
open Go Go.AL
set_option maxRecDepth 100000
end Go.Proofs.YtgppobpengmbkaaGreatDoor
namespace Go.Proofs.YtgppobpengmbkaaGreatDoor
open Go Go.AL
set_option maxRecDepth 100000
end Go.Proofs.YtgppobpengmbkaaGreatDoor
namespace Go.Proofs.YtgppobpengmbkaaGreatDoor
open Go Go.AL
set_option maxRecDepth 100000
end Go.Proofs.YtgppobpengmbkaaGreatDoor
namespace Go.Proofs.YtgppobpengmbkaaGreatDoor
open Go Go.AL
set_option maxRecDepth 100000
theorem E07 (n:Int):FnOk Tryz.prog 107 [F2 n] (fun rs=>rs=[H5 (decide (N8 n))]):=by
 refine FnOk.intro Tryz.func107 (by decide) V V V V ?_
 refine k2 (A2 (A6 V V (A4 ?_)));refine k1 (k2 (A2 (A3 V V (A5 (W5 V V) V (A3 V V (B1 V V V V (fun hg=>by rw [hg];exact B7 V V) ?_))))));refine B1 V V V V (fun hg=>by rw [hg];exact B03 V V) ?_;refine I6 V V ?_;refine A6 V V (A4 ?_);refine k1 (k10 (B6 (G7 V V V) ?_))
 simp only [and_pick]
 rfl
theorem I22 {gf:Fr} {ob:Obs} (p:List Span):AL.Met Tryz.prog 141 [.one (.p (.list Span 2 spanC p))] gf ob [] (fun rs ob'=>rs=[.one (.full Span 2 spanC p)]∧ob'=ob):=by
 refine AL.Met.intro Tryz.func141 (by decide) V V V ?_
 refine k2 (A2 (A6 V V (A4 ?_)));refine k1 (k2 (A2 (A3 V V (A3 V V (E0 V V (A3 V V (E0 V V (A5 (G67 V (.pure _ _ _ _) V V (by omega) (by omega) (by first | rfl | omega)) V ?_))))))));refine A6 V V (A4 ?_)
 rw [show p.take (p.length:Int).toNat=p by simp]
 refine k1 (k10 ?_)
 exact G5 (K4 rfl rfl) (by repeat (first | exact B2 | refine B3 rfl ?_ | refine D1 _ ?_)) (fun _ _ h=>h) ⟨rfl,rfl⟩
def A27 (i j:Int):List Span→List Change
 | []=>[]
 | x::r=>(if x.From > i∨x.To > j then [⟨i,x.From - i,j,x.To - j⟩] else [])++A27 (x.From+1) (x.To+1) r
theorem D16 (m n:Int):∀(p:List Span) (i j:Int),A27 i j (p++[⟨m,n⟩])=B48 i j p m n
 | [],i,j=>by simp [A27,B48]
 | x::r,i,j=>by
  rw [J37,A27,B48,D16 m n r]
theorem E52 (p:List Span) (m n:Int) (hp:p.length≤536870912) (hm:-1099511627776≤m∧m≤1099511627776) (hn:-1099511627776≤n∧n≤1099511627776) (hb:∀s∈p,-1099511627776≤s.From∧s.From≤1099511627776 ∧ -1099511627776≤s.To∧s.To≤1099511627776) :
  FnOk Tryz.prog 108 [pSpans p,F2 m,F2 n] (fun rs=>rs=[pChanges (E16 p m n)]):=by
 refine FnOk.intro Tryz.func108 (by decide) V V V V ?_
 refine k2 (A2 (A6 V V (A4 ?_)));refine k1 (k2 (A2 (C9 (Q4 7 _ changeC V) V (A4 ?_))));refine k1 (k2 (A2 (A6 V V (A6 V V (A4 ?_)))));refine k1 (k2 (k2 (A2 (A3 V V (L1 (I22 p) V V V ?_)))));rintro _ _ ⟨rfl,rfl⟩;refine A3 V V (A3 V V (A5 (K1 V) V (A5 (C3 (c:=spanC) (ys:=[⟨m,n⟩]) (D4 V V V V F9) V V V) V (C9 (E39 18 V V (.pure _ _ _ _) (by simp;omega) (by simp) V) V (A5 (X7 V (.buf _ _ _ _ _)) V (A3 V V (A4 ?_)))))))
 obtain ⟨q,hq⟩:∃q,q=p++[(⟨m,n⟩:Span)]:=⟨_,rfl⟩
 have hql:q.length=p.length+1:=by rw [hq];simp
 have hqb:∀s∈q,-1099511627776≤s.From∧s.From≤1099511627776 ∧ -1099511627776≤s.To∧s.To≤1099511627776:=by
  intro s hs
  rw [hq] at hs
  rcases List.mem_append.1 hs with h | h
  ·exact hb s h
  ·simp at h;subst h;exact ⟨hm.1,hm.2,hn.1,hn.2⟩
 have hres:E16 p m n=A27 0 0 q:=by rw [hq,D16];rfl
 rw [←hq]
 refine k1 (k3 (C5 (X:=Nat × Int × Int × List Change) (fun x=>([(7,.s (.one (.buf 7 Change 4 changeC x.2.2.2))),(8,C0 x.2.1),(9,C0 x.2.2.1),(18,.s (.one (.buf 18 Span 2 spanC q))),(19,C0 q.length),(20,C0 x.1)],[(7,.spare x.2.2.2.length 4 95)])) (fun x=>x.1≤q.length∧x.2.2.2++A27 x.2.1 x.2.2.1 (q.drop x.1)=E16 p m n∧(-1099511627777≤x.2.1∧x.2.1≤1099511627777)∧(-1099511627777≤x.2.2.1∧x.2.2.1≤1099511627777)∧x.2.2.2.length≤x.1) (fun x=>q.length - x.1) (0,0,0,[]) ⟨Nat.zero_le _,hres.symm,by decide,by decide,Nat.le_refl _⟩ (I90 ⟨le1 rfl,le1 rfl,le1 rfl,le1 rfl,le1 rfl,le1 rfl,trivial⟩ ⟨rfl,trivial⟩) ?_))
 rintro ⟨k,i,j,out⟩ ⟨hk,he,hi,hj,hol⟩
 dsimp only at hk he hi hj hol ⊢
 refine k2 (A2 (E8 V V V (A4 ?_)));refine k1 (k2 ?_);refine B0 rfl (fun ht=>?_) (fun ht=>?_)
 ·have hlt:k < q.length:=by have:=A0 ht;omega
  have hv:q[k]?=some q[k]:=by simp [hlt]
  have hbk:=hqb _ (J18 hlt)
  obtain ⟨c,hc⟩:∃c,c=q[k]:=⟨_,rfl⟩
  rw [J24 hlt,A27] at he
  rw [←hc] at hv he hbk
  refine k5 (k1 (k2 (k3 (k2 (A2 (A5 (A9 V (.buf _ _ _ _ _) V (by omega) hv) V (A5 (D7 V V) V (C9 (J4 11 V) V (G8 (C1 TySz.out V V V V V V) (A4 ?_))))))))));refine R0 ?_
  obtain ⟨out',hout'⟩:∃out',out'=out++(if c.From > i∨c.To > j then [⟨i,c.From - i,j,c.To - j⟩] else []):=⟨_,rfl⟩
  have hol':out'.length≤k+1:=by rw [hout',J20];split<;>simp<;>omega
  rw [←J28,←hout'] at he
  refine D62 [(7,.s (.one (.buf 7 Change 4 changeC out'))),(8,C0 i),(9,C0 j),(11,.s (.one (.ref 11 0))),(18,.s (.one (.buf 18 Span 2 spanC q))),(19,C0 q.length),(20,C0 k)] [(7,.spare out'.length 4 95),(11,.box [.p (.v (.int .i64 c.From)),.p (.v (.int .i64 c.To))])] ?_ ?_
  ·refine k2 (A2 (A5 (A7 V) V (G4 V V V V (A3 V V (A5 (M5 V V) V (A3 V V (B1 V V V V (fun hg=>by rw [hg];exact A7 V) ?_)))))));refine B1 V V V V (fun hg=>by rw [hg];exact C4 V V V) ?_;refine B1 V V V V (fun hg=>by rw [hg];exact B7 V V) ?_;refine B1 V V V V (fun hg=>by rw [hg];exact M5 V V) ?_;refine I6 V V ?_;refine A4 ?_;refine k1 ?_;refine B0 rfl (fun ht=>?_) (fun ht=>?_)
   ·simp only [or_pick] at ht
    have h1:=A0 ht
    rw [if_pos h1] at hout'
    skip
    refine A2 (A3 V V (A3 V V (A5 (A7 V) V (G4 V V V V (A3 V V (A5 (K8 V V (by omega)) V (A3 V V (A5 (A7 V) V (G4 V V V V (A3 V V (A5 (K8 V V (by omega)) V (A5 (K1 V) V (A5 (C3 (c:=changeC) (ys:=[⟨i,c.From - i,j,c.To - j⟩]) (D4 V V V V F9) V V V) V (C9 (I9 V V V (.pure _ _ _ _) (by (simp only [J19,J22];omega)) V) V (A6 V V (A4 ?_))))))))))))))));refine k1 ?_
    rw [hout']
    exact I90 ⟨le1 rfl,le1 rfl,le1 rfl,le1 rfl,le1 rfl,le1 rfl,le1 rfl,trivial⟩ ⟨rfl,rfl,trivial⟩
   ·simp only [or_pick] at ht
    have h1:=A1 ht
    rw [if_neg h1,J47] at hout'
    refine k5 (k1 ?_)
    rw [hout']
    exact I90 ⟨le1 rfl,le1 rfl,le1 rfl,le1 rfl,le1 rfl,le1 rfl,le1 rfl,trivial⟩ ⟨rfl,rfl,trivial⟩
  ·skip
   refine E6 (by kernel_rfl) (by kernel_rfl) (B5 (A7 V) V V (B5 (C4 V V V) V V (B5 (Z9 V V (by omega)) V V (B5 (A7 V) V V (B5 (C4 V V V) V V (B5 (Z9 V V (by omega)) V V (B5 (I3 V V) V V (B5 (I3 V V) V V (P0 ?_)))))))));refine k4 (k1 (A2 (D2 V V V (A3 V V (A4 ?_)))));refine k1 ?_
   exact ⟨(k+1,c.From+1,c.To+1,out'),⟨by dsimp only;omega,he,⟨by dsimp only;omega,by dsimp only;omega⟩,⟨by dsimp only;omega,by dsimp only;omega⟩,by dsimp only;omega⟩,by dsimp only;omega,I90 ⟨le1 rfl,le1 rfl,le1 rfl,le1 rfl,le1 rfl,le1 rfl,trivial⟩ ⟨rfl,trivial⟩⟩
 ·have hk':k=q.length:=by have:=A1 ht;omega
  rw [hk',J31 (Nat.le_refl _),A27,J47] at he
  refine k6 (k2 (A2 (A3 V V (A6 V V (A4 ?_)))));refine k1 (k10 ?_)
  exact B6 (G7 rfl rfl rfl) (by rw [←he])
theorem G24 {m n:Int}:∀{p:List Span} {i j:Int},Asc m n i j p→∀k (h:k < p.length),(k=0→i≤p[k].From∧j≤p[k].To)∧(∀h0:0 < k,p[k - 1].From < p[k].From∧p[k - 1].To < p[k].To)∧p[k].From < m∧p[k].To < n
 | [],_,_,_,k,h=>by simp at h
 | x::r,i,j,ha,k,h=>by
  obtain ⟨h1,h2,h3⟩:=ha
  cases k with
  | zero=>have:=h3.le;exact ⟨fun _=>⟨h1,h2⟩,fun h0=>absurd h0 (by omega),by show x.From < m;omega,by show x.To < n;omega⟩
  | succ k =>
   obtain ⟨g1,g2,g3,g4⟩:=G24 h3 k (by simpa using h)
   refine ⟨fun h0=>absurd h0 (by omega),fun _=>?_,by simpa using g3,by simpa using g4⟩
   cases k with
   | zero =>
    obtain ⟨q1,q2⟩:=g1 rfl
    have hr:0 < r.length:=by simpa using h
    show x.From < r[0].From∧x.To < r[0].To
    omega
   | succ k=>simpa using g2 (by omega)
theorem E53 (p:List Span) (m n:Int) (hm:N8 m) (hn:N8 n) (ha:Asc m n 0 0 p) (hp:p.length≤536870912) :
  FnOk Tryz.prog 79 [pSpans p,F2 m,F2 n] (fun rs=>rs=[pChanges (E16 p m n),F2 0]):=by
 obtain ⟨hm1,hm2⟩:=hm
 obtain ⟨hn1,hn2⟩:=hn
 have hst:=G24 ha
 have hb:∀s∈p,0≤s.From∧s.From≤4096∧0≤s.To∧s.To≤4096:=by
  have key:∀(p:List Span) (i j:Int),Asc m n i j p→0≤i→0≤j→∀s∈p,0≤s.From∧s.From≤4096∧0≤s.To∧s.To≤4096:=by
   intro p
   induction p with
   | nil=>intro _ _ _ _ _ s hs;simp at hs
   | cons x r ih =>
    rintro i j ⟨h1,h2,h3⟩ h4 h5 s hs
    have:=h3.le
    rcases List.mem_cons.1 hs with rfl | hs
    ·omega
    ·exact ih _ _ h3 (by omega) (by omega) s hs
  exact key p 0 0 ha (by omega) (by omega)
 refine FnOk.intro Tryz.func79 (by decide) V V V V ?_
 refine k2 (A2 (A6 V V (A6 V V (A4 ?_))));refine k1 (k2 (k2 (A2 (A3 V V (D3 (E07 m) V V V ?_)))));rintro _ rfl;refine A5 (U2 V) V (A3 V V (B1 V V V V (fun hg=>by rw [hg];exact B7 V V) ?_));refine B1 V V V V (fun hg=>by have hq:=hg;(try simp at hq);rw [hg];exact N4 (E07 n) V V) ?_;refine B1 V V V V (fun hg=>by rw [hg];exact U2 V) ?_;refine I6 V V ?_;refine A4 ?_;refine k1 ?_;refine B0 rfl (fun ht=>?_) (fun ht=>?_)
 ·exfalso
  simp only [←decide_not,or_pick] at ht
  have h:¬N8 m∨¬N8 n:=A0 ht
  rcases h with h | h
  ·exact h ⟨hm1,hm2⟩
  ·exact h ⟨hn1,hn2⟩
 refine A05 [(0,C6 Span 2 spanC p),(1,C0 m),(2,C0 n)] [] (I90 ⟨le1 rfl,le1 rfl,le1 rfl,trivial⟩ trivial) ?_
 refine k5 (k1 (k2 (A2 (A5 (K1 V) V (C9 (J4 8 V) V (G8 (C1 TySz.out V V V V V V) (A4 ?_)))))));refine k1 (k2 (k2 (A2 (A3 V V (E0 V V (A3 V V (A4 ?_)))))));refine k1 (k3 ?_)
 obtain ⟨lastOf,hlast⟩:∃lastOf:Nat→Span,lastOf=fun k=>if k=0 then ⟨-1,-1⟩ else p.getD (k - 1) ⟨0,0⟩:=⟨_,rfl⟩
 refine C5 (X:=Nat) (fun k=>([(0,C6 Span 2 spanC p),(1,C0 m),(2,C0 n),(8,.s (.one (.ref 8 0))),(20,C6 Span 2 spanC p),(21,C0 p.length),(22,C0 k)],[(8,.box [.p (.v (.int .i64 (lastOf k).From)),.p (.v (.int .i64 (lastOf k).To))])])) (fun k=>k≤p.length) (fun k=>p.length - k) 0 (Nat.zero_le _) ?_ ?_
 ·rw [show lastOf 0=⟨-1,-1⟩ by rw [hlast];rfl]
  exact I90 ⟨le1 rfl,le1 rfl,le1 rfl,le1 rfl,le1 rfl,le1 rfl,le1 rfl,trivial⟩ ⟨rfl,trivial⟩
 intro k hk
 dsimp only at hk ⊢
 refine k2 (A2 (E8 V V V (A4 ?_)));refine k1 (k2 ?_);refine B0 rfl (fun ht=>?_) (fun ht=>?_)
 ·have hlt:k < p.length:=by have:=A0 ht;omega
  have hv:p[k]?=some p[k]:=by simp [hlt]
  obtain ⟨g1,g2,g3,g4⟩:=hst k hlt
  have hnext:lastOf (k+1)=p[k]:=by rw [hlast];simp [hlt]
  have hless:(lastOf k).From < p[k].From∧(lastOf k).To < p[k].To:=by
   rw [hlast]
   by_cases h0:k=0
   ·have:=g1 h0
    simp only [h0,if_true] at this ⊢
    omega
   ·have:=g2 (by omega)
    simp only [h0,if_false]
    have e:p.getD (k - 1) ⟨0,0⟩=p[k - 1]:=by simp [show k - 1 < p.length by omega]
    rw [e];exact this
  obtain ⟨c,hc⟩:∃c,c=p[k]:=⟨_,rfl⟩
  rw [←hc] at hv g3 g4 hnext hless
  obtain ⟨la,hla⟩:∃la,la=lastOf k:=⟨_,rfl⟩
  rw [←hla] at hless ⊢
  refine k5 (k1 (k2 (k3 (k2 (A2 (A5 (A9 V (.pure _ _ _ _) V (by omega) hv) V (A5 (D7 V V) V (C9 (J4 10 V) V (G8 (C1 TySz.out V V V V V V) (A4 ?_))))))))));refine k1 (k2 (k2 (A2 (A5 (A7 V) V (G4 V V V V (A5 (A7 V) V (G4 V V V V (A5 (B03 V V) V (A3 V V (B1 V V V V (fun hg=>by rw [hg];exact A7 V) ?_))))))))));refine B1 V V V V (fun hg=>by rw [hg];exact C4 V V V) ?_;refine B1 V V V V (fun hg=>by rw [hg];exact B7 V V) ?_;refine B1 V V V V (fun hg=>by rw [hg];exact W5 V V) ?_;refine I6 V V ?_;refine A3 V V (B1 V V V V (fun hg=>by rw [hg];exact A7 V) ?_);refine B1 V V V V (fun hg=>by rw [hg];exact C4 V V V) ?_;refine B1 V V V V (fun hg=>by rw [hg];exact A7 V) ?_;refine B1 V V V V (fun hg=>by rw [hg];exact C4 V V V) ?_;refine B1 V V V V (fun hg=>by rw [hg];exact B03 V V) ?_;refine I6 V V ?_;refine A3 V V (B1 V V V V (fun hg=>by rw [hg];exact A7 V) ?_);refine B1 V V V V (fun hg=>by rw [hg];exact C4 V V V) ?_;refine B1 V V V V (fun hg=>by rw [hg];exact B7 V V) ?_;refine B1 V V V V (fun hg=>by rw [hg];exact W5 V V) ?_;refine I6 V V ?_;refine A4 ?_;refine k1 ?_;refine B0 rfl (fun ht=>?_) (fun ht=>?_)
  ·exfalso
   simp only [or_pick] at ht
   have:=A0 ht
   omega
  ·refine k5 (k1 (A2 (A5 (P3 V V V) V (G8 (C1 TySz.out V V V V V V) (A4 ?_)))));refine k4 (k1 (A2 (D2 V V V (A3 V V (A4 ?_)))));refine k1 ?_;refine ⟨k+1,by omega,by omega,?_⟩
   rw [hnext]
   exact I90 ⟨le1 rfl,le1 rfl,le1 rfl,le1 rfl,le1 rfl,le1 rfl,le1 rfl,trivial⟩ ⟨rfl,trivial⟩
 ·refine k6 (k2 (A2 (A3 V V (A3 V V (A3 V V (D3 (E52 p m n hp (by omega) (by omega) (fun s hs=>by have:=hb s hs;omega)) V V V ?_))))));rintro _ rfl;refine A6 V V (A6 V V (A4 ?_));refine k1 (k10 ?_)
  exact B6 (X8 rfl rfl rfl rfl rfl) rfl
theorem C44 {l:List Int} {i:Nat} (h:i < l.length):l[i]?=some (l.getD i 0):=by simp [h]
theorem G25 (a b:List Int):FnOk Tryz.prog 78 [I5 a,I5 b] (fun rs=>rs=[H5 (decide ((a.length:Int)≤4096∧(b.length:Int)≤4096))]):=by
 refine FnOk.intro Tryz.func78 (by decide) V V V V ?_
 refine k2 (A2 (A6 V V (A4 ?_)));refine k1 (k2 (A2 (A3 V V (E0 V V (A5 (B03 V V) V (A3 V V (B1 V V V V (fun hg=>by rw [hg];exact B7 V V) ?_)))))));refine B1 V V V V (fun hg=>by rw [hg];exact X7 V (.pure _ _ _ _)) ?_;refine B1 V V V V (fun hg=>by rw [hg];exact B03 V V) ?_;refine I6 V V ?_;refine A6 V V (A4 ?_);refine k1 (k10 ?_)
 exact B6 (G7 rfl rfl rfl) (by simp only [and_pick])
theorem E54 (a b:List Int) (ha:a.length≤1073741824):FnOk Tryz.prog 109 [I5 a,I5 b] (fun rs=>rs=[F2 (V4 a b)]):=by
 refine FnOk.intro Tryz.func109 (by decide) V V V V ?_
 refine k2 (A2 (A6 V V (A4 ?_)));refine k1 (k2 (A2 (A6 V V (A4 ?_))));refine k1 (k2 (k3 (C5 (X:=Nat) (fun k=>([(0,C6 Int 1 E3 a),(1,C6 Int 1 E3 b),(5,C0 k)],[])) (fun k=>k≤a.length∧k≤b.length∧V4 a b=k+V4 (a.drop k) (b.drop k)) (fun k=>a.length - k) 0 ⟨Nat.zero_le _,Nat.zero_le _,by simp⟩ (I90 ⟨le1 rfl,le1 rfl,le1 rfl,trivial⟩ trivial) ?_)))
 rintro k ⟨hk,hk2,he⟩
 dsimp only at hk hk2 he ⊢
 refine k2 (k2 (E6 (by kernel_rfl) (by kernel_rfl) (E5 V V (E5 V V (B5 (X7 V (.pure _ _ _ _)) V V (B5 (A60 V V) V V (E5 V V (E7 V V (fun hg=>by rw [hg];exact B7 V V) V V ?_))))))));refine E7 V V (fun hg=>by rw [hg];exact B7 V V) V V ?_;refine E7 V V (fun hg=>by rw [hg];exact X7 V (.pure _ _ _ _)) V V ?_;refine E7 V V (fun hg=>by rw [hg];exact A60 V V) V V ?_;refine B5 (K7 V (fun h=>by first | rfl | (rw [h];rfl)) (fun h=>by first | rfl | (rw [h];rfl))) V V ?_;refine E5 V V (E7 V V (fun hg=>by rw [hg];exact B7 V V) V V ?_);refine E7 V V (fun hg=>by rw [hg];exact B7 V V) V V ?_;refine E7 V V (fun hg=>by have hq:=hg;(try simp at hq);rw [hg];exact A9 V (.pure _ _ _ _) V (by omega) (C44 (by omega))) V V ?_;refine E7 V V (fun hg=>by rw [hg];exact A8 V V) V V ?_;refine E7 V V (fun hg=>by rw [hg];exact B7 V V) V V ?_;refine E7 V V (fun hg=>by rw [hg];exact B7 V V) V V ?_;refine E7 V V (fun hg=>by have hq:=hg;(try simp at hq);rw [hg];exact A9 V (.pure _ _ _ _) V (by omega) (C44 (by omega))) V V ?_;refine E7 V V (fun hg=>by rw [hg];exact A8 V V) V V ?_;refine E7 V V (fun hg=>by rw [hg];exact F7 V V) V V ?_;refine B5 (K7 V (fun h=>by first | rfl | (rw [h];rfl)) (fun h=>by first | rfl | (rw [h];rfl))) V V ?_;refine P0 ?_;refine k1 ?_;refine B0 rfl (fun ht=>?_) (fun ht=>?_)
 ·simp only [and_pick] at ht
  obtain ⟨⟨h1,h2⟩,h3⟩:=A0 ht
  have h1:k < a.length:=by omega
  have h2:k < b.length:=by omega
  rw [E24 a b k h1 h2,if_pos (by simpa [h1,h2] using h3)] at he
  refine k5 (k1 (k3 (A2 (A3 V V (D2 V V V (A6 V V (A4 ?_)))))));refine k4 (k1 ?_)
  exact ⟨k+1,⟨by omega,by omega,by omega⟩,by omega,I90 ⟨le1 rfl,le1 rfl,le1 rfl,trivial⟩ trivial⟩
 ·simp only [and_pick] at ht
  have h:=A1 ht
  have h0:V4 (a.drop k) (b.drop k)=0:=by
   by_cases hc:k < a.length∧k < b.length
   ·obtain ⟨h1,h2⟩:=hc
    rw [E24 a b k h1 h2,if_neg]
    intro h3
    exact h ⟨⟨by omega,by omega⟩,by simpa [h1,h2] using h3⟩
   ·exact I37 a b k hc
  rw [h0] at he
  refine k6 (k2 (A2 (A3 V V (A6 V V (A4 ?_)))));refine k1 (k10 ?_)
  exact B6 (G7 rfl rfl rfl) (by rw [he];rfl)
theorem E55 (a b:List Int) (ha:a.length≤4096) (hb:b.length≤4096):FnOk Tryz.prog 110 [I5 a,I5 b] (fun rs=>rs=[pU16s (flat a b (fun _ _=>true))]):=by
 obtain ⟨W,hW⟩:∃W,W=b.length+1:=⟨_,rfl⟩
 have hmul:∀i:Nat,i≤a.length+1→0≤(i:Int)*(W:Int)∧(i:Int)*(W:Int)≤16789506:=by
  intro i hi
  have h1:i*W≤4098*4097:=Nat.mul_le_mul (by omega) (by omega)
  have h2:((i*W:Nat):Int)=(i:Int)*W:=by push_cast;rfl
  omega
 have hcast:∀i:Nat,(i:Int)*(W:Int)=((i*W:Nat):Int):=fun i=>by push_cast;rfl
 have hlen:∀done,(flat a b done).length=(a.length+1)*W:=fun done=>by rw [D27,hW]
 have hdl:∀i j,dist (a.drop i) (b.drop j)≤8192:=fun i j=>by
  have:=F50 (a.drop i) (b.drop j)
  simp only [J29] at this
  omega
 have hin:∀i j:Nat,i≤a.length→j≤b.length→i*W+j < (a.length+1)*W:=fun i j hi hj=>by rw [hW];exact (D49 hi hj).1
 refine FnOk.intro Tryz.func110 (by decide) V V V V ?_
 refine k2 (A2 (A6 V V (A4 ?_)));refine k1 (k2 (A2 (A3 V V (E0 V V (D2 V V V (A6 V V (A4 ?_)))))));refine R0 ?_
 refine A05 [(0,C6 Int 1 E3 a),(1,C6 Int 1 E3 b),(5,C0 W)] [] (I90 ⟨⟨_,rfl,.same _⟩,⟨_,rfl,.same _⟩,⟨_,rfl,.eq (by rw [hW];simp)⟩,trivial⟩ trivial) ?_
 have hm1:=hmul (a.length+1) (Nat.le_refl _)
 have e1:((a.length:Int)+1)=((a.length+1:Nat):Int):=by omega
 refine k2 (A2 (A3 V V (E0 V V (D2 V V V (A3 V V (A5 (A58 V V (by (rw [e1];omega))) V ?_))))));refine C9 (c8 20 Int C18 0 V V (by (rw [e1];omega)) (by (rw [e1];omega)) (fun _=>by first | exact ⟨⟨rfl,rfl⟩,trivial⟩ | exact ⟨G9 _ _ _,trivial⟩ | exact ⟨G9 _ _ _,⟨rfl,rfl⟩,G9 _ _ _,trivial⟩) V) V ?_;refine A6 V V (A4 ?_);refine R0 ?_
 refine A05 [(0,C6 Int 1 E3 a),(1,C6 Int 1 E3 b),(5,C0 W),(6,.s (.one (.mut 20)))] [(20,.arr Int 1 C18 (flat a b (fun _ _=>false)))] ?_ ?_
 ·refine I90 ⟨⟨_,rfl,.same _⟩,⟨_,rfl,.same _⟩,⟨_,rfl,.same _⟩,⟨_,rfl,.same _⟩,trivial⟩ ⟨?_,trivial⟩
  rw [←I36,e1,hcast,J17,hW];rfl
 refine k2 (k2 (A2 (A3 V V (E0 V V (A3 V V (A4 ?_))))));refine k1 (k3 ?_);refine C5 (X:=Nat) (fun j=>([(0,C6 Int 1 E3 a),(1,C6 Int 1 E3 b),(5,C0 W),(6,.s (.one (.mut 20))),(22,C0 b.length),(23,C0 j)],[(20,.arr Int 1 C18 (flat a b (fun r q=>decide (r=a.length∧q < j))))])) (fun j=>j≤b.length) (fun j=>b.length - j) 0 (Nat.zero_le _) ?_ ?_
 ·rw [show flat a b (fun r q=>decide (r=a.length∧q < 0))=flat a b (fun _ _=>false) from B00 fun r q _ _=>.inl (by simp)]
  exact I90 ⟨le1 rfl,le1 rfl,le1 rfl,le1 rfl,le1 rfl,le1 rfl,trivial⟩ ⟨rfl,trivial⟩
 intro j hj
 dsimp only at hj ⊢
 refine k2 (A2 (E8 V V V (A4 ?_)));refine k1 (k2 ?_);refine B0 rfl (fun ht=>?_) (fun ht=>?_)
 ·have hlt:j < b.length:=by have:=A0 ht;omega
  have hmm:=hmul a.length (by omega)
  have hix:=hin a.length j (Nat.le_refl _) (by omega)
  have hc1:=hcast a.length
  have hL:=hlen (fun r q=>decide (r=a.length∧q < j))
  have hst:(flat a b (fun r q=>decide (r=a.length∧q < j))).set (((a.length:Int)*(W:Int)+(j:Int)).toNat) (IntKind.u16.wrap ((b.length:Int) - j))=flat a b (fun r q=>decide (r=a.length∧q < j+1)):=by
   rw [show ((a.length:Int)*(W:Int)+(j:Int)).toNat=a.length*(b.length+1)+j by rw [hc1,hW];omega,H31 _ (by omega)]
   refine G41 (Nat.le_refl _) (by omega) ?_ (by simp) (fun r q hr hq hne=>?_)
   ·rw [J31 (Nat.le_refl a.length),dist,J29];omega
   ·rw [decide_eq_decide];omega
  refine k5 (k1 (k2 (k3 (k2 (A2 (A3 V V (A6 V V (A4 ?_))))))));refine k1 (A2 (A3 V V (A3 V V (E0 V V (A3 V V (A5 (A58 V V (by omega)) V (A3 V V (D2 V V V (A3 V V (E0 V V (A3 V V (A5 (K8 V V (by omega)) V (A5 (X0 V) V (A5 (F1 V V V (by omega) (by (rw [hL];omega))) V ?_))))))))))))));refine G8 (I1 TySz.out V V (by (rw [hL];omega)) V V) ?_;refine A4 ?_;refine k4 (k1 (A2 (D2 V V V (A3 V V (A4 ?_)))));refine k1 ?_;refine ⟨j+1,by omega,by omega,?_⟩
  rw [←hst]
  exact I90 ⟨le1 rfl,le1 rfl,le1 rfl,le1 rfl,le1 rfl,le1 rfl,trivial⟩ ⟨rfl,trivial⟩
 ·have hj':j=b.length:=by have:=A1 ht;omega
  subst hj'
  rw [show flat a b (fun r q=>decide (r=a.length∧q < b.length))=flat a b (fun r _=>decide (a.length≤r)) from B00 fun r q hr hq=>by
   by_cases h:r=a.length∧q=b.length
   ·right;rw [h.1,h.2,J31 (Nat.le_refl _),J31 (Nat.le_refl _)];exact C50 []
   ·left;rw [decide_eq_decide];omega]
  refine k6 (k2 (k2 (A2 (A3 V V (E0 V V (A5 (K8 V V (by omega)) V (A6 V V (A4 ?_))))))));refine k1 (k3 (C5 (X:=Nat) (fun i=>([(0,C6 Int 1 E3 a),(1,C6 Int 1 E3 b),(5,C0 W),(6,.s (.one (.mut 20))),(8,C0 ((i:Int) - 1))],[(20,.arr Int 1 C18 (flat a b (fun r _=>decide (i≤r))))])) (fun i=>i≤a.length) (fun i=>i) a.length (Nat.le_refl _) (I90 ⟨le1 rfl,le1 rfl,le1 rfl,le1 rfl,le1 rfl,trivial⟩ ⟨rfl,trivial⟩) ?_))
  intro i hi
  dsimp only at hi ⊢
  refine k2 (k2 (A2 (A3 V V (A5 (W5 V V) V (A4 ?_)))));refine k1 ?_;refine B0 rfl (fun ht=>?_) (fun ht=>?_)
  ·obtain ⟨i,rfl⟩:∃r,i=r+1:=⟨i - 1,by have:=A0 ht;omega⟩
   refine A05 [(0,C6 Int 1 E3 a),(1,C6 Int 1 E3 b),(5,C0 W),(6,.s (.one (.mut 20))),(8,C0 i)] [(20,.arr Int 1 C18 (flat a b (fun r _=>decide (i+1≤r))))] (I90 ⟨le1 rfl,le1 rfl,le1 rfl,le1 rfl,leE V (by first | (simp;done) | (simp;omega)),trivial⟩ ⟨rfl,trivial⟩) ?_
   obtain ⟨P,hP⟩:∃P,P=i*W:=⟨_,rfl⟩
   obtain ⟨N,hN⟩:∃N,N=(a.length+1)*W:=⟨_,rfl⟩
   have c0:(i:Int)*(W:Int)=(P:Int):=by rw [hP];exact hcast i
   have c1:((i:Int)+1)*(W:Int)=(P:Int)+W:=by rw [Int.add_mul,Int.one_mul,c0]
   have c2:((i:Int)+2)*(W:Int)=(P:Int)+W+W:=by rw [Int.add_mul,c0];omega
   have hPN:P+W+W≤N:=by
    have h1:(i+2)*W≤(a.length+1)*W:=J26 _ (by omega)
    have h2:(i+2)*W=i*W+W+W:=by rw [J36];omega
    omega
   have hN2:N≤16789506:=by have:=hmul (a.length+1) (Nat.le_refl _);have:=hcast (a.length+1);omega
   have hL:∀done,(flat a b done).length=N:=fun done=>by rw [hlen,hN]
   refine k5 (k1 (k2 (k3 (k2 (E6 (by kernel_rfl) (by kernel_rfl) (E5 V V (E5 V V (E5 V V (B5 (A58 V V (by (rw [c0];omega))) V V ?_)))))))));refine E5 V V (B5 (Z9 V V (by omega)) V V (E5 V V (B5 (A58 V V (by (rw [c1];omega))) V V ?_)));refine B5 (B22 V V V V (by (first | (rw [c0];omega) | (rw [c0,c1];omega) | (rw [c1,hL];omega))) (by (first | (rw [c0];omega) | (rw [c0,c1];omega) | (rw [c1,hL];omega))) (by (first | (rw [c0];omega) | (rw [c0,c1];omega) | (rw [c1,hL];omega)))) V V ?_;refine E5 V V (E5 V V (B5 (Z9 V V (by omega)) V V (E5 V V (B5 (A58 V V (by (rw [c1];omega))) V V ?_))));refine E5 V V (B5 (Z9 V V (by omega)) V V (E5 V V (B5 (A58 V V (by (rw [c2];omega))) V V ?_)));refine B5 (B22 V V V V (by (first | (rw [c1];omega) | (rw [c1,c2];omega) | (rw [c2,hL];omega))) (by (first | (rw [c1];omega) | (rw [c1,c2];omega) | (rw [c2,hL];omega))) (by (first | (rw [c1];omega) | (rw [c1,c2];omega) | (rw [c2,hL];omega)))) V V ?_;refine B5 (I3 V V) V V (B5 (I3 V V) V V (P0 ?_));refine R0 ?_
   have hdone:∀j,j≤b.length→(flat a b (fun r q=>decide (i+1≤r∨(r=i∧j≤q))))[P+j]?=some (dist (a.drop i) (b.drop j):Int):=fun j hj=>by
    rw [hP,hW,E23 (by omega) hj,if_pos (by simp)]
   have hbelow:∀j j',j≤b.length→(flat a b (fun r q=>decide (i+1≤r∨(r=i∧j'≤q))))[P+W+j]?=some (dist (a.drop (i+1)) (b.drop j):Int):=fun j j' hj=>by
    rw [show P+W+j=(i+1)*(b.length+1)+j by rw [hP,hW,J36];omega,E23 (by omega) hj,if_pos (by simp)]
   refine A05 [(0,C6 Int 1 E3 a),(1,C6 Int 1 E3 b),(5,C0 W),(6,.s (.one (.mut 20))),(8,C0 i),(9,.s (.one (.msl 20 1 P W))),(10,.s (.one (.msl 20 1 (P+W) W)))] [(20,.arr Int 1 C18 (flat a b (fun r _=>decide (i+1≤r))))] ?_ ?_
   ·refine I90 ⟨⟨_,rfl,.same _⟩,⟨_,rfl,.same _⟩,⟨_,rfl,.same _⟩,⟨_,rfl,.same _⟩,⟨_,rfl,.same _⟩,⟨_,rfl,.eq ?_⟩,⟨_,rfl,.eq ?_⟩,trivial⟩ ⟨rfl,trivial⟩
    ·rw [c0,c1];congr 3<;>omega
    ·rw [c1,c2];congr 3<;>omega
   have hset:∀(done done':Nat→Nat→Bool) (j:Nat) (v:Int),j≤b.length→v=(dist (a.drop i) (b.drop j):Int)→done' i j=true→(∀r q,r≤a.length→q≤b.length→¬(r=i∧q=j)→done' r q=done r q)→(flat a b done).set (P+j) v=flat a b done':=by
    intro done done' j v hj hv h1 h2
    rw [hP,hW];exact G41 (by omega) hj hv h1 h2
   have hs0:(flat a b (fun r _=>decide (i+1≤r))).set (P+((b.length:Nat):Int).toNat) (IntKind.u16.wrap ((a.length:Int) - i))=flat a b (fun r q=>decide (i+1≤r∨(r=i∧b.length≤q))):=by
    rw [J17,H31 _ (by omega)]
    refine hset _ _ _ _ (Nat.le_refl _) ?_ (by simp) (fun r q hr hq hne=>?_)
    ·rw [J31 (Nat.le_refl b.length),C50,J29];omega
    ·rw [decide_eq_decide];omega
   refine k2 (A2 (A3 V V (A3 V V (E0 V V (A3 V V (E0 V V (A3 V V (A5 (K8 V V (by omega)) V (A5 (X0 V) V (A5 (S4 V V (by omega) (by omega)) V (G8 (I1 TySz.out V V (by (rw [hL];omega)) V V) ?_)))))))))));refine A4 ?_
   rw [hs0]
   refine k1 (k2 (A2 (A3 V V (E0 V V (A5 (K8 V V (by omega)) V (A6 V V (A4 ?_)))))));refine k1 (k3 (C5 (X:=Nat) (fun j=>([(0,C6 Int 1 E3 a),(1,C6 Int 1 E3 b),(5,C0 W),(6,.s (.one (.mut 20))),(8,C0 i),(9,.s (.one (.msl 20 1 P W))),(10,.s (.one (.msl 20 1 (P+W) W))),(11,C0 ((j:Int) - 1))],[(20,.arr Int 1 C18 (flat a b (fun r q=>decide (i+1≤r∨(r=i∧j≤q)))))])) (fun j=>j≤b.length) (fun j=>j) b.length (Nat.le_refl _) (I90 ⟨le1 rfl,le1 rfl,le1 rfl,le1 rfl,le1 rfl,le1 rfl,le1 rfl,le1 rfl,trivial⟩ ⟨rfl,trivial⟩) ?_))
   intro j hj
   dsimp only at hj ⊢
   refine k2 (k2 (A2 (A3 V V (A5 (W5 V V) V (A4 ?_)))));refine k1 ?_;refine B0 rfl (fun ht=>?_) (fun ht=>?_)
   ·obtain ⟨j,rfl⟩:∃r,j=r+1:=⟨j - 1,by have:=A0 ht;omega⟩
    have hva:a[i]?=some a[i]:=by simp [show i < a.length by omega]
    have hvb:b[j]?=some b[j]:=by simp [show j < b.length by omega]
    have hdd:=I34 a b i j (by omega) (by omega)
    have hd1:=hdl i j
    have hd2:=hdl (i+1) j
    have hd3:=hdl i (j+1)
    have hd4:=hdl (i+1) (j+1)
    obtain ⟨u,hu⟩:∃u,u=a[i]:=⟨_,rfl⟩
    obtain ⟨v,hv⟩:∃v,v=b[j]:=⟨_,rfl⟩
    rw [←hu] at hva hdd
    rw [←hv] at hvb hdd
    have hst:(flat a b (fun r q=>decide (i+1≤r∨(r=i∧j+1≤q)))).set (P+j) (dist (a.drop i) (b.drop j):Int)=flat a b (fun r q=>decide (i+1≤r∨(r=i∧j≤q))):=hset _ _ _ _ (by omega) rfl (by simp) (fun r q hr hq hne=>by rw [decide_eq_decide];omega)
    refine A05 [(0,C6 Int 1 E3 a),(1,C6 Int 1 E3 b),(5,C0 W),(6,.s (.one (.mut 20))),(8,C0 i),(9,.s (.one (.msl 20 1 P W))),(10,.s (.one (.msl 20 1 (P+W) W))),(11,C0 j)] [(20,.arr Int 1 C18 (flat a b (fun r q=>decide (i+1≤r∨(r=i∧j+1≤q)))))] (I90 ⟨le1 rfl,le1 rfl,le1 rfl,le1 rfl,le1 rfl,le1 rfl,le1 rfl,leE V (by first | (simp;done) | (simp;omega)),trivial⟩ ⟨rfl,trivial⟩) ?_
    refine c_skip ?_
    refine R0 ?_
    refine D62 [(0,C6 Int 1 E3 a),(1,C6 Int 1 E3 b),(5,C0 W),(6,.s (.one (.mut 20))),(8,C0 i),(9,.s (.one (.msl 20 1 P W))),(10,.s (.one (.msl 20 1 (P+W) W))),(11,C0 j)] [(20,.arr Int 1 C18 (flat a b (fun r q=>decide (i+1≤r∨(r=i∧j≤q)))))] ?_ ?_
    ·refine k3 (k2 (E6 (by kernel_rfl) (by kernel_rfl) (E5 V V (E5 V V (B5 (A9 V (.pure _ _ _ _) V (by omega) hva) V V (B5 (A8 V V) V V (E5 V V (E5 V V (B5 (A9 V (.pure _ _ _ _) V (by omega) hvb) V V (B5 (A8 V V) V V (B5 (F7 V V) V V (P0 ?_))))))))))));refine k1 ?_;refine B0 rfl (fun ht=>?_) (fun ht=>?_)
     ·rw [if_pos (A0 ht)] at hdd
      rw [hdd] at hst
      have hg:=hbelow (j+1) (j+1) (by omega)
      have hgi:(flat a b (fun r q=>decide (i+1≤r∨(r=i∧j+1≤q))))[P+W+((j:Int)+1).toNat]?=some (dist (a.drop (i+1)) (b.drop (j+1)):Int):=by rw [show ((j:Int)+1).toNat=j+1 by omega];exact hg
      skip
      refine A2 (A3 V V (A3 V V (A3 V V (A3 V V (D2 V V V (A5 (S4 V V (by omega) (by omega)) V (A5 (M1 V V hgi V) V (A5 (S4 V V (by omega) (by omega)) V (G8 (I1 TySz.out V V (by (rw [hL];omega)) V V) ?_)))))))));refine A4 ?_;refine k4 (k1 ?_)
      rw [show P+((j:Nat):Int).toNat=P+j by omega,hst]
      exact I90 ⟨le1 rfl,le1 rfl,le1 rfl,le1 rfl,le1 rfl,le1 rfl,le1 rfl,le1 rfl,trivial⟩ ⟨rfl,trivial⟩
     ·rw [if_neg (A1 ht)] at hdd
      have hg1:=hbelow j (j+1) (by omega)
      have hg2:=hdone (j+1) (by omega)
      have hgi1:(flat a b (fun r q=>decide (i+1≤r∨(r=i∧j+1≤q))))[P+W+((j:Nat):Int).toNat]?=some (dist (a.drop (i+1)) (b.drop j):Int):=by rw [J17];exact hg1
      have hgi2:(flat a b (fun r q=>decide (i+1≤r∨(r=i∧j+1≤q))))[P+((j:Int)+1).toNat]?=some (dist (a.drop i) (b.drop (j+1)):Int):=by rw [show ((j:Int)+1).toNat=j+1 by omega];exact hg2
      have hval:IntKind.u16.wrap ((if (dist (a.drop i) (b.drop (j+1)):Int) < (dist (a.drop (i+1)) (b.drop j):Int) then (dist (a.drop i) (b.drop (j+1)):Int) else (dist (a.drop (i+1)) (b.drop j):Int))+1)=(dist (a.drop i) (b.drop j):Int):=by
       rw [H31 _ (by split<;>omega),hdd];split<;>omega
      skip
      refine E6 (by kernel_rfl) (by kernel_rfl) (E5 V V (E5 V V (E5 V V (E5 V V (B5 (S4 V V (by omega) (by omega)) V V (B5 (M1 V V hgi1 V) V V (E5 V V (E5 V V (B5 (Z9 V V (by omega)) V V (B5 (S4 V V (by omega) (by omega)) V V (B5 (M1 V V hgi2 V) V V (B5 (H43 V V) V V (B5 (H41 V V) V V (B5 (S4 V V (by omega) (by omega)) V V (d_eff (I1 TySz.out V V (by (rw [hL];omega)) V V) V ?_)))))))))))))));refine P0 ?_;refine k4 (k1 ?_)
      rw [hval,show P+((j:Nat):Int).toNat=P+j by omega,hst]
      exact I90 ⟨le1 rfl,le1 rfl,le1 rfl,le1 rfl,le1 rfl,le1 rfl,le1 rfl,le1 rfl,trivial⟩ ⟨rfl,trivial⟩
    ·skip
     refine A2 (A3 V V (A5 (K8 V V (by omega)) V (A6 V V (A4 ?_))));refine k1 ?_
     exact ⟨j,by omega,by omega,I90 ⟨le1 rfl,le1 rfl,le1 rfl,le1 rfl,le1 rfl,le1 rfl,le1 rfl,le1 rfl,trivial⟩ ⟨rfl,trivial⟩⟩
   ·obtain rfl:j=0:=by have:=A1 ht;omega
    rw [show flat a b (fun r q=>decide (i+1≤r∨(r=i∧0≤q)))=flat a b (fun r _=>decide (i≤r)) from B00 fun r q _ _=>.inl (by rw [decide_eq_decide];omega)]
    refine k6 (k7 (k7 (k8 V (k4 (k1 (A2 (A3 V V (A5 (K8 V V (by omega)) V (A6 V V (A4 ?_))))))))));refine k1 ?_
    exact ⟨i,by omega,by omega,I90 ⟨le1 rfl,le1 rfl,le1 rfl,le1 rfl,le1 rfl,trivial⟩ ⟨rfl,trivial⟩⟩
  ·obtain rfl:i=0:=by have:=A1 ht;omega
   rw [show flat a b (fun r _=>decide (0≤r))=flat a b (fun _ _=>true) from B00 fun r q _ _=>.inl (by simp)]
   refine D8 (Sees.freeze (k:=20) V) ?_
   refine k6 (k2 (A2 (A3 V V (A6 V V (A4 ?_)))));refine k1 (k10 ?_)
   exact B6 (G7 rfl rfl rfl) rfl
theorem i64_id {n:Int} (h:-9223372036854775808≤n∧n≤9223372036854775807):IntKind.i64.wrap n=n:=IntWalk.i64_in _ h
theorem H57 {gf:Fr} {ob:Obs} (a b:List Int) (i j:Nat) (ha:a.length≤4096) (hb:b.length≤4096) (hi:i≤a.length) (hj:j≤b.length) (h8:B9 ob 8=some (.box [.p (.list Int 1 C18 (flat a b (fun _ _=>true)))])) (h3:B9 ob 3=some (.box [.p (.list Int 1 E3 b)])) :
  AL.Met Tryz.prog 111 [.one (.p (.v (.int .i64 i))),.one (.p (.v (.int .i64 j))),.one (.ref 8 0),.one (.ref 3 0)] gf ob [] (fun rs ob'=>rs=[.one (.p (.v (.int .i64 (dist (a.drop i) (b.drop j):Int))))]∧ob'=ob):=by
 have hg:=E23 (a:=a) (b:=b) (done:=fun _ _=>true) hi hj
 rw [if_pos rfl] at hg
 have hin:=(D49 (a:=a) (b:=b) hi hj).1
 have hL:=D27 a b (fun _ _=>true)
 have e1:(i:Int)*((b.length:Int)+1)=((i*(b.length+1):Nat):Int):=by push_cast;rfl
 have hbd:i*(b.length+1)≤4096*4097:=Nat.mul_le_mul (by omega) (by omega)
 have hbd2:(a.length+1)*(b.length+1)≤4097*4097:=Nat.mul_le_mul (by omega) (by omega)
 have hgi:(flat a b (fun _ _=>true))[((i:Int)*((b.length:Int)+1)+j).toNat]?=some (dist (a.drop i) (b.drop j):Int):=by
  rw [e1,show (((i*(b.length+1):Nat):Int)+j).toNat=i*(b.length+1)+j by omega];exact hg
 have hd:=F50 (a.drop i) (b.drop j)
 simp only [J29] at hd
 refine AL.Met.intro Tryz.func111 (by decide) V V V ?_
 refine k2 (A2 (A6 V V (A4 ?_)));refine k1 (k2 (A2 (A5 (C4 V h8 V) V (A3 V V (A5 (C4 V h3 V) V (E0 V V (D2 V V V (A5 (A58 V V (by (rw [e1];omega))) V ?_))))))));refine A3 V V (A5 (Z9 V V (by (rw [e1];omega))) V ?_);refine A5 (A9 V (.pure _ _ _ _) V (by omega) hgi) V (A5 (A8 V V) V (A5 (X0 V) V (A6 V V (A4 ?_))))
 rw [i64_id (by omega)]
 refine k1 (k10 ?_)
 exact G5 (K4 rfl rfl) (by repeat (first | exact B2 | refine B3 rfl ?_ | refine D1 _ ?_)) (fun _ _ h=>h) ⟨rfl,rfl⟩
theorem I77 (a b:List Int) (ha:a.length≤4096) (hb:b.length≤4096):FnOk Tryz.prog 80 [I5 a,I5 b] (fun rs=>rs=[pSpans (L9 0 0 a b)]):=by
 obtain ⟨n,hn⟩:∃n,n=V4 a b:=⟨_,rfl⟩
 have hnl:=G42 a b
 rw [←hn] at hnl
 have hbeg:=E25 a b 0 0
 rw [←hn] at hbeg
 refine FnOk.intro Tryz.func80 (by decide) V V V V ?_
 refine k2 (A2 (C9 (x4 3 V V V) V (A6 V V (A4 ?_))));refine k1 (k2 (A2 (C9 (Q4 5 _ spanC V) V (A4 ?_))));refine k1 (k2 (A2 (A3 V V (G4 V V V V (D3 (E54 a b (by omega)) V V V ?_)))));rintro _ rfl;refine A6 V V (A4 ?_)
 rw [←hn]
 refine k1 (k2 (k2 (A2 (A3 V V (A3 V V (A4 ?_))))));refine k1 (k3 (C5 (X:=Nat) (fun k=>([(0,C6 Int 1 E3 a),(3,.s (.one (.ref 3 0))),(5,.s (.one (.buf 5 Span 2 spanC (T4 0 0 k)))),(6,C0 n),(15,C0 n),(16,C0 k)],[(3,.box [.p (.list Int 1 E3 b)]),(5,.spare (T4 0 0 k).length 2 142)])) (fun k=>k≤n) (fun k=>n - k) 0 (Nat.zero_le _) (I90 ⟨le1 rfl,le1 rfl,le1 rfl,le1 rfl,le1 rfl,le1 rfl,trivial⟩ ⟨rfl,rfl,trivial⟩) ?_))
 intro k hk
 dsimp only at hk ⊢
 have hrl:=E17 0 0 k
 refine k2 (A2 (E8 V V V (A4 ?_)));refine k1 (k2 ?_);refine B0 rfl (fun ht=>?_) (fun ht=>?_)
 ·have hlt:k < n:=by have:=A0 ht;omega
  have hsn:=F51 0 0 k
  refine k5 (k1 (k2 (k3 (k2 (A2 (A3 V V (A6 V V (A4 ?_))))))));refine k1 (A2 (A3 V V (A3 V V (A3 V V (A5 (K1 V) V (A5 (C3 (c:=spanC) (ys:=[⟨(k:Int),(k:Int)⟩]) (D4 V V V V F9) V V V) V (C9 (I9 V V V (.pure _ _ _ _) (by (simp only [J19,J22];omega)) V) V (A6 V V (A4 ?_)))))))));refine k4 (k1 (A2 (D2 V V V (A3 V V (A4 ?_)))));refine k1 ?_;refine ⟨k+1,by omega,by omega,?_⟩
  rw [hsn,show (0:Int)+(k:Int)=k by omega]
  exact I90 ⟨le1 rfl,le1 rfl,le1 rfl,le1 rfl,le1 rfl,le1 rfl,trivial⟩ ⟨rfl,rfl,trivial⟩
 have hk':k=n:=by have:=A1 ht;omega
 subst hk'
 obtain ⟨a',ha'⟩:∃a',a'=a.drop k:=⟨_,rfl⟩
 obtain ⟨b',hb'⟩:∃b',b'=b.drop k:=⟨_,rfl⟩
 have hal:a'.length≤4096:=by rw [ha',J29];omega
 have hbl:b'.length≤4096:=by rw [hb',J29];omega
 rw [Int.zero_add,←ha',←hb'] at hbeg
 refine k6 (k2 (E6 (by kernel_rfl) (by kernel_rfl) (E5 V V (E5 V V (B5 (E62 V (.pure _ _ _ _) V (by omega) (by omega)) V V (B5 (C4 V V V) V V (E5 V V (B5 (E62 V (.pure _ _ _ _) V (by omega) (by omega)) V V (B5 (I3 V V) V V (d_eff (C1 TySz.out V V V V V V) V (P0 ?_)))))))))))
 rw [J17,←ha',←hb']
 refine k1 (k2 (A2 (A3 V V (G4 V V V V (D3 (E55 a' b' hal hbl) V V V ?_)))));rintro _ rfl;refine C9 (J4 8 V) V (G8 (C1 TySz.out V V V V V V) (A4 ?_));refine k1 (k2 (A2 (A5 (A08 V V) V (A6 V V (A4 ?_)))));refine k1 (k2 (k2 (A2 (A6 V V (A6 V V (A4 ?_))))));refine k1 (k3 (C5 (X:=Nat × Nat × List Span) (fun x=>([(0,C6 Int 1 E3 a'),(3,.s (.one (.ref 3 0))),(5,.s (.one (.buf 5 Span 2 spanC x.2.2))),(6,C0 k),(8,.s (.one (.ref 8 0))),(9,.s (.one (.clo 111 [] [(8,0),(3,0)]))),(10,C0 x.1),(11,C0 x.2.1)],[(3,.box [.p (.list Int 1 E3 b')]),(5,.spare x.2.2.length 2 142),(8,.box [.p (.list Int 1 C18 (flat a' b' (fun _ _=>true)))])])) (fun x=>x.1≤a'.length∧x.2.1≤b'.length∧x.2.2.length≤k+x.1∧L9 0 0 a b=x.2.2++L9 (k+x.1) (k+x.2.1) (a'.drop x.1) (b'.drop x.2.1)) (fun x=>(a'.length - x.1)+(b'.length - x.2.1)) (0,0,T4 0 0 k) ⟨Nat.zero_le _,Nat.zero_le _,by rw [hrl];exact Nat.le_refl _,by simpa using hbeg⟩ (I90 ⟨le1 rfl,le1 rfl,le1 rfl,le1 rfl,le1 rfl,le1 rfl,le1 rfl,le1 rfl,trivial⟩ ⟨rfl,rfl,rfl,trivial⟩) ?_))
 rintro ⟨i,j,out⟩ ⟨hi,hj,hol,he⟩
 dsimp only at hi hj hol he ⊢
 refine k2 (k2 (A2 (A3 V V (A3 V V (E0 V V (E8 V V V (A3 V V (B1 V V V V (fun hg=>by rw [hg];exact B7 V V) ?_))))))));refine B1 V V V V (fun hg=>by rw [hg];exact C4 V V V) ?_;refine B1 V V V V (fun hg=>by rw [hg];exact X7 V (.pure _ _ _ _)) ?_;refine B1 V V V V (fun hg=>by rw [hg];exact A60 V V) ?_;refine I6 V V ?_;refine A4 ?_;refine k1 ?_;refine B0 rfl (fun ht=>?_) (fun ht=>?_)
 ·simp only [or_pick] at ht
  have hcond:=A0 ht
  refine A05 [(0,C6 Int 1 E3 a'),(3,.s (.one (.ref 3 0))),(5,.s (.one (.buf 5 Span 2 spanC out))),(6,C0 k),(8,.s (.one (.ref 8 0))),(9,.s (.one (.clo 111 [] [(8,0),(3,0)]))),(10,C0 i),(11,C0 j)] [(3,.box [.p (.list Int 1 E3 b')]),(5,.spare out.length 2 142),(8,.box [.p (.list Int 1 C18 (flat a' b' (fun _ _=>true)))])] (I90 ⟨le1 rfl,le1 rfl,le1 rfl,le1 rfl,le1 rfl,le1 rfl,le1 rfl,le1 rfl,trivial⟩ ⟨rfl,rfl,rfl,trivial⟩) ?_
  refine k5 (k1 (k3 (k3 (k2 (E6 (by kernel_rfl) (by kernel_rfl) (E5 V V (E5 V V (B5 (X7 V (.pure _ _ _ _)) V V (B5 (A60 V V) V V (E5 V V (E7 V V (fun hg=>by rw [hg];exact B7 V V) V V ?_)))))))))));refine E7 V V (fun hg=>by rw [hg];exact C4 V V V) V V ?_;refine E7 V V (fun hg=>by rw [hg];exact X7 V (.pure _ _ _ _)) V V ?_;refine E7 V V (fun hg=>by rw [hg];exact A60 V V) V V ?_;refine B5 (K7 V (fun h=>by first | rfl | (rw [h];rfl)) (fun h=>by first | rfl | (rw [h];rfl))) V V ?_;refine E5 V V (E7 V V (fun hg=>by rw [hg];exact B7 V V) V V ?_);refine E7 V V (fun hg=>by rw [hg];exact B7 V V) V V ?_;refine E7 V V (fun hg=>by have hq:=hg;(try simp at hq);rw [hg];exact A9 V (.pure _ _ _ _) V (by omega) (C44 (by omega))) V V ?_;refine E7 V V (fun hg=>by rw [hg];exact A8 V V) V V ?_;refine E7 V V (fun hg=>by rw [hg];exact C4 V V V) V V ?_;refine E7 V V (fun hg=>by rw [hg];exact B7 V V) V V ?_;refine E7 V V (fun hg=>by have hq:=hg;(try simp at hq);rw [hg];exact A9 V (.pure _ _ _ _) V (by omega) (C44 (by omega))) V V ?_;refine E7 V V (fun hg=>by rw [hg];exact A8 V V) V V ?_;refine E7 V V (fun hg=>by rw [hg];exact F7 V V) V V ?_;refine B5 (K7 V (fun h=>by first | rfl | (rw [h];rfl)) (fun h=>by first | rfl | (rw [h];rfl))) V V ?_;refine B5 (I3 V V) V V (P0 ?_);refine k1 ?_;refine B0 rfl (fun ht=>?_) (fun ht=>?_)
  ·simp only [and_pick] at ht
   obtain ⟨⟨h1,h2⟩,h3⟩:=A0 ht
   have h1:i < a'.length:=by omega
   have h2:j < b'.length:=by omega
   rw [D23 a' b' i j h1 h2,if_pos (by simpa [h1,h2] using h3)] at he
   refine A05 [(0,C6 Int 1 E3 a'),(3,.s (.one (.ref 3 0))),(5,.s (.one (.buf 5 Span 2 spanC out))),(6,C0 k),(8,.s (.one (.ref 8 0))),(9,.s (.one (.clo 111 [] [(8,0),(3,0)]))),(10,C0 i),(11,C0 j)] [(3,.box [.p (.list Int 1 E3 b')]),(5,.spare out.length 2 142),(8,.box [.p (.list Int 1 C18 (flat a' b' (fun _ _=>true)))])] (I90 ⟨le1 rfl,le1 rfl,le1 rfl,le1 rfl,le1 rfl,le1 rfl,le1 rfl,le1 rfl,trivial⟩ ⟨rfl,rfl,rfl,trivial⟩) ?_
   refine k2 (A2 (A3 V V (A3 V V (A3 V V (D2 V V V (A3 V V (A3 V V (D2 V V V (A5 (K1 V) V (A5 (C3 (c:=spanC) (ys:=[⟨(k:Int)+i,(k:Int)+j⟩]) (D4 V V V V F9) V V V) V (C9 (I9 V V V (.pure _ _ _ _) (by (simp only [J19,J22];omega)) V) V (A6 V V (A4 ?_)))))))))))));refine k1 (A2 (A3 V V (D2 V V V (A3 V V (D2 V V V (A6 V V (A6 V V (A4 ?_))))))));refine k4 (k4 (k1 ?_));refine ⟨(i+1,j+1,out++[⟨(k:Int)+i,(k:Int)+j⟩]),⟨by dsimp only;omega,by dsimp only;omega,by simp;omega,?_⟩,by dsimp only;omega,I90 ⟨le1 rfl,le1 rfl,le1 rfl,le1 rfl,le1 rfl,le1 rfl,le1 rfl,le1 rfl,trivial⟩ ⟨rfl,rfl,rfl,trivial⟩⟩
   dsimp only
   rw [he,J28]
   congr 2
  ·simp only [and_pick] at ht
   have hno:=A1 ht
   refine A05 [(0,C6 Int 1 E3 a'),(3,.s (.one (.ref 3 0))),(5,.s (.one (.buf 5 Span 2 spanC out))),(6,C0 k),(8,.s (.one (.ref 8 0))),(9,.s (.one (.clo 111 [] [(8,0),(3,0)]))),(10,C0 i),(11,C0 j)] [(3,.box [.p (.list Int 1 E3 b')]),(5,.spare out.length 2 142),(8,.box [.p (.list Int 1 C18 (flat a' b' (fun _ _=>true)))])] (I90 ⟨le1 rfl,le1 rfl,le1 rfl,le1 rfl,le1 rfl,le1 rfl,le1 rfl,le1 rfl,trivial⟩ ⟨rfl,rfl,rfl,trivial⟩) ?_
   by_cases h1:i < a'.length
   ·have hr:decide ((i:Int) < (a'.length:Int))=true:=decide_eq_true (by omega)
    have hd1:=F50 (a'.drop (i+1)) (b'.drop j)
    simp only [J29] at hd1
    have hstep:¬j < b'.length→dist (a'.drop (i+1)) (b'.drop j)+1=dist (a'.drop i) (b'.drop j)∧L9 (k+i) (k+j) (a'.drop i) (b'.drop j)=L9 (k+i+1) (k+j) (a'.drop (i+1)) (b'.drop j):=by
     intro hj2
     rw [show b'.drop j=[] from J31 (by omega),C50,C50,J29,J29,p5,p5]
     exact ⟨by omega,rfl⟩
    have hgo:j < b'.length→L9 (k+i) (k+j) (a'.drop i) (b'.drop j)=if dist (a'.drop (i+1)) (b'.drop j)+1=dist (a'.drop i) (b'.drop j) then L9 (k+i+1) (k+j) (a'.drop (i+1)) (b'.drop j) else L9 (k+i) (k+j+1) (a'.drop i) (b'.drop (j+1)):=by
     intro h2
     rw [D23 a' b' i j h1 h2,if_neg]
     intro h3
     exact hno ⟨⟨by omega,by omega⟩,by simpa [h1,h2] using h3⟩
    refine k2 (A2 (A3 V V (A3 V V (E0 V V (E8 V V V (A3 V V (H0 V V V hr (A3 V V (H0 V V V hr (A3 V V (H0 V V V hr (D2 V V V (H0 V V V hr (A3 V V (H0 V V V hr (B21 (H57 a' b' (i+1) j hal hbl (by omega) hj V V) V V V V ?_))))))))))))))));rintro _ _ ⟨rfl,rfl⟩;refine H0 V V V hr (D2 V V V (H0 V V V hr (A3 V V (H0 V V V hr (A3 V V (H0 V V V hr (A3 V V (H0 V V V hr (B21 (H57 a' b' i j hal hbl hi hj V V) V V V V ?_)))))))));rintro _ _ ⟨rfl,rfl⟩;refine H0 V V V hr (A5 (F7 V V) V (I6 V V ?_));refine A6 V V (A4 ?_);refine k1 ?_;refine B0 rfl (fun ht=>?_) (fun ht=>?_)
    ·simp only [and_pick] at ht
     obtain ⟨_,h3⟩:=A0 ht
     have h3:dist (a'.drop (i+1)) (b'.drop j)+1=dist (a'.drop i) (b'.drop j):=by omega
     have hnext:L9 (k+i) (k+j) (a'.drop i) (b'.drop j)=L9 (k+i+1) (k+j) (a'.drop (i+1)) (b'.drop j):=by
      by_cases h2:j < b'.length
      ·rw [hgo h2,if_pos h3]
      ·exact (hstep h2).2
     rw [hnext] at he
     skip
     refine A2 (A3 V V (D2 V V V (A6 V V (A4 ?_))));refine k4 (k4 (k1 ?_));refine ⟨(i+1,j,out),⟨by dsimp only;omega,by dsimp only;omega,by dsimp only;omega,?_⟩,by dsimp only;omega,I90 ⟨le1 rfl,le1 rfl,le1 rfl,le1 rfl,le1 rfl,le1 rfl,le1 rfl,le1 rfl,trivial⟩ ⟨rfl,rfl,rfl,trivial⟩⟩
     dsimp only
     rw [he,show (k:Int)+(i:Int)+1=(k:Int)+((i+1:Nat):Int) by omega]
    ·simp only [and_pick] at ht
     have h3:=A1 ht
     have h3:¬dist (a'.drop (i+1)) (b'.drop j)+1=dist (a'.drop i) (b'.drop j):=fun q=>h3 ⟨by omega,by omega⟩
     have h2:j < b'.length:=by
      by_cases h2:j < b'.length
      ·exact h2
      ·exact absurd (hstep h2).1 h3
     rw [hgo h2,if_neg h3] at he
     skip
     refine A2 (A3 V V (D2 V V V (A6 V V (A4 ?_))));refine k4 (k4 (k1 ?_));refine ⟨(i,j+1,out),⟨by dsimp only;omega,by dsimp only;omega,by dsimp only;omega,?_⟩,by dsimp only;omega,I90 ⟨le1 rfl,le1 rfl,le1 rfl,le1 rfl,le1 rfl,le1 rfl,le1 rfl,le1 rfl,trivial⟩ ⟨rfl,rfl,rfl,trivial⟩⟩
     dsimp only
     rw [he,show (k:Int)+(j:Int)+1=(k:Int)+((j+1:Nat):Int) by omega]
   ·have hrf:decide ((i:Int) < (a'.length:Int))=false:=decide_eq_false (by omega)
    have h2:j < b'.length:=by omega
    refine k2 (A2 (A3 V V (A3 V V (E0 V V (E8 V V V (A3 V V (L7 V V V (by rw [hrf];decide) V ?_)))))));refine L7 V V V (by rw [hrf];decide) V ?_;refine L7 V V V (by rw [hrf];decide) V ?_;refine L7 V V V (by rw [hrf];decide) V ?_;refine L7 V V V (by rw [hrf];decide) V ?_;refine L7 V V V (by rw [hrf];decide) V ?_;refine L7 V V V (by rw [hrf];decide) V ?_;refine L7 V V V (by rw [hrf];decide) V ?_;refine L7 V V V (by rw [hrf];decide) V ?_;refine L7 V V V (by rw [hrf];decide) V ?_;refine L7 V V V (by rw [hrf];decide) V ?_;refine A5 (A65 V (hrf) V) V (A6 V V (A4 ?_));refine k1 ?_;refine B0 rfl (fun ht=>?_) (fun ht=>?_)
    ·cases ht
    ·skip
     refine A2 (A3 V V (D2 V V V (A6 V V (A4 ?_))));refine k4 (k4 (k1 ?_));refine ⟨(i,j+1,out),⟨by dsimp only;omega,by dsimp only;omega,by dsimp only;omega,?_⟩,by dsimp only;omega,I90 ⟨le1 rfl,le1 rfl,le1 rfl,le1 rfl,le1 rfl,le1 rfl,le1 rfl,le1 rfl,trivial⟩ ⟨rfl,rfl,rfl,trivial⟩⟩
     dsimp only
     rw [he,show a'.drop i=[] from J31 (by omega),W7,W7]
 ·simp only [or_pick] at ht
  have hcond:=A1 ht
  rw [show a'.drop i=[] from J31 (by omega),W7,J47] at he
  refine k6 (k2 (A2 (A3 V V (A6 V V (A4 ?_)))));refine k1 (k10 ?_)
  exact B6 (G7 rfl rfl rfl) (by rw [he])
theorem H13 (a b:List Int) (ha:a.length≤4096) (hb:b.length≤4096):FnOk Tryz.prog 48 [I5 a,I5 b] (fun rs=>rs=[pChanges (H24 a b),F2 0]):=by
 have hA:=H25 a b 0 0
 rw [Int.zero_add,Int.zero_add] at hA
 have hl:=E56 0 0 a b
 refine FnOk.intro Tryz.func48 (by decide) V V V V ?_
 refine k2 (A2 (A6 V V (A6 V V (A4 ?_))));refine k1 (k2 (k2 (A2 (A3 V V (A3 V V (D3 (G25 a b) V V V ?_))))));rintro _ rfl;refine A5 (U2 V) V (A4 ?_);refine k1 ?_;refine B0 rfl (fun ht=>?_) (fun ht=>?_)
 ·exfalso
  have h:decide ((a.length:Int)≤4096∧(b.length:Int)≤4096)=true:=decide_eq_true ⟨by omega,by omega⟩
  rw [h] at ht;cases ht
 refine k5 (k1 (k2 (A2 (A3 V V (A3 V V (D3 (I77 a b ha hb) V V V ?_))))));rintro _ rfl;refine A3 V V (E0 V V (A3 V V (E0 V V (D3 (E53 (L9 0 0 a b) a.length b.length ⟨by omega,by omega⟩ ⟨by omega,by omega⟩ hA (by omega)) V V V ?_))));rintro _ rfl;refine H6 V V V (H6 V V V (A6 V V (A6 V V (A4 ?_))));refine k1 (k10 ?_)
 exact B6 (X8 rfl rfl rfl rfl rfl) rfl
end Go.Proofs.YtgppobpengmbkaaGreatDoor
namespace Go.Proofs.YtgppobpengmbkaaGreatDoor
open Go Go.AL
set_option maxRecDepth 100000
set_option maxHeartbeats 1000000
theorem tid_old {gf:Fr} {ob:Obs} (names:List Str) (s:Str) (hs:s∈names) (h0:B9 ob 710=some (.box [.mut 711,.buf 712 Str 1 Q0 names])) (h1:B9 ob 711=some (.map Str l4 (y9 names 0))) :
  AL.Met Tryz.prog 106 [.one (.ref 710 0),.one (.p (.v (.string ⟨s.toArray⟩)))] gf ob [] (fun rs ob'=>rs=[.one (.p (.v (.int .i64 (Q5 names s 0))))]∧ob'=ob):=by
 have hg:=E98 s names 0 hs
 refine AL.Met.intro Tryz.func106 (by decide) V V V ?_
 refine k2 (A2 (A6 V V (A4 ?_)));refine k1 (k2 (A2 (A3 V V (A5 (B4 V) V (A5 (A7 V) V (A5 (C4 V h0 V) V (A3 V V (A5 (B23 (s) (r:=some (.v (.int .i64 (Q5 names s 0)))) V h1 V s8 s9 (hg)) V (A3 V V (H6 V V V (H6 V V V (A6 V V (A6 V V (A4 ?_))))))))))))));refine k1 (k2 (k2 (A2 (A3 V V (A5 (U2 V) V (A4 ?_))))));refine k1 ?_;refine B0 rfl (fun ht=>?_) (fun ht=>?_)
 ·cases ht
 refine k5 (k1 (k2 (A2 (A3 V V (A6 V V (A4 ?_))))));refine k1 (k10 ?_)
 exact G5 (K4 rfl rfl) (by repeat (first | exact B2 | refine B3 rfl ?_ | refine D1 _ ?_)) (fun _ _ h=>h) ⟨rfl,rfl⟩
theorem tid_new {gf:Fr} {ob:Obs} (names:List Str) (s:Str) (hs:s∉names) (hl:names.length≤1073741823) (h0:B9 ob 710=some (.box [.mut 711,.buf 712 Str 1 Q0 names])) (h1:B9 ob 711=some (.map Str l4 (y9 names 0)))
  (h2:B9 ob 712=some (.spare names.length 1 9)) :
  AL.Met Tryz.prog 106 [.one (.ref 710 0),.one (.p (.v (.string ⟨s.toArray⟩)))] gf ob [712] (fun rs ob'=>rs=[.one (.p (.v (.int .i64 names.length)))]∧ob'=(710,.box [.mut 711,.buf 712 Str 1 Q0 (names++[s])])::(712,.spare (names++[s]).length 1 9)::Obs.forget 712 ((711,.map Str l4 (y9 names 0++[(s,.v (.int .i64 names.length))]))::ob)):=by
 have hg:=E26 s names 0 hs
 refine AL.Met.intro Tryz.func106 (by decide) V V V ?_
 refine k2 (A2 (A6 V V (A4 ?_)));refine k1 (k2 (A2 (A3 V V (A5 (B4 V) V (A5 (A7 V) V (A5 (C4 V h0 V) V (A3 V V (A5 (B23 (s) (r:=none) V h1 V s8 s9 (hg)) V (A3 V V (H6 V V V (H6 V V V (A6 V V (A6 V V (A4 ?_))))))))))))));refine k1 (k2 (k2 (A2 (A3 V V (A5 (U2 V) V (A4 ?_))))));refine k1 ?_;refine B0 rfl (fun ht=>?_) (fun ht=>?_)
 ·refine k2 (A2 (A3 V V (A5 (B4 V) V (A5 (A7 V) V (A5 (C4 V h0 V) V (A5 (X7 V (.buf _ _ _ _ _)) V (A6 V V (A4 ?_))))))));refine k1 (k2 (A2 (A3 V V (A5 (B4 V) V (A5 (A7 V) V (A5 (C4 V h0 V) V (A3 V V (A3 V V (G8 (F77 (s) V h1 V V V s8 s9 (hg)) (A4 ?_))))))))));refine k1 ?_
  have h0':B9 ((711,Ob.map Str l4 (y9 names 0++[(s,.v (.int .i64 names.length))]))::ob) 710=some (.box [.mut 711,.buf 712 Str 1 Q0 names]):=by rw [C2 (by decide)];exact h0
  have h2':B9 ((711,Ob.map Str l4 (y9 names 0++[(s,.v (.int .i64 names.length))]))::ob) 712=some (.spare names.length 1 9):=by rw [C2 (by decide)];exact h2
  have h0'':B9 ((712,Ob.spare (names++[s]).length 1 9)::Obs.forget 712 ((711,Ob.map Str l4 (y9 names 0++[(s,.v (.int .i64 names.length))]))::ob)) 710=some (.box [.mut 711,.p (.list Str 1 Q0 names)]):=by
   rw [C2 (by decide),J5,h0'];rfl
  refine A2 (A3 V V (A3 V V (A5 (B4 V) V (A5 (A7 V) V (A5 (C4 V h0' V) V (A3 V V (A5 (C3 (c:=Q0) (ys:=[s]) (D4 V V V V F9) V V V) V (C9 (I9 V h2' V (.pure _ _ _ _) (by (simp only [J19,J22];omega)) V) V (A5 (B4 V) V (A5 (A7 V) V (G8 (C1 TySz.out V h0'' V V V V) (A4 ?_))))))))))));refine k1 (k2 (A2 (A3 V V (A6 V V (A4 ?_)))));refine k1 (k10 ?_)
  exact G5 (K4 rfl rfl) (by repeat (first | exact B2 | refine B3 rfl ?_ | refine D1 _ ?_)) (fun _ _ h=>h) ⟨rfl,rfl⟩
 ·cases ht
theorem H14 (files:List (List Str)) (i m:Nat):(O3 files i).all (TC.free m)=true:=by
 rw [List.all_eq_true]
 intro t ht
 unfold O3 at ht
 obtain ⟨r,_,rfl⟩:=List.mem_map.1 ht
 split<;>rfl
theorem I23 {files:List (List Str)} {i:Nat} (b x:TC) (m:Nat):(((O3 files i).set i b).map (TC.forget m)).set i x=(O3 files i).set i x:=by
 have e1:(O3 files i).map (TC.forget m)=O3 files i:=by
  unfold O3
  rw [J50]
  apply List.map_congr_left
  intro r _
  simp only [Function.comp]
  split<;>rfl
 rw [List.map_set,e1,List.set_set]
theorem H15 {files:List (List Str)} {i:Nat} (b x:TC) (m m':Nat):((((O3 files i).set i b).map (TC.forget m)).map (TC.forget m')).set i x=(O3 files i).set i x:=by
 have e1:∀m,(O3 files i).map (TC.forget m)=O3 files i:=by
  intro m
  unfold O3
  rw [J50]
  apply List.map_congr_left
  intro r _
  simp only [Function.comp]
  split<;>rfl
 rw [List.map_set,e1,List.map_set,e1,List.set_set]
theorem I24 (files:List (List Str)) (hn:files.length≤1048576) (hl:files.flatten.length≤536870911):FnOk Tryz.prog 77 [pStrss files] (fun rs=>rs=[pIntss (files.map (x6 (N5 files))),C26 (N5 files)]):=by
 refine FnOk.intro Tryz.func77 (by decide) V V V V ?_
 refine k2 (A2 (A6 V V (A6 V V (A4 ?_))));refine k1 (k2 (A2 (C9 (C75 711 Str l4 V) V (A5 (K1 V) V (C9 (x4 710 V V V) V (A6 V V (A4 ?_)))))));refine k1 (k2 (D8 (J02 712 Str 1 Q0 9 (kb:=710) (o:=1) V V V) ?_))
 refine A2 (A3 V V (E0 V V (C9 (c8 20 Unit (fun _ _=>.v (.slice none 0 0)) () V V (by omega) (by omega) (fun _=>by first | exact ⟨⟨rfl,rfl⟩,trivial⟩ | exact ⟨G9 _ _ _,trivial⟩ | exact ⟨G9 _ _ _,⟨rfl,rfl⟩,G9 _ _ _,trivial⟩) (by first | rfl | (simp [K2,J2,Ob.free,SV.free,S1.free,TC.free]<;>rfl))) V ?_)));refine A6 V V (A4 ?_);refine k1 (k2 (k2 (D8 (J13 20 V) ?_)))
 have hz:((List.replicate ((files.length:Nat):Int).toNat ()).map fun x=>TC.p ((fun (_:Unit) (_:Nat)=>Cell.v (.slice none 0 0)) x 0))=O3 files 0:=by
  rw [J17,←H32];simp
 have hz2:(List.replicate ((files.length:Nat):Int).toNat ()).length=files.length:=by simp
 rw [hz,hz2]
 refine A2 (A3 V V (E0 V V (A3 V V (A4 ?_))));refine k1 (k3 ?_);refine C5 (X:=Nat) (fun i=>([(4,.s (.one (.ref 710 0))),(5,.s (.one (.mut 20))),(16,C6 (List Str) 1 strsC files),(17,C0 files.length),(18,C0 i)],[(710,.box [.mut 711,.buf 712 Str 1 Q0 (N6 files i 0)]),(711,.map Str l4 (y9 (N6 files i 0) 0)),(712,.spare (N6 files i 0).length 1 9),(20,.tarr files.length 1 (O3 files i))])) (fun i=>i≤files.length) (fun i=>files.length - i) 0 (Nat.zero_le _) ?_ ?_
 ·rw [show N6 files 0 0=[] from rfl]
  exact I90 ⟨le1 rfl,le1 rfl,le1 rfl,le1 rfl,le1 rfl,trivial⟩ ⟨rfl,rfl,rfl,rfl,trivial⟩
 intro i hi
 dsimp only at hi ⊢
 refine k2 (A2 (E8 V V V (A4 ?_)));refine k1 (k2 ?_);refine B0 rfl (fun ht=>?_) (fun ht=>?_)
 ·have hlt:i < files.length:=by have:=A0 ht;omega
  obtain ⟨f,hf⟩:∃f,f=files.getD i []:=⟨_,rfl⟩
  have hv:files[i]?=some f:=by rw [hf];simp [hlt]
  have hfl:f.length≤files.flatten.length:=by
   have h1:f∈files:=J32 hv
   have:∀(fs:List (List Str)),f∈fs→f.length≤fs.flatten.length:=by
    intro fs
    induction fs with
    | nil=>intro h;simp at h
    | cons x r ih =>
     intro h
     simp only [J57,J20]
     rcases List.mem_cons.1 h with rfl | h
     ·omega
     ·have:=ih h;omega
   exact this files h1
  have hrl:(O3 files i).length=files.length:=by simp [O3]
  refine k5 (k1 (k2 (k3 (k2 (A2 (A3 V V (A5 (A9 V (.pure _ _ _ _) V (by omega) hv) V (A5 (A8 V V) V (A6 V V (A6 V V (A4 ?_)))))))))));refine k1 (k2 (A2 (A3 V V (E0 V V (A3 V V (A4 ?_))))));refine k1 (k3 (D8 (J10 713 Int 1 E3 3 (kb:=20) (o:=i) V (I38 hlt) (by simp [K2,J2,Ob.free,SV.free,S1.free,TC.free,H14];repeat' (first | rfl | constructor))) ?_))
  refine C5 (X:=Nat) (fun j=>([(4,.s (.one (.ref 710 0))),(5,.s (.one (.mut 20))),(6,C0 i),(16,C6 (List Str) 1 strsC files),(17,C0 files.length),(18,C0 i),(23,C6 Str 1 Q0 f),(24,C0 f.length),(25,C0 j)],[(20,.tarr files.length 1 ((O3 files i).set i (.buf 713 Int 1 E3 (x6 (N5 files) (f.take j))))),(710,.box [.mut 711,.buf 712 Str 1 Q0 (N6 files i j)]),(711,.map Str l4 (y9 (N6 files i j) 0)),(712,.spare (N6 files i j).length 1 9),(713,.spare (x6 (N5 files) (f.take j)).length 1 3)])) (fun j=>j≤f.length) (fun j=>f.length - j) 0 (Nat.zero_le _) ?_ ?_
  ·exact I90 ⟨le1 rfl,le1 rfl,le1 rfl,le1 rfl,le1 rfl,le1 rfl,le1 rfl,le1 rfl,le1 rfl,trivial⟩ ⟨rfl,rfl,rfl,rfl,rfl,trivial⟩
  intro j hj
  dsimp only at hj ⊢
  refine k2 (A2 (E8 V V V (A4 ?_)));refine k1 (k2 ?_);refine B0 rfl (fun ht=>?_) (fun ht=>?_)
  ·have hlt2:j < f.length:=by have:=A0 ht;omega
   obtain ⟨s,hs⟩:∃s,s=f[j]:=⟨_,rfl⟩
   have hvs:f[j]?=some s:=by rw [hs];simp [hlt2]
   have hstep:=F58 files i j s (by rw [←hf];exact hvs)
   obtain ⟨names,hnm⟩:∃names,names=N6 files i j:=⟨_,rfl⟩
   have hnl:=E27 files i j
   obtain ⟨rest,hrest⟩:=D29 files i (j+1)
   obtain ⟨ids,hids⟩:∃ids,ids=x6 (N5 files) (f.take j):=⟨_,rfl⟩
   have hil:ids.length=j:=by rw [hids];simp [x6];omega
   have hnext:x6 (N5 files) (f.take (j+1))=ids++[Q5 (N5 files) s 0]:=by
    rw [hids,J56 hlt2,←hs];unfold x6;rw [J42];rfl
   rw [hstep] at hrest
   rw [←hnm] at hstep hnl hrest ⊢
   rw [←hids]
   have hTi:((O3 files i).set i (.buf 713 Int 1 E3 ids))[((i:Nat):Int).toNat]?=some (.buf 713 Int 1 E3 ids):=by
    rw [J17,List.getElem?_set_self (by rw [hrl];omega)]
   have hTi2:(((O3 files i).set i (.buf 713 Int 1 E3 ids)).map (TC.forget 712))[((i:Nat):Int).toNat]?=some (.buf 713 Int 1 E3 ids):=by
    rw [J52,hTi];rfl
   refine k5 (k1 (k2 (k3 (k2 (A2 (A5 (A9 V (.pure _ _ _ _) V (by omega) hvs) V (A5 (A8 V V) V (A6 V V (A4 ?_)))))))))
   by_cases hmem:s∈names
   ·have hns:O9 names s=names:=by unfold O9;rw [if_pos hmem]
    rw [hns] at hstep hrest
    have hpl:Q5 (N5 files) s 0=Q5 names s 0:=by rw [hrest];exact B52 s rest names 0 hmem
    refine R0 ?_
    refine A05 ((9,T7 s)::[(4,.s (.one (.ref 710 0))),(5,.s (.one (.mut 20))),(6,C0 i),(16,C6 (List Str) 1 strsC files),(17,C0 files.length),(18,C0 i),(23,C6 Str 1 Q0 f),(24,C0 f.length),(25,C0 j)]) [(20,.tarr files.length 1 ((O3 files i).set i (.buf 713 Int 1 E3 ids))),(710,.box [.mut 711,.buf 712 Str 1 Q0 names]),(711,.map Str l4 (y9 names 0)),(712,.spare names.length 1 9),(713,.spare ids.length 1 3)] (I90 ⟨le1 rfl,le1 rfl,le1 rfl,le1 rfl,le1 rfl,le1 rfl,le1 rfl,le1 rfl,le1 rfl,le1 rfl,trivial⟩ ⟨rfl,rfl,rfl,rfl,rfl,trivial⟩) ?_
    refine O0 [12,10,8] [[],[8],[10,8],[12,10,8]] [(8,([],[])),(10,([713],[34])),(12,([],[]))] [(0,[]),(1,[]),(2,[]),(3,[]),(4,[]),(5,[]),(6,[]),(7,[]),(8,[]),(9,[8]),(10,[8]),(11,[10,8]),(12,[10,8])] [(0,[8]),(0,[10,8]),(1,[8]),(1,[10,8]),(2,[8]),(3,[8]),(4,[8]),(5,[8])] (by kernel_rfl) (by kernel_rfl) (E1 V V (by kernel_rfl) V V (B7 V V) (E1 V V (by kernel_rfl) V V (B7 V V) (E1 V V (by kernel_rfl) V V (B7 V V) (E1 V V (by kernel_rfl) V V (B7 V V) (E1 V V (by kernel_rfl) V V (R3 V V V (by omega) (by omega)) (E1 V V (by kernel_rfl) V V (p7 V V (by first | exact hTi | exact hTi2)) ?_))))));refine E1 V V (by kernel_rfl) V V (B7 V V) (E1 V V (by kernel_rfl) V V (B7 V V) (W6 V V (by kernel_rfl) V V (r_met (fun gf=>tid_old names s hmem V V) V V) V (E1 V V (by kernel_rfl) V V (C3 (c:=E3) (ys:=[Q5 names s 0]) (D4 V V V V F9) V V V) (W6 V V (by kernel_rfl) V V (C77 (fun frc hU=>I9 (R4 hU V) V (R4 hU V) (.pure _ _ _ _) (by (simp only [J19,J22];omega)) V)) V (E1 V V (by kernel_rfl) V V (R3 V V V (by omega) (by omega)) (W6 V V (by kernel_rfl) V V (A23 (fun frc hU=>B19 TySz.out (R4 hU V) V (by (simp;omega)) (R4 hU V) V)) V ?_))))));refine E67 (by kernel_rfl) rfl ?_ ?_
    ·refine M6 V V (by kernel_rfl) V V (B7 V V) (M6 V V (by kernel_rfl) V V (B7 V V) (M6 V V (by kernel_rfl) V V (B7 V V) (M6 V V (by kernel_rfl) V V (B7 V V) (M6 V V (by kernel_rfl) V V (B7 V V) (M6 V V (by kernel_rfl) V V (B7 V V) (M6 V V (by kernel_rfl) V V (R3 V V V (by omega) (by omega)) (M6 V V (by kernel_rfl) V V (p7 V V (by first | exact hTi | exact hTi2)) ?_)))))));exact B24
    refine A05 [(4,.s (.one (.ref 710 0))),(5,.s (.one (.mut 20))),(6,C0 i),(16,C6 (List Str) 1 strsC files),(17,C0 files.length),(18,C0 i),(23,C6 Str 1 Q0 f),(24,C0 f.length),(25,C0 j)] [(20,.tarr files.length 1 ((O3 files i).set i (.buf 713 Int 1 E3 (ids++[Q5 names s 0])))),(710,.box [.mut 711,.buf 712 Str 1 Q0 (names)]),(711,.map Str l4 (y9 (names) 0)),(712,.spare (names).length 1 9),(713,.spare (ids++[Q5 names s 0]).length 1 3)] (by rw [J17 i,I23];exact I90 ⟨le1 rfl,le1 rfl,le1 rfl,le1 rfl,le1 rfl,le1 rfl,le1 rfl,le1 rfl,le1 rfl,trivial⟩ ⟨rfl,rfl,rfl,rfl,rfl,trivial⟩) ?_
    refine A2 (D2 V V V (A3 V V (A4 ?_)));refine k1 ?_
    exact ⟨j+1,hlt2,by omega,by rw [hstep,hnext,hpl];exact I90 ⟨le1 rfl,le1 rfl,le1 rfl,le1 rfl,le1 rfl,le1 rfl,le1 rfl,le1 rfl,le1 rfl,trivial⟩ ⟨rfl,rfl,rfl,rfl,rfl,trivial⟩⟩
   ·refine R0 ?_
    have hns:O9 names s=names++[s]:=by unfold O9;rw [if_neg hmem]
    rw [hns] at hstep hrest
    have hkv:y9 (names++[s]) 0=y9 names 0++[(s,.v (.int .i64 (names.length:Int)))]:=by rw [E97];simp only [Int.zero_add]
    have hpl:Q5 (N5 files) s 0=names.length:=by
     rw [hrest,B52 s rest (names++[s]) 0 (by simp),D28 s names 0 hmem];omega
    refine A05 ((9,T7 s)::[(4,.s (.one (.ref 710 0))),(5,.s (.one (.mut 20))),(6,C0 i),(16,C6 (List Str) 1 strsC files),(17,C0 files.length),(18,C0 i),(23,C6 Str 1 Q0 f),(24,C0 f.length),(25,C0 j)]) [(20,.tarr files.length 1 ((O3 files i).set i (.buf 713 Int 1 E3 (ids)))),(710,.box [.mut 711,.buf 712 Str 1 Q0 (names)]),(711,.map Str l4 (y9 (names) 0)),(712,.spare (names).length 1 9),(713,.spare (ids).length 1 3)] (I90 ⟨le1 rfl,le1 rfl,le1 rfl,le1 rfl,le1 rfl,le1 rfl,le1 rfl,le1 rfl,le1 rfl,le1 rfl,trivial⟩ ⟨rfl,rfl,rfl,rfl,rfl,trivial⟩) ?_
    refine O0 [12,10,8] [[],[8],[10,8],[12,10,8]] [(8,([712],[])),(10,([713],[34])),(12,([],[]))] [(0,[]),(1,[]),(2,[]),(3,[]),(4,[]),(5,[]),(6,[]),(7,[]),(8,[]),(9,[8]),(10,[8]),(11,[10,8]),(12,[10,8])] [(0,[8]),(0,[10,8]),(1,[8]),(1,[10,8]),(2,[8]),(3,[8]),(4,[8]),(5,[8])] (by kernel_rfl) (by kernel_rfl) (E1 V V (by kernel_rfl) V V (B7 V V) (E1 V V (by kernel_rfl) V V (B7 V V) (E1 V V (by kernel_rfl) V V (B7 V V) (E1 V V (by kernel_rfl) V V (B7 V V) (E1 V V (by kernel_rfl) V V (R3 V V V (by omega) (by omega)) (E1 V V (by kernel_rfl) V V (p7 V V (by first | exact hTi | exact hTi2)) ?_))))));refine E1 V V (by kernel_rfl) V V (B7 V V) (E1 V V (by kernel_rfl) V V (B7 V V) (W6 V V (by kernel_rfl) V V (r_met (fun gf=>tid_new names s hmem (by omega) V V V) V V) V (E1 V V (by kernel_rfl) V V (C3 (c:=E3) (ys:=[(names.length:Int)]) (D4 V V V V F9) V V V) (W6 V V (by kernel_rfl) V V (C77 (fun frc hU=>I9 (R4 hU V) V (R4 hU V) (.pure _ _ _ _) (by (simp only [J19,J22];omega)) V)) V (E1 V V (by kernel_rfl) V V (R3 V V V (by omega) (by omega)) (W6 V V (by kernel_rfl) V V (A23 (fun frc hU=>B19 TySz.out (R4 hU V) V (by (simp;omega)) (R4 hU V) V)) V ?_))))));refine E67 (by kernel_rfl) rfl ?_ ?_
    ·refine M6 V V (by kernel_rfl) V V (B7 V V) (M6 V V (by kernel_rfl) V V (B7 V V) (M6 V V (by kernel_rfl) V V (B7 V V) (M6 V V (by kernel_rfl) V V (B7 V V) (M6 V V (by kernel_rfl) V V (B7 V V) (M6 V V (by kernel_rfl) V V (B7 V V) (M6 V V (by kernel_rfl) V V (R3 V V V (by omega) (by omega)) (M6 V V (by kernel_rfl) V V (p7 V V (by first | exact hTi | exact hTi2)) ?_)))))));exact B24
    refine A05 [(4,.s (.one (.ref 710 0))),(5,.s (.one (.mut 20))),(6,C0 i),(16,C6 (List Str) 1 strsC files),(17,C0 files.length),(18,C0 i),(23,C6 Str 1 Q0 f),(24,C0 f.length),(25,C0 j)] [(20,.tarr files.length 1 ((O3 files i).set i (.buf 713 Int 1 E3 (ids++[(names.length:Int)])))),(710,.box [.mut 711,.buf 712 Str 1 Q0 (names++[s])]),(711,.map Str l4 (y9 (names++[s]) 0)),(712,.spare (names++[s]).length 1 9),(713,.spare (ids++[(names.length:Int)]).length 1 3)] (by rw [J17 i,H15,hkv];exact I90 ⟨le1 rfl,le1 rfl,le1 rfl,le1 rfl,le1 rfl,le1 rfl,le1 rfl,le1 rfl,le1 rfl,trivial⟩ ⟨rfl,rfl,rfl,rfl,rfl,trivial⟩) ?_
    refine A2 (D2 V V V (A3 V V (A4 ?_)));refine k1 ?_
    exact ⟨j+1,hlt2,by omega,by rw [hstep,hnext,hpl];exact I90 ⟨le1 rfl,le1 rfl,le1 rfl,le1 rfl,le1 rfl,le1 rfl,le1 rfl,le1 rfl,le1 rfl,trivial⟩ ⟨rfl,rfl,rfl,rfl,rfl,trivial⟩⟩
  ·have hj2:j=f.length:=by have:=A1 ht;omega
   subst hj2
   rw [J23]
   refine k6 (k7 (k7 (k8 V (k4 (k1 (D8 (Sees.forget 713) ?_))))))
   have hfr:((O3 files i).set i (.buf 713 Int 1 E3 (x6 (N5 files) f))).map (TC.forget 713)=O3 files (i+1):=by rw [hf];exact F59 files i 713 hlt
   have hnr:N6 files (i+1) 0=N6 files i f.length:=by rw [hf];exact G43 files i
   refine A05 [(4,.s (.one (.ref 710 0))),(5,.s (.one (.mut 20))),(16,C6 (List Str) 1 strsC files),(17,C0 files.length),(18,C0 i)] [(710,.box [.mut 711,.buf 712 Str 1 Q0 (N6 files (i+1) 0)]),(711,.map Str l4 (y9 (N6 files (i+1) 0) 0)),(712,.spare (N6 files (i+1) 0).length 1 9),(20,.tarr files.length 1 (O3 files (i+1)))] (by rw [hnr,←hfr];exact I90 ⟨le1 rfl,le1 rfl,le1 rfl,le1 rfl,le1 rfl,trivial⟩ ⟨rfl,rfl,rfl,rfl,trivial⟩) ?_
   refine A2 (D2 V V V (A3 V V (A4 ?_)));refine k1 ?_
   exact ⟨i+1,hlt,by omega,I90 ⟨le1 rfl,le1 rfl,le1 rfl,le1 rfl,le1 rfl,trivial⟩ ⟨rfl,rfl,rfl,rfl,trivial⟩⟩
 ·have hi2:i=files.length:=by have:=A1 ht;omega
  rw [hi2,G44]
  refine D8 (J14 20 (c:=intsC) (files.map (x6 (N5 files))) V (by simp) (H33 files)) ?_
  refine D8 (Sees.freeze (k:=20) V) ?_
  refine D8 (Sees.forget 712) ?_
  refine k6 (k2 (E6 (by kernel_rfl) (by kernel_rfl) (E5 V V (E5 V V (B5 (B4 V) V V (B5 (A7 V) V V (B5 (C4 V V V) V V (B5 (I3 V V) V V (B5 (I3 V V) V V (P0 ?_))))))))));refine k1 (k10 ?_)
  exact B6 (X8 rfl rfl rfl rfl rfl) rfl
theorem F43 (files:List (List Str)) (hn:files.length≤1048576) (hl:files.flatten.length≤536870911):FnOk Tryz.prog 47 [pStrss files] (fun rs=>rs=[pIntss (files.map (x6 (N5 files)))]):=by
 refine FnOk.intro Tryz.func47 (by decide) V V V V ?_
 refine k2 (A2 (A6 V V (A4 ?_)));refine k1 (k2 (A2 (A3 V V (D3 (I24 files hn hl) V V V ?_))));rintro _ rfl;refine A3 V V (H6 V V V (H6 V V V (A6 V V (A6 V V (A4 ?_)))));refine k1 (k2 (A2 (A3 V V (A6 V V (A4 ?_)))));refine k1 (k10 ?_)
 exact B6 (G7 rfl rfl rfl) rfl
set_option maxHeartbeats 1000000
theorem A49 {k:Nat} {ob:Obs} {j:Nat} {o:Ob} (h:B9 (Obs.drop k ob) j=some o):B9 ob j=some o∧j≠k:=by
 by_cases e:j=k
 ·subst e
  exfalso
  have:∀ob:Obs,B9 (Obs.drop j ob) j=none:=by
   intro ob
   induction ob with
   | nil=>rfl
   | cons p r ih =>
    obtain ⟨i,x⟩:=p
    unfold Obs.drop
    cases hb:Nat.beq i j
    ·show B9 ((i,x)::Obs.drop j r) j=none
     rw [C2 (fun e=>by rw [e,Nat.beq_refl] at hb;cases hb)];exact ih
    ·exact ih
  rw [this] at h;cases h
 ·rw [B65 e] at h;exact ⟨h,e⟩
theorem J12 {P:Program} {nt:Nat} {fr:Fr} {ob:Obs} {t k:Nat} {ts:List TC} {cs:List Cell} (ht:F0 fr t=some (.s (.one (.ref k 0)))) (hk:B9 ob k=some (.box ts)) (hp:A61 ts=some cs) (hk0:Nat.blt k 1000000=true) :
  Sees P nt fr ob ((t,.s (.one (.eref Unit cs.length (fun _ j=>cs.getD j (.v undef)) () 0)))::fr) (Obs.drop k ob):=by
 unfold Sees
 intro S G a w hn h
 have hk6:k < 1000000:=by simpa using hk0
 obtain ⟨b,vs,tt,hG,hh,hall⟩:=h.box hk
 have hs:Sim P S fr (Obs.drop k ob) G a w:=h.weakenO fun j o hj=>(A49 hj).1
 have hrd:∀b i z,F8 (Mut S ob G) w b i z→F8 (Mut S (Obs.drop k ob) G) w b i z:=fun b i z hz=>⟨hz.1,fun hm=>hz.2 (hm.imp id fun ⟨q,o,hq,ho⟩=>⟨q,o,(A49 hq).1,ho⟩)⟩
 refine ⟨G,{ hs with facts:=fun i s hi=>?_ }⟩
 by_cases he:t=i
 ·subst he
  rw [E4] at hi
  cases hi
  obtain ⟨b',hb',hu⟩:=h.facts t _ ht
  rw [hG] at hb'
  cases hb'
  refine ⟨b,0,by rw [hu],fun j hj=>?_⟩
  have hc:=o3 hp hall
  obtain ⟨z,hz1,hz2⟩:=hc.get j _ (J15 hj)
  refine ⟨z,⟨by rw [Nat.zero_add];exact N9 hh (by simpa using hz1),?_⟩,?_⟩
  ·rintro (hm | ⟨q,o,hq,ho⟩)
   ·have h1:=h.m0 _ _ hm
    rcases h.old k _ b hk (by rw [hG];rfl) with h2 | ⟨_,h2⟩
    ·omega
    ·omega
   ·obtain ⟨h1,h2⟩:=A49 hq
    exact h2 (h.dis q k _ _ b h1 hk ho.1 (by rw [hG];rfl))
  ·show (cs.getD j (.v undef)).rep _ z
   rw [J21,J15 hj]
   exact Cell.rep_mono hrd _ _ hz2
 ·rw [C8 he] at hi
  exact hs.facts i s hi
theorem H16:B72 []=([],0):=by kernel_rfl
theorem I78:B72 aa=([aa],0):=by kernel_rfl
theorem ids_aa:([[],[aa]]:List (List Str)).map (x6 (N5 [[],[aa]]))=[[],[0]]:=by kernel_rfl
theorem walk_aa:H24 [] [0]=[⟨0,0,0,1⟩]:=by
 unfold H24
 rw [W7]
 rfl
theorem bare_aa:F52 aa=aa:=by kernel_rfl
def outM:Nat→List Str
 | 0=>[]
 | _=>[aa]
theorem G26:FnOk Tryz.prog 31 [C65 auto5,M3 [],M3 aa] (fun rs=>rs=[C26 [aa],F2 0]):=by
 have hs0:=E78 [] (by decide)
 have hs1:=E78 aa (by decide)
 have hid:=F43 [[],[aa]] (by decide) (by decide)
 have hwk:=H13 [] [0] (by decide) (by decide)
 have hba:=I55 aa (by decide)
 rw [H16] at hs0
 rw [I78] at hs1
 rw [ids_aa] at hid
 rw [walk_aa] at hwk
 rw [bare_aa] at hba
 have hv0:([[],[0]]:List (List Int))[(0:Int).toNat]?=some []:=rfl
 have hv1:([[],[0]]:List (List Int))[(1:Int).toNat]?=some [0]:=rfl
 refine FnOk.intro Tryz.func31 (by decide) V V V V ?_
 refine k2 (A2 (A5 (o6 V V V) V (A6 V V (A6 V V (A4 ?_)))));refine k1 (k2 (A2 (A3 V V (D3 (hs0) V V V ?_))));rintro _ rfl;refine A3 V V (H6 V V V (H6 V V V (A6 V V (A6 V V (A4 ?_)))));refine k1 (k2 (k2 (A2 (A3 V V (A5 (Q8 V V) V (A4 ?_))))));refine k1 ?_;refine B0 rfl (fun ht=>?_) (fun ht=>?_)
 ·cases ht
 refine k5 (k1 (k2 (A2 (A3 V V (D3 (hs1) V V V ?_)))));rintro _ rfl;refine A3 V V (H6 V V V (H6 V V V (A6 V V (A6 V V (A4 ?_)))));refine k1 (k2 (k2 (A2 (A3 V V (A5 (Q8 V V) V (A4 ?_))))));refine k1 ?_;refine B0 rfl (fun ht=>?_) (fun ht=>?_)
 ·cases ht
 refine k5 (k1 (k2 (A2 (A3 V V (A3 V V (A5 (C3 (c:=strsC) (ys:=[[],[aa]]) (D4 V V V V (D4 V V V V F9)) V V V) V (D3 (hid) V V V ?_)))))));rintro _ rfl;refine A6 V V (A4 ?_);refine k1 (k2 (E6 (by kernel_rfl) (by kernel_rfl) (E5 V V (B5 (A9 V (.pure _ _ _ _) V (by omega) hv0) V V (B5 (A8 V V) V V (E5 V V (B5 (A9 V (.pure _ _ _ _) V (by omega) hv1) V V (B5 (A8 V V) V V (B5 (N4 (hwk) V V) V V (E5 V V (B5 (R2 V V) V V (B5 (R2 V V) V V (B5 (I3 V V) V V (B5 (I3 V V) V V (P0 ?_)))))))))))))));refine k1 (k2 (A2 (C9 (Q4 14 _ Q0 V) V (A4 ?_))));refine k1 (k2 (k2 (A2 (A3 V V (E0 V V (A3 V V (A4 ?_)))))));refine k1 (k3 ?_)
 obtain ⟨L,hL⟩:∃L:List Change,L=[⟨0,0,0,1⟩]:=⟨_,rfl⟩
 have hLl:L.length=1:=by rw [hL];rfl
 rw [←hL]
 refine C5 (X:=Nat) (fun i=>([(3,.s (.one (.eref Unit 2 (fun _ j=>[Cell.list AL.State 7 Z1 auto5.States,Cell.v (.int .i64 auto5.Start)].getD j (.v undef)) () 0))),(8,C6 Str 1 Q0 []),(10,C6 Str 1 Q0 [aa]),(14,.s (.one (.buf 14 Str 1 Q0 (outM i)))),(51,.s (pChanges L).s1),(52,C0 L.length),(53,C0 i)],[(14,.spare (outM i).length 1 9)])) (fun i=>i≤1) (fun i=>1 - i) 0 (Nat.zero_le _) (I90 ⟨le1 rfl,le1 rfl,le1 rfl,le1 rfl,le1 rfl,le1 rfl,le1 rfl,trivial⟩ ⟨rfl,trivial⟩) ?_
 intro i hi
 dsimp only at hi ⊢
 refine k2 (A2 (E8 V V V (A4 ?_)));refine k1 (k2 ?_);refine B0 rfl (fun ht=>?_) (fun ht=>?_)
 rotate_left
 ·have hi1:i=1:=by have:=A1 ht;omega
  subst hi1
  refine k6 (k2 (A2 (A3 V V (A6 V V (A6 V V (A4 ?_))))));refine k1 (k10 ?_)
  exact B6 (rs:=[C26 [aa],F2 0]) (X8 rfl rfl rfl rfl rfl) rfl
 have hi0:i=0:=by have:=A0 ht;omega
 subst hi0
 have hv:L[0]?=some ⟨0,0,0,1⟩:=by rw [hL];rfl
 refine k5 (k1 (k2 (k3 (k2 (A2 (A5 (A9 V (.pure _ _ _ _) V (by omega) hv) V (A5 (D7 V V) V (C9 (J4 16 V) V (G8 (C1 TySz.out V V V V V V) (A4 ?_))))))))));refine k1 (k2 (E6 (by kernel_rfl) (by kernel_rfl) (E5 V V (B5 (A7 V) V V (B5 (C4 V V V) V V (B5 (A7 V) V V (B5 (C4 V V V) V V (B5 (A7 V) V V (B5 (C4 V V V) V V (B5 (Z9 V V (by (first | omega | decide))) V V (B5 (D54 V (.pure _ _ _ _) V V (by (first | omega | decide)) (by (first | omega | decide)) (by (first | omega | decide))) V V (E5 V V (B5 (A7 V) V V (B5 (C4 V V V) V V (B5 (A7 V) V V (B5 (C4 V V V) V V (B5 (A7 V) V V (B5 (C4 V V V) V V (B5 (Z9 V V (by (first | omega | decide))) V V (B5 (D54 V (.pure _ _ _ _) V V (by (first | omega | decide)) (by (first | omega | decide)) (by (first | omega | decide))) V V (B5 (C3 (c:=strsC) (ys:=[[],[aa]]) (D4 V V V V (D4 V V V V F9)) V V V) V V (B5 (N4 (F42 [[],[aa]] (by decide) (by decide)) V V) V V (B5 (X7 V (.pure _ _ _ _)) V V ?_)))))))))))))))))))))));refine E5 V V (P0 ?_);refine k1 (k3 ?_)
 obtain ⟨M,hM⟩:∃M:List Str,M=[aa]:=⟨_,rfl⟩
 have hMl:M.length=1:=by rw [hM];rfl
 have hfl:([[],[aa]]:List (List Str)).flatten=M:=by rw [hM];rfl
 rw [hfl]
 refine C5 (X:=Nat) (fun j=>([(3,.s (.one (.eref Unit 2 (fun _ j=>[Cell.list AL.State 7 Z1 auto5.States,Cell.v (.int .i64 auto5.Start)].getD j (.v undef)) () 0))),(8,C6 Str 1 Q0 []),(10,C6 Str 1 Q0 [aa]),(14,.s (.one (.buf 14 Str 1 Q0 (outM j)))),(51,.s (pChanges L).s1),(52,C0 L.length),(53,C0 0),(76,C6 Str 1 Q0 M),(77,C0 M.length),(78,C0 j)],[(14,.spare (outM j).length 1 9)])) (fun j=>j≤1) (fun j=>1 - j) 0 (Nat.zero_le _) (I90 ⟨le1 rfl,le1 rfl,le1 rfl,le1 rfl,le1 rfl,le1 rfl,le1 rfl,le1 rfl,le1 rfl,le1 rfl,trivial⟩ ⟨rfl,trivial⟩) ?_
 intro j hj
 dsimp only at hj ⊢
 refine k2 (A2 (E8 V V V (A4 ?_)));refine k1 (k2 ?_);refine B0 rfl (fun ht=>?_) (fun ht=>?_)
 rotate_left
 ·have hj1:j=1:=by have:=A1 ht;omega
  subst hj1
  refine k6 (k7 (k7 (k8 V (k4 (k1 (A2 (D2 V V V (A3 V V (A4 ?_)))))))));refine k1 ?_
  exact ⟨1,by decide,by decide,I90 ⟨le1 rfl,le1 rfl,le1 rfl,le1 rfl,le1 rfl,le1 rfl,le1 rfl,trivial⟩ ⟨rfl,trivial⟩⟩
 have hj0:j=0:=by have:=A0 ht;omega
 subst hj0
 have hvm:M[0]?=some aa:=by rw [hM];rfl
 refine k5 (k1 (k2 (k3 (k2 (A2 (A5 (A9 V (.pure _ _ _ _) V (by omega) hvm) V (A5 (A8 V V) V (A6 V V (A4 ?_)))))))));refine k1 (k2 (E6 (by kernel_rfl) (by kernel_rfl) (B5 (D7 V V) V V (E5 V V (B5 (N4 (hba) V V) V V (B5 (N4 (any_ok) V V) V V (E5 V V (B5 (R2 V V) V V (B5 (R2 V V) V V (B5 (I3 V V) V V (B5 (I3 V V) V V (P0 ?_))))))))))));refine k1 (k2 (A2 (A3 V V (A4 ?_))));refine k1 ?_;refine B0 rfl (fun ht=>?_) (fun ht=>?_)
 rotate_left
 ·cases ht
 skip
 refine A2 (A3 V V (A3 V V (D3 (hba) V V V ?_)));rintro _ rfl;refine A5 (C3 (c:=Q0) (ys:=[aa]) (D4 V V V V F9) V V V) V (C9 (I9 V V V (.pure _ _ _ _) (by (simp only [outM,J19,J22];omega)) V) V (A6 V V (A4 ?_)));refine k4 (k1 (A2 (D2 V V V (A3 V V (A4 ?_)))));refine k1 ?_
 exact ⟨1,by decide,by decide,I90 ⟨le1 rfl,le1 rfl,le1 rfl,le1 rfl,le1 rfl,le1 rfl,le1 rfl,le1 rfl,le1 rfl,le1 rfl,trivial⟩ ⟨rfl,trivial⟩⟩
abbrev autoE:Unit→Nat→Cell:=fun _ j=>[Cell.list AL.State 7 Z1 auto5.States,Cell.v (.int .i64 auto5.Start)].getD j (.v undef)
theorem H17:AL.Met Tryz.prog 30 [G16 ([],aa),.one (.eref Unit 2 autoE () 0)] [] [] [] (fun rs ob'=>rs=[B07 true]∧ob'=[]):=by
 refine AL.Met.intro Tryz.func30 (by decide) V V V ?_
 refine k2 (A2 (C9 (x4 2 V V V) V (A6 V V (A4 ?_))));refine k1 (k2 (A2 (A5 (D7 V V) V (A5 (K6 V V (by first | omega | decide) (by omega)) V (G4 V V V V (A5 (K6 V V (by first | omega | decide) (by omega)) V (G4 V V V V (D3 (G26) V V V ?_))))))));rintro _ rfl;refine A3 V V (H6 V V V (H6 V V V (A6 V V (A6 V V (A4 ?_)))));refine k1 (k2 (A2 (A3 V V (E0 V V (A5 (M5 V V) V (A6 V V (A4 ?_)))))));refine k1 (k10 ?_)
 exact G5 (K4 rfl rfl) (by repeat (first | exact B2 | refine B3 rfl ?_ | refine D1 _ ?_)) (ObIn.spec (ob':=[]) trivial) ⟨rfl,rfl⟩
set_option maxHeartbeats 2000000
theorem C85 (a:List Int) (ha:a.length≤1099511627776):FnOk Tryz.prog 19 [I5 a,I5 a] (fun rs=>rs=[H5 true]):=by
 refine FnOk.intro Tryz.func19 (by decide) V V V V ?_
 refine k2 (A2 (A6 V V (A4 ?_)));refine k1 (k2 (k2 (A2 (A3 V V (E0 V V (A3 V V (E0 V V (A5 (Q8 V V) V (A4 ?_)))))))));refine k1 ?_;refine B0 rfl (fun ht=>?_) (fun ht=>?_)
 ·exact absurd rfl (A0 ht)
 refine k5 (k1 (k2 (k2 (A2 (A6 V V (A4 ?_))))));refine k1 (k3 (C5 (X:=Nat) (fun i=>([(0,C6 Int 1 E3 a),(1,C6 Int 1 E3 a),(5,C0 i)],[])) (fun i=>i≤a.length) (fun i=>a.length - i) 0 (Nat.zero_le _) (I90 ⟨le1 rfl,le1 rfl,le1 rfl,trivial⟩ trivial) ?_))
 intro i hi
 dsimp only at hi ⊢
 refine k2 (k2 (A2 (A3 V V (A3 V V (E0 V V (E8 V V V (A4 ?_)))))));refine k1 ?_;refine B0 rfl (fun ht=>?_) (fun ht=>?_)
 ·have hlt:i < a.length:=by have:=A0 ht;omega
  have hv:=getI hlt
  refine k5 (k1 (k2 (k3 (k2 (E6 (by kernel_rfl) (by kernel_rfl) (E5 V V (E5 V V (B5 (A9 V (.pure _ _ _ _) V (by omega) hv) V V (B5 (A8 V V) V V (E5 V V (E5 V V (B5 (A9 V (.pure _ _ _ _) V (by omega) hv) V V (B5 (A8 V V) V V (B5 (Q8 V V) V V (P0 ?_)))))))))))))));refine k1 ?_;refine B0 rfl (fun ht=>?_) (fun ht=>?_)
  ·exact absurd rfl (A0 ht)
  refine k5 (k4 (k1 (A2 (A3 V V (D2 V V V (A6 V V (A4 ?_)))))));refine k1 ?_
  exact ⟨i+1,by omega,by omega,I90 ⟨le1 rfl,le1 rfl,le1 rfl,trivial⟩ trivial⟩
 ·refine k6 (k2 (A2 (A6 V V (A4 ?_))));refine k1 (k10 ?_)
  exact B6 (rs:=[H5 true]) (G7 rfl rfl rfl) rfl
abbrev needles:List Str:=[[97],[98],[97,98],[97,10],[10],[97,97],[122],[97,10,98]]
theorem needle8 (i:Int) (h:0≤i∧i < 8):∃nm:Str,needles[i.toNat]?=some nm∧(0 < nm.length∧nm.length≤3):=by
 obtain ⟨k,rfl⟩:∃k:Nat,i=(k:Int):=⟨i.toNat,by omega⟩
 rw [J17]
 have hk:k < 8:=by omega
 match k,hk with
 | 0,_=>exact ⟨_,rfl,by decide⟩
 | 1,_=>exact ⟨_,rfl,by decide⟩
 | 2,_=>exact ⟨_,rfl,by decide⟩
 | 3,_=>exact ⟨_,rfl,by decide⟩
 | 4,_=>exact ⟨_,rfl,by decide⟩
 | 5,_=>exact ⟨_,rfl,by decide⟩
 | 6,_=>exact ⟨_,rfl,by decide⟩
 | 7,_=>exact ⟨_,rfl,by decide⟩
theorem I25 (raw:List Int):FnOk Tryz.prog 7 [I5 raw] (fun rs=>∃nm:Str,rs=[M3 nm]∧(0 < nm.length∧nm.length≤3)):=by
 obtain ⟨i,hi⟩:∃i,i=Y2 (Y3 raw 901) 8:=⟨_,rfl⟩
 have hir:=a8 (Y3 raw 901) (n:=8) (by omega)
 have hmod:=B28 (Y3 raw 901) 8 (by omega) (by omega)
 rw [←hi] at hir hmod
 obtain ⟨nm,hv,hl⟩:=needle8 i hir
 refine FnOk.intro Tryz.func7 (by decide) V V V V ?_
 refine k2 (A2 (A6 V V (A4 ?_)));refine k1 (k2 (A2 (A5 (C3 (c:=Q0) (ys:=needles) (D4 V V V V (D4 V V V V (D4 V V V V (D4 V V V V (D4 V V V V (D4 V V V V (D4 V V V V (D4 V V V V F9)))))))) V V V) V (A3 V V (D3 (A10 raw 901 (by omega) (by omega)) V V V ?_)))));rintro _ rfl;refine D3 (hmod) V V V ?_;rintro _ rfl;refine A5 (A9 V (.pure _ _ _ _) V (by omega) hv) V (A5 (A8 V V) V (A6 V V (A4 ?_)));refine k1 (k10 ?_)
 exact B6 (rs:=[M3 nm]) (G7 rfl rfl rfl) ⟨nm,rfl,hl⟩
abbrev g0:Graph:=[⟨[],0,[⟨[120],[97,97]⟩]⟩]
theorem g0_gg:GG 64 g0:=⟨by decide,fun c hc=>by rw [List.mem_singleton.1 hc];exact ⟨by decide,fun p hp=>by cases hp⟩,fun c hc=>by rw [List.mem_singleton.1 hc];exact ⟨by decide,fun f hf=>by rw [List.mem_singleton.1 hf];exact ⟨by decide,by decide⟩⟩⟩
theorem I79:(O7 g0 0).flatten=[([],aa)]:=by kernel_rfl
theorem I26:W8 (fun _=>true) g0 0=([0],0):=by kernel_rfl
theorem H18:FnOk Tryz.prog 17 [I7 g0,F2 0,M3 [94,97,43,36]] (fun rs=>rs=[I5 [0],F2 0]):=by
 have hF:=D14 g0 0 30 Unit 2 autoE () (fun _=>true) (g0_gg.few (by decide)) g0_gg.short (fun _ c hc x hx=>by
  have hc0:c=0:=Nat.lt_one_iff.1 hc
  subst hc0
  rw [I79] at hx
  rw [List.mem_singleton.1 hx]
  exact H17)
 rw [I26] at hF
 refine FnOk.intro Tryz.func17 (by decide) V V V V ?_
 refine k2 (A2 (A5 (I0 _ 1 E3) V (A6 V V (A4 ?_))));refine k1 (k2 (A2 (A3 V V (D3 (G21) V V V ?_))));rintro _ rfl;refine A3 V V (H6 V V V (H6 V V V (C9 (J4 8 V) V (G8 (C1 TySz.out V V V V V V) (A6 V V (A4 ?_))))));refine k1 (k2 (k2 (A2 (A3 V V (A5 (Q8 V V) V (A4 ?_))))));refine k1 ?_;refine B0 rfl (fun ht=>?_) (fun ht=>?_)
 ·cases ht
 refine k5 (k1 (k2 (D8 (J12 (t:=8) (k:=8) (cs:=[Cell.list AL.State 7 Z1 auto5.States,Cell.v (.int .i64 auto5.Start)]) V V V V) ?_)))
 refine A2 (A3 V V (A3 V V (A5 (D05 V) V (B26 (hF) V V V V ?_))));rintro _ _ ⟨rfl,rfl⟩;refine ⟨rfl,?_⟩;refine H6 V V V (H6 V V V (A6 V V (A6 V V (A4 ?_))));refine k1 (k10 ?_)
 exact B6 (rs:=[I5 [0],F2 0]) (X8 rfl rfl rfl rfl rfl) rfl
theorem lit0:Z5 g0 0 [97]=([0],0):=by kernel_rfl
theorem cnt0:p6 g0 0 [97]=([2],0):=by kernel_rfl
theorem E08:FnOk Tryz.prog 5 [] (fun rs=>rs=[H5 true]):=by
 have hL:=D15 g0 0 [97] (g0_gg.few (by decide)) g0_gg.short (by decide)
 have hC:=G90 g0 0 [97] (g0_gg.few (by decide)) g0_gg.short (by decide)
 rw [lit0] at hL
 rw [cnt0] at hC
 refine FnOk.intro Tryz.func5 (by decide) V V V V ?_
 refine k2 (A2 (A6 V V (A4 ?_)));refine k1 (k2 (A2 (A5 (K1 V) V (A5 (C3 (c:=R9) (ys:=[(⟨[120],[97,97]⟩:File)]) (D4 V V V V F9) V V V) V (A5 (K1 V) V (F11 ((J00 Int 1 E3 10 0 V V)) (A5 (C3 (c:=G1) (ys:=g0) (D4 V V V V F9) V V V) V (A6 V V (A4 ?_)))))))));refine k1 (k2 (A2 (A3 V V (D3 (hL) V V V ?_))));rintro _ rfl;refine A3 V V (H6 V V V (H6 V V V (A6 V V (A6 V V (A4 ?_)))));refine k1 (k2 (A2 (A3 V V (D3 (H18) V V V ?_))));rintro _ rfl;refine A3 V V (H6 V V V (H6 V V V (A6 V V (A6 V V (A4 ?_)))));refine k1 (k2 (A2 (A3 V V (D3 (hC) V V V ?_))));rintro _ rfl;refine A3 V V (H6 V V V (H6 V V V (A6 V V (A6 V V (A4 ?_)))));refine k1 (k2 (A2 (A3 V V (A5 (F7 V V) V (A3 V V (H0 V V V V (A3 V V (H0 V V V V (A5 (F7 V V) V (A5 (Y1 V (rfl) V) V (A3 V V (H0 V V V V (A3 V V (H0 V V V V (A5 (F7 V V) V (A5 (Y1 V (rfl) V) V (A3 V V (H0 V V V V (A3 V V (H0 V V V V (A5 (C3 (c:=E3) (ys:=[(0:Int)]) (D4 V V V V F9) V V V) V (H0 V V V V (D3 (C85 [0] (by decide)) V V V ?_)))))))))))))))))))))));rintro _ rfl;refine A5 (Y1 V (rfl) V) V (A3 V V (H0 V V V V (A3 V V (H0 V V V V (A5 (C3 (c:=E3) (ys:=[(0:Int)]) (D4 V V V V F9) V V V) V (H0 V V V V (D3 (C85 [0] (by decide)) V V V ?_)))))));rintro _ rfl;refine A5 (Y1 V (rfl) V) V (A3 V V (H0 V V V V (A3 V V (H0 V V V V (A5 (C3 (c:=E3) (ys:=[(2:Int)]) (D4 V V V V F9) V V V) V (H0 V V V V (D3 (C85 [2] (by decide)) V V V ?_)))))));rintro _ rfl;refine A5 (Y1 V (rfl) V) V (A6 V V (A4 ?_));refine k1 (k10 ?_)
 exact B6 (rs:=[H5 true]) (G7 rfl rfl rfl) rfl
end Go.Proofs.YtgppobpengmbkaaGreatDoor
