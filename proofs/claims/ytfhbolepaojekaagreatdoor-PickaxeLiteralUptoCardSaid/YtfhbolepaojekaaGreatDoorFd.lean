/- Walks of the program's functions. -/
import Derived.Test.YtfhbolepaojekaaGreatDoorFc
import Derived.Test.YtfhbolepaojekaaGreatDoorFa
import Derived.Test.YtfhbolepaojekaaGreatDoorFs
import Derived.Test.YtfhbolepaojekaaGreatDoorAn
set_option linter.unusedSimpArgs false
namespace Go.Proofs.YtfhbolepaojekaaGreatDoor
open Go Go.AL
set_option maxRecDepth 100000
set_option maxHeartbeats 1000000
abbrev A52:Ob:=.box [.p (.list AL.Node 8 B17 nodes5),.p (.list Int 1 E3 wt5),.mut 821]
abbrev d7 (l:List AL.State):Ob:=.grow 154 AL.State 7 Z8 l
abbrev A75:S1:=.one (.ref 820 0)
theorem B42 {gf:Fr} {ob:Obs} (l:List AL.State) (q:AL.State) (hl:l.length≤1000) (h0:B9 ob 820=some A52) (h1:B9 ob 821=some (d7 l)) :
  AL.Met Tryz.prog 96 [A75,(H35 q).s1] gf ob [821] (fun rs ob'=>rs=[N2 l.length]∧ob'=(820,A52)::(821,d7 (l++[q]))::Obs.forget 821 ob):=by
 refine AL.Met.introH Tryz.func96 (by decide) rfl rfl rfl (fun hH=>?_)
 refine E2 (I91 821 (l:=[(0,.s A75),(1,.s (H35 q).s1)]) (L:=[(820,_),(821,_)]) ⟨le1 rfl,le1 rfl,trivial⟩ hH (by repeat (first | exact B2 | refine B3 rfl ?_)) ⟨h0,h1,trivial⟩) ?_
 refine k2 (A2 (A5 (q8 V V V) V (A6 V V (A4 ?_))));refine k1 (k2 ?_);refine E2 (I90 (gf':=Fr.forget 821 gf) (l:=[(0,.s A75),(3,.s (.one (.eref Unit 7 (fun _ j=>(cellsOf Z8 q 0 7).getD j (.v undef)) () 0)))]) (ob':=[(820,A52),(821,d7 l)]++Obs.forget 821 ob) ⟨le1 rfl,le1 rfl,trivial⟩ (A25 hH) (by repeat (first | exact B2 | refine B3 rfl ?_)) (fun _ _ h=>h)) ?_
 refine O2 [10,7] [[],[7],[10,7]] [(7,([821],[9])),(10,([],[]))] [(0,[]),(1,[]),(2,[]),(3,[]),(4,[]),(5,[]),(6,[]),(7,[]),(8,[7]),(9,[7]),(10,[7])] [(0,[7])] (by kernel_rfl) (by kernel_rfl) (E4 V V (by kernel_rfl) V V (B7 V V) (E4 V V (by kernel_rfl) V V (B7 V V) (E4 V V (by kernel_rfl) V V (B4 V) (E4 V V (by kernel_rfl) V V (A9 V) (E4 V V (by kernel_rfl) V V (C4 V V V) (E4 V V (by kernel_rfl) V V (E0 V V) (E4 V V (by kernel_rfl) V V (C1 (c:=Z8) (ys:=[q]) (D2 V V V V F1) V V V) (X8 V V (by kernel_rfl) V V (C86 (fun frc hU=>T0 (S6 hU V) V (S6 hU V) (.pure _ _ _ _) (by (simp only [J17,J21];omega)) V)) V (E4 V V (by kernel_rfl) V V (B4 V) (E4 V V (by kernel_rfl) V V (A9 V) (X8 V V (by kernel_rfl) V V (A27 (fun frc hU=>C2 TySz.out (S6 hU V) V (S6 hU V) V V V)) V ?_)))))))))));refine C87 (ks:=[821]) rfl (by kernel_rfl) rfl ?_ ?_
 ·refine M6 V V (by kernel_rfl) V V (B7 V V) ?_;exact B31
 refine k1 (k2 (A2 (A3 V V (A5 (B4 V) V (A5 (A9 V) V (G4 V V V V (A5 (X0 V V) V (A5 (K9 V V (by (simp only [J19,List.length_singleton];omega))) V (A6 V V (A4 ?_))))))))));refine k1 (k10 ?_);refine G5 (K6 rfl rfl) (by repeat (first | exact B2 | refine tail_drop rfl ?_ | refine B3 rfl ?_ | refine J9 _ ?_ | refine D5 _ ?_)) (E5 (L:=[(820,_),(821,_)]) ⟨rfl,rfl,trivial⟩ (by repeat (first | exact D6 | refine D7 rfl ?_ | refine Q6 _ ?_))) ⟨?_,rfl⟩
 rw [J19,List.length_singleton]
 congr 5
 omega
theorem F5 {K:List Nat} {T rest:Obs} {k:Nat} {o:Ob} (hn:B9 rest k=none) (h:∀j x,M4 K j=false→B9 rest j=some x→B9 T j=some x):∀j x,M4 K j=false→B9 rest j=some x→B9 ((k,o)::T) j=some x:=by
 intro j x hj hx
 have:k≠j:=fun e=>by rw [e,hx] at hn;cases hn
 rw [C3 this];exact h j x hj hx
def G3 (ks:List Nat) (ob:Obs):Obs:=ks.foldl (fun f k=>Obs.forget k f) ob
theorem M7 {k:Nat}:∀{ks:List Nat} {ob:Obs},B9 ob k=none→B9 (G3 ks ob) k=none
 | [],_,h=>h
 | q::ks,ob,h=>M7 (ks:=ks) (ob:=Obs.forget q ob) (by rw [J7,h];rfl)
theorem C49 (k:Nat):∀(ks:List Nat) (ob:Obs),G3 ks (Obs.forget k ob)=Obs.forget k (G3 ks ob)
 | [],_=>rfl
 | q::ks,ob=>by
  show G3 ks (Obs.forget q (Obs.forget k ob))=Obs.forget k (G3 ks (Obs.forget q ob))
  rw [B14 q k,C49 k ks]
theorem A53 {k:Nat}:∀{ks:List Nat} {ob:Obs},M4 ks k=true→Obs.forget k (G3 ks ob)=G3 ks ob
 | [],ob,h=>by cases h
 | q::ks,ob,h=>by
  show Obs.forget k (G3 ks (Obs.forget q ob))=G3 ks (Obs.forget q ob)
  by_cases hq:k=q
  ·subst hq;rw [C49,Obs.forget_idem]
  ·have h2:M4 ks k=true:=by
    rw [hasN_iff] at h ⊢
    rcases List.mem_cons.1 h with h | h
    ·exact absurd h hq
    ·exact h
   exact A53 h2
theorem Q8 {K ks:List Nat} {T ob:Obs} (k:Nat) (hk:M4 ks k=true) (h:∀j x,M4 K j=false→B9 (G3 ks ob) j=some x→B9 T j=some x) :
  ∀j x,M4 K j=false→B9 (G3 ks ob) j=some x→B9 (Obs.forget k T) j=some x:=by
 intro j x hj hx
 rw [←A53 hk,J7] at hx
 rw [J7]
 cases hr:B9 (G3 ks ob) j with
 | none=>rw [hr] at hx;cases hx
 | some y=>rw [hr] at hx;rw [h j y hj hr];exact hx
def E06 (n:AL.Node) (next:Int):AL.State:=if n.Kind=1 then ⟨0,n.Set,next,0⟩ else ⟨n.Kind,⟨0,0,0,0⟩,next,0⟩
theorem C50 {gf:Fr} {ob:Obs} (i:Nat) (n:AL.Node) (next:Int) (l:List AL.State) (hv:nodes5[i]?=some n) (hK:n.Kind=1∨n.Kind=2∨n.Kind=3) (hl:l.length≤1000) (h0:B9 ob 820=some A52) (h1:B9 ob 821=some (d7 l)) (h2:B9 ob 824=none) :
  AL.Met Tryz.prog 97 [A75,N2 i,N2 next] gf ob [821,824,825] (fun rs ob'=>rs=[N2 l.length]∧ob'=(820,A52)::(821,d7 (l++[E06 n next]))::G3 [821,824,825] ob):=by
 obtain ⟨wv,hw,hw0⟩:∃wv,wt5[i]?=some wv∧wv≠0:=by
  match i,hv with
  | 0,_=>exact ⟨_,rfl,by decide⟩
  | 1,_=>exact ⟨_,rfl,by decide⟩
  | 2,_=>exact ⟨_,rfl,by decide⟩
  | 3,_=>exact ⟨_,rfl,by decide⟩
  | 4,_=>exact ⟨_,rfl,by decide⟩
  | i+5,h=>simp at h
 refine AL.Met.introH Tryz.func97 (by decide) rfl rfl rfl (fun hH=>?_)
 refine E2 (I91 821 (l:=[(0,.s A75),(1,.s (N2 i)),(2,.s (N2 next))]) (L:=[(820,_),(821,_)]) ⟨le1 rfl,le1 rfl,le1 rfl,trivial⟩ hH (by repeat (first | exact B2 | refine B3 rfl ?_)) ⟨h0,h1,trivial⟩) ?_
 refine E2 (Sees.forget 824) ?_
 refine E2 (Sees.forget 825) ?_
 refine E2 (I90 (gf':=D3 [821,824,825] gf) (l:=[(0,.s A75),(1,.s (N2 i)),(2,.s (N2 next))]) (ob':=[(820,A52),(821,d7 l)]++G3 [821,824,825] ob) ⟨le1 rfl,le1 rfl,le1 rfl,trivial⟩ (F0 hH) (by repeat (first | exact B2 | refine tail_drop rfl ?_ | refine B3 rfl ?_ | refine H3 _ rfl ?_)) (E5 (L:=[(820,_),(821,_)]) ⟨rfl,rfl,trivial⟩ (by repeat (first | exact D6 | refine D7 rfl ?_)))) ?_
 have hf3:B9 (G3 [821,824,825] ob) 824=none:=M7 h2
 refine k2 (A2 (A6 V V (A4 ?_)));refine k1 (k2 (k2 (A2 (A3 V V (A5 (B4 V) V (A5 (A9 V) V (G4 V V V V (A3 V V (A5 (A8 V (.pure _ _ _ _) V (by omega) hw) V (A5 (A7 V V) V (A5 (F8 V V) V (A4 ?_))))))))))));refine k1 ?_;refine B0 rfl (fun ht=>?_) (fun ht=>?_)
 ·exact absurd (A0 ht) hw0
 refine k5 (k1 (k2 (A2 (A3 V V (A5 (B4 V) V (A5 (A9 V) V (G4 V V V V (A3 V V (A5 (A8 V (.pure _ _ _ _) V (by omega) hv) V (A5 (E0 V V) V (C6 (A84 824 hf3 (by decide)) V (H1 (C2 TySz.out V V V V V V) (A4 ?_)))))))))))));refine k1 (k2 (k2 (A2 (A5 (A9 V) V (G4 V V V V (A4 ?_))))));refine k1 (k3 (k2 (A2 (A5 (F8 V V) V (A6 V V (A4 ?_))))));refine k1 ?_;refine B0 rfl (fun ht=>?_) (fun ht=>?_)
 ·have hK1:n.Kind=1:=A0 ht
  have hq:E06 n next=⟨0,n.Set,next,0⟩:=by unfold E06;rw [if_pos hK1]
  rw [hq]
  refine k2 (A2 (A3 V V (A5 (A9 V) V (A5 (P8 V V V) V (A3 V V (A5 (J3 V) V (L1 (B42 l ⟨0,n.Set,next,0⟩ hl V V) V V V ?_)))))));rintro _ _ ⟨rfl,rfl⟩;refine A6 V V (A4 ?_);refine k1 (k10 (k12 (k11 ?_)))
  exact G5 (K6 rfl rfl) (by repeat (first | exact B2 | refine tail_drop rfl ?_ | refine B3 rfl ?_ | refine H3 _ rfl ?_)) (E5 (L:=[(820,_),(821,_)]) ⟨rfl,rfl,trivial⟩ (by repeat (first | exact D6 | refine D7 rfl ?_ | refine F5 hf3 ?_ | refine Q8 _ rfl ?_))) ⟨rfl,rfl⟩
 have hK1:¬n.Kind=1:=A1 ht
 refine k2 (A2 (A5 (F8 V V) V (A6 V V (A4 ?_))));refine k1 ?_;refine B0 rfl (fun ht=>?_) (fun ht=>?_)
 ·have hK2:n.Kind=2:=A0 ht
  have hq:E06 n next=⟨2,⟨0,0,0,0⟩,next,0⟩:=by unfold E06;rw [if_neg hK1,hK2]
  rw [hq]
  refine k2 (A2 (A3 V V (A3 V V (A5 (J3 V) V (L1 (B42 l ⟨2,⟨0,0,0,0⟩,next,0⟩ hl V V) V V V ?_)))));rintro _ _ ⟨rfl,rfl⟩;refine A6 V V (A4 ?_);refine k1 (k10 (k12 (k11 ?_)))
  exact G5 (K6 rfl rfl) (by repeat (first | exact B2 | refine tail_drop rfl ?_ | refine B3 rfl ?_ | refine H3 _ rfl ?_)) (E5 (L:=[(820,_),(821,_)]) ⟨rfl,rfl,trivial⟩ (by repeat (first | exact D6 | refine D7 rfl ?_ | refine F5 hf3 ?_ | refine Q8 _ rfl ?_))) ⟨rfl,rfl⟩
 have hK2:¬n.Kind=2:=A1 ht
 refine k2 (A2 (A5 (F8 V V) V (A6 V V (A4 ?_))));refine k1 ?_;refine B0 rfl (fun ht=>?_) (fun ht=>?_)
 ·have hK3:n.Kind=3:=A0 ht
  have hq:E06 n next=⟨3,⟨0,0,0,0⟩,next,0⟩:=by unfold E06;rw [if_neg hK1,hK3]
  rw [hq]
  refine k2 (A2 (A3 V V (A3 V V (A5 (J3 V) V (L1 (B42 l ⟨3,⟨0,0,0,0⟩,next,0⟩ hl V V) V V V ?_)))));rintro _ _ ⟨rfl,rfl⟩;refine A6 V V (A4 ?_);refine k1 (k10 (k12 (k11 ?_)))
  exact G5 (K6 rfl rfl) (by repeat (first | exact B2 | refine tail_drop rfl ?_ | refine B3 rfl ?_ | refine H3 _ rfl ?_)) (E5 (L:=[(820,_),(821,_)]) ⟨rfl,rfl,trivial⟩ (by repeat (first | exact D6 | refine D7 rfl ?_ | refine F5 hf3 ?_ | refine Q8 _ rfl ?_))) ⟨rfl,rfl⟩
 ·have hK3:¬n.Kind=3:=A1 ht
  rcases hK with h | h | h
  ·exact absurd h hK1
  ·exact absurd h hK2
  ·exact absurd h hK3
abbrev y6:AL.State:=⟨4,⟨0,0,0,0⟩,0,0⟩
abbrev A94:AL.State:=⟨3,⟨0,0,0,0⟩,0,0⟩
abbrev A54:AL.State:=⟨0,⟨0,8589934592,0,0⟩,2,0⟩
abbrev qSp0:AL.State:=⟨1,⟨0,0,0,0⟩,0,1⟩
abbrev qSp:AL.State:=⟨1,⟨0,0,0,0⟩,3,1⟩
abbrev qSta:AL.State:=⟨2,⟨0,0,0,0⟩,4,0⟩
def repS:Nat→List AL.State
 | 0=>[y6,A94,qSp,A54]
 | _=>[y6,A94,qSp,A54,A54]
def repN:Nat→Int
 | 0=>2
 | _=>4
theorem H06 {gf:Fr} {ob:Obs} (h0:B9 ob 820=some A52) (h1:B9 ob 821=some (d7 [y6,A94])) (h2:B9 ob 824=none) :
  AL.Met Tryz.prog 126 [A75,(D38 ndR).s1,N2 1] gf ob [821,824,825] (fun rs ob'=>rs=[N2 4]∧ob'=(820,A52)::(821,d7 [y6,A94,qSp,A54,A54])::G3 [821,824,825] ob):=by
 refine AL.Met.introH Tryz.func126 (by decide) rfl rfl rfl (fun hH=>?_)
 refine E2 (I91 821 (l:=[(0,.s A75),(1,.s (D38 ndR).s1),(2,.s (N2 1))]) (L:=[(820,_),(821,_)]) ⟨le1 rfl,le1 rfl,le1 rfl,trivial⟩ hH (by repeat (first | exact B2 | refine B3 rfl ?_)) ⟨h0,h1,trivial⟩) ?_
 refine E2 (Sees.forget 824) ?_
 refine E2 (Sees.forget 825) ?_
 refine E2 (I90 (gf':=D3 [821,824,825] gf) (l:=[(0,.s A75),(1,.s (D38 ndR).s1),(2,.s (N2 1))]) (ob':=[(820,A52),(821,d7 [y6,A94])]++G3 [821,824,825] ob) ⟨le1 rfl,le1 rfl,le1 rfl,trivial⟩ (F0 hH) (by repeat (first | exact B2 | refine tail_drop rfl ?_ | refine B3 rfl ?_ | refine H3 _ rfl ?_)) (E5 (L:=[(820,_),(821,_)]) ⟨rfl,rfl,trivial⟩ (by repeat (first | exact D6 | refine D7 rfl ?_)))) ?_
 have hf3:B9 (G3 [821,824,825] ob) 824=none:=M7 h2
 have hv0:ndR.Kids[(0:Int).toNat]?=some 1:=rfl
 refine k2 (A2 (A5 (q8 V V V) V (A6 V V (A4 ?_))));refine k1 (k2 (A2 (A5 (B8 V) V (A5 (A7 V V) V (A5 (A8 V (.pure _ _ _ _) V (by omega) hv0) V (A5 (A7 V V) V (A6 V V (A4 ?_))))))));refine k1 (k2 (k2 (A2 (A5 (B8 V) V (A5 (A7 V V) V (E7 V V V (A4 ?_)))))));refine k1 ?_;refine B0 rfl (fun ht=>?_) (fun ht=>?_)
 rotate_left
 ·cases ht
 refine k2 (A2 (A3 V V (A3 V V (A5 (J3 V) V (L1 (B42 [y6,A94] qSp0 (by decide) V V) V V V ?_)))));rintro _ _ ⟨rfl,rfl⟩;refine A6 V V (A4 ?_);refine k1 (k2 ?_)
 have hf4:B9 (Obs.forget 821 (G3 [821,824,825] ob)) 824=none:=by rw [J7,hf3];rfl
 refine A2 (A3 V V (A3 V V (A3 V V (L1 (C50 1 ndA 2 [y6,A94,qSp0] V (.inl V) (by decide) V V hf4) V V V ?_))));rintro _ _ ⟨rfl,rfl⟩;refine A6 V V (A4 ?_);refine k1 (k2 ?_)
 have hv2:([y6,A94,qSp0,A54]:List AL.State)[(2:Int).toNat]?=some qSp0:=rfl
 refine E2 (I90 (gf':=D3 [821,824,825] gf) (l:=[(0,.s A75),(4,.s (.one (.eref Unit 8 (fun _ j=>(cellsOf B17 ndR 0 8).getD j (.v undef)) () 0))),(7,C0 1),(8,C0 2),(9,C0 3)]) (ob':=[(820,A52),(821,d7 [y6,A94,qSp0,A54])]++G3 [821,824,825] ob) ⟨le1 rfl,le1 rfl,le1 rfl,le1 rfl,le1 rfl,trivial⟩ (F0 hH) (by repeat (first | exact B2 | refine tail_drop rfl ?_ | refine B3 rfl ?_ | refine H3 _ rfl ?_)) (E5 (L:=[(820,_),(821,_)]) ⟨rfl,rfl,trivial⟩ (by repeat (first | exact D6 | refine D7 rfl ?_ | refine F5 hf3 ?_ | refine Q8 _ rfl ?_)))) ?_
 refine A2 (A3 V V (A5 (B4 V) V (A5 (A9 V) V (G4 V V V V (A3 V V (A3 V V (A5 (I2 V V V (by omega) (by (first | omega | decide))) V (A5 (F17 V) V (H1 (A68 (qSp) TySz.out V V hv2 V V V V (fun _ _ _ h=>A10 h) (by intro j h1 h2;rcases j with _ | _ | _ | _ | _ | _ | _ | j<;>first | rfl | omega)) ?_)))))))));refine A4 ?_;refine k1 (A2 (A3 V V (A6 V V (A4 ?_))));refine k1 (k2 (A2 (A3 V V (A6 V V (A4 ?_)))));refine k1 (k2 (k2 (A2 (A5 (B8 V) V (A5 (A7 V V) V (A5 (B8 V) V (A5 (A7 V V) V (A5 (K9 V V (by (dsimp only;omega))) V ?_))))))));refine A3 V V (A4 ?_);refine k1 (k3 ?_);refine C5 (X:=Nat) (fun _=>([(0,.s A75),(2,C0 2),(4,.s (.one (.eref Unit 8 (fun _ j=>(cellsOf B17 ndR 0 8).getD j (.v undef)) () 0))),(7,C0 1),(40,C0 (-2)),(41,C0 0)]++D3 [821,824,825] gf,[(820,A52),(821,d7 [y6,A94,qSp,A54])]++G3 [821,824,825] ob)) (fun _=>True) (fun i=>i) 0 trivial ?_ ?_
 ·exact I90 ⟨le1 rfl,le1 rfl,le1 rfl,le1 rfl,le1 rfl,le1 rfl,trivial⟩ (F0 hH) (by repeat (first | exact B2 | refine tail_drop rfl ?_ | refine B3 rfl ?_ | refine H3 _ rfl ?_)) (E5 (L:=[(820,_),(821,_)]) ⟨rfl,rfl,trivial⟩ (by repeat (first | exact D6 | refine D7 rfl ?_ | refine F5 hf3 ?_ | refine Q8 _ rfl ?_)))
 intro i _
 dsimp only
 refine k2 (A2 (E7 V V V (A4 ?_)));refine k1 (k2 ?_);refine B0 rfl (fun ht=>?_) (fun ht=>?_)
 ·cases ht
 refine k6 (k2 (k2 (A2 (A5 (B8 V) V (A5 (A7 V V) V (A3 V V (A4 ?_)))))));refine k1 (k3 ?_);refine C5 (X:=Nat) (fun i=>([(0,.s A75),(2,C0 (repN i)),(7,C0 1),(53,C0 1),(54,C0 i)]++D3 [821,824,825] gf,[(820,A52),(821,d7 (repS i))]++G3 [821,824,825] ob)) (fun i=>i≤1) (fun i=>1 - i) 0 (by decide) ?_ ?_
 ·exact I90 ⟨le1 rfl,le1 rfl,le1 rfl,le1 rfl,le1 rfl,trivial⟩ (F0 hH) (by repeat (first | exact B2 | refine tail_drop rfl ?_ | refine B3 rfl ?_ | refine H3 _ rfl ?_)) (E5 (L:=[(820,_),(821,_)]) ⟨rfl,rfl,trivial⟩ (by repeat (first | exact D6 | refine D7 rfl ?_ | refine F5 hf3 ?_ | refine Q8 _ rfl ?_)))
 intro i hi
 dsimp only at hi ⊢
 refine k2 (A2 (E7 V V V (A4 ?_)));refine k1 (k2 ?_);refine B0 rfl (fun ht=>?_) (fun ht=>?_)
 ·have hi0:i=0:=by have:=A0 ht;omega
  subst hi0
  refine k5 (k1 (k2 (k3 (A2 (A3 V V (A3 V V (A3 V V (L1 (C50 1 ndA 2 [y6,A94,qSp,A54] V (.inl V) (by decide) V V hf3) V V V ?_))))))));rintro _ _ ⟨rfl,rfl⟩;refine A6 V V (A4 ?_);refine k4 (k1 (A2 (D1 V V V (A3 V V (A4 ?_)))));refine k1 ?_
  exact ⟨1,by decide,by decide,I90 ⟨le1 rfl,le1 rfl,le1 rfl,le1 rfl,le1 rfl,trivial⟩ (F0 hH) (by repeat (first | exact B2 | refine tail_drop rfl ?_ | refine B3 rfl ?_ | refine H3 _ rfl ?_)) (E5 (L:=[(820,_),(821,_)]) ⟨rfl,rfl,trivial⟩ (by repeat (first | exact D6 | refine D7 rfl ?_ | refine F5 hf3 ?_ | refine Q8 _ rfl ?_)))⟩
 have hi1:i=1:=by have:=A1 ht;omega
 subst hi1
 refine k6 (k2 (A2 (A3 V V (A6 V V (A4 ?_)))));refine k1 (k10 ?_)
 exact G5 (K6 rfl rfl) (by repeat (first | exact B2 | refine tail_drop rfl ?_ | refine B3 rfl ?_ | refine H3 _ rfl ?_)) (E5 (L:=[(820,_),(821,_)]) ⟨rfl,rfl,trivial⟩ (by repeat (first | exact D6 | refine D7 rfl ?_ | refine F5 hf3 ?_ | refine Q8 _ rfl ?_))) ⟨rfl,rfl⟩
theorem H07 {gf:Fr} {ob:Obs} (h0:B9 ob 820=some A52) (h1:B9 ob 821=some (d7 [y6,A94])) (h2:B9 ob 824=none) (h3:B9 ob 825=none) :
  AL.Met Tryz.prog 97 [A75,N2 2,N2 1] gf ob [821,824,825] (fun rs ob'=>rs=[N2 4]∧ob'=(820,A52)::(821,d7 [y6,A94,qSp,A54,A54])::G3 [821,824,825] ob):=by
 refine AL.Met.introH Tryz.func97 (by decide) rfl rfl rfl (fun hH=>?_)
 refine E2 (I91 821 (l:=[(0,.s A75),(1,.s (N2 2)),(2,.s (N2 1))]) (L:=[(820,_),(821,_)]) ⟨le1 rfl,le1 rfl,le1 rfl,trivial⟩ hH (by repeat (first | exact B2 | refine B3 rfl ?_)) ⟨h0,h1,trivial⟩) ?_
 refine E2 (Sees.forget 824) ?_
 refine E2 (Sees.forget 825) ?_
 refine E2 (I90 (gf':=D3 [821,824,825] gf) (l:=[(0,.s A75),(1,.s (N2 2)),(2,.s (N2 1))]) (ob':=[(820,A52),(821,d7 [y6,A94])]++G3 [821,824,825] ob) ⟨le1 rfl,le1 rfl,le1 rfl,trivial⟩ (F0 hH) (by repeat (first | exact B2 | refine tail_drop rfl ?_ | refine B3 rfl ?_ | refine H3 _ rfl ?_)) (E5 (L:=[(820,_),(821,_)]) ⟨rfl,rfl,trivial⟩ (by repeat (first | exact D6 | refine D7 rfl ?_)))) ?_
 have hf3:B9 (G3 [821,824,825] ob) 824=none:=M7 h2
 have hf5:B9 (G3 [821,824,825] ob) 825=none:=M7 h3
 have hf4:B9 (Obs.forget 825 (G3 [821,824,825] ob)) 824=none:=by rw [J7,hf3];rfl
 have hw:wt5[(2:Int).toNat]?=some 3:=rfl
 have hv:nodes5[(2:Int).toNat]?=some ndR:=rfl
 refine k2 (A2 (A6 V V (A4 ?_)));refine k1 (k2 (k2 (A2 (A3 V V (A5 (B4 V) V (A5 (A9 V) V (G4 V V V V (A3 V V (A5 (A8 V (.pure _ _ _ _) V (by omega) hw) V (A5 (A7 V V) V (A5 (F8 V V) V (A4 ?_))))))))))));refine k1 ?_;refine B0 rfl (fun ht=>?_) (fun ht=>?_)
 ·cases ht
 refine k5 (k1 (k2 (A2 (A3 V V (A5 (B4 V) V (A5 (A9 V) V (G4 V V V V (A3 V V (A5 (A8 V (.pure _ _ _ _) V (by omega) hv) V (A5 (E0 V V) V (C6 (A84 825 hf5 (by decide)) V (H1 (C2 TySz.out V V V V V V) (A4 ?_)))))))))))));refine k1 (k2 (k2 (A2 (A5 (A9 V) V (G4 V V V V (A4 ?_))))));refine k1 (k3 (k2 (A2 (A5 (F8 V V) V (A6 V V (A4 ?_))))));refine k1 ?_;refine B0 rfl (fun ht=>?_) (fun ht=>?_)
 ·cases ht
 refine k2 (A2 (A5 (F8 V V) V (A6 V V (A4 ?_))));refine k1 ?_;refine B0 rfl (fun ht=>?_) (fun ht=>?_)
 ·cases ht
 refine k2 (A2 (A5 (F8 V V) V (A6 V V (A4 ?_))));refine k1 ?_;refine B0 rfl (fun ht=>?_) (fun ht=>?_)
 ·cases ht
 refine k2 (A2 (A5 (F8 V V) V (A6 V V (A4 ?_))));refine k1 ?_;refine B0 rfl (fun ht=>?_) (fun ht=>?_)
 ·cases ht
 refine k2 (A2 (A5 (F8 V V) V (A6 V V (A4 ?_))));refine k1 ?_;refine B0 rfl (fun ht=>?_) (fun ht=>?_)
 ·cases ht
 refine k2 (A2 (A5 (F8 V V) V (A6 V V (A4 ?_))));refine k1 ?_;refine B0 rfl (fun ht=>?_) (fun ht=>?_)
 rotate_left
 ·cases ht
 refine k2 (A2 (A3 V V (A5 (P8 V V V) V (A3 V V (L1 (H06 V V hf4) V V V ?_)))));rintro _ _ ⟨rfl,rfl⟩;refine A6 V V (A4 ?_);refine k1 (k10 (k12 (k11 ?_)))
 exact G5 (K6 rfl rfl) (by repeat (first | exact B2 | refine tail_drop rfl ?_ | refine B3 rfl ?_ | refine H3 _ rfl ?_)) (E5 (L:=[(820,_),(821,_)]) ⟨rfl,rfl,trivial⟩ (by repeat (first | exact D6 | refine D7 rfl ?_ | refine F5 hf5 ?_ | refine Q8 _ rfl ?_))) ⟨rfl,rfl⟩
def stS:Nat→List AL.State
 | 0=>[y6]
 | 1=>[y6,A94]
 | 2=>[y6,A94,qSp,A54,A54]
 | _=>[y6,A94,qSp,A54,A54,qSta]
def nxS:Nat→Int
 | 0=>0
 | 1=>1
 | 2=>4
 | _=>5
def kidS:Nat→Int
 | 0=>3
 | 1=>2
 | _=>0
theorem kid_met {gf:Fr} {ob:Obs} (j:Nat) (hj:j < 3) (h0:B9 ob 820=some A52) (h1:B9 ob 821=some (d7 (stS j))) (h2:B9 ob 824=none) (h3:B9 ob 825=none) :
  AL.Met Tryz.prog 97 [A75,N2 (kidS j),N2 (nxS j)] gf ob [821,824,825] (fun rs ob'=>rs=[N2 (nxS (j+1))]∧ob'=(820,A52)::(821,d7 (stS (j+1)))::G3 [821,824,825] ob):=by
 match j,hj with
 | 0,_=>exact C50 3 ndE 0 [y6] rfl (.inr (.inr rfl)) (by decide) h0 h1 h2
 | 1,_=>exact H07 h0 h1 h2 h3
 | 2,_=>exact C50 0 ndS 4 [y6,A94,qSp,A54,A54] rfl (.inr (.inl rfl)) (by decide) h0 h1 h2
theorem kidS_at:∀j:Nat,j < 3→ndC.Kids[(2 - (j:Int)).toNat]?=some (kidS j):=three rfl rfl rfl
theorem I72 {gf:Fr} {ob:Obs} (h0:B9 ob 820=some A52) (h1:B9 ob 821=some (d7 [y6])) (h2:B9 ob 824=none) (h3:B9 ob 825=none) (h4:B9 ob 826=none) :
  AL.Met Tryz.prog 97 [A75,N2 4,N2 0] gf ob [821,824,825,826] (fun rs ob'=>rs=[N2 5]∧ob'=(820,A52)::(821,d7 (stS 3))::G3 [821,824,825,826] ob):=by
 refine AL.Met.introH Tryz.func97 (by decide) rfl rfl rfl (fun hH=>?_)
 refine E2 (I91 821 (l:=[(0,.s A75),(1,.s (N2 4)),(2,.s (N2 0))]) (L:=[(820,_),(821,_)]) ⟨le1 rfl,le1 rfl,le1 rfl,trivial⟩ hH (by repeat (first | exact B2 | refine B3 rfl ?_)) ⟨h0,h1,trivial⟩) ?_
 refine E2 (Sees.forget 824) ?_
 refine E2 (Sees.forget 825) ?_
 refine E2 (Sees.forget 826) ?_
 refine E2 (I90 (gf':=D3 [821,824,825,826] gf) (l:=[(0,.s A75),(1,.s (N2 4)),(2,.s (N2 0))]) (ob':=[(820,A52),(821,d7 [y6])]++G3 [821,824,825,826] ob) ⟨le1 rfl,le1 rfl,le1 rfl,trivial⟩ (F0 hH) (by repeat (first | exact B2 | refine tail_drop rfl ?_ | refine B3 rfl ?_ | refine H3 _ rfl ?_)) (E5 (L:=[(820,_),(821,_)]) ⟨rfl,rfl,trivial⟩ (by repeat (first | exact D6 | refine D7 rfl ?_)))) ?_
 have hf2:B9 (G3 [821,824,825,826] ob) 824=none:=M7 h2
 have hf3:B9 (G3 [821,824,825,826] ob) 825=none:=M7 h3
 have hf4:B9 (G3 [821,824,825,826] ob) 826=none:=M7 h4
 have hw:wt5[(4:Int).toNat]?=some 5:=rfl
 have hv:nodes5[(4:Int).toNat]?=some ndC:=rfl
 refine k2 (A2 (A6 V V (A4 ?_)));refine k1 (k2 (k2 (A2 (A3 V V (A5 (B4 V) V (A5 (A9 V) V (G4 V V V V (A3 V V (A5 (A8 V (.pure _ _ _ _) V (by omega) hw) V (A5 (A7 V V) V (A5 (F8 V V) V (A4 ?_))))))))))));refine k1 ?_;refine B0 rfl (fun ht=>?_) (fun ht=>?_)
 ·cases ht
 refine k5 (k1 (k2 (A2 (A3 V V (A5 (B4 V) V (A5 (A9 V) V (G4 V V V V (A3 V V (A5 (A8 V (.pure _ _ _ _) V (by omega) hv) V (A5 (E0 V V) V (C6 (A84 826 hf4 (by decide)) V (H1 (C2 TySz.out V V V V V V) (A4 ?_)))))))))))));refine k1 (k2 (k2 (A2 (A5 (A9 V) V (G4 V V V V (A4 ?_))))));refine k1 (k3 (k2 (A2 (A5 (F8 V V) V (A6 V V (A4 ?_))))));refine k1 ?_;refine B0 rfl (fun ht=>?_) (fun ht=>?_)
 ·cases ht
 refine k2 (A2 (A5 (F8 V V) V (A6 V V (A4 ?_))));refine k1 ?_;refine B0 rfl (fun ht=>?_) (fun ht=>?_)
 ·cases ht
 refine k2 (A2 (A5 (F8 V V) V (A6 V V (A4 ?_))));refine k1 ?_;refine B0 rfl (fun ht=>?_) (fun ht=>?_)
 ·cases ht
 refine k2 (A2 (A5 (F8 V V) V (A6 V V (A4 ?_))));refine k1 ?_;refine B0 rfl (fun ht=>?_) (fun ht=>?_)
 rotate_left
 ·cases ht
 refine k2 ?_
 have hl3:ndC.Kids.length=3:=rfl
 refine A2 (A5 (A9 V) V (G4 V V V V (E1 V V (A5 (K9 V V (by omega)) V (A6 V V (A4 ?_))))));refine k1 (k3 ?_);refine C5 (X:=Nat) (fun j=>([(0,.s A75),(2,C0 (nxS j)),(7,.s (.one (.ref 826 0))),(8,C0 (2 - (j:Int)))]++D3 [821,824,825,826] gf,[(820,A52),(821,d7 (stS j)),(826,.box ((cellsOf B17 ndC 0 8).map .p))]++G3 [821,824,825,826] ob)) (fun j=>j≤3) (fun j=>3 - j) 0 (Nat.zero_le _) ?_ ?_
 ·exact I90 ⟨le1 rfl,le1 rfl,le1 rfl,le1 rfl,trivial⟩ (F0 hH) (by repeat (first | exact B2 | refine tail_drop rfl ?_ | refine B3 rfl ?_ | refine H3 _ rfl ?_)) (E5 (L:=[(820,_),(821,_),(826,_)]) ⟨rfl,rfl,rfl,trivial⟩ (by repeat (first | exact D6 | refine D7 rfl ?_ | refine F5 hf4 ?_ | refine Q8 _ rfl ?_)))
 intro j hj
 dsimp only at hj ⊢
 refine k2 (k2 (A2 (A3 V V (A5 (X7 V V) V (A4 ?_)))));refine k1 ?_;refine B0 rfl (fun ht=>?_) (fun ht=>?_)
 ·have hj3:j < 3:=by have:=A0 ht;omega
  have hk:=kidS_at j hj3
  refine k5 (k1 (k2 (k3 (A2 (A3 V V (A5 (A9 V) V (G4 V V V V (A3 V V (A5 (A8 V (.pure _ _ _ _) V (by omega) hk) V (A5 (A7 V V) V (A3 V V (L1 (kid_met j hj3 V V hf2 hf3) V V V ?_))))))))))));rintro _ _ ⟨rfl,rfl⟩;refine A6 V V (A4 ?_);refine k4 (k1 (A2 (A3 V V (A5 (K9 V V (by omega)) V (A6 V V (A4 ?_))))));refine k1 ?_;refine ⟨j+1,by omega,by omega,?_⟩
  rw [show (2:Int) - ((j+1:Nat):Int)=2 - (j:Int) - 1 by omega]
  exact I90 ⟨le1 rfl,le1 rfl,le1 rfl,le1 rfl,trivial⟩ (F0 hH) (by repeat (first | exact B2 | refine tail_drop rfl ?_ | refine B3 rfl ?_ | refine H3 _ rfl ?_)) (E5 (L:=[(820,_),(821,_),(826,_)]) ⟨rfl,rfl,rfl,trivial⟩ (by repeat (first | exact D6 | refine D7 rfl ?_ | refine F5 hf4 ?_ | refine Q8 _ rfl ?_)))
 have hj3:j=3:=by have:=A1 ht;omega
 subst hj3
 refine k6 (k2 (A2 (A3 V V (A6 V V (A4 ?_)))));refine k1 (k10 ?_)
 exact G5 (K6 rfl rfl) (by repeat (first | exact B2 | refine tail_drop rfl ?_ | refine B3 rfl ?_ | refine H3 _ rfl ?_)) (E5 (L:=[(820,_),(821,_)]) ⟨rfl,rfl,trivial⟩ (by repeat (first | exact D6 | refine D7 rfl ?_ | refine F5 hf4 ?_ | refine Q8 _ rfl ?_))) ⟨rfl,rfl⟩
set_option maxHeartbeats 1000000
abbrev auto5:AL.Auto:=⟨[y6,A94,qSp,A54,A54,qSta],5⟩
theorem I17:FnOk Tryz.prog 66 [B59 nodes5] (fun rs=>rs=[C75 auto5,E6 0]):=by
 have hn5:nodes5.length=5:=rfl
 refine FnOk.intro Tryz.func66 (by decide) V V V V ?_
 refine k2 (A2 (C6 (J6 2 V) V (A6 V V (A4 ?_))));refine k1 (k2 (A2 (A3 V V (C9 (H05) V V V ?_))));rintro _ rfl;refine A3 V V (H0 V V V (H0 V V V (A6 V V (A6 V V (A4 ?_)))));refine k1 (k2 (k3 (k2 (A2 (A3 V V (A5 (Q9 V V) V (A6 V V (A4 ?_))))))));refine k1 ?_;refine B0 rfl (fun ht=>?_) (fun ht=>?_)
 ·cases ht
 refine k2 (A2 (A3 V V (A5 (L7 V V) V (A6 V V (A4 ?_)))));refine k1 ?_;refine B0 rfl (fun ht=>?_) (fun ht=>?_)
 ·cases ht
 refine k5 (k2 (A2 (A3 V V (A3 V V (C9 (E05) V V V ?_)))));rintro _ rfl;refine A5 (J3 V) V (C6 (x7 820 V V V) V (A6 V V (A4 ?_)));refine k1 (E2 (I95 821 AL.State 7 Z8 154 (kb:=820) (o:=2) rfl rfl rfl) ?_)
 refine k2 (A2 (A3 V V (A5 (J3 V) V (L1 (B42 [] y6 (by decide) V V) V V V ?_))));rintro _ _ ⟨rfl,rfl⟩;refine A6 V V (A4 ?_);refine k1 (k2 (A2 (A3 V V (A3 V V (E1 V V (A5 (K9 V V (by omega)) V (A3 V V (L1 (I72 V V V V V) V V V ?_))))))));rintro _ _ ⟨rfl,rfl⟩;refine A6 V V (A4 ?_);refine k1 (k2 (A2 (A3 V V (A5 (B4 V) V (A5 (A9 V) V (G4 V V V V (A3 V V (A5 (J3 V) V (H1 (C2 TySz.out V V V V V V) (A6 V V (A4 ?_)))))))))));refine k1 (E2 (Sees.freezeG (k:=821) (α:=AL.State) (ec:=7) (c:=Z8) (xs:=stS 3) (e:=154) rfl rfl) ?_)
 refine k10 ?_
 exact B6 (rs:=[C75 auto5,E6 0]) (retc2 rfl rfl rfl rfl rfl rfl rfl) rfl
theorem G22:FnOk Tryz.prog 44 [L2 pat4] (fun rs=>rs=[C75 auto5,E6 0]):=by
 refine FnOk.intro Tryz.func44 (by decide) V V V V ?_
 refine k2 (A2 (C6 (J6 2 V) V (A6 V V (A4 ?_))));refine k1 (k2 (A2 (A3 V V (C9 (I14) V V V ?_))));rintro _ rfl;refine A3 V V (H0 V V V (H0 V V V (A6 V V (A6 V V (A4 ?_)))));refine k1 (k2 (k2 (A2 (A3 V V (A5 (Q9 V V) V (A4 ?_))))));refine k1 ?_;refine B0 rfl (fun ht=>?_) (fun ht=>?_)
 ·cases ht
 refine k5 (k1 (k2 (A2 (A3 V V (C9 (I17) V V V ?_)))));rintro _ rfl;refine H0 V V V (H0 V V V (H1 (C2 TySz.out V V V V V V) (A6 V V (A4 ?_))));refine k1 (k10 ?_)
 exact B6 (rs:=[C75 auto5,E6 0]) (retc2 rfl rfl rfl rfl rfl rfl rfl) rfl
theorem B43 {gf:Fr} {ob:Obs} (i n:Int) (h:B9 ob 3=some (.box [.p (.v (.int .i64 n))])) :
  AL.Met Tryz.prog 136 [N2 i,.one (.ref 3 0)] gf ob [] (fun rs ob'=>rs=[B13 (decide (0≤i∧i < n))]∧ob'=ob):=by
 refine AL.Met.intro Tryz.func136 (by decide) V V V ?_
 refine k2 (A2 (A6 V V (A4 ?_)));refine k1 (k2 (A2 (A3 V V (A5 (X7 V V) V (A3 V V (B1 V V V V (fun hg=>by rw [hg];exact B7 V V) ?_))))));refine B1 V V V V (fun hg=>by rw [hg];exact C4 V h V) ?_;refine B1 V V V V (fun hg=>by rw [hg];exact A04 V V) ?_;refine I5 V V ?_;refine A6 V V (A4 ?_);refine k1 (k10 ?_);refine G5 (K6 rfl rfl) (by repeat (first | exact B2 | refine B3 rfl ?_ | refine D5 _ ?_)) (fun _ _ h=>h) ⟨?_,rfl⟩
 rw [and_pick]
set_option maxHeartbeats 1000000
theorem H08:∀q∈auto5.States,decide (0≤q.Next∧q.Next < 6)=true∧decide (0≤q.Other∧q.Other < 6)=true∧(q.Kind=0∨q.Kind=1∨q.Kind=2∨q.Kind=3∨q.Kind=4):=by decide
theorem I18:FnOk Tryz.prog 105 [C75 auto5] (fun rs=>rs=[E6 0]):=by
 have hl:auto5.States.length=6:=rfl
 refine FnOk.intro Tryz.func105 (by decide) V V V V ?_
 refine k2 (A2 (A5 (q8 V V V) V (A6 V V (A4 ?_))));refine k1 (k2 (A2 (A5 (B8 V) V (A5 (A7 V V) V (E1 V V (C6 (J6 3 V) V (H1 (C2 TySz.out V V V V V V) (A4 ?_))))))));refine k1 (k2 (A2 (A5 (A11 V V) V (A6 V V (A4 ?_)))));refine k1 (k2 (k2 (A2 (G4 V V V V (E7 V V V (A3 V V (H9 V V V V (G4 V V V V (H9 V V V V (A5 (L7 V V) V (I5 V V ?_)))))))))));refine A3 V V (H9 V V V V (A3 V V (H9 V V V V (A5 (B8 V) V (H9 V V V V (A5 (A7 V V) V (H9 V V V V (B28 (B43 5 6 V) V V V V ?_))))))));rintro _ _ ⟨rfl,rfl⟩;refine H9 V V V V (A5 (R7 V) V (I5 V V ?_));refine A4 ?_;refine k1 ?_;refine B0 rfl (fun ht=>?_) (fun ht=>?_)
 ·cases ht
 refine k5 (k1 (k2 (k2 (A2 (A5 (B8 V) V (A5 (A7 V V) V (E1 V V (A3 V V (A4 ?_)))))))));refine k1 (k3 (C5 (X:=Nat) (fun i=>([(3,.s (.one (.ref 3 0))),(4,.s (.one (.clo 136 [] [(3,0)]))),(26,.s (H82 auto5.States).s1),(27,C0 auto5.States.length),(28,C0 i)],[(3,.box [.p (.v (.int .i64 6))])])) (fun i=>i≤auto5.States.length) (fun i=>auto5.States.length - i) 0 (Nat.zero_le _) (I89 ⟨le1 rfl,le1 rfl,le1 rfl,le1 rfl,le1 rfl,trivial⟩ ⟨rfl,trivial⟩) ?_))
 intro i hi
 dsimp only at hi ⊢
 refine k2 (A2 (E7 V V V (A4 ?_)));refine k1 (k2 ?_);refine B0 rfl (fun ht=>?_) (fun ht=>?_)
 ·have hlt:i < auto5.States.length:=Int.ofNat_lt.1 (A0 ht)
  obtain ⟨q,hq⟩:∃q,q=auto5.States[i]:=⟨_,rfl⟩
  have hv:auto5.States[i]?=some q:=by rw [hq];simp [hlt]
  obtain ⟨hN,hO,hK⟩:=H08 q (J34 hv)
  refine k5 (k1 (k2 (k3 (k2 (A2 (A5 (A8 V (.pure _ _ _ _) V (by omega) hv) V (A5 (E0 V V) V (C6 (J6 6 V) V (H1 (C2 TySz.out V V V V V V) (A4 ?_))))))))));refine k1 (k2 (A2 (A3 V V (A5 (A9 V) V (G4 V V V V (B28 (B43 q.Next 6 V) V V V V ?_))))));rintro _ _ ⟨rfl,rfl⟩;refine A6 V V (A4 ?_)
  rw [hN]
  refine k1 (k2 (k2 (A2 (A5 (A9 V) V (G4 V V V V (A4 ?_))))));refine k1 ?_;refine F27 [(3,.s (.one (.ref 3 0))),(4,.s (.one (.clo 136 [] [(3,0)]))),(26,.s (H82 auto5.States).s1),(27,C0 auto5.States.length),(28,C0 i),(7,P6 true)] [(3,.box [.p (.v (.int .i64 6))])] ?_ ?_
  ·refine k3 (k2 (k2 (A2 (A5 (F8 V V) V (A6 V V (A4 ?_))))));refine k1 ?_;refine B0 rfl (fun ht=>?_) (fun ht=>?_)
   ·refine k5 (k1 ?_);refine B0 rfl (fun ht=>?_) (fun ht=>?_)
    ·refine k5 (k4 (k1 ?_))
     exact I89 ⟨le1 rfl,le1 rfl,le1 rfl,le1 rfl,le1 rfl,le1 rfl,trivial⟩ ⟨rfl,trivial⟩
    ·exact absurd (A0 (by assumption)) (A1 ht)
   have hK0:¬q.Kind=0:=A1 ht
   refine k2 (A2 (A5 (F8 V V) V (A6 V V (A4 ?_))));refine k1 ?_;refine B0 rfl (fun ht=>?_) (fun ht=>?_)
   ·refine k5 (k1 ?_);refine B0 rfl (fun ht=>?_) (fun ht=>?_)
    ·refine k5 (k4 (k1 ?_))
     exact I89 ⟨le1 rfl,le1 rfl,le1 rfl,le1 rfl,le1 rfl,le1 rfl,trivial⟩ ⟨rfl,trivial⟩
    ·exact absurd (A0 (by assumption)) (A1 ht)
   have hK2:¬q.Kind=2:=A1 ht
   skip
   refine A2 (A5 (F8 V V) V (A6 V V (A4 ?_)));refine k1 ?_;refine B0 rfl (fun ht=>?_) (fun ht=>?_)
   ·refine k5 (k4 (k1 ?_))
    exact I89 ⟨le1 rfl,le1 rfl,le1 rfl,le1 rfl,le1 rfl,le1 rfl,trivial⟩ ⟨rfl,trivial⟩
   have hK3:¬q.Kind=3:=A1 ht
   refine k2 (A2 (A5 (F8 V V) V (A6 V V (A4 ?_))));refine k1 ?_;refine B0 rfl (fun ht=>?_) (fun ht=>?_)
   ·skip
    refine A2 (A3 V V (A3 V V (H9 V V V V (A3 V V (H9 V V V V (A5 (A9 V) V (H9 V V V V (G4 V V V V (H9 V V V V (B28 (B43 q.Other 6 V) V V V V ?_))))))))));rintro _ _ ⟨rfl,rfl⟩;refine I5 V V ?_;refine A6 V V (A4 ?_)
    rw [hO]
    refine k4 (k1 ?_)
    exact I89 ⟨le1 rfl,le1 rfl,le1 rfl,le1 rfl,le1 rfl,le1 rfl,trivial⟩ ⟨rfl,trivial⟩
   have hK1:¬q.Kind=1:=A1 ht
   refine k2 (A2 (A5 (F8 V V) V (A6 V V (A4 ?_))));refine k1 ?_;refine B0 rfl (fun ht=>?_) (fun ht=>?_)
   ·skip
    refine A2 (A6 V V (A4 ?_));refine k4 (k1 ?_)
    exact I89 ⟨le1 rfl,le1 rfl,le1 rfl,le1 rfl,le1 rfl,le1 rfl,trivial⟩ ⟨rfl,trivial⟩
   have hK4:¬q.Kind=4:=A1 ht
   exfalso
   omega
  refine k2 (A2 (A3 V V (A5 (R7 V) V (A4 ?_))));refine k1 ?_;refine B0 rfl (fun ht=>?_) (fun ht=>?_)
  ·cases ht
  refine k5 (k4 (k1 (A2 (D1 V V V (A3 V V (A4 ?_))))));refine k1 ?_
  exact ⟨i+1,Nat.succ_le_of_lt hlt,Nat.sub_lt_sub_left hlt (Nat.lt_succ_self i),I89 ⟨le1 rfl,le1 rfl,le1 rfl,le1 rfl,le1 rfl,trivial⟩ ⟨rfl,trivial⟩⟩
 refine k6 (k2 (A2 (A6 V V (A4 ?_))));refine k1 (k10 ?_)
 exact B6 (rs:=[E6 0]) (G7 rfl rfl rfl) rfl
set_option maxHeartbeats 1000000
theorem I73 (st:AL.State) (b e:Bool):FnOk Tryz.prog 172 [H35 st,H8 b,H8 e] (fun rs=>rs=[I0 (o6 st b e)]):=by
 refine FnOk.intro Tryz.func172 (by decide) V V V V ?_
 refine k2 (A2 (C6 (x7 3 V V V) V (A5 (G8 _ 1 E3) V (A4 ?_))));refine k1 (k2 (k2 (A2 (A5 (A9 V) V (G4 V V V V (A4 ?_))))));refine k1 (k3 (k2 (A2 (A5 (F8 V V) V (A6 V V (A4 ?_))))));refine k1 ?_;refine B0 rfl (fun ht=>?_) (fun ht=>?_)
 ·have h1:st.Kind=1:=A0 ht
  refine k2 (A2 (A5 (A9 V) V (G4 V V V V (A5 (A9 V) V (G4 V V V V (A5 (C1 (c:=E3) (ys:=[st.Next,st.Other]) (D2 V V V V (D2 V V V V F1)) V V V) V (A6 V V (A4 ?_))))))));refine k1 (k10 (k12 (k11 ?_)))
  exact B6 (rs:=[I0 [st.Next,st.Other]]) (G7 rfl rfl rfl) (by unfold o6;simp [h1])
 have h1:¬st.Kind=1:=A1 ht
 refine k2 (A2 (A5 (F8 V V) V (A6 V V (A4 ?_))));refine k1 ?_;refine B0 rfl (fun ht=>?_) (fun ht=>?_)
 ·have h2:st.Kind=2:=A0 ht
  refine k2 (A2 (A3 V V (A4 ?_)));refine k1 ?_;refine B0 rfl (fun ht=>?_) (fun ht=>?_)
  ·refine k2 (A2 (A5 (A9 V) V (G4 V V V V (A5 (C1 (c:=E3) (ys:=[st.Next]) (D2 V V V V F1) V V V) V (A6 V V (A4 ?_))))));refine k1 (k10 (k12 (k11 ?_)))
   exact B6 (rs:=[I0 [st.Next]]) (G7 rfl rfl rfl) (by unfold o6;simp [h2,ht])
  ·refine k5 (k2 (A2 (A5 (G8 _ 1 E3) V (A4 ?_))));refine k1 (k10 ?_)
   exact B6 (rs:=[I0 []]) (G7 rfl rfl rfl) (by unfold o6;simp [h2,ht])
 have h2:¬st.Kind=2:=A1 ht
 refine k2 (A2 (A5 (F8 V V) V (A6 V V (A4 ?_))));refine k1 ?_;refine B0 rfl (fun ht=>?_) (fun ht=>?_)
 ·have h3:st.Kind=3:=A0 ht
  refine k2 (A2 (A3 V V (A4 ?_)));refine k1 ?_;refine B0 rfl (fun ht=>?_) (fun ht=>?_)
  ·refine k2 (A2 (A5 (A9 V) V (G4 V V V V (A5 (C1 (c:=E3) (ys:=[st.Next]) (D2 V V V V F1) V V V) V (A6 V V (A4 ?_))))));refine k1 (k10 (k12 (k11 ?_)))
   exact B6 (rs:=[I0 [st.Next]]) (G7 rfl rfl rfl) (by unfold o6;simp [h3,ht])
  ·refine k5 (k2 (A2 (A5 (G8 _ 1 E3) V (A4 ?_))));refine k1 (k10 ?_)
   exact B6 (rs:=[I0 []]) (G7 rfl rfl rfl) (by unfold o6;simp [h3,ht])
 have h3:¬st.Kind=3:=A1 ht
 refine k5 (k2 (A2 (A5 (G8 _ 1 E3) V (A4 ?_))));refine k1 (k10 ?_)
 exact B6 (rs:=[I0 []]) (G7 rfl rfl rfl) (by unfold o6;simp [h1,h2,h3])
set_option maxHeartbeats 1000000
abbrev aa:Str:=[97,97]
abbrev A21 (a:Nat):Ob:=.box [.p (.list AL.State 7 Z8 auto5.States),.p (.v (.int .i64 5)),.p (.v (.string ⟨aa.toArray⟩)),.p (.v (.int .i64 a)),.mut 831,.mut 832]
abbrev x4:S1:=.one (.ref 830 0)
abbrev thG (l:List AL.Thread):Ob:=.grow 201 AL.Thread 2 a8 l
abbrev snA (l:List Bool):Ob:=.arr Bool 1 w9 l
abbrev F46 (t:AL.Thread):PV:=.agg [.v (.int .i64 t.state),.v (.int .i64 t.from_)]
theorem I19:AL.Met Tryz.prog 137 [(C75 auto5).s1,.one (.p (.v (.string ⟨aa.toArray⟩))),N2 0] [] [] []
  (fun rs ob'=>rs=[x4]∧ob'=[(830,.box [.p (.list AL.State 7 Z8 auto5.States),.p (.v (.int .i64 5)),.p (.v (.string ⟨aa.toArray⟩)),.p (.v (.int .i64 0)),.p (.v (.slice none 0 0)),.mut 832]),(832,snA [false,false,false,false,false,false])]):=by
 have h6:auto5.States.length=6:=rfl
 refine AL.Met.intro Tryz.func137 (by decide) V V V ?_
 refine k2 (A2 (A5 (q8 V V V) V (A6 V V (A4 ?_))));refine k1 (k2 (O2 [8,6] [[],[6],[8,6]] [(6,([832],[])),(8,([830],[]))] [(0,[]),(1,[]),(2,[]),(3,[]),(4,[]),(5,[]),(6,[]),(7,[6]),(8,[6]),(9,[8,6])] [(0,[6]),(1,[6]),(2,[6])] (by kernel_rfl) (by kernel_rfl) (E4 V V (by kernel_rfl) V V (E0 V V) (E4 V V (by kernel_rfl) V V (B7 V V) (E4 V V (by kernel_rfl) V V (B7 V V) (E4 V V (by kernel_rfl) V V (B8 V) (E4 V V (by kernel_rfl) V V (A7 V V) (E4 V V (by kernel_rfl) V V (U0 V (.pure _ _ _ _)) (X8 V V (by kernel_rfl) V V (D51 (fun frc hU hk=>i7 832 Bool w9 false (S6 hU V) (S6 hU V) (by (first | omega | decide)) (by (first | omega | decide)) (fun _=>by first | exact ⟨⟨rfl,rfl⟩,trivial⟩ | exact ⟨H2 _ _ _,trivial⟩ | exact ⟨H2 _ _ _,⟨rfl,rfl⟩,H2 _ _ _,trivial⟩) (by rw [hk];rfl))) V ?_)))))))));refine E4 V V (by kernel_rfl) V V (J3 V) (X8 V V (by kernel_rfl) V V (D51 (fun frc hU hk=>x7 830 (S6 hU V) V (by rw [hk];rfl))) V ?_);refine E4 V V (by kernel_rfl) V V (H5 V V) ?_;refine E75 (by kernel_rfl) rfl ?_ ?_
 ·refine M6 V V (by kernel_rfl) V V (E0 V V) (M6 V V (by kernel_rfl) V V (B7 V V) (M6 V V (by kernel_rfl) V V (B7 V V) ?_));exact B31
 refine k1 (k10 ?_)
 exact G5 (K6 rfl rfl) (by repeat (first | exact B2 | refine tail_drop rfl ?_ | refine B3 rfl ?_)) (fun _ _ h=>h) ⟨rfl,rfl⟩
structure AS where
 opn:List Int
 th:List AL.Thread
 sn:List Bool
def topI (x:AS):Int:=atG x.opn (x.opn.length - 1)
def D52 (a:Nat) (fr:Int) (x:AS):AS :=
 if K3 x.sn (topI x).toNat=true then ⟨x.opn.take (x.opn.length - 1),x.th,x.sn⟩
 else ⟨x.opn.take (x.opn.length - 1)++o6 (auto5.States.getD (topI x).toNat c6) (decide ((a:Int)=0)) (decide ((a:Int)=(aa.length:Int))),x.th++[⟨topI x,fr⟩],x.sn.set (topI x).toNat true⟩
def x8 (a:Nat) (fr:Int) (x:AS):Nat→AS
 | 0=>x
 | n+1=>D52 a fr (x8 a fr x n)
def F47 (y:AS):Prop:=0 < y.opn.length∧y.opn.length≤10∧0≤topI y∧topI y < 6∧y.sn.length=6∧y.th.length≤10
instance (y:AS):Decidable (F47 y):=by unfold F47;infer_instance
def addOk (a:Nat) (fr:Int) (x:AS) (n:Nat):Bool:=(List.range n).all (fun k=>decide (F47 (x8 a fr x k)))
theorem G23 {gf:Fr} {ob:Obs} (a:Nat) (q fr:Int) (th:List AL.Thread) (sn:List Bool) (n:Nat) (R:AS) (hok:addOk a fr ⟨[q],th,sn⟩ n=true) (hR:x8 a fr ⟨[q],th,sn⟩ n=R) (hR0:R.opn=[])
  (h0:B9 ob 830=some (A21 a)) (h1:B9 ob 831=some (thG th)) (h2:B9 ob 832=some (snA sn)) (h3:B9 ob 834=none) :
  AL.Met Tryz.prog 138 [x4,(F46 ⟨q,fr⟩).s1] gf ob [831,834] (fun rs ob'=>rs=[]∧ob'=(830,A21 a)::(831,thG R.th)::(832,snA R.sn)::G3 [831,834] ob):=by
 refine AL.Met.introH Tryz.func138 (by decide) rfl rfl rfl (fun hH=>?_)
 refine E2 (I91 831 (l:=[(0,.s x4),(1,.s (F46 ⟨q,fr⟩).s1)]) (L:=[(830,_),(831,_),(832,_)]) ⟨le1 rfl,le1 rfl,trivial⟩ hH (by repeat (first | exact B2 | refine B3 rfl ?_)) ⟨h0,h1,h2,trivial⟩) ?_
 refine E2 (Sees.forget 834) ?_
 refine E2 (I90 (gf':=D3 [831,834] gf) (l:=[(0,.s x4),(1,.s (F46 ⟨q,fr⟩).s1)]) (ob':=[(830,A21 a),(831,thG th),(832,snA sn)]++G3 [831,834] ob) ⟨le1 rfl,le1 rfl,trivial⟩ (F0 hH) (by repeat (first | exact B2 | refine tail_drop rfl ?_ | refine B3 rfl ?_ | refine H3 _ rfl ?_)) (E5 (L:=[(830,_),(831,_),(832,_)]) ⟨rfl,rfl,rfl,trivial⟩ (by repeat (first | exact D6 | refine D7 rfl ?_)))) ?_
 have hf3:B9 (G3 [831,834] ob) 834=none:=M7 h3
 refine k2 (A2 (A5 (q8 V V V) V (A4 ?_)));refine k1 (k2 (A2 (A5 (B8 V) V (A5 (A7 V V) V (C6 (H87 834 (c:=E3) (ys:=[q]) (D2 V V V V F1) V V V hf3 V) V (A6 V V (A4 ?_)))))));refine k1 (k3 ?_);refine C5 (X:=Nat) (fun k=>([(0,.s x4),(3,.s (.one (.eref Unit 2 (fun _ j=>[Cell.v (.int .i64 q),Cell.v (.int .i64 fr)].getD j (.v undef)) () 0))),(4,.s (.one (.mut 834)))]++D3 [831,834] gf,[(830,A21 a),(831,thG (x8 a fr ⟨[q],th,sn⟩ k).th),(832,snA (x8 a fr ⟨[q],th,sn⟩ k).sn),(834,.grow 3 Int 1 E3 (x8 a fr ⟨[q],th,sn⟩ k).opn)]++G3 [831,834] ob)) (fun k=>k≤n) (fun k=>n - k) 0 (Nat.zero_le _) ?_ ?_
 ·exact I90 ⟨le1 rfl,le1 rfl,le1 rfl,trivial⟩ (F0 hH) (by repeat (first | exact B2 | refine tail_drop rfl ?_ | refine B3 rfl ?_ | refine H3 _ rfl ?_)) (E5 (L:=[(830,_),(831,_),(832,_),(834,_)]) ⟨rfl,rfl,rfl,rfl,trivial⟩ (by repeat (first | exact D6 | refine D7 rfl ?_ | refine Q8 _ rfl ?_)))
 intro k hk
 obtain ⟨y,hy⟩:∃y,y=x8 a fr ⟨[q],th,sn⟩ k:=⟨_,rfl⟩
 dsimp only at hk ⊢
 rw [←hy]
 refine k2 (k2 (A2 (A3 V V (A5 (X0 V V) V (A5 (L7 V V) V (A4 ?_))))));refine k1 ?_
 by_cases hkn:k=n
 ·have hyR:y=R:=by rw [hy,hkn,hR]
  have hy0:y.opn.length=0:=by rw [hyR,hR0];rfl
  refine B0 rfl (fun ht=>?_) (fun ht=>?_)
  ·have:=A0 ht
   omega
  rw [hyR]
  refine k6 (k7 (k7 (k8 V ?_)))
  exact S9 (A67 rfl) (by repeat (first | exact B2 | refine tail_drop rfl ?_ | refine B3 rfl ?_ | refine H3 _ rfl ?_)) (E5 (L:=[(830,_),(831,_),(832,_)]) ⟨rfl,rfl,rfl,trivial⟩ (by repeat (first | exact D6 | refine D7 rfl ?_ | refine F5 hf3 ?_ | refine Q8 _ rfl ?_))) ⟨rfl,rfl⟩
 have hklt:k < n:=by omega
 obtain ⟨g1,g2,g3,g4,g5,g6⟩:F47 y:=by
  have:=List.all_eq_true.1 hok k (List.mem_range.2 hklt)
  rw [hy];exact A0 this
 have hstep:x8 a fr ⟨[q],th,sn⟩ (k+1)=D52 a fr y:=by rw [hy];rfl
 obtain ⟨i,hi⟩:∃i,i=topI y:=⟨_,rfl⟩
 rw [←hi] at g3 g4
 have hvl:y.opn[((y.opn.length:Int) - 1).toNat]?=some i:=by
  rw [hi,topI,atG,show ((y.opn.length:Int) - 1).toNat=y.opn.length - 1 by omega,J14 (by omega)];rfl
 have hcut:y.opn.take ((y.opn.length:Int) - 1).toNat=y.opn.take (y.opn.length - 1):=by congr 1;omega
 obtain ⟨r,hr⟩:∃r,r=y.opn.take (y.opn.length - 1):=⟨_,rfl⟩
 have hrl:r.length≤9:=by rw [hr,J24];omega
 rw [←hr] at hcut
 obtain ⟨b,hb⟩:∃b,b=K3 y.sn i.toNat:=⟨_,rfl⟩
 have hvb:y.sn[i.toNat]?=some b:=by
  rw [hb,K3,J14 (by omega)];rfl
 have hvs:auto5.States[i.toNat]?=some (auto5.States.getD i.toNat c6):=by
  rw [J20,J14 (show i.toNat < 6 by omega)];rfl
 refine B0 rfl (fun ht=>?_) (fun ht=>?_)
 rotate_left
 ·have:=A1 ht
  omega
 refine k5 (k1 (k3 (k2 (A2 (A3 V V (A3 V V (A5 (X0 V V) V (A5 (K9 V V (by omega)) V (A5 (I2 V V V (by omega) (by omega)) V (A5 (A12 V V hvl V) V (A6 V V (A4 ?_))))))))))));refine k1 (k2 (A2 (A3 V V (A3 V V (A5 (X0 V V) V (A5 (K9 V V (by omega)) V (C6 (B66 V V V (by omega) (by omega) V) V (A6 V V (A4 ?_)))))))))
 rw [hcut]
 refine k1 (k2 (k2 (A2 (A3 V V (A5 (B4 V) V (A5 (A9 V) V (G4 V V V V (A3 V V (A5 (F3 V V V (by omega) (by omega)) V (A5 (M2 V V hvb V) V (A4 ?_)))))))))));refine k1 ?_;refine B0 rfl (fun ht=>?_) (fun ht=>?_)
 ·have hx:x8 a fr ⟨[q],th,sn⟩ (k+1)=⟨r,y.th,y.sn⟩:=by
   rw [hstep,D52,←hi,←hb,if_pos ht,←hr]
  refine k6 (k7 (k8 V (k1 ?_)));refine ⟨k+1,by omega,by omega,?_⟩
  rw [hx]
  exact I90 ⟨le1 rfl,le1 rfl,le1 rfl,trivial⟩ (F0 hH) (by repeat (first | exact B2 | refine tail_drop rfl ?_ | refine B3 rfl ?_ | refine H3 _ rfl ?_)) (E5 (L:=[(830,_),(831,_),(832,_),(834,_)]) ⟨rfl,rfl,rfl,rfl,trivial⟩ (by repeat (first | exact D6 | refine D7 rfl ?_ | refine Q8 _ rfl ?_)))
 have hx:x8 a fr ⟨[q],th,sn⟩ (k+1)=⟨r++o6 (auto5.States.getD i.toNat c6) (decide ((a:Int)=0)) (decide ((a:Int)=(aa.length:Int))),y.th++[⟨i,fr⟩],y.sn.set i.toNat true⟩:=by
  rw [hstep,D52,←hi,←hb,if_neg (by rw [ht];decide),←hr]
 refine k5 (k1 (k2 (A2 (A3 V V (A5 (B4 V) V (A5 (A9 V) V (G4 V V V V (A3 V V (A5 (F3 V V V (by omega) (by omega)) V (H1 (I4 TySz.out V V (by omega) V V) (A4 ?_)))))))))));refine k1 (k2 ?_);refine E2 (I90 (gf':=D3 [831,834] gf) (l:=[(0,.s x4),(3,.s (.one (.eref Unit 2 (fun _ j=>[Cell.v (.int .i64 q),Cell.v (.int .i64 fr)].getD j (.v undef)) () 0))),(4,.s (.one (.mut 834))),(5,C0 i)]) (ob':=[(830,A21 a),(831,thG y.th),(832,snA (y.sn.set i.toNat true)),(834,.grow 3 Int 1 E3 r)]++G3 [831,834] ob) ⟨le1 rfl,le1 rfl,le1 rfl,le1 rfl,trivial⟩ (F0 hH) (by repeat (first | exact B2 | refine tail_drop rfl ?_ | refine B3 rfl ?_ | refine H3 _ rfl ?_)) (E5 (L:=[(830,_),(831,_),(832,_),(834,_)]) ⟨rfl,rfl,rfl,rfl,trivial⟩ (by repeat (first | exact D6 | refine D7 rfl ?_ | refine Q8 _ rfl ?_)))) ?_
 refine O2 [13,10] [[],[10],[13,10]] [(10,([831],[40])),(13,([],[]))] [(0,[]),(1,[]),(2,[]),(3,[]),(4,[]),(5,[]),(6,[]),(7,[]),(8,[]),(9,[]),(10,[]),(11,[10]),(12,[10]),(13,[10])] [(0,[10])] (by kernel_rfl) (by kernel_rfl) (E4 V V (by kernel_rfl) V V (B7 V V) (E4 V V (by kernel_rfl) V V (B7 V V) (E4 V V (by kernel_rfl) V V (B4 V) (E4 V V (by kernel_rfl) V V (A9 V) (E4 V V (by kernel_rfl) V V (C4 V V V) (E4 V V (by kernel_rfl) V V (B7 V V) (E4 V V (by kernel_rfl) V V (B8 V) (E4 V V (by kernel_rfl) V V (A7 V V) (E4 V V (by kernel_rfl) V V (J3 V) (E4 V V (by kernel_rfl) V V (C1 (c:=a8) (ys:=[⟨i,fr⟩]) (D2 V V V V F1) V V V) (X8 V V (by kernel_rfl) V V (C86 (fun frc hU=>T0 (S6 hU V) V (S6 hU V) (.pure _ _ _ _) (by (simp only [J17,J21];omega)) V)) V (E4 V V (by kernel_rfl) V V (B4 V) (E4 V V (by kernel_rfl) V V (A9 V) (X8 V V (by kernel_rfl) V V (A27 (fun frc hU=>C2 TySz.out (S6 hU V) V (S6 hU V) V V V)) V ?_))))))))))))));refine C87 (ks:=[831,834]) rfl (by kernel_rfl) rfl ?_ ?_
 ·refine M6 V V (by kernel_rfl) V V (B7 V V) ?_;exact B31
 refine k1 ?_;refine E2 (I90 (gf':=D3 [831,834] gf) (l:=[(0,.s x4),(3,.s (.one (.eref Unit 2 (fun _ j=>[Cell.v (.int .i64 q),Cell.v (.int .i64 fr)].getD j (.v undef)) () 0))),(4,.s (.one (.mut 834))),(5,C0 i)]) (ob':=[(830,A21 a),(831,thG (y.th++[⟨i,fr⟩])),(832,snA (y.sn.set i.toNat true)),(834,.grow 3 Int 1 E3 r)]++G3 [831,834] ob) ⟨le1 rfl,le1 rfl,le1 rfl,le1 rfl,trivial⟩ (F0 hH) (by repeat (first | exact B2 | refine tail_drop rfl ?_ | refine B3 rfl ?_ | refine H3 _ rfl ?_)) (E5 (L:=[(830,_),(831,_),(832,_),(834,_)]) ⟨rfl,rfl,rfl,rfl,trivial⟩ (by repeat (first | exact D6 | refine D7 rfl ?_ | refine Q8 _ rfl ?_)))) ?_
 have hsl:(o6 (auto5.States.getD i.toNat c6) (decide ((a:Int)=0)) (decide ((a:Int)=(aa.length:Int)))).length≤2:=by
  unfold o6
  repeat' split
  all_goals first | exact Nat.le_refl _ | (simp only [J17,J21];omega)
 refine D9 (by kernel_rfl) (by kernel_rfl) (D8 V V (D8 V V (B5 (B4 V) V V (B5 (A9 V) V V (B5 (A9 V) V V (B5 (C4 V V V) V V (D8 V V (B5 (A8 V (.pure _ _ _ _) V (by omega) hvs) V V (B5 (E0 V V) V V (D8 V V (B5 (B4 V) V V (B5 (A9 V) V V (B5 (C4 V V V) V V (B5 (F8 V V) V V (D8 V V (B5 (B4 V) V V (B5 (A9 V) V V (B5 (C4 V V V) V V (D8 V V (B5 (B4 V) V V (B5 (A9 V) V V (B5 (C4 V V V) V V (B5 (J2 V) V V ?_)))))))))))))))))))))));refine B5 (F8 V V) V V (B5 (L0 (I73 (auto5.States.getD i.toNat c6) (decide ((a:Int)=0)) (decide ((a:Int)=(aa.length:Int)))) V V) V V (G59 (T0 V V V (.pure _ _ _ _) (by omega) V) V V (B5 (H5 V V) V V (N3 ?_))));refine k4 (k1 ?_);refine ⟨k+1,by omega,by omega,?_⟩
 rw [hx]
 exact I90 ⟨le1 rfl,le1 rfl,le1 rfl,trivial⟩ (F0 hH) (by repeat (first | exact B2 | refine tail_drop rfl ?_ | refine B3 rfl ?_ | refine H3 _ rfl ?_)) (E5 (L:=[(830,_),(831,_),(832,_),(834,_)]) ⟨rfl,rfl,rfl,rfl,trivial⟩ (by repeat (first | exact D6 | refine D7 rfl ?_ | refine Q8 _ rfl ?_)))
set_option maxHeartbeats 1000000
theorem E57 {gf:Fr} {ob:Obs} (a:Nat) (th:List AL.Thread) (sn:List Bool) (hst:∀t∈th,0≤t.state∧t.state < 6) (hl:th.length≤20) (h0:B9 ob 830=some (A21 a)) (h1:B9 ob 831=some (thG th)) (h2:B9 ob 832=some (snA sn)) (h3:B9 ob 835=none) :
  AL.Met Tryz.prog 139 [x4] gf ob [835] (fun rs ob'=>rs=[N2 (A03 auto5 th)]∧ob'=(830,A21 a)::(831,thG th)::(832,snA sn)::G3 [835] ob):=by
 refine AL.Met.introH Tryz.func139 (by decide) rfl rfl rfl (fun hH=>?_)
 refine E2 (I91 835 (l:=[(0,.s x4)]) (L:=[(830,_),(831,_),(832,_)]) ⟨le1 rfl,trivial⟩ hH (by repeat (first | exact B2 | refine B3 rfl ?_)) ⟨h0,h1,h2,trivial⟩) ?_
 refine E2 (I90 (gf':=D3 [835] gf) (l:=[(0,.s x4)]) (ob':=[(830,A21 a),(831,thG th),(832,snA sn)]++G3 [835] ob) ⟨le1 rfl,trivial⟩ (F0 hH) (by repeat (first | exact B2 | refine tail_drop rfl ?_ | refine B3 rfl ?_ | refine H3 _ rfl ?_)) (E5 (L:=[(830,_),(831,_),(832,_)]) ⟨rfl,rfl,rfl,trivial⟩ (by repeat (first | exact D6 | refine D7 rfl ?_)))) ?_
 have hf3:B9 (G3 [835] ob) 835=none:=M7 h3
 refine k2 (A2 (A6 V V (A4 ?_)));refine k1 (k2 (k2 (A2 (A3 V V (A5 (B4 V) V (A5 (A9 V) V (G4 V V V V (A5 (X0 V V) V (A3 V V (A4 ?_))))))))));refine k1 (k3 ?_);refine C5 (X:=Nat) (fun i=>([(0,.s x4),(8,.s (.one (.mut 831))),(9,C0 th.length),(10,C0 i)]++D3 [835] gf,[(830,A21 a),(831,thG th),(832,snA sn)]++G3 [835] ob)) (fun i=>i≤th.length∧A03 auto5 (th.drop i)=A03 auto5 th) (fun i=>th.length - i) 0 ⟨Nat.zero_le _,rfl⟩ ?_ ?_
 ·exact I90 ⟨le1 rfl,le1 rfl,le1 rfl,le1 rfl,trivial⟩ (F0 hH) (by repeat (first | exact B2 | refine tail_drop rfl ?_ | refine B3 rfl ?_ | refine H3 _ rfl ?_)) (E5 (L:=[(830,_),(831,_),(832,_)]) ⟨rfl,rfl,rfl,trivial⟩ (by repeat (first | exact D6 | refine D7 rfl ?_ | refine F5 hf3 ?_ | refine Q8 _ rfl ?_)))
 rintro i ⟨hi,hA⟩
 dsimp only at hi hA ⊢
 refine k2 (A2 (E7 V V V (A4 ?_)));refine k1 (k2 ?_);refine B0 rfl (fun ht=>?_) (fun ht=>?_)
 rotate_left
 ·have hie:i=th.length:=by have:=A1 ht;omega
  rw [hie,List.drop_length] at hA
  rw [←hA]
  refine k6 (k2 (A2 (A6 V V (A4 ?_))));refine k1 (k10 ?_)
  exact G5 (K6 rfl rfl) (by repeat (first | exact B2 | refine tail_drop rfl ?_ | refine B3 rfl ?_ | refine H3 _ rfl ?_)) (E5 (L:=[(830,_),(831,_),(832,_)]) ⟨rfl,rfl,rfl,trivial⟩ (by repeat (first | exact D6 | refine D7 rfl ?_ | refine F5 hf3 ?_ | refine Q8 _ rfl ?_))) ⟨rfl,rfl⟩
 have hlt:i < th.length:=by have:=A0 ht;omega
 obtain ⟨t,htd⟩:∃t,t=th[i]:=⟨_,rfl⟩
 have hv:th[i]?=some t:=by rw [htd];simp [hlt]
 obtain ⟨hs1,hs2⟩:=hst t (J34 hv)
 have hvs:auto5.States[t.state.toNat]?=some (D05 auto5 t.state):=by
  rw [D05,J20,J14 (show t.state.toNat < 6 by omega)];rfl
 rw [J23 hlt,←htd,A03] at hA
 refine k5 (k1 (k2 (k3 (k2 (A2 (A5 (I2 V V V (by omega) (by omega)) V (A5 (A00 V V hv V) V (C6 (A84 835 hf3 (by decide)) V (H1 (C2 TySz.out V V V V V V) (A4 ?_))))))))));refine k1 (k2 (D9 (by kernel_rfl) (by kernel_rfl) (D8 V V (B5 (B4 V) V V (B5 (A9 V) V V (B5 (A9 V) V V (B5 (C4 V V V) V V (B5 (A9 V) V V (B5 (C4 V V V) V V (B5 (A8 V (.pure _ _ _ _) V (by omega) hvs) V V (B5 (B8 V) V V (B5 (A7 V V) V V (B5 (F8 V V) V V (N3 ?_))))))))))))));refine k1 ?_;refine B0 rfl (fun ht=>?_) (fun ht=>?_)
 ·have hK:(D05 auto5 t.state).Kind=4:=A0 ht
  rw [if_pos hK] at hA
  rw [←hA]
  refine k2 (A2 (A5 (A9 V) V (G4 V V V V (A6 V V (A4 ?_)))));refine k1 (k10 (k12 (k11 (k11 (k12 (k11 ?_))))))
  exact G5 (K6 rfl rfl) (by repeat (first | exact B2 | refine tail_drop rfl ?_ | refine B3 rfl ?_ | refine H3 _ rfl ?_)) (E5 (L:=[(830,_),(831,_),(832,_)]) ⟨rfl,rfl,rfl,trivial⟩ (by repeat (first | exact D6 | refine D7 rfl ?_ | refine F5 hf3 ?_ | refine Q8 _ rfl ?_))) ⟨rfl,rfl⟩
 have hK:¬(D05 auto5 t.state).Kind=4:=A1 ht
 rw [if_neg hK] at hA
 refine k5 (k4 (k1 (A2 (D1 V V V (A3 V V (A4 ?_))))));refine k1 ?_
 exact ⟨i+1,⟨by omega,hA⟩,by omega,I90 ⟨le1 rfl,le1 rfl,le1 rfl,le1 rfl,trivial⟩ (F0 hH) (by repeat (first | exact B2 | refine tail_drop rfl ?_ | refine B3 rfl ?_ | refine H3 _ rfl ?_)) (E5 (L:=[(830,_),(831,_),(832,_)]) ⟨rfl,rfl,rfl,trivial⟩ (by repeat (first | exact D6 | refine D7 rfl ?_ | refine F5 hf3 ?_ | refine Q8 _ rfl ?_)))⟩
theorem I20 {gf:Fr} {ob:Obs} (a:Nat) (fr:Int) (th:List AL.Thread) (sn:List Bool) (n:Nat) (hn:n < th.length) (hlo:∀t∈th.take n,t.from_≤fr) (hhi:∀t,th[n]?=some t→t.from_ > fr) (hl:th.length≤20) (h0:B9 ob 830=some (A21 a)) (h1:B9 ob 831=some (thG th)) (h2:B9 ob 832=some (snA sn)) (h3:B9 ob 835=none) :
  AL.Met Tryz.prog 140 [x4,N2 fr] gf ob [831,835] (fun rs ob'=>rs=[]∧ob'=(830,A21 a)::(831,thG (th.take n))::(832,snA sn)::G3 [831,835] ob):=by
 refine AL.Met.introH Tryz.func140 (by decide) rfl rfl rfl (fun hH=>?_)
 refine E2 (I91 831 (l:=[(0,.s x4),(1,.s (N2 fr))]) (L:=[(830,_),(831,_),(832,_)]) ⟨le1 rfl,le1 rfl,trivial⟩ hH (by repeat (first | exact B2 | refine B3 rfl ?_)) ⟨h0,h1,h2,trivial⟩) ?_
 refine E2 (Sees.forget 835) ?_
 refine E2 (I90 (gf':=D3 [831,835] gf) (l:=[(0,.s x4),(1,.s (N2 fr))]) (ob':=[(830,A21 a),(831,thG th),(832,snA sn)]++G3 [831,835] ob) ⟨le1 rfl,le1 rfl,trivial⟩ (F0 hH) (by repeat (first | exact B2 | refine tail_drop rfl ?_ | refine B3 rfl ?_ | refine H3 _ rfl ?_)) (E5 (L:=[(830,_),(831,_),(832,_)]) ⟨rfl,rfl,rfl,trivial⟩ (by repeat (first | exact D6 | refine D7 rfl ?_)))) ?_
 have hf3:B9 (G3 [831,835] ob) 835=none:=M7 h3
 refine k2 (A2 (A3 V V (A5 (B4 V) V (A5 (A9 V) V (G4 V V V V (A5 (X0 V V) V (A3 V V (A4 ?_))))))));refine k1 (k3 ?_);refine C5 (X:=Nat) (fun i=>([(0,.s x4),(1,.s (N2 fr)),(9,.s (.one (.mut 831))),(10,C0 th.length),(11,C0 i)]++D3 [831,835] gf,[(830,A21 a),(831,thG th),(832,snA sn)]++G3 [831,835] ob)) (fun i=>i≤n) (fun i=>th.length - i) 0 (Nat.zero_le _) ?_ ?_
 ·exact I90 ⟨le1 rfl,le1 rfl,le1 rfl,le1 rfl,le1 rfl,trivial⟩ (F0 hH) (by repeat (first | exact B2 | refine tail_drop rfl ?_ | refine B3 rfl ?_ | refine H3 _ rfl ?_)) (E5 (L:=[(830,_),(831,_),(832,_)]) ⟨rfl,rfl,rfl,trivial⟩ (by repeat (first | exact D6 | refine D7 rfl ?_ | refine F5 hf3 ?_ | refine Q8 _ rfl ?_)))
 intro i hi
 dsimp only at hi ⊢
 refine k2 (A2 (E7 V V V (A4 ?_)));refine k1 (k2 ?_);refine B0 rfl (fun ht=>?_) (fun ht=>?_)
 rotate_left
 ·have:=A1 ht
  omega
 have hlt:i < th.length:=by omega
 obtain ⟨t,htd⟩:∃t,t=th[i]:=⟨_,rfl⟩
 have hv:th[i]?=some t:=by rw [htd];simp [hlt]
 refine k5 (k1 (k2 (k3 (k2 (A2 (A3 V V (A5 (I2 V V V (by omega) (by omega)) V (A5 (A00 V V hv V) V (C6 (A84 835 hf3 (by decide)) V (A6 V V (H1 (C2 TySz.out V V V V V V) (A4 ?_))))))))))));refine k1 (k2 (A2 (A5 (A9 V) V (G4 V V V V (A3 V V (A5 (L7 V V) V (A4 ?_)))))));refine k1 ?_;refine B0 rfl (fun ht=>?_) (fun ht=>?_)
 ·have hgt:t.from_ > fr:=A0 ht
  have hin:i=n:=by
   rcases Nat.lt_or_ge i n with h | h
   ·have:=hlo t (by
     refine J34 (i:=i) ?_
     rw [J46 h];exact hv)
    omega
   ·omega
  subst hin
  refine k2 (A2 (A3 V V (A3 V V (A5 (B4 V) V (A5 (A9 V) V (G4 V V V V (A3 V V (C6 (B66 V V V (by omega) (by omega) V) V (A5 (B4 V) V (A5 (A9 V) V (H1 (C2 TySz.out V V V V V V) (A4 ?_))))))))))))
  rw [J16]
  refine k1 (k10 (k12 (k11 (k11 (k12 ?_)))))
  exact G5 (A67 rfl) (by repeat (first | exact B2 | refine tail_drop rfl ?_ | refine B3 rfl ?_ | refine H3 _ rfl ?_)) (E5 (L:=[(830,_),(831,_),(832,_)]) ⟨rfl,rfl,rfl,trivial⟩ (by repeat (first | exact D6 | refine D7 rfl ?_ | refine F5 hf3 ?_ | refine Q8 _ rfl ?_))) ⟨rfl,rfl⟩
 have hle:¬t.from_ > fr:=A1 ht
 have hne:i≠n:=fun e=>hle (hhi t (by rw [←e];exact hv))
 refine k5 (k4 (k1 (A2 (D1 V V V (A3 V V (A4 ?_))))));refine k1 ?_
 exact ⟨i+1,by omega,by omega,I90 ⟨le1 rfl,le1 rfl,le1 rfl,le1 rfl,le1 rfl,trivial⟩ (F0 hH) (by repeat (first | exact B2 | refine tail_drop rfl ?_ | refine B3 rfl ?_ | refine H3 _ rfl ?_)) (E5 (L:=[(830,_),(831,_),(832,_)]) ⟨rfl,rfl,rfl,trivial⟩ (by repeat (first | exact D6 | refine D7 rfl ?_ | refine F5 hf3 ?_ | refine Q8 _ rfl ?_)))⟩
set_option maxHeartbeats 1000000
def oZ (ks:List Nat) (ob:Obs):Obs:=(G3 ks ob).filter fun p=>!M4 ks p.1
theorem E07 (k:Nat) (o:Ob):(o.forget k).free k=true:=by
 have key:∀ts:List TC,(ts.map (TC.forget k)).all (TC.free k)=true:=fun ts=>by
  rw [List.all_map,List.all_eq_true]
  intro t _
  exact TC.free_forget k t
 cases o with
 | box ts=>exact key ts
 | tbx e ts=>exact key ts
 | tarr n m ts=>exact key ts
 | growT e n m ts=>exact key ts
 | growA e α ec c xs p ts=>exact key ts
 | _=>rfl
theorem E08 {k:Nat}:∀{Z:Obs},Nat.blt k 1000000=true→(∀p∈Z,p.1≠k∧p.2.free k=true)→J5 k Z=true
 | [],h,_=>h
 | (i,o)::r,h,hp=>by
  have h1:=hp (i,o) (List.mem_cons_self ..)
  simp only [J5,J15,Bool.not_eq_true']
  exact ⟨V4 h1.1,h1.2,E08 h fun p hm=>hp p (List.mem_cons_of_mem _ hm)⟩
theorem C18 {k:Nat}:∀{Z:Obs} {j:Nat} {x:Ob},J5 k Z=true→B9 Z j=some x→j≠k∧x.free k=true
 | [],j,x,_,h=>by cases h
 | (i,o)::r,j,x,hz,h=>by
  simp only [J5,J15,Bool.not_eq_true'] at hz
  by_cases e:i=j
  ·subst e
   rw [F7] at h
   cases h
   exact ⟨fun e=>(by rw [e,Nat.beq_refl] at hz;cases hz.1),hz.2.1⟩
  ·rw [C3 e] at h
   exact C18 hz.2.2 h
theorem C51 {k:Nat} {ks:List Nat} {ob:Obs} (hk:M4 ks k=true) (hb:Nat.blt k 1000000=true):J5 k (oZ ks ob)=true:=by
 refine E08 hb fun p hp=>?_
 obtain ⟨h1,h2⟩:=List.mem_filter.1 hp
 refine ⟨fun e=>(by rw [e,hk] at h2;cases h2),?_⟩
 rw [←A53 hk] at h1
 obtain ⟨q,_,rfl⟩:=List.mem_map.1 h1
 exact E07 k q.2
theorem B44 {f:Nat→Bool}:∀{ob:Obs} {j:Nat} {x:Ob},B9 (ob.filter fun p=>f p.1) j=some x→B9 ob j=some x
 | [],_,_,h=>by cases h
 | (i, o)::r,j,x,h=>by
  by_cases e:i=j
  ·subst e
   rw [J65] at h
   split at h
   ·rw [F7] at h ⊢;exact h
   ·rename_i hf
    exfalso
    have:∀(r:Obs),B9 (r.filter fun p=>f p.1) i=none:=by
     intro r
     induction r with
     | nil=>rfl
     | cons p r ih =>
      obtain ⟨a,b⟩:=p
      rw [J65]
      split
      ·rename_i h2
       have:a≠i:=fun e=>hf (by rw [e] at h2;exact h2)
       rw [C3 this];exact ih
      ·exact ih
    rw [this r] at h;cases h
  ·rw [J65] at h
   rw [C3 e]
   split at h
   ·rw [C3 e] at h;exact B44 h
   ·exact B44 h
theorem oZ_base {K ks:List Nat} {ob:Obs}:∀j x,M4 K j=false→B9 (oZ ks ob) j=some x→B9 (G3 ks ob) j=some x:=fun _ _ _ h=>B44 (f:=fun i=>!M4 ks i) h
theorem C52 {K:List Nat} {k:Nat} {T Z:Obs} (hz:J5 k Z=true) (h:∀j x,M4 K j=false→B9 Z j=some x→B9 T j=some x):∀j x,M4 K j=false→B9 Z j=some x→B9 (Obs.forget k T) j=some x:=by
 intro j x hj hx
 rw [J7,h j x hj hx]
 show some (x.forget k)=some x
 rw [Ob.forget_free (C18 hz hx).2]
theorem getO_mapO (f:Ob→Ob):∀(ob:Obs) (j:Nat),B9 (I92 f ob) j=(B9 ob j).map f
 | [],_=>rfl
 | (i,o)::r,j=>by
  show B9 ((i,f o)::I92 f r) j=_
  by_cases e:i=j
  ·subst e;rw [F7,F7];rfl
  ·rw [C3 e,C3 e,getO_mapO f r j]
theorem B69 {k j:Nat} (h:j≠k):∀(ob:Obs),B9 (Obs.drop k ob) j=B9 ob j
 | []=>rfl
 | (i,o)::r=>by
  unfold Obs.drop
  cases hb:Nat.beq i k
  ·show B9 ((i,o)::Obs.drop k r) j=_
   by_cases e:i=j
   ·subst e;rw [F7,F7]
   ·rw [C3 e,C3 e,B69 h r]
  ·have:i≠j:=fun e=>h (by rw [←e];exact Nat.eq_of_beq_eq_true hb)
   rw [C3 this]
   exact B69 h r
theorem y7 {K:List Nat} {k:Nat} {α:Type} {ec:Nat} {c:α→Nat→Cell} {xs:List α} {T Z:Obs} (hz:J5 k Z=true) (h:∀j x,M4 K j=false→B9 Z j=some x→B9 T j=some x) :
  ∀j x,M4 K j=false→B9 Z j=some x→B9 (I92 (Ob.freeze k α ec c xs) (Obs.drop k T)) j=some x:=by
 intro j x hj hx
 obtain ⟨h1,h2⟩:=C18 hz hx
 rw [getO_mapO,B69 h1,h j x hj hx]
 show some (x.freeze k α ec c xs)=some x
 rw [Ob.freeze_free h2]
theorem E09 {k:Nat} {α:Type} {ec:Nat} {c:α→Nat→Cell} {xs:List α} {s:SV} (h:s.free k=true):s.freeze k α ec c xs=s:=by
 cases s with
 | s x=>cases x with
  | one t=>simp only [SV.freeze,S1.freeze,TC.freeze_free (show t.free k=true from h)]
  | agg ts=>simp only [SV.freeze,S1.freeze];rw [V6 fun t ht=>TC.freeze_free (List.all_eq_true.1 (show ts.all (TC.free k)=true from h) t ht)]
 | tup l =>
  simp only [SV.freeze]
  rw [V6 fun x hx=>?_]
  have hf:=List.all_eq_true.1 (show l.all (S1.free k)=true from h) x hx
  cases x with
  | one t=>simp only [S1.freeze,TC.freeze_free (show t.free k=true from hf)]
  | agg ts=>simp only [S1.freeze];rw [V6 fun t ht=>TC.freeze_free (List.all_eq_true.1 (show ts.all (TC.free k)=true from hf) t ht)]
 | _=>rfl
theorem C19 {k:Nat}:∀{F:Fr},(∀p∈F,p.2.free k=true)→K4 k F=true
 | [],_=>rfl
 | (i,s)::r,h=>by
  simp only [K4,J15]
  exact ⟨h (i,s) (List.mem_cons_self ..),C19 fun p hp=>h p (List.mem_cons_of_mem _ hp)⟩
theorem I74 {F:Fr} {i:Nat} {s:SV}:F2 F i=some s→∃p∈F,p.2=s:=by
 induction F with
 | nil=>intro h;cases h
 | cons p r ih =>
  obtain ⟨j,t⟩:=p
  intro h
  by_cases e:j=i
  ·subst e;rw [E8] at h;cases h;exact ⟨_,List.mem_cons_self ..,rfl⟩
  ·rw [D4 e] at h
   obtain ⟨q,h1,h2⟩:=ih h
   exact ⟨q,List.mem_cons_of_mem _ h1,h2⟩
theorem d8 {ks:List Nat} {k:Nat} {α:Type} {ec:Nat} {c:α→Nat→Cell} {xs:List α} {gf fr:Fr} (hk:M4 ks k=true) (h:Tail (D3 ks gf) fr):Tail (D3 ks gf) (I98 (SV.freeze k α ec c xs) fr):=by
 intro i s hi hs
 have:=h i s hi hs
 rw [B64,this]
 obtain ⟨p,hp,rfl⟩:=I74 hs
 show some (p.2.freeze k α ec c xs)=some p.2
 rw [E09 (s6 hk p hp)]
theorem N4 {i k:Nat} {o:Ob} {r:Obs} (h1:Nat.beq i k=false) (h2:o.free k=true) (h3:J5 k r=true):J5 k ((i,o)::r)=true:=by
 simp only [J5,h1,h2,h3,Bool.not_false,Bool.and_self]
theorem B45 {i k:Nat} {s:SV} {r:Fr} (h1:s.free k=true) (h2:K4 k r=true):K4 k ((i,s)::r)=true:=by
 simp only [K4,h1,h2,Bool.and_self]
theorem H09 {b:Bool} (h:b=true):(true&&b)=true:=h
theorem and_tt {a b:Bool} (h1:a=true) (h2:b=true):(a&&b)=true:=by rw [h1,h2];rfl
theorem E10 {X:Obs}:∀{Z:Obs} {seen:List Nat},(∀j x,M4 seen j=false→B9 Z j=some x→B9 X j=some x)→H48 X seen Z
 | [],_,_=>trivial
 | (k,o)::r,seen,h=>by
  refine ⟨?_,E10 fun j x hj hx=>?_⟩
  ·cases hs:M4 seen k
   ·exact .inr (h k o hs (F7 _ _ _))
   ·exact .inl rfl
  ·have h1:k≠j∧M4 seen j=false:=by
    refine ⟨fun e=>?_,?_⟩
    ·have:M4 (k::seen) j=true:=by rw [hasN_iff];exact e ▸ List.mem_cons_self ..
     rw [this] at hj;cases hj
    ·cases hs:M4 seen j
     ·rfl
     ·have:M4 (k::seen) j=true:=by rw [hasN_iff];exact List.mem_cons_of_mem _ (hasN_iff.1 hs)
      rw [this] at hj;cases hj
   exact h j x h1.2 (by rw [C3 h1.1];exact hx)
abbrev macX (a:Nat) (x y:TC):Ob:=.box [.p (.list AL.State 7 Z8 auto5.States),.p (.v (.int .i64 5)),.p (.v (.string ⟨aa.toArray⟩)),.p (.v (.int .i64 a)),x,y]
def B46 (t:AL.Thread):Bool:=decide ((D05 auto5 t.state).Kind=0)
def rdN (a:Nat):Nat:=if a=1 then 3 else 4
def th0:AL.Thread:=⟨0,0⟩
def A55 (a:Nat) (old:List AL.Thread):Nat→AS
 | 0=>⟨[],[],[false,false,false,false,false,false]⟩
 | i+1=>if B46 (old.getD i th0)=true then x8 a (old.getD i th0).from_ ⟨[(D05 auto5 (old.getD i th0).state).Next],(A55 a old i).th,(A55 a old i).sn⟩ (rdN a) else A55 a old i
def rdOk (a:Nat) (old:List AL.Thread):Bool:=(List.range old.length).all fun i=>!B46 (old.getD i th0) ||
 (addOk a (old.getD i th0).from_ ⟨[(D05 auto5 (old.getD i th0).state).Next],(A55 a old i).th,(A55 a old i).sn⟩ (rdN a)&&decide ((x8 a (old.getD i th0).from_ ⟨[(D05 auto5 (old.getD i th0).state).Next],(A55 a old i).th,(A55 a old i).sn⟩ (rdN a)).opn=[]))
theorem I75:∀i:Nat,i < 6→(auto5.States.getD i c6).Kind=0→auto5.States.getD i c6=A54:=by decide
theorem I21 {gf:Fr} {ob:Obs} (a:Nat) (th:List AL.Thread) (sn:List Bool) (ha:a < 2) (hst:∀t∈th,0≤t.state∧t.state < 6) (hl:th.length≤20) (hok:rdOk (a+1) th=true) (h0:B9 ob 830=some (A21 a)) (h1:B9 ob 831=some (thG th)) (h2:B9 ob 832=some (snA sn)) :
  AL.Met Tryz.prog 141 [x4] gf ob [831,832,834,837,838] (fun rs ob'=>rs=[]∧ob'=(830,A21 (a+1))::(831,thG (A55 (a+1) th th.length).th)::(832,snA (A55 (a+1) th th.length).sn)::oZ [831,832,834,837,838] ob):=by
 refine AL.Met.introH Tryz.func141 (by decide) rfl rfl rfl (fun hH=>?_)
 refine E2 (I91 831 (l:=[(0,.s x4)]) (L:=[(830,_),(831,_),(832,_)]) ⟨le1 rfl,trivial⟩ hH (by repeat (first | exact B2 | refine B3 rfl ?_)) ⟨h0,h1,h2,trivial⟩) ?_
 refine E2 (I91 832 (l:=[(0,.s x4)]) (L:=[(830,_),(831,_),(832,_)]) ⟨le1 rfl,trivial⟩ (A25 hH) (by repeat (first | exact B2 | refine B3 rfl ?_)) ⟨rfl,rfl,rfl,trivial⟩) ?_
 refine E2 (Sees.forget 834) ?_
 refine E2 (Sees.forget 837) ?_
 refine E2 (Sees.forget 838) ?_
 refine E2 (I90 (gf':=D3 [831,832,834,837,838] gf) (l:=[(0,.s x4)]) (ob':=[(830,A21 a),(831,thG th),(832,snA sn)]++oZ [831,832,834,837,838] ob) ⟨le1 rfl,trivial⟩ (F0 hH) (by repeat (first | exact B2 | refine tail_drop rfl ?_ | refine B3 rfl ?_ | refine H3 _ rfl ?_ | refine d8 rfl ?_)) (E5 (L:=[(830,_),(831,_),(832,_)]) ⟨rfl,rfl,rfl,trivial⟩ (by repeat (first | exact oZ_base | refine D7 rfl ?_)))) ?_
 have z1:J5 831 (oZ [831,832,834,837,838] ob)=true:=C51 rfl rfl
 have z2:J5 832 (oZ [831,832,834,837,838] ob)=true:=C51 rfl rfl
 have z3:J5 834 (oZ [831,832,834,837,838] ob)=true:=C51 rfl rfl
 have z4:J5 837 (oZ [831,832,834,837,838] ob)=true:=C51 rfl rfl
 have z5:J5 838 (oZ [831,832,834,837,838] ob)=true:=C51 rfl rfl
 have f1:K4 831 (D3 [831,832,834,837,838] gf)=true:=C19 (s6 rfl)
 have f2:K4 832 (D3 [831,832,834,837,838] gf)=true:=C19 (s6 rfl)
 obtain ⟨Z,hZ⟩:∃Z,Z=oZ [831,832,834,837,838] ob:=⟨_,rfl⟩
 rw [←hZ] at z1 z2 z3 z4 z5 ⊢
 have hv:aa[((a:Nat):Int).toNat]?=some 97:=by
  rw [J16]
  rcases (show a=0∨a=1 by omega) with h | h<;>subst h<;>rfl
 refine k2 (D9 (by kernel_rfl) (by kernel_rfl) (D8 V V (B5 (B4 V) V V (B5 (A9 V) V V (B5 (C4 V V V) V V (D8 V V (B5 (B4 V) V V (B5 (A9 V) V V (B5 (C4 V V V) V V (B5 (j9 V V (by omega) hv) V V (B5 (H5 V V) V V (N3 ?_))))))))))));refine k1 (k2 (A2 (A3 V V (A5 (B4 V) V (A5 (A9 V) V (G4 V V V V (D1 V V V (A5 (B4 V) V (A5 (A9 V) V (H1 (C2 TySz.out V V V V V V) (A4 ?_)))))))))));refine k1 (k2 (A2 (A3 V V (A5 (B4 V) V (A5 (A9 V) V (G4 V V V V (A6 V V (A4 ?_))))))));refine k1 (k2 (E2 (Sees.freezeG (k:=831) (α:=AL.Thread) (ec:=2) (c:=a8) (xs:=th) (e:=201) V V) ?_))
 refine E2 (I90 (gf':=D3 [831,832,834,837,838] gf) (l:=[(0,.s x4),(2,.s (d6 97)),(3,C7 AL.Thread 2 a8 th)]) (ob':=[(830,macX (a+1) (.p (.list AL.Thread 2 a8 th)) (.mut 832)),(832,snA sn)]++Z) ⟨le1 rfl,le1 rfl,le1 rfl,trivial⟩ (F0 hH) (by repeat (first | exact B2 | refine tail_drop rfl ?_ | refine B3 rfl ?_ | refine H3 _ rfl ?_ | refine d8 rfl ?_)) (E5 (L:=[(830,_),(832,_)]) ⟨rfl,rfl,trivial⟩ (by repeat (first | exact D6 | refine D7 rfl ?_ | refine F5 (H7 z2).2.1 ?_ | refine F5 (H7 z4).2.1 ?_ | refine F5 (H7 z5).2.1 ?_ | refine C52 (by first | exact z1 | exact z2 | exact z3 | exact z4 | exact z5) ?_ | refine y7 (by first | exact z1 | exact z2 | exact z3 | exact z4 | exact z5) ?_)))) ?_
 refine E2 (Sees.forget 832) ?_
 refine E2 (I90 (gf':=D3 [831,832,834,837,838] gf) (l:=[(0,.s x4),(2,.s (d6 97)),(3,C7 AL.Thread 2 a8 th)]) (ob':=[(830,macX (a+1) (.p (.list AL.Thread 2 a8 th)) .any)]++Z) ⟨le1 rfl,le1 rfl,le1 rfl,trivial⟩ (F0 hH) (by repeat (first | exact B2 | refine tail_drop rfl ?_ | refine B3 rfl ?_ | refine H3 _ rfl ?_ | refine d8 rfl ?_)) (E5 (L:=[(830,_)]) ⟨rfl,trivial⟩ (by repeat (first | exact D6 | refine D7 rfl ?_ | refine F5 (H7 z2).2.1 ?_ | refine F5 (H7 z4).2.1 ?_ | refine F5 (H7 z5).2.1 ?_ | refine C52 (by first | exact z1 | exact z2 | exact z3 | exact z4 | exact z5) ?_ | refine y7 (by first | exact z1 | exact z2 | exact z3 | exact z4 | exact z5) ?_)))) ?_
 have h6:auto5.States.length=6:=rfl
 refine O2 [14,11,8] [[],[8],[11],[11,8],[14,11,8]] [(8,([832],[])),(11,([],[])),(14,([],[]))] [(0,[]),(1,[]),(2,[]),(3,[]),(4,[]),(5,[]),(6,[]),(7,[]),(8,[]),(9,[]),(10,[]),(11,[]),(11,[8]),(12,[11,8]),(13,[11,8]),(14,[11,8])] [(0,[8]),(1,[8]),(1,[11]),(1,[11,8]),(7,[11]),(8,[11]),(9,[8]),(10,[8])] (by kernel_rfl) (by kernel_rfl) (E4 V V (by kernel_rfl) V V (B7 V V) (E4 V V (by kernel_rfl) V V (B7 V V) (E4 V V (by kernel_rfl) V V (B7 V V) (E4 V V (by kernel_rfl) V V (B4 V) (E4 V V (by kernel_rfl) V V (A9 V) (E4 V V (by kernel_rfl) V V (A9 V) (E4 V V (by kernel_rfl) V V (C4 V V V) (E4 V V (by kernel_rfl) V V (U0 V (.pure _ _ _ _)) ?_))))))));refine X8 rfl rfl (by kernel_rfl) rfl rfl (D51 (fun frc hU hk=>i7 832 Bool w9 false (S6 hU rfl) (S6 hU rfl) (by (first | omega | decide)) (by (first | omega | decide)) (fun _=>by first | exact ⟨⟨rfl,rfl⟩,trivial⟩ | exact ⟨H2 _ _ _,trivial⟩ | exact ⟨H2 _ _ _,⟨rfl,rfl⟩,H2 _ _ _,trivial⟩) (by rw [hk];(repeat (first | exact z2 | refine H09 ?_ | refine N4 rfl rfl ?_))))) rfl ?_;refine E4 V V (by kernel_rfl) V V (B4 V) (E4 V V (by kernel_rfl) V V (A9 V) (X8 V V (by kernel_rfl) V V (A27 (fun frc hU=>C2 TySz.out (S6 hU V) V (S6 hU V) V V V)) V (w_again V V (by kernel_rfl) V V (A27 (fun frc hU=>C2 TySz.out (S6 hU V) V (S6 hU V) V V V)) V (E4 V V (by kernel_rfl) V V (B4 V) (E4 V V (by kernel_rfl) V V (A9 V) (X8 V V (by kernel_rfl) V V (A27 (fun frc hU=>C2 TySz.out (S6 hU V) V (S6 hU V) V V V)) V ?_))))));refine C87 (ks:=[831,832,834,837,838]) rfl (by kernel_rfl) rfl ?_ ?_
 ·refine M6 V V (by kernel_rfl) V V (B7 V V) (M6 V V (by kernel_rfl) V V (B7 V V) (M6 V V (by kernel_rfl) V V (B7 V V) (M6 V V (by kernel_rfl) V V (B7 V V) (M6 V V (by kernel_rfl) V V (U0 V (.pure _ _ _ _)) ?_))));refine x_eff rfl rfl (by kernel_rfl) rfl rfl (D51 (fun frc hU hk=>i7 832 Bool w9 false (S6 hU rfl) (S6 hU rfl) (by (first | omega | decide)) (by (first | omega | decide)) (fun _=>by first | exact ⟨⟨rfl,rfl⟩,trivial⟩ | exact ⟨H2 _ _ _,trivial⟩ | exact ⟨H2 _ _ _,⟨rfl,rfl⟩,H2 _ _ _,trivial⟩) (by rw [hk];(repeat (first | exact z2 | refine H09 ?_ | refine N4 rfl rfl ?_))))) rfl (I47 (by repeat (first | exact trivial | refine ⟨.inr rfl,?_⟩ | refine ⟨.inl rfl,?_⟩ | exact E10 (by repeat (first | exact D6 | refine D7 rfl ?_))))) ?_;refine M6 V V (by kernel_rfl) V V (B4 V) (M6 V V (by kernel_rfl) V V (A9 V) ?_);exact B31
 have hz0:(List.replicate 6 false)=[false,false,false,false,false,false]:=rfl
 refine k1 (k2 ?_);refine E2 (I90 (gf':=D3 [831,832,834,837,838] gf) (l:=[(0,.s x4),(2,.s (d6 97)),(3,C7 AL.Thread 2 a8 th)]) (ob':=[(830,macX (a+1) (.p (.v (.slice none 0 0))) (.mut 832)),(832,snA [false,false,false,false,false,false])]++Z) ⟨le1 rfl,le1 rfl,le1 rfl,trivial⟩ (F0 hH) (by repeat (first | exact B2 | refine tail_drop rfl ?_ | refine B3 rfl ?_ | refine H3 _ rfl ?_ | refine d8 rfl ?_)) (E5 (L:=[(830,_),(832,_)]) ⟨rfl,rfl,trivial⟩ (by repeat (first | exact D6 | refine D7 rfl ?_ | refine F5 (H7 z2).2.1 ?_ | refine F5 (H7 z4).2.1 ?_ | refine F5 (H7 z5).2.1 ?_ | refine C52 (by first | exact z1 | exact z2 | exact z3 | exact z4 | exact z5) ?_ | refine y7 (by first | exact z1 | exact z2 | exact z3 | exact z4 | exact z5) ?_)))) ?_
 refine E2 (I95 831 AL.Thread 2 a8 201 (kb:=830) (o:=4) V V (and_tt (B45 V (B45 V (B45 V f1))) (N4 V V (N4 V V z1)))) ?_
 refine A2 (A3 V V (E1 V V (A3 V V (A4 ?_))));refine k1 (k3 ?_);refine C5 (X:=Nat) (fun i=>([(0,.s x4),(2,.s (d6 97)),(40,C7 AL.Thread 2 a8 th),(41,C0 th.length),(42,C0 i)]++D3 [831,832,834,837,838] gf,[(830,A21 (a+1)),(831,thG (A55 (a+1) th i).th),(832,snA (A55 (a+1) th i).sn)]++Z)) (fun i=>i≤th.length) (fun i=>th.length - i) 0 (Nat.zero_le _) ?_ ?_
 ·exact I90 ⟨le1 rfl,le1 rfl,le1 rfl,le1 rfl,le1 rfl,trivial⟩ (F0 hH) (by repeat (first | exact B2 | refine tail_drop rfl ?_ | refine B3 rfl ?_ | refine H3 _ rfl ?_ | refine d8 rfl ?_)) (E5 (L:=[(830,_),(831,_),(832,_)]) ⟨rfl,rfl,rfl,trivial⟩ (by repeat (first | exact D6 | refine D7 rfl ?_ | refine F5 (H7 z2).2.1 ?_ | refine F5 (H7 z4).2.1 ?_ | refine F5 (H7 z5).2.1 ?_ | refine C52 (by first | exact z1 | exact z2 | exact z3 | exact z4 | exact z5) ?_ | refine y7 (by first | exact z1 | exact z2 | exact z3 | exact z4 | exact z5) ?_)))
 intro i hi
 obtain ⟨m,hm⟩:∃m,m=A55 (a+1) th i:=⟨_,rfl⟩
 dsimp only at hi ⊢
 rw [←hm]
 refine k2 (A2 (E7 V V V (A4 ?_)));refine k1 (k2 ?_);refine B0 rfl (fun ht=>?_) (fun ht=>?_)
 rotate_left
 ·have hie:i=th.length:=by have:=A1 ht;omega
  rw [hm,hie]
  refine k6 (k7 (k7 (k8 V ?_)))
  exact S9 (A67 rfl) (by repeat (first | exact B2 | refine tail_drop rfl ?_ | refine B3 rfl ?_ | refine H3 _ rfl ?_ | refine d8 rfl ?_)) (E5 (L:=[(830,_),(831,_),(832,_)]) ⟨rfl,rfl,rfl,trivial⟩ (by repeat (first | exact D6 | refine D7 rfl ?_ | refine F5 (H7 z2).2.1 ?_ | refine F5 (H7 z4).2.1 ?_ | refine F5 (H7 z5).2.1 ?_ | refine C52 (by first | exact z1 | exact z2 | exact z3 | exact z4 | exact z5) ?_ | refine y7 (by first | exact z1 | exact z2 | exact z3 | exact z4 | exact z5) ?_))) ⟨rfl,rfl⟩
 have hlt:i < th.length:=by have:=A0 ht;omega
 obtain ⟨t,htd⟩:∃t,t=th[i]:=⟨_,rfl⟩
 have hvt:th[i]?=some t:=by rw [htd];simp [hlt]
 have hgd:th.getD i th0=t:=by rw [J20,hvt];rfl
 obtain ⟨hs1,hs2⟩:=hst t (J34 hvt)
 obtain ⟨q,hqd⟩:∃q,q=D05 auto5 t.state:=⟨_,rfl⟩
 have hvs:auto5.States[t.state.toNat]?=some q:=by
  rw [hqd,D05,J20,J14 (show t.state.toNat < 6 by omega)];rfl
 refine k5 (k1 (k2 (k3 (k2 (A2 (A5 (A8 V (.pure _ _ _ _) V (by omega) hvt) V (A5 (E0 V V) V (C6 (A84 837 (H7 (N4 V V (N4 V V (N4 V V z4)))).2.1 (by decide)) V (H1 (C2 TySz.out V V V V V V) (A4 ?_))))))))));refine k1 (k2 ?_);refine E2 (I90 (gf':=D3 [831,832,834,837,838] gf) (l:=[(0,.s x4),(2,.s (d6 97)),(40,C7 AL.Thread 2 a8 th),(41,C0 th.length),(42,C0 i),(5,.s (.one (.ref 837 0)))]) (ob':=[(830,A21 (a+1)),(831,thG m.th),(832,snA m.sn),(837,.box [.p (.v (.int .i64 t.state)),.p (.v (.int .i64 t.from_))])]++Z) ⟨le1 rfl,le1 rfl,le1 rfl,le1 rfl,le1 rfl,le1 rfl,trivial⟩ (F0 hH) (by repeat (first | exact B2 | refine tail_drop rfl ?_ | refine B3 rfl ?_ | refine H3 _ rfl ?_ | refine d8 rfl ?_)) (E5 (L:=[(830,_),(831,_),(832,_),(837,_)]) ⟨rfl,rfl,rfl,rfl,trivial⟩ (by repeat (first | exact D6 | refine D7 rfl ?_ | refine F5 (H7 z2).2.1 ?_ | refine F5 (H7 z4).2.1 ?_ | refine F5 (H7 z5).2.1 ?_ | refine C52 (by first | exact z1 | exact z2 | exact z3 | exact z4 | exact z5) ?_ | refine y7 (by first | exact z1 | exact z2 | exact z3 | exact z4 | exact z5) ?_)))) ?_
 refine O2 [10,9] [[],[9],[10,9]] [(9,([838],[])),(10,([],[]))] [(0,[]),(1,[]),(2,[]),(3,[]),(4,[]),(5,[]),(6,[]),(7,[]),(8,[]),(9,[]),(10,[9])] [(0,[9]),(1,[9]),(2,[9]),(3,[9]),(4,[9]),(5,[9]),(6,[9]),(7,[9]),(8,[9])] (by kernel_rfl) (by kernel_rfl) (E4 V V (by kernel_rfl) V V (B7 V V) (E4 V V (by kernel_rfl) V V (B4 V) (E4 V V (by kernel_rfl) V V (A9 V) (E4 V V (by kernel_rfl) V V (A9 V) (E4 V V (by kernel_rfl) V V (C4 V V V) (E4 V V (by kernel_rfl) V V (A9 V) (E4 V V (by kernel_rfl) V V (C4 V V V) (E4 V V (by kernel_rfl) V V (A8 V (.pure _ _ _ _) V (by omega) hvs) (E4 V V (by kernel_rfl) V V (E0 V V) ?_)))))))));refine X8 rfl rfl (by kernel_rfl) rfl rfl (r_alloc (by repeat (first | exact z5 | refine H09 ?_ | refine N4 rfl rfl ?_))) rfl ?_;refine X8 V V (by kernel_rfl) V V (A27 (fun frc hU=>C2 TySz.out (S6 hU V) V (S6 hU V) V V V)) V ?_;refine C87 (ks:=[831,832,834,837,838]) rfl (by kernel_rfl) rfl ?_ ?_
 ·refine M6 V V (by kernel_rfl) V V (B7 V V) (M6 V V (by kernel_rfl) V V (B4 V) (M6 V V (by kernel_rfl) V V (A9 V) (M6 V V (by kernel_rfl) V V (A9 V) (M6 V V (by kernel_rfl) V V (C4 V V V) (M6 V V (by kernel_rfl) V V (A9 V) (M6 V V (by kernel_rfl) V V (C4 V V V) (M6 V V (by kernel_rfl) V V (A8 V (.pure _ _ _ _) V (by omega) hvs) (M6 V V (by kernel_rfl) V V (E0 V V) ?_))))))));exact B31
 refine k1 (k2 ?_);refine E2 (I90 (gf':=D3 [831,832,834,837,838] gf) (l:=[(0,.s x4),(2,.s (d6 97)),(40,C7 AL.Thread 2 a8 th),(41,C0 th.length),(42,C0 i),(5,.s (.one (.ref 837 0))),(6,.s (.one (.ref 838 0)))]) (ob':=[(830,A21 (a+1)),(831,thG m.th),(832,snA m.sn),(837,.box [.p (.v (.int .i64 t.state)),.p (.v (.int .i64 t.from_))]),(838,.box ((cellsOf Z8 q 0 7).map .p))]++Z) ⟨le1 rfl,le1 rfl,le1 rfl,le1 rfl,le1 rfl,le1 rfl,le1 rfl,trivial⟩ (F0 hH) (by repeat (first | exact B2 | refine tail_drop rfl ?_ | refine B3 rfl ?_ | refine H3 _ rfl ?_ | refine d8 rfl ?_)) (E5 (L:=[(830,_),(831,_),(832,_),(837,_),(838,_)]) ⟨rfl,rfl,rfl,rfl,rfl,trivial⟩ (by repeat (first | exact D6 | refine D7 rfl ?_ | refine F5 (H7 z2).2.1 ?_ | refine F5 (H7 z4).2.1 ?_ | refine F5 (H7 z5).2.1 ?_ | refine C52 (by first | exact z1 | exact z2 | exact z3 | exact z4 | exact z5) ?_ | refine y7 (by first | exact z1 | exact z2 | exact z3 | exact z4 | exact z5) ?_)))) ?_
 by_cases hK:q.Kind=0
 ·have hq2:q=A54:=by
   have e:q=auto5.States.getD t.state.toNat c6:=hqd
   rw [e] at hK ⊢
   exact I75 _ (by omega) hK
  subst hq2
  refine A2 (A5 (A9 V) V (G4 V V V V (A5 (F8 V V) V (A3 V V (H9 V V V V (A3 V V (H9 V V V V (A5 (D45 V V (by omega)) V (H9 V V V V (A5 (A9 V) V (H9 V V V V (A5 (K8 V V (by first | omega | decide) (by (first | omega | decide))) V (H9 V V V V (G4 V V V V (H9 V V V V (A3 V V (H9 V V V V (A5 (A64 V V (by omega)) V (H9 V V V V (A5 (F72 V V (by (first | omega | decide))) V (H9 V V V V (A5 (C77 V V V (fun _=>rfl)) V (H9 V V V V ?_)))))))))))))))))))))));refine A5 (F8 V V) V (I5 V V ?_);refine A4 ?_;refine k1 ?_
  have hco:B46 (th.getD i th0)=true:=by
   rw [hgd];unfold B46;rw [←hqd];rfl
  have hokI:=List.all_eq_true.1 hok i (List.mem_range.2 hlt)
  rw [hco,Bool.not_true,Bool.false_or,J15,←hm,hgd,←hqd] at hokI
  obtain ⟨hk1,hk2⟩:=hokI
  have hk2:=A0 hk2
  obtain ⟨R,hR⟩:∃R,R=x8 (a+1) t.from_ ⟨[2],m.th,m.sn⟩ (rdN (a+1)):=⟨_,rfl⟩
  have hk2:R.opn=[]:=by rw [hR];exact hk2
  have hnx:A55 (a+1) th (i+1)=R:=by
   rw [hR]
   show (if B46 (th.getD i th0)=true then x8 (a+1) (th.getD i th0).from_ ⟨[(D05 auto5 (th.getD i th0).state).Next],(A55 (a+1) th i).th,(A55 (a+1) th i).sn⟩ (rdN (a+1)) else A55 (a+1) th i)=_
   rw [if_pos hco,hgd,←hqd,←hm]
  refine B0 rfl (fun ht=>?_) (fun ht=>?_)
  rotate_left
  ·exact absurd ht (by decide)
  skip
  refine A2 (A3 V V (A5 (A9 V) V (G4 V V V V (A5 (A9 V) V (G4 V V V V (A5 (J3 V) V (L1 (G23 (a+1) 2 t.from_ m.th m.sn (rdN (a+1)) R hk1 hR.symm hk2 V V V (H7 (N4 V V (N4 V V (N4 V V (N4 V V (N4 V V z3)))))).2.1) V V V ?_)))))));rintro _ _ ⟨rfl,rfl⟩;refine A4 ?_;refine k4 (k1 (A2 (D1 V V V (A3 V V (A4 ?_)))));refine k1 ?_;refine ⟨i+1,by omega,by omega,?_⟩
  rw [hnx]
  exact I90 ⟨le1 rfl,le1 rfl,le1 rfl,le1 rfl,le1 rfl,trivial⟩ (F0 hH) (by repeat (first | exact B2 | refine tail_drop rfl ?_ | refine B3 rfl ?_ | refine H3 _ rfl ?_ | refine d8 rfl ?_)) (E5 (L:=[(830,_),(831,_),(832,_)]) ⟨rfl,rfl,rfl,trivial⟩ (by repeat (first | exact D6 | refine D7 rfl ?_ | refine F5 (H7 z2).2.1 ?_ | refine F5 (H7 z4).2.1 ?_ | refine F5 (H7 z5).2.1 ?_ | refine C52 (by first | exact z1 | exact z2 | exact z3 | exact z4 | exact z5) ?_ | refine y7 (by first | exact z1 | exact z2 | exact z3 | exact z4 | exact z5) ?_)))
 have hco:B46 (th.getD i th0)=false:=by
  rw [hgd];unfold B46;rw [←hqd];exact decide_eq_false hK
 have hnx:A55 (a+1) th (i+1)=m:=by
  rw [hm]
  show (if B46 (th.getD i th0)=true then x8 (a+1) (th.getD i th0).from_ ⟨[(D05 auto5 (th.getD i th0).state).Next],(A55 (a+1) th i).th,(A55 (a+1) th i).sn⟩ (rdN (a+1)) else A55 (a+1) th i)=_
  rw [hco];rfl
 refine A2 (A5 (A9 V) V (G4 V V V V (A5 (F8 V V) V (A3 V V (B1 V V V V (fun hg=>by rw [hg];exact B7 V V) ?_)))));refine B1 V V V V (fun hg=>by have hq:=hg;(try simp at hq);rw [hg];exact D45 V V (by omega)) ?_;refine B1 V V V V (fun hg=>by rw [hg];exact A9 V) ?_;refine B1 V V V V (fun hg=>by rw [hg];exact K8 V V (by first | omega | decide) (by (first | omega | decide))) ?_;refine B1 V V V V (fun hg=>by rw [hg];exact C4 V V V) ?_;refine B1 V V V V (fun hg=>by rw [hg];exact B7 V V) ?_;refine B1 V V V V (fun hg=>by have hq:=hg;(try simp at hq);rw [hg];exact A64 V V (by omega)) ?_;refine B1 V V V V (fun hg=>by rw [hg];exact F72 V V (by (first | omega | decide))) ?_;refine B1 V V V V (fun hg=>by rw [hg];exact C77 V V V (fun _=>rfl)) ?_;refine B1 V V V V (fun hg=>by rw [hg];exact F8 V V) ?_;refine I5 V V ?_;refine A4 ?_;refine k1 ?_;refine B0 rfl (fun ht=>?_) (fun ht=>?_)
 ·rw [decide_eq_false hK] at ht
  cases ht
 refine k5 (k4 (k1 (A2 (D1 V V V (A3 V V (A4 ?_))))));refine k1 ?_;refine ⟨i+1,by omega,by omega,?_⟩
 rw [hnx]
 exact I90 ⟨le1 rfl,le1 rfl,le1 rfl,le1 rfl,le1 rfl,trivial⟩ (F0 hH) (by repeat (first | exact B2 | refine tail_drop rfl ?_ | refine B3 rfl ?_ | refine H3 _ rfl ?_ | refine d8 rfl ?_)) (E5 (L:=[(830,_),(831,_),(832,_)]) ⟨rfl,rfl,rfl,trivial⟩ (by repeat (first | exact D6 | refine D7 rfl ?_ | refine F5 (H7 z2).2.1 ?_ | refine F5 (H7 z4).2.1 ?_ | refine F5 (H7 z5).2.1 ?_ | refine C52 (by first | exact z1 | exact z2 | exact z3 | exact z4 | exact z5) ?_ | refine y7 (by first | exact z1 | exact z2 | exact z3 | exact z4 | exact z5) ?_)))
set_option maxHeartbeats 1000000
def befT:Nat→List AL.Thread
 | 0=>[]
 | 1=>[⟨2,0⟩,⟨1,0⟩,⟨3,0⟩]
 | _=>[⟨2,0⟩,⟨1,0⟩,⟨0,0⟩,⟨3,0⟩]
def befS:Nat→List Bool
 | 0=>[false,false,false,false,false,false]
 | 1=>[false,true,true,true,false,false]
 | _=>[true,true,true,true,false,false]
def E11:Nat→List AL.Thread
 | 0=>[⟨5,0⟩,⟨4,0⟩]
 | 1=>[⟨2,0⟩,⟨1,0⟩,⟨3,0⟩,⟨5,1⟩]
 | _=>[⟨2,0⟩,⟨1,0⟩,⟨0,0⟩,⟨3,0⟩,⟨5,2⟩]
def aftS:Nat→List Bool
 | 0=>[false,false,false,false,true,true]
 | 1=>[false,true,true,true,false,true]
 | _=>[true,true,true,true,false,true]
def fN:Nat→Nat
 | 0=>2
 | _=>1
theorem fd_ok:∀k,k < 3→addOk k k ⟨[5],befT k,befS k⟩ (fN k)=true:=three (by decide) (by decide) (by decide)
theorem fd_is:∀k:Nat,k < 3→x8 k k ⟨[5],befT k,befS k⟩ (fN k)=⟨[],E11 k,aftS k⟩:=three rfl rfl rfl
theorem fd_st:∀k,k < 3→(∀t∈E11 k,0≤t.state∧t.state < 6)∧(E11 k).length≤20:=three (by decide) (by decide) (by decide)
theorem fd_acc:∀k,k < 3→A03 auto5 (E11 k)=if k=2 then 0 else -1:=three rfl rfl rfl
theorem two_of {p:Nat→Prop} (h0:p 0) (h1:p 1):∀i,i < 2→p i
 | 0,_=>h0
 | 1,_=>h1
theorem fd_rok:∀k,k < 2→rdOk (k+1) (E11 k)=true:=two_of (by decide) (by decide)
theorem fd_rd:∀k,k < 2→A55 (k+1) (E11 k) (E11 k).length=⟨[],befT (k+1),befS (k+1)⟩:=two_of rfl rfl
theorem find_ok:FnOk Tryz.prog 106 [C75 auto5,L2 aa,E6 0] (fun rs=>rs=[.agg [.v (.int .i64 0),.v (.int .i64 2)],H8 true]):=by
 refine FnOk.intro Tryz.func106 (by decide) V V V V ?_
 refine k2 (A2 (A5 (q8 V V V) V (C6 (J6 6 V) V (A6 V V (A4 ?_)))));refine k1 (k2 (A2 (A5 (E0 V V) V (A3 V V (A3 V V (B33 (I19) V V V V ?_))))));rintro _ _ ⟨rfl,rfl⟩;refine ⟨rfl,?_⟩;refine A6 V V (A4 ?_);refine k1 (E2 (I95 831 AL.Thread 2 a8 201 (kb:=830) (o:=4) V V V) ?_)
 refine k2 (A2 (C6 (J6 9 V) V (A4 ?_)));refine k1 (k2 (A2 (A6 V V (A4 ?_))));refine k1 (k3 (C5 (X:=Nat) (fun k=>([(1,S3 aa),(3,.s (.one (.eref Unit 2 (fun _ j=>[Cell.list AL.State 7 Z8 auto5.States,Cell.v (.int .i64 auto5.Start)].getD j (.v undef)) () 0))),(6,.s (.one (.ref 6 0))),(8,.s (.one (.ref 830 0))),(9,.s (.one (.ref 9 0))),(10,P6 false)],[(830,A21 k),(831,thG (befT k)),(832,snA (befS k)),(6,.box [.p (.v (.int .i64 0)),.p (.v (.int .i64 0))]),(9,.box [.p (.v (.int .i64 0)),.p (.v (.int .i64 0))])])) (fun k=>k≤2) (fun k=>2 - k) 0 (by decide) (I89 ⟨le1 rfl,le1 rfl,le1 rfl,le1 rfl,le1 rfl,le1 rfl,trivial⟩ ⟨rfl,rfl,rfl,rfl,rfl,trivial⟩) ?_))
 intro k hk
 have hk3:k < 3:=by omega
 have h1:=fd_ok k hk3
 have h2:=fd_is k hk3
 obtain ⟨h3,h4⟩:=fd_st k hk3
 have h5:=fd_acc k hk3
 obtain ⟨bt,hbt⟩:∃bt,bt=befT k:=⟨_,rfl⟩
 obtain ⟨bs,hbs⟩:∃bs,bs=befS k:=⟨_,rfl⟩
 dsimp only at hk ⊢
 rw [←hbt,←hbs] at h1 h2 ⊢
 refine k3 (k2 (k2 (A2 (A3 V V (A5 (R7 V) V (A4 ?_))))));refine k1 ?_;refine B0 rfl (fun ht=>?_) (fun ht=>?_)
 rotate_left
 ·cases ht
 skip
 refine E42 8 (by kernel_rfl) (by kernel_rfl) V (D8 V V (B5 (B8 V) V V (B5 (A7 V V) V V (D8 V V (B5 (B4 V) V V (B5 (A9 V) V V (B5 (C4 V V V) V V (B5 (J3 V) V V (N3 ?_)))))))));refine F77 (G23 k 5 k bt bs (fN k) ⟨[],E11 k,aftS k⟩ h1 h2 V V V V V) V V V ?_;rintro _ _ ⟨rfl,rfl⟩;refine ⟨_,rfl,?_⟩;refine N3 ?_;refine k1 (k2 (k2 ?_))
 obtain ⟨at',hat'⟩:∃at',at'=E11 k:=⟨_,rfl⟩
 obtain ⟨as',has'⟩:∃as',as'=aftS k:=⟨_,rfl⟩
 rw [←hat',←has']
 refine A08 [(1,S3 aa),(3,.s (.one (.eref Unit 2 (fun _ j=>[Cell.list AL.State 7 Z8 auto5.States,Cell.v (.int .i64 auto5.Start)].getD j (.v undef)) () 0))),(6,.s (.one (.ref 6 0))),(8,.s (.one (.ref 830 0))),(9,.s (.one (.ref 9 0))),(10,P6 false)] [(830,A21 k),(831,thG at'),(832,snA as'),(6,.box [.p (.v (.int .i64 0)),.p (.v (.int .i64 0))]),(9,.box [.p (.v (.int .i64 0)),.p (.v (.int .i64 0))])] (I89 ⟨le1 rfl,le1 rfl,le1 rfl,le1 rfl,le1 rfl,le1 rfl,trivial⟩ ⟨rfl,rfl,rfl,rfl,rfl,trivial⟩) ?_
 refine A2 (A3 V V (L1 (E57 k at' as' (by rw [hat'];exact h3) (by rw [hat'];exact h4) V V V V) V V V ?_));rintro _ _ ⟨rfl,rfl⟩;refine A6 V V (A4 ?_);refine k1 (k2 ?_)
 rw [hat',h5]
 by_cases hk2:k=2
 ·subst hk2
  refine A2 (A3 V V (A5 (X7 V V) V (A4 ?_)));refine k1 ?_;refine B0 rfl (fun ht=>?_) (fun ht=>?_)
  rotate_left
  ·cases ht
  refine k2 (A2 (A3 V V (A3 V V (A5 (B4 V) V (A5 (A9 V) V (G4 V V V V (A5 (J3 V) V (H1 (C2 TySz.out V V V V V V) (A6 V V (A4 ?_))))))))));refine k1 (A2 (A3 V V (A3 V V (L1 (I20 2 0 (E11 2) as' 4 (by decide) (by decide) (fun t ht=>by cases ht;decide) (by decide) V V V V) V V V ?_))));rintro _ _ ⟨rfl,rfl⟩;refine A4 ?_;refine k1 (k2 (k2 (A2 (A3 V V (A5 (B4 V) V (A5 (A9 V) V (G4 V V V V (A3 V V (A5 (J2 V) V (A5 (F8 V V) V (A3 V V (B1 V V V V (fun hg=>by rw [hg];exact B7 V V) ?_))))))))))));refine B1 V V V V (fun hg=>by rw [hg];exact B7 V V) ?_;refine L6 V V V (.gd (.val _)) V (fun hg=>by obtain ⟨hg1,hg2⟩:=K0 hg;(try rw [hg1]);(try rw [hg2]);exact B7 V V) ?_;refine L6 V V V (.gd (.val _)) V (fun hg=>by obtain ⟨hg1,hg2⟩:=K0 hg;(try rw [hg1]);(try rw [hg2]);exact B4 V) ?_;refine L6 V V V (.gd (.val _)) V (fun hg=>by obtain ⟨hg1,hg2⟩:=K0 hg;(try rw [hg1]);(try rw [hg2]);exact A9 V) ?_;refine L6 V V V (.gd (.val _)) V (fun hg=>by obtain ⟨hg1,hg2⟩:=K0 hg;(try rw [hg1]);(try rw [hg2]);exact C4 V V V) ?_;refine L6 V V V (.gd (.val _)) V (fun hg=>by obtain ⟨hg1,hg2⟩:=K0 hg;(try rw [hg1]);(try rw [hg2]);exact X0 V V) ?_;refine L6 V V V (.gd (.val _)) V (fun hg=>by obtain ⟨hg1,hg2⟩:=K0 hg;(try rw [hg1]);(try rw [hg2]);exact F8 V V) ?_;refine B1 V V V V (fun hg=>by rw [hg];exact I9 V (fun h=>by first | rfl | (rw [h];rfl)) (fun h=>by first | rfl | (rw [h];rfl))) ?_;refine I5 V V ?_;refine A4 ?_;refine k1 ?_;refine B0 rfl (fun ht=>?_) (fun ht=>?_)
  rotate_left
  ·exact absurd ht (by decide)
  refine k2 (A2 (A5 (P8 V V V) V (A3 V V (H1 (C2 TySz.out V V V V V V) (A6 V V (A4 ?_))))));refine k1 (k10 (k11 (k12 (k11 (k12 ?_)))))
  exact B6 (rs:=[.agg [.v (.int .i64 0),.v (.int .i64 2)],H8 true]) (retc2 rfl rfl rfl rfl rfl rfl rfl) rfl
 have hkl:k < 2:=by omega
 have hat2:decide ((k:Int)=(aa.length:Int))=false:=decide_eq_false (by have e:aa.length=2:=rfl;omega)
 rw [if_neg hk2]
 refine A2 (A3 V V (A5 (X7 V V) V (A4 ?_)));refine k1 ?_;refine B0 rfl (fun ht=>?_) (fun ht=>?_)
 ·cases ht
 refine k5 (k1 (k2 (k2 (A2 (A3 V V (A5 (B4 V) V (A5 (A9 V) V (G4 V V V V (A3 V V (A5 (J2 V) V (A5 (F8 V V) V (A3 V V (B1 V V V V (fun hg=>by rw [hg];exact B7 V V) ?_)))))))))))));refine B1 V V V V (fun hg=>by rw [hg];exact B7 V V) ?_;refine L6 V V V (.gd (.val _)) V (fun hg=>by obtain ⟨hg1,hg2⟩:=K0 hg;(try rw [hg1]);(try rw [hg2]);exact B7 V V) ?_;refine L6 V V V (.gd (.val _)) V (fun hg=>by obtain ⟨hg1,hg2⟩:=K0 hg;(try rw [hg1]);(try rw [hg2]);exact B4 V) ?_;refine L6 V V V (.gd (.val _)) V (fun hg=>by obtain ⟨hg1,hg2⟩:=K0 hg;(try rw [hg1]);(try rw [hg2]);exact A9 V) ?_;refine L6 V V V (.gd (.val _)) V (fun hg=>by obtain ⟨hg1,hg2⟩:=K0 hg;(try rw [hg1]);(try rw [hg2]);exact C4 V V V) ?_;refine L6 V V V (.gd (.val _)) V (fun hg=>by obtain ⟨hg1,hg2⟩:=K0 hg;(try rw [hg1]);(try rw [hg2]);exact X0 V V) ?_;refine L6 V V V (.gd (.val _)) V (fun hg=>by obtain ⟨hg1,hg2⟩:=K0 hg;(try rw [hg1]);(try rw [hg2]);exact F8 V V) ?_;refine B1 V V V V (fun hg=>by rw [hg];exact I9 V (fun h=>by first | rfl | (rw [h];rfl)) (fun h=>by first | rfl | (rw [h];rfl))) ?_;refine I5 V V ?_;refine A4 ?_;refine k1 ?_
 rw [hat2]
 refine B0 rfl (fun ht=>?_) (fun ht=>?_)
 ·cases ht
 refine k5 (k1 ?_)
 have hrd:=fd_rd k hkl
 refine A2 (A3 V V (L1 (I21 k (E11 k) as' hkl h3 h4 (fd_rok k hkl) V V V) V V V ?_));rintro _ _ ⟨rfl,rfl⟩;refine A4 ?_
 rw [hrd]
 refine k4 (k1 ?_)
 exact ⟨k+1,by omega,by omega,I89 ⟨le1 rfl,le1 rfl,le1 rfl,le1 rfl,le1 rfl,le1 rfl,trivial⟩ ⟨rfl,rfl,rfl,rfl,rfl,trivial⟩⟩
theorem any_ok:FnOk Tryz.prog 71 [C75 auto5,L2 aa] (fun rs=>rs=[H8 true,E6 0]):=by
 refine FnOk.intro Tryz.func71 (by decide) V V V V ?_
 refine k2 (A2 (A5 (q8 V V V) V (A6 V V (A6 V V (A4 ?_)))));refine k1 (k2 (k2 (A2 (A5 (E0 V V) V (C9 (I18) V V V ?_)))));rintro _ rfl;refine A6 V V (A4 ?_);refine k1 (k2 (A2 (A3 V V (A5 (Q9 V V) V (A4 ?_)))));refine k1 ?_;refine B0 rfl (fun ht=>?_) (fun ht=>?_)
 ·cases ht
 refine k5 (k1 (k2 (A2 (A5 (E0 V V) V (A3 V V (C9 (find_ok) V V V ?_))))));rintro _ rfl;refine A3 V V (H0 V V V (H0 V V V (C6 (J6 7 V) V (H1 (C2 TySz.out V V V V V V) (A6 V V (A4 ?_))))));refine k1 (k2 (A2 (A3 V V (A6 V V (A6 V V (A4 ?_))))));refine k1 (k10 ?_)
 exact B6 (rs:=[H8 true,E6 0]) (V5 rfl rfl rfl rfl rfl) rfl
set_option maxHeartbeats 1000000
def U4 (B:List (List Str)) (i:Nat):List Str:=(B.take i).flatten
theorem y8 {B:List (List Str)} {i:Nat} (h:i < B.length):U4 B (i+1)=U4 B i++B[i]:=by
 unfold U4
 rw [List.take_add_one,J14 h,Option.toList_some,J50];simp
theorem u7 {B:List (List Str)} (h:B.flatten.length≤1000000) (i:Nat):(U4 B i).length≤1000000:=by
 have e:B.flatten=(B.take i).flatten++(B.drop i).flatten:=by rw [←J50,J57]
 rw [e,J19] at h
 unfold U4;omega
abbrev F48 (l:List Str):Ob:=.grow 9 Str 1 P9 l
theorem G24 (n:Nat) (hn:n≤1000000):AL.Met Tryz.prog 104 [.one (.p (.v (.slice none 0 0))),N2 n] [] [] [] (fun rs ob'=>rs=[.one (.mut 804)]∧ob'=[(804,F48 [])]):=by
 refine AL.Met.intro Tryz.func104 (by decide) V V V ?_
 refine k2 (A2 (A5 (G8 _ 1 P9) V (A4 ?_)));refine k1 (k2 (k2 (A2 (A3 V V (E7 V V V (A4 ?_))))));refine k1 ?_;refine B0 rfl (fun ht=>?_) (fun ht=>?_)
 ·have h1:=A0 ht
  omega
 refine k5 (k1 (k2 (k2 (A2 (A3 V V (A3 V V (A5 (B67 V) V (A3 V V (A5 (B60 V) V (A5 (K9 V V (by omega)) V (A5 (K9 V V (by omega)) V (A6 V V (A4 ?_)))))))))))))
 rw [show (n:Int) - (0 - 0)=(n:Int) by omega]
 refine k1 (k2 (A2 (A3 V V (A5 (L7 V V) V (A4 ?_)))));refine k1 ?_;refine B0 rfl (fun ht=>?_) (fun ht=>?_)
 ·have h1:=A0 ht
  skip
  refine A2 (A3 V V (A3 V V (A5 (B67 V) V (A5 (B90 V V) V (A3 V V (C6 (E81 804 V V (by omega) (by omega) V V) V (A3 V V (A5 (B60 V) V (C6 (B66 V V V (by omega) (by omega) V) V (A6 V V (A4 ?_)))))))))));refine k1 (k2 ?_)
  rw [show Int.toNat 0=0 from rfl,List.take_zero]
  refine E2 (J04 (k:=804) Str P9 V) ?_
  refine A2 (A3 V V (A6 V V (A4 ?_)));refine k1 (k10 ?_)
  exact G5 (K6 rfl rfl) (by repeat (first | exact B2 | refine B3 rfl ?_ | refine D5 _ ?_)) (ObIn.spec (ob':=[(804,F48 [])]) ⟨rfl,trivial⟩) ⟨rfl,rfl⟩
 ·refine E2 (J03 0 804 Str 1 P9 9 V V) ?_
  refine k5 (k1 (k2 (A2 (A3 V V (A6 V V (A4 ?_))))));refine k1 (k10 ?_)
  exact G5 (K6 rfl rfl) (by repeat (first | exact B2 | refine B3 rfl ?_ | refine D5 _ ?_)) (ObIn.spec (ob':=[(804,F48 [])]) ⟨rfl,trivial⟩) ⟨rfl,rfl⟩
theorem F49 (B:List (List Str)) (hB1:B.length≤1000) (hB2:B.flatten.length≤1000000):FnOk Tryz.prog 70 [pStrss B] (fun rs=>rs=[B23 B.flatten]):=by
 have hBl:=hB1
 have hall:B.flatten=U4 B B.length:=by unfold U4;rw [J22]
 rw [hall]
 refine FnOk.intro Tryz.func70 (by decide) V V V V ?_
 refine k2 (A2 (A6 V V (A4 ?_)));refine k1 (k2 (A2 (A6 V V (A4 ?_))));refine k1 (k2 (k2 (A2 (A3 V V (E1 V V (A3 V V (A4 ?_)))))));refine k1 (k3 (C5 (X:=Nat) (fun i=>([(0,C7 (List Str) 1 strsC B),(3,C0 ((U4 B i).length:Nat)),(9,C7 (List Str) 1 strsC B),(10,C0 B.length),(11,C0 i)],[])) (fun i=>i≤B.length) (fun i=>B.length - i) 0 (Nat.zero_le _) (I89 ⟨le1 rfl,le1 rfl,le1 rfl,le1 rfl,le1 rfl,trivial⟩ trivial) ?_))
 intro i hi
 dsimp only at hi ⊢
 have hfl:=u7 hB2 i
 refine k2 (A2 (E7 V V V (A4 ?_)));refine k1 (k2 ?_);refine B0 rfl (fun ht=>?_) (fun ht=>?_)
 ·have hlt:i < B.length:=by have h1:=A0 ht;(try dsimp only at h1);omega
  obtain ⟨l,hl⟩:∃l,l=B[i]:=⟨_,rfl⟩
  have hv:B[i]?=some l:=by rw [hl];simp [hlt]
  have hfl1:=u7 hB2 (i+1)
  have hfs:(U4 B (i+1)).length=(U4 B i).length+l.length:=by rw [y8 hlt,J19,hl]
  have hs:((U4 B (i+1)).length:Int)=(U4 B i).length+l.length:=by rw [y8 hlt,J19,hl];omega
  refine k5 (k1 (k2 (k3 (k2 (A2 (A5 (A8 V (.pure _ _ _ _) V (by omega) hv) V (A5 (A7 V V) V (A6 V V (A4 ?_)))))))));refine k1 (k2 (A2 (A3 V V (A3 V V (E1 V V (D1 V V V (A6 V V (A4 ?_))))))));refine k1 (k2 (A2 (A3 V V (E7 V V V (A4 ?_)))));refine k1 ?_;refine B0 rfl (fun ht=>?_) (fun ht=>?_)
  ·have h1:=A0 ht
   omega
  refine k5 (k4 (k1 (A2 (D1 V V V (A3 V V (A4 ?_))))));refine k1 ?_;refine ⟨i+1,by omega,by omega,?_⟩
  rw [hs]
  exact (I89 ⟨le1 rfl,le1 rfl,le1 rfl,le1 rfl,le1 rfl,trivial⟩ trivial)
 have hie:i=B.length:=by have h1:=A1 ht;(try dsimp only at h1);omega
 rw [hie]
 have hfl2:=u7 hB2 B.length
 refine k6 (k2 (A2 (A3 V V (B33 (G24 (U4 B B.length).length (by omega)) V V V V ?_))));rintro _ _ ⟨rfl,rfl⟩;refine ⟨rfl,?_⟩;refine A6 V V (A4 ?_);refine k1 (k2 (k2 (A2 (A3 V V (E1 V V (A3 V V (A4 ?_)))))));refine k1 (k3 (C5 (X:=Nat) (fun i=>([(6,.s (.one (.mut 804))),(25,C7 (List Str) 1 strsC B),(26,C0 B.length),(27,C0 i)],[(804,F48 (U4 B i))])) (fun i=>i≤B.length) (fun i=>B.length - i) 0 (Nat.zero_le _) (I89 ⟨le1 rfl,le1 rfl,le1 rfl,le1 rfl,trivial⟩ ⟨rfl,trivial⟩) ?_))
 intro i hi
 dsimp only at hi ⊢
 have hfl:=u7 hB2 i
 refine k2 (A2 (E7 V V V (A4 ?_)));refine k1 (k2 ?_);refine B0 rfl (fun ht=>?_) (fun ht=>?_)
 ·have hlt:i < B.length:=by have h1:=A0 ht;(try dsimp only at h1);omega
  obtain ⟨l,hl⟩:∃l,l=B[i]:=⟨_,rfl⟩
  have hv:B[i]?=some l:=by rw [hl];simp [hlt]
  have hfl1:=u7 hB2 (i+1)
  have hfs:(U4 B (i+1)).length=(U4 B i).length+l.length:=by rw [y8 hlt,J19,hl]
  have hs:=y8 hlt
  rw [←hl] at hs
  refine k5 (k1 (k2 (k3 (k2 (A2 (A5 (A8 V (.pure _ _ _ _) V (by omega) hv) V (A5 (A7 V V) V (A6 V V (A4 ?_)))))))));refine k1 (A2 (A3 V V (A3 V V (C6 (T0 V V V (.pure _ _ _ _) (by omega) V) V (A6 V V (A4 ?_))))));refine k4 (k1 (A2 (D1 V V V (A3 V V (A4 ?_)))));refine k1 ?_;refine ⟨i+1,by omega,by omega,?_⟩
  rw [hs]
  exact (I89 ⟨le1 rfl,le1 rfl,le1 rfl,le1 rfl,trivial⟩ ⟨rfl,trivial⟩)
 have hie2:i=B.length:=by have h1:=A1 ht;(try dsimp only at h1);omega
 rw [hie2]
 refine k6 (k2 (E2 (Sees.freezeG (k:=804) V V) ?_))
 refine A2 (A3 V V (A6 V V (A4 ?_)));refine k1 (k10 ?_)
 exact B6 (rs:=[B23 (U4 B B.length)]) (G7 rfl rfl rfl) rfl
end Go.Proofs.YtfhbolepaojekaaGreatDoor
namespace Go.Proofs.YtfhbolepaojekaaGreatDoor
open Go Go.AL
set_option maxRecDepth 100000
end Go.Proofs.YtfhbolepaojekaaGreatDoor
namespace Go.Proofs.YtfhbolepaojekaaGreatDoor
open Go Go.AL
set_option maxRecDepth 100000
set_option maxHeartbeats 1000000
end Go.Proofs.YtfhbolepaojekaaGreatDoor
namespace Go.Proofs.YtfhbolepaojekaaGreatDoor
open Go Go.AL
set_option maxRecDepth 100000
end Go.Proofs.YtfhbolepaojekaaGreatDoor
namespace Go.Proofs.YtfhbolepaojekaaGreatDoor
open Go Go.AL
set_option maxRecDepth 100000
end Go.Proofs.YtfhbolepaojekaaGreatDoor
namespace Go.Proofs.YtfhbolepaojekaaGreatDoor
open Go Go.AL
set_option maxRecDepth 100000
end Go.Proofs.YtfhbolepaojekaaGreatDoor
namespace Go.Proofs.YtfhbolepaojekaaGreatDoor
open Go Go.AL
set_option maxRecDepth 100000
end Go.Proofs.YtfhbolepaojekaaGreatDoor
namespace Go.Proofs.YtfhbolepaojekaaGreatDoor
open Go Go.AL
set_option maxRecDepth 100000
theorem check12_good {p:Patch} (h1:¬C64 p≠0):C99 p.Hunks=true:=by
 by_cases hg:C99 p.Hunks=true
 ·exact hg
 ·exfalso;apply h1;unfold C64;split
  ·decide
  ·rw [if_pos (by simpa using hg)];decide
end Go.Proofs.YtfhbolepaojekaaGreatDoor
namespace Go.Proofs.YtfhbolepaojekaaGreatDoor
open Go Go.AL
set_option maxRecDepth 100000
end Go.Proofs.YtfhbolepaojekaaGreatDoor
namespace Go.Proofs.YtfhbolepaojekaaGreatDoor
open Go Go.AL
set_option maxRecDepth 100000
end Go.Proofs.YtfhbolepaojekaaGreatDoor
namespace Go.Proofs.YtfhbolepaojekaaGreatDoor
open Go Go.AL
set_option maxRecDepth 100000
end Go.Proofs.YtfhbolepaojekaaGreatDoor
namespace Go.Proofs.YtfhbolepaojekaaGreatDoor
open Go Go.AL
set_option maxRecDepth 100000
theorem E12 (n:Int):FnOk Tryz.prog 131 [E6 n] (fun rs=>rs=[H8 (decide (O0 n))]):=by
 refine FnOk.intro Tryz.func131 (by decide) V V V V ?_
 refine k2 (A2 (A6 V V (A4 ?_)));refine k1 (k2 (A2 (A3 V V (A5 (X7 V V) V (A3 V V (B1 V V V V (fun hg=>by rw [hg];exact B7 V V) ?_))))));refine B1 V V V V (fun hg=>by rw [hg];exact B08 V V) ?_;refine I5 V V ?_;refine A6 V V (A4 ?_);refine k1 (k10 (B6 (G7 V V V) ?_))
 simp only [and_pick]
 rfl
theorem I22 {gf:Fr} {ob:Obs} (p:List Span):AL.Met Tryz.prog 171 [.one (.p (.list Span 2 spanC p))] gf ob [] (fun rs ob'=>rs=[.one (.full Span 2 spanC p)]∧ob'=ob):=by
 refine AL.Met.intro Tryz.func171 (by decide) V V V ?_
 refine k2 (A2 (A6 V V (A4 ?_)));refine k1 (k2 (A2 (A3 V V (A3 V V (E1 V V (A3 V V (E1 V V (A5 (G64 V (.pure _ _ _ _) V V (by omega) (by omega) (by first | rfl | omega)) V ?_))))))));refine A6 V V (A4 ?_)
 rw [show p.take (p.length:Int).toNat=p by simp]
 refine k1 (k10 ?_)
 exact G5 (K6 rfl rfl) (by repeat (first | exact B2 | refine B3 rfl ?_ | refine D5 _ ?_)) (fun _ _ h=>h) ⟨rfl,rfl⟩
def A34 (i j:Int):List Span→List Change
 | []=>[]
 | x::r=>(if x.From > i∨x.To > j then [⟨i,x.From - i,j,x.To - j⟩] else [])++A34 (x.From+1) (x.To+1) r
theorem D24 (m n:Int):∀(p:List Span) (i j:Int),A34 i j (p++[⟨m,n⟩])=B54 i j p m n
 | [],i,j=>by simp [A34,B54]
 | x::r,i,j=>by
  rw [J36,A34,B54,D24 m n r]
theorem E58 (p:List Span) (m n:Int) (hp:p.length≤536870912) (hm:-1099511627776≤m∧m≤1099511627776) (hn:-1099511627776≤n∧n≤1099511627776) (hb:∀s∈p,-1099511627776≤s.From∧s.From≤1099511627776 ∧ -1099511627776≤s.To∧s.To≤1099511627776) :
  FnOk Tryz.prog 132 [pSpans p,E6 m,E6 n] (fun rs=>rs=[pChanges (E21 p m n)]):=by
 refine FnOk.intro Tryz.func132 (by decide) V V V V ?_
 refine k2 (A2 (A6 V V (A4 ?_)));refine k1 (k2 (A2 (C6 (N0 7 _ changeC V) V (A4 ?_))));refine k1 (k2 (A2 (A6 V V (A6 V V (A4 ?_)))));refine k1 (k2 (k2 (A2 (A3 V V (L1 (I22 p) V V V ?_)))));rintro _ _ ⟨rfl,rfl⟩;refine A3 V V (A3 V V (A5 (J3 V) V (A5 (C1 (c:=spanC) (ys:=[⟨m,n⟩]) (D2 V V V V F1) V V V) V (C6 (E43 18 V V (.pure _ _ _ _) (by simp;omega) (by simp) V) V (A5 (U0 V (.buf _ _ _ _ _)) V (A3 V V (A4 ?_)))))))
 obtain ⟨q,hq⟩:∃q,q=p++[(⟨m,n⟩:Span)]:=⟨_,rfl⟩
 have hql:q.length=p.length+1:=by rw [hq];simp
 have hqb:∀s∈q,-1099511627776≤s.From∧s.From≤1099511627776 ∧ -1099511627776≤s.To∧s.To≤1099511627776:=by
  intro s hs
  rw [hq] at hs
  rcases List.mem_append.1 hs with h | h
  ·exact hb s h
  ·simp at h;subst h;exact ⟨hm.1,hm.2,hn.1,hn.2⟩
 have hres:E21 p m n=A34 0 0 q:=by rw [hq,D24];rfl
 rw [←hq]
 refine k1 (k3 (C5 (X:=Nat × Int × Int × List Change) (fun x=>([(7,.s (.one (.buf 7 Change 4 changeC x.2.2.2))),(8,C0 x.2.1),(9,C0 x.2.2.1),(18,.s (.one (.buf 18 Span 2 spanC q))),(19,C0 q.length),(20,C0 x.1)],[(7,.spare x.2.2.2.length 4 116)])) (fun x=>x.1≤q.length∧x.2.2.2++A34 x.2.1 x.2.2.1 (q.drop x.1)=E21 p m n∧(-1099511627777≤x.2.1∧x.2.1≤1099511627777)∧(-1099511627777≤x.2.2.1∧x.2.2.1≤1099511627777)∧x.2.2.2.length≤x.1) (fun x=>q.length - x.1) (0,0,0,[]) ⟨Nat.zero_le _,hres.symm,by decide,by decide,Nat.le_refl _⟩ (I89 ⟨le1 rfl,le1 rfl,le1 rfl,le1 rfl,le1 rfl,le1 rfl,trivial⟩ ⟨rfl,trivial⟩) ?_))
 rintro ⟨k,i,j,out⟩ ⟨hk,he,hi,hj,hol⟩
 dsimp only at hk he hi hj hol ⊢
 refine k2 (A2 (E7 V V V (A4 ?_)));refine k1 (k2 ?_);refine B0 rfl (fun ht=>?_) (fun ht=>?_)
 ·have hlt:k < q.length:=by have:=A0 ht;omega
  have hv:q[k]?=some q[k]:=by simp [hlt]
  have hbk:=hqb _ (J18 hlt)
  obtain ⟨c,hc⟩:∃c,c=q[k]:=⟨_,rfl⟩
  rw [J23 hlt,A34] at he
  rw [←hc] at hv he hbk
  refine k5 (k1 (k2 (k3 (k2 (A2 (A5 (A8 V (.buf _ _ _ _ _) V (by omega) hv) V (A5 (E0 V V) V (C6 (J6 11 V) V (H1 (C2 TySz.out V V V V V V) (A4 ?_))))))))));refine R9 ?_
  obtain ⟨out',hout'⟩:∃out',out'=out++(if c.From > i∨c.To > j then [⟨i,c.From - i,j,c.To - j⟩] else []):=⟨_,rfl⟩
  have hol':out'.length≤k+1:=by rw [hout',J19];split<;>simp<;>omega
  rw [←J26,←hout'] at he
  refine D68 [(7,.s (.one (.buf 7 Change 4 changeC out'))),(8,C0 i),(9,C0 j),(11,.s (.one (.ref 11 0))),(18,.s (.one (.buf 18 Span 2 spanC q))),(19,C0 q.length),(20,C0 k)] [(7,.spare out'.length 4 116),(11,.box [.p (.v (.int .i64 c.From)),.p (.v (.int .i64 c.To))])] ?_ ?_
  ·refine k2 (A2 (A5 (A9 V) V (G4 V V V V (A3 V V (A5 (L7 V V) V (A3 V V (B1 V V V V (fun hg=>by rw [hg];exact A9 V) ?_)))))));refine B1 V V V V (fun hg=>by rw [hg];exact C4 V V V) ?_;refine B1 V V V V (fun hg=>by rw [hg];exact B7 V V) ?_;refine B1 V V V V (fun hg=>by rw [hg];exact L7 V V) ?_;refine I5 V V ?_;refine A4 ?_;refine k1 ?_;refine B0 rfl (fun ht=>?_) (fun ht=>?_)
   ·simp only [or_pick] at ht
    have h1:=A0 ht
    rw [if_pos h1] at hout'
    skip
    refine A2 (A3 V V (A3 V V (A5 (A9 V) V (G4 V V V V (A3 V V (A5 (K9 V V (by omega)) V (A3 V V (A5 (A9 V) V (G4 V V V V (A3 V V (A5 (K9 V V (by omega)) V (A5 (J3 V) V (A5 (C1 (c:=changeC) (ys:=[⟨i,c.From - i,j,c.To - j⟩]) (D2 V V V V F1) V V V) V (C6 (G9 V V V (.pure _ _ _ _) (by (simp only [J17,J21];omega)) V) V (A6 V V (A4 ?_))))))))))))))));refine k1 ?_
    rw [hout']
    exact I89 ⟨le1 rfl,le1 rfl,le1 rfl,le1 rfl,le1 rfl,le1 rfl,le1 rfl,trivial⟩ ⟨rfl,rfl,trivial⟩
   ·simp only [or_pick] at ht
    have h1:=A1 ht
    rw [if_neg h1,J43] at hout'
    refine k5 (k1 ?_)
    rw [hout']
    exact I89 ⟨le1 rfl,le1 rfl,le1 rfl,le1 rfl,le1 rfl,le1 rfl,le1 rfl,trivial⟩ ⟨rfl,rfl,trivial⟩
  ·skip
   refine D9 (by kernel_rfl) (by kernel_rfl) (B5 (A9 V) V V (B5 (C4 V V V) V V (B5 (b8 V V (by omega)) V V (B5 (A9 V) V V (B5 (C4 V V V) V V (B5 (b8 V V (by omega)) V V (B5 (H5 V V) V V (B5 (H5 V V) V V (N3 ?_)))))))));refine k4 (k1 (A2 (D1 V V V (A3 V V (A4 ?_)))));refine k1 ?_
   exact ⟨(k+1,c.From+1,c.To+1,out'),⟨by dsimp only;omega,he,⟨by dsimp only;omega,by dsimp only;omega⟩,⟨by dsimp only;omega,by dsimp only;omega⟩,by dsimp only;omega⟩,by dsimp only;omega,I89 ⟨le1 rfl,le1 rfl,le1 rfl,le1 rfl,le1 rfl,le1 rfl,trivial⟩ ⟨rfl,trivial⟩⟩
 ·have hk':k=q.length:=by have:=A1 ht;omega
  rw [hk',J29 (Nat.le_refl _),A34,J43] at he
  refine k6 (k2 (A2 (A3 V V (A6 V V (A4 ?_)))));refine k1 (k10 ?_)
  exact B6 (G7 rfl rfl rfl) (by rw [←he])
theorem G25 {m n:Int}:∀{p:List Span} {i j:Int},Asc m n i j p→∀k (h:k < p.length),(k=0→i≤p[k].From∧j≤p[k].To)∧(∀h0:0 < k,p[k - 1].From < p[k].From∧p[k - 1].To < p[k].To)∧p[k].From < m∧p[k].To < n
 | [],_,_,_,k,h=>by simp at h
 | x::r,i,j,ha,k,h=>by
  obtain ⟨h1,h2,h3⟩:=ha
  cases k with
  | zero=>have:=h3.le;exact ⟨fun _=>⟨h1,h2⟩,fun h0=>absurd h0 (by omega),by show x.From < m;omega,by show x.To < n;omega⟩
  | succ k =>
   obtain ⟨g1,g2,g3,g4⟩:=G25 h3 k (by simpa using h)
   refine ⟨fun h0=>absurd h0 (by omega),fun _=>?_,by simpa using g3,by simpa using g4⟩
   cases k with
   | zero =>
    obtain ⟨q1,q2⟩:=g1 rfl
    have hr:0 < r.length:=by simpa using h
    show x.From < r[0].From∧x.To < r[0].To
    omega
   | succ k=>simpa using g2 (by omega)
theorem E59 (p:List Span) (m n:Int) (hm:O0 m) (hn:O0 n) (ha:Asc m n 0 0 p) (hp:p.length≤536870912) :
  FnOk Tryz.prog 102 [pSpans p,E6 m,E6 n] (fun rs=>rs=[pChanges (E21 p m n),E6 0]):=by
 obtain ⟨hm1,hm2⟩:=hm
 obtain ⟨hn1,hn2⟩:=hn
 have hst:=G25 ha
 have hb:∀s∈p,0≤s.From∧s.From≤4096∧0≤s.To∧s.To≤4096:=by
  have key:∀(p:List Span) (i j:Int),Asc m n i j p→0≤i→0≤j→∀s∈p,0≤s.From∧s.From≤4096∧0≤s.To∧s.To≤4096:=by
   intro p
   induction p with
   | nil=>intro _ _ _ _ _ s hs;simp at hs
   | cons x r ih =>
    rintro i j ⟨h1,h2,h3⟩ h4 h5 s hs
    have:=h3.le
    rcases List.mem_cons.1 hs with rfl | hs
    ·omega
    ·exact ih _ _ h3 (by omega) (by omega) s hs
  exact key p 0 0 ha (by omega) (by omega)
 refine FnOk.intro Tryz.func102 (by decide) V V V V ?_
 refine k2 (A2 (A6 V V (A6 V V (A4 ?_))));refine k1 (k2 (k2 (A2 (A3 V V (C9 (E12 m) V V V ?_)))));rintro _ rfl;refine A5 (R7 V) V (A3 V V (B1 V V V V (fun hg=>by rw [hg];exact B7 V V) ?_));refine B1 V V V V (fun hg=>by have hq:=hg;(try simp at hq);rw [hg];exact L0 (E12 n) V V) ?_;refine B1 V V V V (fun hg=>by rw [hg];exact R7 V) ?_;refine I5 V V ?_;refine A4 ?_;refine k1 ?_;refine B0 rfl (fun ht=>?_) (fun ht=>?_)
 ·exfalso
  simp only [←decide_not,or_pick] at ht
  have h:¬O0 m∨¬O0 n:=A0 ht
  rcases h with h | h
  ·exact h ⟨hm1,hm2⟩
  ·exact h ⟨hn1,hn2⟩
 refine A08 [(0,C7 Span 2 spanC p),(1,C0 m),(2,C0 n)] [] (I89 ⟨le1 rfl,le1 rfl,le1 rfl,trivial⟩ trivial) ?_
 refine k5 (k1 (k2 (A2 (A5 (J3 V) V (C6 (J6 8 V) V (H1 (C2 TySz.out V V V V V V) (A4 ?_)))))));refine k1 (k2 (k2 (A2 (A3 V V (E1 V V (A3 V V (A4 ?_)))))));refine k1 (k3 ?_)
 obtain ⟨lastOf,hlast⟩:∃lastOf:Nat→Span,lastOf=fun k=>if k=0 then ⟨-1,-1⟩ else p.getD (k - 1) ⟨0,0⟩:=⟨_,rfl⟩
 refine C5 (X:=Nat) (fun k=>([(0,C7 Span 2 spanC p),(1,C0 m),(2,C0 n),(8,.s (.one (.ref 8 0))),(20,C7 Span 2 spanC p),(21,C0 p.length),(22,C0 k)],[(8,.box [.p (.v (.int .i64 (lastOf k).From)),.p (.v (.int .i64 (lastOf k).To))])])) (fun k=>k≤p.length) (fun k=>p.length - k) 0 (Nat.zero_le _) ?_ ?_
 ·rw [show lastOf 0=⟨-1,-1⟩ by rw [hlast];rfl]
  exact I89 ⟨le1 rfl,le1 rfl,le1 rfl,le1 rfl,le1 rfl,le1 rfl,le1 rfl,trivial⟩ ⟨rfl,trivial⟩
 intro k hk
 dsimp only at hk ⊢
 refine k2 (A2 (E7 V V V (A4 ?_)));refine k1 (k2 ?_);refine B0 rfl (fun ht=>?_) (fun ht=>?_)
 ·have hlt:k < p.length:=by have:=A0 ht;omega
  have hv:p[k]?=some p[k]:=by simp [hlt]
  obtain ⟨g1,g2,g3,g4⟩:=hst k hlt
  have hnext:lastOf (k+1)=p[k]:=by rw [hlast];simp [hlt]
  have hless:(lastOf k).From < p[k].From∧(lastOf k).To < p[k].To:=by
   rw [hlast]
   by_cases h0:k=0
   ·have:=g1 h0
    simp only [h0,if_true] at this ⊢
    omega
   ·have:=g2 (by omega)
    simp only [h0,if_false]
    have e:p.getD (k - 1) ⟨0,0⟩=p[k - 1]:=by simp [show k - 1 < p.length by omega]
    rw [e];exact this
  obtain ⟨c,hc⟩:∃c,c=p[k]:=⟨_,rfl⟩
  rw [←hc] at hv g3 g4 hnext hless
  obtain ⟨la,hla⟩:∃la,la=lastOf k:=⟨_,rfl⟩
  rw [←hla] at hless ⊢
  refine k5 (k1 (k2 (k3 (k2 (A2 (A5 (A8 V (.pure _ _ _ _) V (by omega) hv) V (A5 (E0 V V) V (C6 (J6 10 V) V (H1 (C2 TySz.out V V V V V V) (A4 ?_))))))))));refine k1 (k2 (k2 (A2 (A5 (A9 V) V (G4 V V V V (A5 (A9 V) V (G4 V V V V (A5 (B08 V V) V (A3 V V (B1 V V V V (fun hg=>by rw [hg];exact A9 V) ?_))))))))));refine B1 V V V V (fun hg=>by rw [hg];exact C4 V V V) ?_;refine B1 V V V V (fun hg=>by rw [hg];exact B7 V V) ?_;refine B1 V V V V (fun hg=>by rw [hg];exact X7 V V) ?_;refine I5 V V ?_;refine A3 V V (B1 V V V V (fun hg=>by rw [hg];exact A9 V) ?_);refine B1 V V V V (fun hg=>by rw [hg];exact C4 V V V) ?_;refine B1 V V V V (fun hg=>by rw [hg];exact A9 V) ?_;refine B1 V V V V (fun hg=>by rw [hg];exact C4 V V V) ?_;refine B1 V V V V (fun hg=>by rw [hg];exact B08 V V) ?_;refine I5 V V ?_;refine A3 V V (B1 V V V V (fun hg=>by rw [hg];exact A9 V) ?_);refine B1 V V V V (fun hg=>by rw [hg];exact C4 V V V) ?_;refine B1 V V V V (fun hg=>by rw [hg];exact B7 V V) ?_;refine B1 V V V V (fun hg=>by rw [hg];exact X7 V V) ?_;refine I5 V V ?_;refine A4 ?_;refine k1 ?_;refine B0 rfl (fun ht=>?_) (fun ht=>?_)
  ·exfalso
   simp only [or_pick] at ht
   have:=A0 ht
   omega
  ·refine k5 (k1 (A2 (A5 (P8 V V V) V (H1 (C2 TySz.out V V V V V V) (A4 ?_)))));refine k4 (k1 (A2 (D1 V V V (A3 V V (A4 ?_)))));refine k1 ?_;refine ⟨k+1,by omega,by omega,?_⟩
   rw [hnext]
   exact I89 ⟨le1 rfl,le1 rfl,le1 rfl,le1 rfl,le1 rfl,le1 rfl,le1 rfl,trivial⟩ ⟨rfl,trivial⟩
 ·refine k6 (k2 (A2 (A3 V V (A3 V V (A3 V V (C9 (E58 p m n hp (by omega) (by omega) (fun s hs=>by have:=hb s hs;omega)) V V V ?_))))));rintro _ rfl;refine A6 V V (A6 V V (A4 ?_));refine k1 (k10 ?_)
  exact B6 (V5 rfl rfl rfl rfl rfl) rfl
theorem C53 {l:List Int} {i:Nat} (h:i < l.length):l[i]?=some (l.getD i 0):=by simp [h]
theorem G26 (a b:List Int):FnOk Tryz.prog 101 [I0 a,I0 b] (fun rs=>rs=[H8 (decide ((a.length:Int)≤4096∧(b.length:Int)≤4096))]):=by
 refine FnOk.intro Tryz.func101 (by decide) V V V V ?_
 refine k2 (A2 (A6 V V (A4 ?_)));refine k1 (k2 (A2 (A3 V V (E1 V V (A5 (B08 V V) V (A3 V V (B1 V V V V (fun hg=>by rw [hg];exact B7 V V) ?_)))))));refine B1 V V V V (fun hg=>by rw [hg];exact U0 V (.pure _ _ _ _)) ?_;refine B1 V V V V (fun hg=>by rw [hg];exact B08 V V) ?_;refine I5 V V ?_;refine A6 V V (A4 ?_);refine k1 (k10 ?_)
 exact B6 (G7 rfl rfl rfl) (by simp only [and_pick])
theorem E60 (a b:List Int) (ha:a.length≤1073741824):FnOk Tryz.prog 133 [I0 a,I0 b] (fun rs=>rs=[E6 (W9 a b)]):=by
 refine FnOk.intro Tryz.func133 (by decide) V V V V ?_
 refine k2 (A2 (A6 V V (A4 ?_)));refine k1 (k2 (A2 (A6 V V (A4 ?_))));refine k1 (k2 (k3 (C5 (X:=Nat) (fun k=>([(0,C7 Int 1 E3 a),(1,C7 Int 1 E3 b),(5,C0 k)],[])) (fun k=>k≤a.length∧k≤b.length∧W9 a b=k+W9 (a.drop k) (b.drop k)) (fun k=>a.length - k) 0 ⟨Nat.zero_le _,Nat.zero_le _,by simp⟩ (I89 ⟨le1 rfl,le1 rfl,le1 rfl,trivial⟩ trivial) ?_)))
 rintro k ⟨hk,hk2,he⟩
 dsimp only at hk hk2 he ⊢
 refine k2 (k2 (D9 (by kernel_rfl) (by kernel_rfl) (D8 V V (D8 V V (B5 (U0 V (.pure _ _ _ _)) V V (B5 (A04 V V) V V (D8 V V (C8 V V (fun hg=>by rw [hg];exact B7 V V) V V ?_))))))));refine C8 V V (fun hg=>by rw [hg];exact B7 V V) V V ?_;refine C8 V V (fun hg=>by rw [hg];exact U0 V (.pure _ _ _ _)) V V ?_;refine C8 V V (fun hg=>by rw [hg];exact A04 V V) V V ?_;refine B5 (I9 V (fun h=>by first | rfl | (rw [h];rfl)) (fun h=>by first | rfl | (rw [h];rfl))) V V ?_;refine D8 V V (C8 V V (fun hg=>by rw [hg];exact B7 V V) V V ?_);refine C8 V V (fun hg=>by rw [hg];exact B7 V V) V V ?_;refine C8 V V (fun hg=>by have hq:=hg;(try simp at hq);rw [hg];exact A8 V (.pure _ _ _ _) V (by omega) (C53 (by omega))) V V ?_;refine C8 V V (fun hg=>by rw [hg];exact A7 V V) V V ?_;refine C8 V V (fun hg=>by rw [hg];exact B7 V V) V V ?_;refine C8 V V (fun hg=>by rw [hg];exact B7 V V) V V ?_;refine C8 V V (fun hg=>by have hq:=hg;(try simp at hq);rw [hg];exact A8 V (.pure _ _ _ _) V (by omega) (C53 (by omega))) V V ?_;refine C8 V V (fun hg=>by rw [hg];exact A7 V V) V V ?_;refine C8 V V (fun hg=>by rw [hg];exact F8 V V) V V ?_;refine B5 (I9 V (fun h=>by first | rfl | (rw [h];rfl)) (fun h=>by first | rfl | (rw [h];rfl))) V V ?_;refine N3 ?_;refine k1 ?_;refine B0 rfl (fun ht=>?_) (fun ht=>?_)
 ·simp only [and_pick] at ht
  obtain ⟨⟨h1,h2⟩,h3⟩:=A0 ht
  have h1:k < a.length:=by omega
  have h2:k < b.length:=by omega
  rw [E29 a b k h1 h2,if_pos (by simpa [h1,h2] using h3)] at he
  refine k5 (k1 (k3 (A2 (A3 V V (D1 V V V (A6 V V (A4 ?_)))))));refine k4 (k1 ?_)
  exact ⟨k+1,⟨by omega,by omega,by omega⟩,by omega,I89 ⟨le1 rfl,le1 rfl,le1 rfl,trivial⟩ trivial⟩
 ·simp only [and_pick] at ht
  have h:=A1 ht
  have h0:W9 (a.drop k) (b.drop k)=0:=by
   by_cases hc:k < a.length∧k < b.length
   ·obtain ⟨h1,h2⟩:=hc
    rw [E29 a b k h1 h2,if_neg]
    intro h3
    exact h ⟨⟨by omega,by omega⟩,by simpa [h1,h2] using h3⟩
   ·exact I36 a b k hc
  rw [h0] at he
  refine k6 (k2 (A2 (A3 V V (A6 V V (A4 ?_)))));refine k1 (k10 ?_)
  exact B6 (G7 rfl rfl rfl) (by rw [he];rfl)
theorem E61 (a b:List Int) (ha:a.length≤4096) (hb:b.length≤4096):FnOk Tryz.prog 134 [I0 a,I0 b] (fun rs=>rs=[pU16s (flat a b (fun _ _=>true))]):=by
 obtain ⟨W,hW⟩:∃W,W=b.length+1:=⟨_,rfl⟩
 have hmul:∀i:Nat,i≤a.length+1→0≤(i:Int)*(W:Int)∧(i:Int)*(W:Int)≤16789506:=by
  intro i hi
  have h1:i*W≤4098*4097:=Nat.mul_le_mul (by omega) (by omega)
  have h2:((i*W:Nat):Int)=(i:Int)*W:=by push_cast;rfl
  omega
 have hcast:∀i:Nat,(i:Int)*(W:Int)=((i*W:Nat):Int):=fun i=>by push_cast;rfl
 have hlen:∀done,(flat a b done).length=(a.length+1)*W:=fun done=>by rw [D34,hW]
 have hdl:∀i j,dist (a.drop i) (b.drop j)≤8192:=fun i j=>by
  have:=F57 (a.drop i) (b.drop j)
  simp only [J27] at this
  omega
 have hin:∀i j:Nat,i≤a.length→j≤b.length→i*W+j < (a.length+1)*W:=fun i j hi hj=>by rw [hW];exact (D54 hi hj).1
 refine FnOk.intro Tryz.func134 (by decide) V V V V ?_
 refine k2 (A2 (A6 V V (A4 ?_)));refine k1 (k2 (A2 (A3 V V (E1 V V (D1 V V V (A6 V V (A4 ?_)))))));refine R9 ?_
 refine A08 [(0,C7 Int 1 E3 a),(1,C7 Int 1 E3 b),(5,C0 W)] [] (I89 ⟨⟨_,rfl,.same _⟩,⟨_,rfl,.same _⟩,⟨_,rfl,.eq (by rw [hW];simp)⟩,trivial⟩ trivial) ?_
 have hm1:=hmul (a.length+1) (Nat.le_refl _)
 have e1:((a.length:Int)+1)=((a.length+1:Nat):Int):=by omega
 refine k2 (A2 (A3 V V (E1 V V (D1 V V V (A3 V V (A5 (A63 V V (by (rw [e1];omega))) V ?_))))));refine C6 (i7 20 Int C26 0 V V (by (rw [e1];omega)) (by (rw [e1];omega)) (fun _=>by first | exact ⟨⟨rfl,rfl⟩,trivial⟩ | exact ⟨H2 _ _ _,trivial⟩ | exact ⟨H2 _ _ _,⟨rfl,rfl⟩,H2 _ _ _,trivial⟩) V) V ?_;refine A6 V V (A4 ?_);refine R9 ?_
 refine A08 [(0,C7 Int 1 E3 a),(1,C7 Int 1 E3 b),(5,C0 W),(6,.s (.one (.mut 20)))] [(20,.arr Int 1 C26 (flat a b (fun _ _=>false)))] ?_ ?_
 ·refine I89 ⟨⟨_,rfl,.same _⟩,⟨_,rfl,.same _⟩,⟨_,rfl,.same _⟩,⟨_,rfl,.same _⟩,trivial⟩ ⟨?_,trivial⟩
  rw [←I35,e1,hcast,J16,hW];rfl
 refine k2 (k2 (A2 (A3 V V (E1 V V (A3 V V (A4 ?_))))));refine k1 (k3 ?_);refine C5 (X:=Nat) (fun j=>([(0,C7 Int 1 E3 a),(1,C7 Int 1 E3 b),(5,C0 W),(6,.s (.one (.mut 20))),(22,C0 b.length),(23,C0 j)],[(20,.arr Int 1 C26 (flat a b (fun r q=>decide (r=a.length∧q < j))))])) (fun j=>j≤b.length) (fun j=>b.length - j) 0 (Nat.zero_le _) ?_ ?_
 ·rw [show flat a b (fun r q=>decide (r=a.length∧q < 0))=flat a b (fun _ _=>false) from B04 fun r q _ _=>.inl (by simp)]
  exact I89 ⟨le1 rfl,le1 rfl,le1 rfl,le1 rfl,le1 rfl,le1 rfl,trivial⟩ ⟨rfl,trivial⟩
 intro j hj
 dsimp only at hj ⊢
 refine k2 (A2 (E7 V V V (A4 ?_)));refine k1 (k2 ?_);refine B0 rfl (fun ht=>?_) (fun ht=>?_)
 ·have hlt:j < b.length:=by have:=A0 ht;omega
  have hmm:=hmul a.length (by omega)
  have hix:=hin a.length j (Nat.le_refl _) (by omega)
  have hc1:=hcast a.length
  have hL:=hlen (fun r q=>decide (r=a.length∧q < j))
  have hst:(flat a b (fun r q=>decide (r=a.length∧q < j))).set (((a.length:Int)*(W:Int)+(j:Int)).toNat) (IntKind.u16.wrap ((b.length:Int) - j))=flat a b (fun r q=>decide (r=a.length∧q < j+1)):=by
   rw [show ((a.length:Int)*(W:Int)+(j:Int)).toNat=a.length*(b.length+1)+j by rw [hc1,hW];omega,H29 _ (by omega)]
   refine G41 (Nat.le_refl _) (by omega) ?_ (by simp) (fun r q hr hq hne=>?_)
   ·rw [J29 (Nat.le_refl a.length),dist,J27];omega
   ·rw [decide_eq_decide];omega
  refine k5 (k1 (k2 (k3 (k2 (A2 (A3 V V (A6 V V (A4 ?_))))))));refine k1 (A2 (A3 V V (A3 V V (E1 V V (A3 V V (A5 (A63 V V (by omega)) V (A3 V V (D1 V V V (A3 V V (E1 V V (A3 V V (A5 (K9 V V (by omega)) V (A5 (Y2 V) V (A5 (F3 V V V (by omega) (by (rw [hL];omega))) V ?_))))))))))))));refine H1 (I4 TySz.out V V (by (rw [hL];omega)) V V) ?_;refine A4 ?_;refine k4 (k1 (A2 (D1 V V V (A3 V V (A4 ?_)))));refine k1 ?_;refine ⟨j+1,by omega,by omega,?_⟩
  rw [←hst]
  exact I89 ⟨le1 rfl,le1 rfl,le1 rfl,le1 rfl,le1 rfl,le1 rfl,trivial⟩ ⟨rfl,trivial⟩
 ·have hj':j=b.length:=by have:=A1 ht;omega
  subst hj'
  rw [show flat a b (fun r q=>decide (r=a.length∧q < b.length))=flat a b (fun r _=>decide (a.length≤r)) from B04 fun r q hr hq=>by
   by_cases h:r=a.length∧q=b.length
   ·right;rw [h.1,h.2,J29 (Nat.le_refl _),J29 (Nat.le_refl _)];exact C60 []
   ·left;rw [decide_eq_decide];omega]
  refine k6 (k2 (k2 (A2 (A3 V V (E1 V V (A5 (K9 V V (by omega)) V (A6 V V (A4 ?_))))))));refine k1 (k3 (C5 (X:=Nat) (fun i=>([(0,C7 Int 1 E3 a),(1,C7 Int 1 E3 b),(5,C0 W),(6,.s (.one (.mut 20))),(8,C0 ((i:Int) - 1))],[(20,.arr Int 1 C26 (flat a b (fun r _=>decide (i≤r))))])) (fun i=>i≤a.length) (fun i=>i) a.length (Nat.le_refl _) (I89 ⟨le1 rfl,le1 rfl,le1 rfl,le1 rfl,le1 rfl,trivial⟩ ⟨rfl,trivial⟩) ?_))
  intro i hi
  dsimp only at hi ⊢
  refine k2 (k2 (A2 (A3 V V (A5 (X7 V V) V (A4 ?_)))));refine k1 ?_;refine B0 rfl (fun ht=>?_) (fun ht=>?_)
  ·obtain ⟨i,rfl⟩:∃r,i=r+1:=⟨i - 1,by have:=A0 ht;omega⟩
   refine A08 [(0,C7 Int 1 E3 a),(1,C7 Int 1 E3 b),(5,C0 W),(6,.s (.one (.mut 20))),(8,C0 i)] [(20,.arr Int 1 C26 (flat a b (fun r _=>decide (i+1≤r))))] (I89 ⟨le1 rfl,le1 rfl,le1 rfl,le1 rfl,leE V (by first | (simp;done) | (simp;omega)),trivial⟩ ⟨rfl,trivial⟩) ?_
   obtain ⟨P,hP⟩:∃P,P=i*W:=⟨_,rfl⟩
   obtain ⟨N,hN⟩:∃N,N=(a.length+1)*W:=⟨_,rfl⟩
   have c0:(i:Int)*(W:Int)=(P:Int):=by rw [hP];exact hcast i
   have c1:((i:Int)+1)*(W:Int)=(P:Int)+W:=by rw [Int.add_mul,Int.one_mul,c0]
   have c2:((i:Int)+2)*(W:Int)=(P:Int)+W+W:=by rw [Int.add_mul,c0];omega
   have hPN:P+W+W≤N:=by
    have h1:(i+2)*W≤(a.length+1)*W:=J25 _ (by omega)
    have h2:(i+2)*W=i*W+W+W:=by rw [J35];omega
    omega
   have hN2:N≤16789506:=by have:=hmul (a.length+1) (Nat.le_refl _);have:=hcast (a.length+1);omega
   have hL:∀done,(flat a b done).length=N:=fun done=>by rw [hlen,hN]
   refine k5 (k1 (k2 (k3 (k2 (D9 (by kernel_rfl) (by kernel_rfl) (D8 V V (D8 V V (D8 V V (B5 (A63 V V (by (rw [c0];omega))) V V ?_)))))))));refine D8 V V (B5 (b8 V V (by omega)) V V (D8 V V (B5 (A63 V V (by (rw [c1];omega))) V V ?_)));refine B5 (B29 V V V V (by (first | (rw [c0];omega) | (rw [c0,c1];omega) | (rw [c1,hL];omega))) (by (first | (rw [c0];omega) | (rw [c0,c1];omega) | (rw [c1,hL];omega))) (by (first | (rw [c0];omega) | (rw [c0,c1];omega) | (rw [c1,hL];omega)))) V V ?_;refine D8 V V (D8 V V (B5 (b8 V V (by omega)) V V (D8 V V (B5 (A63 V V (by (rw [c1];omega))) V V ?_))));refine D8 V V (B5 (b8 V V (by omega)) V V (D8 V V (B5 (A63 V V (by (rw [c2];omega))) V V ?_)));refine B5 (B29 V V V V (by (first | (rw [c1];omega) | (rw [c1,c2];omega) | (rw [c2,hL];omega))) (by (first | (rw [c1];omega) | (rw [c1,c2];omega) | (rw [c2,hL];omega))) (by (first | (rw [c1];omega) | (rw [c1,c2];omega) | (rw [c2,hL];omega)))) V V ?_;refine B5 (H5 V V) V V (B5 (H5 V V) V V (N3 ?_));refine R9 ?_
   have hdone:∀j,j≤b.length→(flat a b (fun r q=>decide (i+1≤r∨(r=i∧j≤q))))[P+j]?=some (dist (a.drop i) (b.drop j):Int):=fun j hj=>by
    rw [hP,hW,E28 (by omega) hj,if_pos (by simp)]
   have hbelow:∀j j',j≤b.length→(flat a b (fun r q=>decide (i+1≤r∨(r=i∧j'≤q))))[P+W+j]?=some (dist (a.drop (i+1)) (b.drop j):Int):=fun j j' hj=>by
    rw [show P+W+j=(i+1)*(b.length+1)+j by rw [hP,hW,J35];omega,E28 (by omega) hj,if_pos (by simp)]
   refine A08 [(0,C7 Int 1 E3 a),(1,C7 Int 1 E3 b),(5,C0 W),(6,.s (.one (.mut 20))),(8,C0 i),(9,.s (.one (.msl 20 1 P W))),(10,.s (.one (.msl 20 1 (P+W) W)))] [(20,.arr Int 1 C26 (flat a b (fun r _=>decide (i+1≤r))))] ?_ ?_
   ·refine I89 ⟨⟨_,rfl,.same _⟩,⟨_,rfl,.same _⟩,⟨_,rfl,.same _⟩,⟨_,rfl,.same _⟩,⟨_,rfl,.same _⟩,⟨_,rfl,.eq ?_⟩,⟨_,rfl,.eq ?_⟩,trivial⟩ ⟨rfl,trivial⟩
    ·rw [c0,c1];congr 3<;>omega
    ·rw [c1,c2];congr 3<;>omega
   have hset:∀(done done':Nat→Nat→Bool) (j:Nat) (v:Int),j≤b.length→v=(dist (a.drop i) (b.drop j):Int)→done' i j=true→(∀r q,r≤a.length→q≤b.length→¬(r=i∧q=j)→done' r q=done r q)→(flat a b done).set (P+j) v=flat a b done':=by
    intro done done' j v hj hv h1 h2
    rw [hP,hW];exact G41 (by omega) hj hv h1 h2
   have hs0:(flat a b (fun r _=>decide (i+1≤r))).set (P+((b.length:Nat):Int).toNat) (IntKind.u16.wrap ((a.length:Int) - i))=flat a b (fun r q=>decide (i+1≤r∨(r=i∧b.length≤q))):=by
    rw [J16,H29 _ (by omega)]
    refine hset _ _ _ _ (Nat.le_refl _) ?_ (by simp) (fun r q hr hq hne=>?_)
    ·rw [J29 (Nat.le_refl b.length),C60,J27];omega
    ·rw [decide_eq_decide];omega
   refine k2 (A2 (A3 V V (A3 V V (E1 V V (A3 V V (E1 V V (A3 V V (A5 (K9 V V (by omega)) V (A5 (Y2 V) V (A5 (T8 V V (by omega) (by omega)) V (H1 (I4 TySz.out V V (by (rw [hL];omega)) V V) ?_)))))))))));refine A4 ?_
   rw [hs0]
   refine k1 (k2 (A2 (A3 V V (E1 V V (A5 (K9 V V (by omega)) V (A6 V V (A4 ?_)))))));refine k1 (k3 (C5 (X:=Nat) (fun j=>([(0,C7 Int 1 E3 a),(1,C7 Int 1 E3 b),(5,C0 W),(6,.s (.one (.mut 20))),(8,C0 i),(9,.s (.one (.msl 20 1 P W))),(10,.s (.one (.msl 20 1 (P+W) W))),(11,C0 ((j:Int) - 1))],[(20,.arr Int 1 C26 (flat a b (fun r q=>decide (i+1≤r∨(r=i∧j≤q)))))])) (fun j=>j≤b.length) (fun j=>j) b.length (Nat.le_refl _) (I89 ⟨le1 rfl,le1 rfl,le1 rfl,le1 rfl,le1 rfl,le1 rfl,le1 rfl,le1 rfl,trivial⟩ ⟨rfl,trivial⟩) ?_))
   intro j hj
   dsimp only at hj ⊢
   refine k2 (k2 (A2 (A3 V V (A5 (X7 V V) V (A4 ?_)))));refine k1 ?_;refine B0 rfl (fun ht=>?_) (fun ht=>?_)
   ·obtain ⟨j,rfl⟩:∃r,j=r+1:=⟨j - 1,by have:=A0 ht;omega⟩
    have hva:a[i]?=some a[i]:=by simp [show i < a.length by omega]
    have hvb:b[j]?=some b[j]:=by simp [show j < b.length by omega]
    have hdd:=I33 a b i j (by omega) (by omega)
    have hd1:=hdl i j
    have hd2:=hdl (i+1) j
    have hd3:=hdl i (j+1)
    have hd4:=hdl (i+1) (j+1)
    obtain ⟨u,hu⟩:∃u,u=a[i]:=⟨_,rfl⟩
    obtain ⟨v,hv⟩:∃v,v=b[j]:=⟨_,rfl⟩
    rw [←hu] at hva hdd
    rw [←hv] at hvb hdd
    have hst:(flat a b (fun r q=>decide (i+1≤r∨(r=i∧j+1≤q)))).set (P+j) (dist (a.drop i) (b.drop j):Int)=flat a b (fun r q=>decide (i+1≤r∨(r=i∧j≤q))):=hset _ _ _ _ (by omega) rfl (by simp) (fun r q hr hq hne=>by rw [decide_eq_decide];omega)
    refine A08 [(0,C7 Int 1 E3 a),(1,C7 Int 1 E3 b),(5,C0 W),(6,.s (.one (.mut 20))),(8,C0 i),(9,.s (.one (.msl 20 1 P W))),(10,.s (.one (.msl 20 1 (P+W) W))),(11,C0 j)] [(20,.arr Int 1 C26 (flat a b (fun r q=>decide (i+1≤r∨(r=i∧j+1≤q)))))] (I89 ⟨le1 rfl,le1 rfl,le1 rfl,le1 rfl,le1 rfl,le1 rfl,le1 rfl,leE V (by first | (simp;done) | (simp;omega)),trivial⟩ ⟨rfl,trivial⟩) ?_
    refine c_skip ?_
    refine R9 ?_
    refine D68 [(0,C7 Int 1 E3 a),(1,C7 Int 1 E3 b),(5,C0 W),(6,.s (.one (.mut 20))),(8,C0 i),(9,.s (.one (.msl 20 1 P W))),(10,.s (.one (.msl 20 1 (P+W) W))),(11,C0 j)] [(20,.arr Int 1 C26 (flat a b (fun r q=>decide (i+1≤r∨(r=i∧j≤q)))))] ?_ ?_
    ·refine k3 (k2 (D9 (by kernel_rfl) (by kernel_rfl) (D8 V V (D8 V V (B5 (A8 V (.pure _ _ _ _) V (by omega) hva) V V (B5 (A7 V V) V V (D8 V V (D8 V V (B5 (A8 V (.pure _ _ _ _) V (by omega) hvb) V V (B5 (A7 V V) V V (B5 (F8 V V) V V (N3 ?_))))))))))));refine k1 ?_;refine B0 rfl (fun ht=>?_) (fun ht=>?_)
     ·rw [if_pos (A0 ht)] at hdd
      rw [hdd] at hst
      have hg:=hbelow (j+1) (j+1) (by omega)
      have hgi:(flat a b (fun r q=>decide (i+1≤r∨(r=i∧j+1≤q))))[P+W+((j:Int)+1).toNat]?=some (dist (a.drop (i+1)) (b.drop (j+1)):Int):=by rw [show ((j:Int)+1).toNat=j+1 by omega];exact hg
      skip
      refine A2 (A3 V V (A3 V V (A3 V V (A3 V V (D1 V V V (A5 (T8 V V (by omega) (by omega)) V (A5 (M2 V V hgi V) V (A5 (T8 V V (by omega) (by omega)) V (H1 (I4 TySz.out V V (by (rw [hL];omega)) V V) ?_)))))))));refine A4 ?_;refine k4 (k1 ?_)
      rw [show P+((j:Nat):Int).toNat=P+j by omega,hst]
      exact I89 ⟨le1 rfl,le1 rfl,le1 rfl,le1 rfl,le1 rfl,le1 rfl,le1 rfl,le1 rfl,trivial⟩ ⟨rfl,trivial⟩
     ·rw [if_neg (A1 ht)] at hdd
      have hg1:=hbelow j (j+1) (by omega)
      have hg2:=hdone (j+1) (by omega)
      have hgi1:(flat a b (fun r q=>decide (i+1≤r∨(r=i∧j+1≤q))))[P+W+((j:Nat):Int).toNat]?=some (dist (a.drop (i+1)) (b.drop j):Int):=by rw [J16];exact hg1
      have hgi2:(flat a b (fun r q=>decide (i+1≤r∨(r=i∧j+1≤q))))[P+((j:Int)+1).toNat]?=some (dist (a.drop i) (b.drop (j+1)):Int):=by rw [show ((j:Int)+1).toNat=j+1 by omega];exact hg2
      have hval:IntKind.u16.wrap ((if (dist (a.drop i) (b.drop (j+1)):Int) < (dist (a.drop (i+1)) (b.drop j):Int) then (dist (a.drop i) (b.drop (j+1)):Int) else (dist (a.drop (i+1)) (b.drop j):Int))+1)=(dist (a.drop i) (b.drop j):Int):=by
       rw [H29 _ (by split<;>omega),hdd];split<;>omega
      skip
      refine D9 (by kernel_rfl) (by kernel_rfl) (D8 V V (D8 V V (D8 V V (D8 V V (B5 (T8 V V (by omega) (by omega)) V V (B5 (M2 V V hgi1 V) V V (D8 V V (D8 V V (B5 (b8 V V (by omega)) V V (B5 (T8 V V (by omega) (by omega)) V V (B5 (M2 V V hgi2 V) V V (B5 (H44 V V) V V (B5 (H41 V V) V V (B5 (T8 V V (by omega) (by omega)) V V (d_eff (I4 TySz.out V V (by (rw [hL];omega)) V V) V ?_)))))))))))))));refine N3 ?_;refine k4 (k1 ?_)
      rw [hval,show P+((j:Nat):Int).toNat=P+j by omega,hst]
      exact I89 ⟨le1 rfl,le1 rfl,le1 rfl,le1 rfl,le1 rfl,le1 rfl,le1 rfl,le1 rfl,trivial⟩ ⟨rfl,trivial⟩
    ·skip
     refine A2 (A3 V V (A5 (K9 V V (by omega)) V (A6 V V (A4 ?_))));refine k1 ?_
     exact ⟨j,by omega,by omega,I89 ⟨le1 rfl,le1 rfl,le1 rfl,le1 rfl,le1 rfl,le1 rfl,le1 rfl,le1 rfl,trivial⟩ ⟨rfl,trivial⟩⟩
   ·obtain rfl:j=0:=by have:=A1 ht;omega
    rw [show flat a b (fun r q=>decide (i+1≤r∨(r=i∧0≤q)))=flat a b (fun r _=>decide (i≤r)) from B04 fun r q _ _=>.inl (by rw [decide_eq_decide];omega)]
    refine k6 (k7 (k7 (k8 V (k4 (k1 (A2 (A3 V V (A5 (K9 V V (by omega)) V (A6 V V (A4 ?_))))))))));refine k1 ?_
    exact ⟨i,by omega,by omega,I89 ⟨le1 rfl,le1 rfl,le1 rfl,le1 rfl,le1 rfl,trivial⟩ ⟨rfl,trivial⟩⟩
  ·obtain rfl:i=0:=by have:=A1 ht;omega
   rw [show flat a b (fun r _=>decide (0≤r))=flat a b (fun _ _=>true) from B04 fun r q _ _=>.inl (by simp)]
   refine E2 (Sees.freeze (k:=20) V) ?_
   refine k6 (k2 (A2 (A3 V V (A6 V V (A4 ?_)))));refine k1 (k10 ?_)
   exact B6 (G7 rfl rfl rfl) rfl
theorem i64_id {n:Int} (h:-9223372036854775808≤n∧n≤9223372036854775807):IntKind.i64.wrap n=n:=IntWalk.i64_in _ h
theorem H59 {gf:Fr} {ob:Obs} (a b:List Int) (i j:Nat) (ha:a.length≤4096) (hb:b.length≤4096) (hi:i≤a.length) (hj:j≤b.length) (h8:B9 ob 8=some (.box [.p (.list Int 1 C26 (flat a b (fun _ _=>true)))])) (h3:B9 ob 3=some (.box [.p (.list Int 1 E3 b)])) :
  AL.Met Tryz.prog 135 [.one (.p (.v (.int .i64 i))),.one (.p (.v (.int .i64 j))),.one (.ref 8 0),.one (.ref 3 0)] gf ob [] (fun rs ob'=>rs=[.one (.p (.v (.int .i64 (dist (a.drop i) (b.drop j):Int))))]∧ob'=ob):=by
 have hg:=E28 (a:=a) (b:=b) (done:=fun _ _=>true) hi hj
 rw [if_pos rfl] at hg
 have hin:=(D54 (a:=a) (b:=b) hi hj).1
 have hL:=D34 a b (fun _ _=>true)
 have e1:(i:Int)*((b.length:Int)+1)=((i*(b.length+1):Nat):Int):=by push_cast;rfl
 have hbd:i*(b.length+1)≤4096*4097:=Nat.mul_le_mul (by omega) (by omega)
 have hbd2:(a.length+1)*(b.length+1)≤4097*4097:=Nat.mul_le_mul (by omega) (by omega)
 have hgi:(flat a b (fun _ _=>true))[((i:Int)*((b.length:Int)+1)+j).toNat]?=some (dist (a.drop i) (b.drop j):Int):=by
  rw [e1,show (((i*(b.length+1):Nat):Int)+j).toNat=i*(b.length+1)+j by omega];exact hg
 have hd:=F57 (a.drop i) (b.drop j)
 simp only [J27] at hd
 refine AL.Met.intro Tryz.func135 (by decide) V V V ?_
 refine k2 (A2 (A6 V V (A4 ?_)));refine k1 (k2 (A2 (A5 (C4 V h8 V) V (A3 V V (A5 (C4 V h3 V) V (E1 V V (D1 V V V (A5 (A63 V V (by (rw [e1];omega))) V ?_))))))));refine A3 V V (A5 (b8 V V (by (rw [e1];omega))) V ?_);refine A5 (A8 V (.pure _ _ _ _) V (by omega) hgi) V (A5 (A7 V V) V (A5 (Y2 V) V (A6 V V (A4 ?_))))
 rw [i64_id (by omega)]
 refine k1 (k10 ?_)
 exact G5 (K6 rfl rfl) (by repeat (first | exact B2 | refine B3 rfl ?_ | refine D5 _ ?_)) (fun _ _ h=>h) ⟨rfl,rfl⟩
theorem I76 (a b:List Int) (ha:a.length≤4096) (hb:b.length≤4096):FnOk Tryz.prog 103 [I0 a,I0 b] (fun rs=>rs=[pSpans (M1 0 0 a b)]):=by
 obtain ⟨n,hn⟩:∃n,n=W9 a b:=⟨_,rfl⟩
 have hnl:=G42 a b
 rw [←hn] at hnl
 have hbeg:=E30 a b 0 0
 rw [←hn] at hbeg
 refine FnOk.intro Tryz.func103 (by decide) V V V V ?_
 refine k2 (A2 (C6 (x7 3 V V V) V (A6 V V (A4 ?_))));refine k1 (k2 (A2 (C6 (N0 5 _ spanC V) V (A4 ?_))));refine k1 (k2 (A2 (A3 V V (G4 V V V V (C9 (E60 a b (by omega)) V V V ?_)))));rintro _ rfl;refine A6 V V (A4 ?_)
 rw [←hn]
 refine k1 (k2 (k2 (A2 (A3 V V (A3 V V (A4 ?_))))));refine k1 (k3 (C5 (X:=Nat) (fun k=>([(0,C7 Int 1 E3 a),(3,.s (.one (.ref 3 0))),(5,.s (.one (.buf 5 Span 2 spanC (U6 0 0 k)))),(6,C0 n),(15,C0 n),(16,C0 k)],[(3,.box [.p (.list Int 1 E3 b)]),(5,.spare (U6 0 0 k).length 2 164)])) (fun k=>k≤n) (fun k=>n - k) 0 (Nat.zero_le _) (I89 ⟨le1 rfl,le1 rfl,le1 rfl,le1 rfl,le1 rfl,le1 rfl,trivial⟩ ⟨rfl,rfl,trivial⟩) ?_))
 intro k hk
 dsimp only at hk ⊢
 have hrl:=E22 0 0 k
 refine k2 (A2 (E7 V V V (A4 ?_)));refine k1 (k2 ?_);refine B0 rfl (fun ht=>?_) (fun ht=>?_)
 ·have hlt:k < n:=by have:=A0 ht;omega
  have hsn:=F58 0 0 k
  refine k5 (k1 (k2 (k3 (k2 (A2 (A3 V V (A6 V V (A4 ?_))))))));refine k1 (A2 (A3 V V (A3 V V (A3 V V (A5 (J3 V) V (A5 (C1 (c:=spanC) (ys:=[⟨(k:Int),(k:Int)⟩]) (D2 V V V V F1) V V V) V (C6 (G9 V V V (.pure _ _ _ _) (by (simp only [J17,J21];omega)) V) V (A6 V V (A4 ?_)))))))));refine k4 (k1 (A2 (D1 V V V (A3 V V (A4 ?_)))));refine k1 ?_;refine ⟨k+1,by omega,by omega,?_⟩
  rw [hsn,show (0:Int)+(k:Int)=k by omega]
  exact I89 ⟨le1 rfl,le1 rfl,le1 rfl,le1 rfl,le1 rfl,le1 rfl,trivial⟩ ⟨rfl,rfl,trivial⟩
 have hk':k=n:=by have:=A1 ht;omega
 subst hk'
 obtain ⟨a',ha'⟩:∃a',a'=a.drop k:=⟨_,rfl⟩
 obtain ⟨b',hb'⟩:∃b',b'=b.drop k:=⟨_,rfl⟩
 have hal:a'.length≤4096:=by rw [ha',J27];omega
 have hbl:b'.length≤4096:=by rw [hb',J27];omega
 rw [Int.zero_add,←ha',←hb'] at hbeg
 refine k6 (k2 (D9 (by kernel_rfl) (by kernel_rfl) (D8 V V (D8 V V (B5 (E70 V (.pure _ _ _ _) V (by omega) (by omega)) V V (B5 (C4 V V V) V V (D8 V V (B5 (E70 V (.pure _ _ _ _) V (by omega) (by omega)) V V (B5 (H5 V V) V V (d_eff (C2 TySz.out V V V V V V) V (N3 ?_)))))))))))
 rw [J16,←ha',←hb']
 refine k1 (k2 (A2 (A3 V V (G4 V V V V (C9 (E61 a' b' hal hbl) V V V ?_)))));rintro _ rfl;refine C6 (J6 8 V) V (H1 (C2 TySz.out V V V V V V) (A4 ?_));refine k1 (k2 (A2 (A5 (A11 V V) V (A6 V V (A4 ?_)))));refine k1 (k2 (k2 (A2 (A6 V V (A6 V V (A4 ?_))))));refine k1 (k3 (C5 (X:=Nat × Nat × List Span) (fun x=>([(0,C7 Int 1 E3 a'),(3,.s (.one (.ref 3 0))),(5,.s (.one (.buf 5 Span 2 spanC x.2.2))),(6,C0 k),(8,.s (.one (.ref 8 0))),(9,.s (.one (.clo 135 [] [(8,0),(3,0)]))),(10,C0 x.1),(11,C0 x.2.1)],[(3,.box [.p (.list Int 1 E3 b')]),(5,.spare x.2.2.length 2 164),(8,.box [.p (.list Int 1 C26 (flat a' b' (fun _ _=>true)))])])) (fun x=>x.1≤a'.length∧x.2.1≤b'.length∧x.2.2.length≤k+x.1∧M1 0 0 a b=x.2.2++M1 (k+x.1) (k+x.2.1) (a'.drop x.1) (b'.drop x.2.1)) (fun x=>(a'.length - x.1)+(b'.length - x.2.1)) (0,0,U6 0 0 k) ⟨Nat.zero_le _,Nat.zero_le _,by rw [hrl];exact Nat.le_refl _,by simpa using hbeg⟩ (I89 ⟨le1 rfl,le1 rfl,le1 rfl,le1 rfl,le1 rfl,le1 rfl,le1 rfl,le1 rfl,trivial⟩ ⟨rfl,rfl,rfl,trivial⟩) ?_))
 rintro ⟨i,j,out⟩ ⟨hi,hj,hol,he⟩
 dsimp only at hi hj hol he ⊢
 refine k2 (k2 (A2 (A3 V V (A3 V V (E1 V V (E7 V V V (A3 V V (B1 V V V V (fun hg=>by rw [hg];exact B7 V V) ?_))))))));refine B1 V V V V (fun hg=>by rw [hg];exact C4 V V V) ?_;refine B1 V V V V (fun hg=>by rw [hg];exact U0 V (.pure _ _ _ _)) ?_;refine B1 V V V V (fun hg=>by rw [hg];exact A04 V V) ?_;refine I5 V V ?_;refine A4 ?_;refine k1 ?_;refine B0 rfl (fun ht=>?_) (fun ht=>?_)
 ·simp only [or_pick] at ht
  have hcond:=A0 ht
  refine A08 [(0,C7 Int 1 E3 a'),(3,.s (.one (.ref 3 0))),(5,.s (.one (.buf 5 Span 2 spanC out))),(6,C0 k),(8,.s (.one (.ref 8 0))),(9,.s (.one (.clo 135 [] [(8,0),(3,0)]))),(10,C0 i),(11,C0 j)] [(3,.box [.p (.list Int 1 E3 b')]),(5,.spare out.length 2 164),(8,.box [.p (.list Int 1 C26 (flat a' b' (fun _ _=>true)))])] (I89 ⟨le1 rfl,le1 rfl,le1 rfl,le1 rfl,le1 rfl,le1 rfl,le1 rfl,le1 rfl,trivial⟩ ⟨rfl,rfl,rfl,trivial⟩) ?_
  refine k5 (k1 (k3 (k3 (k2 (D9 (by kernel_rfl) (by kernel_rfl) (D8 V V (D8 V V (B5 (U0 V (.pure _ _ _ _)) V V (B5 (A04 V V) V V (D8 V V (C8 V V (fun hg=>by rw [hg];exact B7 V V) V V ?_)))))))))));refine C8 V V (fun hg=>by rw [hg];exact C4 V V V) V V ?_;refine C8 V V (fun hg=>by rw [hg];exact U0 V (.pure _ _ _ _)) V V ?_;refine C8 V V (fun hg=>by rw [hg];exact A04 V V) V V ?_;refine B5 (I9 V (fun h=>by first | rfl | (rw [h];rfl)) (fun h=>by first | rfl | (rw [h];rfl))) V V ?_;refine D8 V V (C8 V V (fun hg=>by rw [hg];exact B7 V V) V V ?_);refine C8 V V (fun hg=>by rw [hg];exact B7 V V) V V ?_;refine C8 V V (fun hg=>by have hq:=hg;(try simp at hq);rw [hg];exact A8 V (.pure _ _ _ _) V (by omega) (C53 (by omega))) V V ?_;refine C8 V V (fun hg=>by rw [hg];exact A7 V V) V V ?_;refine C8 V V (fun hg=>by rw [hg];exact C4 V V V) V V ?_;refine C8 V V (fun hg=>by rw [hg];exact B7 V V) V V ?_;refine C8 V V (fun hg=>by have hq:=hg;(try simp at hq);rw [hg];exact A8 V (.pure _ _ _ _) V (by omega) (C53 (by omega))) V V ?_;refine C8 V V (fun hg=>by rw [hg];exact A7 V V) V V ?_;refine C8 V V (fun hg=>by rw [hg];exact F8 V V) V V ?_;refine B5 (I9 V (fun h=>by first | rfl | (rw [h];rfl)) (fun h=>by first | rfl | (rw [h];rfl))) V V ?_;refine B5 (H5 V V) V V (N3 ?_);refine k1 ?_;refine B0 rfl (fun ht=>?_) (fun ht=>?_)
  ·simp only [and_pick] at ht
   obtain ⟨⟨h1,h2⟩,h3⟩:=A0 ht
   have h1:i < a'.length:=by omega
   have h2:j < b'.length:=by omega
   rw [D30 a' b' i j h1 h2,if_pos (by simpa [h1,h2] using h3)] at he
   refine A08 [(0,C7 Int 1 E3 a'),(3,.s (.one (.ref 3 0))),(5,.s (.one (.buf 5 Span 2 spanC out))),(6,C0 k),(8,.s (.one (.ref 8 0))),(9,.s (.one (.clo 135 [] [(8,0),(3,0)]))),(10,C0 i),(11,C0 j)] [(3,.box [.p (.list Int 1 E3 b')]),(5,.spare out.length 2 164),(8,.box [.p (.list Int 1 C26 (flat a' b' (fun _ _=>true)))])] (I89 ⟨le1 rfl,le1 rfl,le1 rfl,le1 rfl,le1 rfl,le1 rfl,le1 rfl,le1 rfl,trivial⟩ ⟨rfl,rfl,rfl,trivial⟩) ?_
   refine k2 (A2 (A3 V V (A3 V V (A3 V V (D1 V V V (A3 V V (A3 V V (D1 V V V (A5 (J3 V) V (A5 (C1 (c:=spanC) (ys:=[⟨(k:Int)+i,(k:Int)+j⟩]) (D2 V V V V F1) V V V) V (C6 (G9 V V V (.pure _ _ _ _) (by (simp only [J17,J21];omega)) V) V (A6 V V (A4 ?_)))))))))))));refine k1 (A2 (A3 V V (D1 V V V (A3 V V (D1 V V V (A6 V V (A6 V V (A4 ?_))))))));refine k4 (k4 (k1 ?_));refine ⟨(i+1,j+1,out++[⟨(k:Int)+i,(k:Int)+j⟩]),⟨by dsimp only;omega,by dsimp only;omega,by simp;omega,?_⟩,by dsimp only;omega,I89 ⟨le1 rfl,le1 rfl,le1 rfl,le1 rfl,le1 rfl,le1 rfl,le1 rfl,le1 rfl,trivial⟩ ⟨rfl,rfl,rfl,trivial⟩⟩
   dsimp only
   rw [he,J26]
   congr 2
  ·simp only [and_pick] at ht
   have hno:=A1 ht
   refine A08 [(0,C7 Int 1 E3 a'),(3,.s (.one (.ref 3 0))),(5,.s (.one (.buf 5 Span 2 spanC out))),(6,C0 k),(8,.s (.one (.ref 8 0))),(9,.s (.one (.clo 135 [] [(8,0),(3,0)]))),(10,C0 i),(11,C0 j)] [(3,.box [.p (.list Int 1 E3 b')]),(5,.spare out.length 2 164),(8,.box [.p (.list Int 1 C26 (flat a' b' (fun _ _=>true)))])] (I89 ⟨le1 rfl,le1 rfl,le1 rfl,le1 rfl,le1 rfl,le1 rfl,le1 rfl,le1 rfl,trivial⟩ ⟨rfl,rfl,rfl,trivial⟩) ?_
   by_cases h1:i < a'.length
   ·have hr:decide ((i:Int) < (a'.length:Int))=true:=decide_eq_true (by omega)
    have hd1:=F57 (a'.drop (i+1)) (b'.drop j)
    simp only [J27] at hd1
    have hstep:¬j < b'.length→dist (a'.drop (i+1)) (b'.drop j)+1=dist (a'.drop i) (b'.drop j)∧M1 (k+i) (k+j) (a'.drop i) (b'.drop j)=M1 (k+i+1) (k+j) (a'.drop (i+1)) (b'.drop j):=by
     intro hj2
     rw [show b'.drop j=[] from J29 (by omega),C60,C60,J27,J27,r7,r7]
     exact ⟨by omega,rfl⟩
    have hgo:j < b'.length→M1 (k+i) (k+j) (a'.drop i) (b'.drop j)=if dist (a'.drop (i+1)) (b'.drop j)+1=dist (a'.drop i) (b'.drop j) then M1 (k+i+1) (k+j) (a'.drop (i+1)) (b'.drop j) else M1 (k+i) (k+j+1) (a'.drop i) (b'.drop (j+1)):=by
     intro h2
     rw [D30 a' b' i j h1 h2,if_neg]
     intro h3
     exact hno ⟨⟨by omega,by omega⟩,by simpa [h1,h2] using h3⟩
    refine k2 (A2 (A3 V V (A3 V V (E1 V V (E7 V V V (A3 V V (H9 V V V hr (A3 V V (H9 V V V hr (A3 V V (H9 V V V hr (D1 V V V (H9 V V V hr (A3 V V (H9 V V V hr (B28 (H59 a' b' (i+1) j hal hbl (by omega) hj V V) V V V V ?_))))))))))))))));rintro _ _ ⟨rfl,rfl⟩;refine H9 V V V hr (D1 V V V (H9 V V V hr (A3 V V (H9 V V V hr (A3 V V (H9 V V V hr (A3 V V (H9 V V V hr (B28 (H59 a' b' i j hal hbl hi hj V V) V V V V ?_)))))))));rintro _ _ ⟨rfl,rfl⟩;refine H9 V V V hr (A5 (F8 V V) V (I5 V V ?_));refine A6 V V (A4 ?_);refine k1 ?_;refine B0 rfl (fun ht=>?_) (fun ht=>?_)
    ·simp only [and_pick] at ht
     obtain ⟨_,h3⟩:=A0 ht
     have h3:dist (a'.drop (i+1)) (b'.drop j)+1=dist (a'.drop i) (b'.drop j):=by omega
     have hnext:M1 (k+i) (k+j) (a'.drop i) (b'.drop j)=M1 (k+i+1) (k+j) (a'.drop (i+1)) (b'.drop j):=by
      by_cases h2:j < b'.length
      ·rw [hgo h2,if_pos h3]
      ·exact (hstep h2).2
     rw [hnext] at he
     skip
     refine A2 (A3 V V (D1 V V V (A6 V V (A4 ?_))));refine k4 (k4 (k1 ?_));refine ⟨(i+1,j,out),⟨by dsimp only;omega,by dsimp only;omega,by dsimp only;omega,?_⟩,by dsimp only;omega,I89 ⟨le1 rfl,le1 rfl,le1 rfl,le1 rfl,le1 rfl,le1 rfl,le1 rfl,le1 rfl,trivial⟩ ⟨rfl,rfl,rfl,trivial⟩⟩
     dsimp only
     rw [he,show (k:Int)+(i:Int)+1=(k:Int)+((i+1:Nat):Int) by omega]
    ·simp only [and_pick] at ht
     have h3:=A1 ht
     have h3:¬dist (a'.drop (i+1)) (b'.drop j)+1=dist (a'.drop i) (b'.drop j):=fun q=>h3 ⟨by omega,by omega⟩
     have h2:j < b'.length:=by
      by_cases h2:j < b'.length
      ·exact h2
      ·exact absurd (hstep h2).1 h3
     rw [hgo h2,if_neg h3] at he
     skip
     refine A2 (A3 V V (D1 V V V (A6 V V (A4 ?_))));refine k4 (k4 (k1 ?_));refine ⟨(i,j+1,out),⟨by dsimp only;omega,by dsimp only;omega,by dsimp only;omega,?_⟩,by dsimp only;omega,I89 ⟨le1 rfl,le1 rfl,le1 rfl,le1 rfl,le1 rfl,le1 rfl,le1 rfl,le1 rfl,trivial⟩ ⟨rfl,rfl,rfl,trivial⟩⟩
     dsimp only
     rw [he,show (k:Int)+(j:Int)+1=(k:Int)+((j+1:Nat):Int) by omega]
   ·have hrf:decide ((i:Int) < (a'.length:Int))=false:=decide_eq_false (by omega)
    have h2:j < b'.length:=by omega
    refine k2 (A2 (A3 V V (A3 V V (E1 V V (E7 V V V (A3 V V (R2 V V V (by rw [hrf];decide) V ?_)))))));refine R2 V V V (by rw [hrf];decide) V ?_;refine R2 V V V (by rw [hrf];decide) V ?_;refine R2 V V V (by rw [hrf];decide) V ?_;refine R2 V V V (by rw [hrf];decide) V ?_;refine R2 V V V (by rw [hrf];decide) V ?_;refine R2 V V V (by rw [hrf];decide) V ?_;refine R2 V V V (by rw [hrf];decide) V ?_;refine R2 V V V (by rw [hrf];decide) V ?_;refine R2 V V V (by rw [hrf];decide) V ?_;refine R2 V V V (by rw [hrf];decide) V ?_;refine A5 (C36 V (hrf) V) V (A6 V V (A4 ?_));refine k1 ?_;refine B0 rfl (fun ht=>?_) (fun ht=>?_)
    ·cases ht
    ·skip
     refine A2 (A3 V V (D1 V V V (A6 V V (A4 ?_))));refine k4 (k4 (k1 ?_));refine ⟨(i,j+1,out),⟨by dsimp only;omega,by dsimp only;omega,by dsimp only;omega,?_⟩,by dsimp only;omega,I89 ⟨le1 rfl,le1 rfl,le1 rfl,le1 rfl,le1 rfl,le1 rfl,le1 rfl,le1 rfl,trivial⟩ ⟨rfl,rfl,rfl,trivial⟩⟩
     dsimp only
     rw [he,show a'.drop i=[] from J29 (by omega),Y0,Y0]
 ·simp only [or_pick] at ht
  have hcond:=A1 ht
  rw [show a'.drop i=[] from J29 (by omega),Y0,J43] at he
  refine k6 (k2 (A2 (A3 V V (A6 V V (A4 ?_)))));refine k1 (k10 ?_)
  exact B6 (G7 rfl rfl rfl) (by rw [he])
theorem H10 (a b:List Int) (ha:a.length≤4096) (hb:b.length≤4096):FnOk Tryz.prog 69 [I0 a,I0 b] (fun rs=>rs=[pChanges (H22 a b),E6 0]):=by
 have hA:=H23 a b 0 0
 rw [Int.zero_add,Int.zero_add] at hA
 have hl:=E64 0 0 a b
 refine FnOk.intro Tryz.func69 (by decide) V V V V ?_
 refine k2 (A2 (A6 V V (A6 V V (A4 ?_))));refine k1 (k2 (k2 (A2 (A3 V V (A3 V V (C9 (G26 a b) V V V ?_))))));rintro _ rfl;refine A5 (R7 V) V (A4 ?_);refine k1 ?_;refine B0 rfl (fun ht=>?_) (fun ht=>?_)
 ·exfalso
  have h:decide ((a.length:Int)≤4096∧(b.length:Int)≤4096)=true:=decide_eq_true ⟨by omega,by omega⟩
  rw [h] at ht;cases ht
 refine k5 (k1 (k2 (A2 (A3 V V (A3 V V (C9 (I76 a b ha hb) V V V ?_))))));rintro _ rfl;refine A3 V V (E1 V V (A3 V V (E1 V V (C9 (E59 (M1 0 0 a b) a.length b.length ⟨by omega,by omega⟩ ⟨by omega,by omega⟩ hA (by omega)) V V V ?_))));rintro _ rfl;refine H0 V V V (H0 V V V (A6 V V (A6 V V (A4 ?_))));refine k1 (k10 ?_)
 exact B6 (V5 rfl rfl rfl rfl rfl) rfl
end Go.Proofs.YtfhbolepaojekaaGreatDoor
namespace Go.Proofs.YtfhbolepaojekaaGreatDoor
open Go Go.AL
set_option maxRecDepth 100000
end Go.Proofs.YtfhbolepaojekaaGreatDoor
