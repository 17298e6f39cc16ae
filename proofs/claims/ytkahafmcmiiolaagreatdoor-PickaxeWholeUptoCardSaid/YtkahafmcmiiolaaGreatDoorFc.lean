/- Walks of the program's functions. -/
import Derived.Test.YtkahafmcmiiolaaGreatDoorFb
import Derived.Test.YtkahafmcmiiolaaGreatDoorFs
import Derived.RecoverIn
set_option linter.unusedSimpArgs false
namespace Go.Proofs.YtkahafmcmiiolaaGreatDoor
open Go Go.AL
set_option maxRecDepth 100000
set_option maxHeartbeats 1000000
theorem G61 (n:AL.Node) (h:0≤n.Min∧n.Min≤100∧(n.Max = -1∨n.Min≤n.Max∧n.Max≤100)):FnOk Tryz.prog 150 [D68 n] (fun rs=>rs=[J2 true]):=by
 refine FnOk.intro Tryz.func150 (by decide) J J J J ?_
 refine k2 (A2 (A5 (m9 J J J) J (A6 J J (A4 ?_))));refine k1 (k2 (A2 (A5 (C5 J) J (A5 (B1 J J) J (A5 (U8 J J) J (A3 J J (C2 J J J J (fun hg=>by rw [hg];exact C5 J) ?_)))))));refine C2 J J J J (fun hg=>by rw [hg];exact B1 J J) ?_;refine C2 J J J J (fun hg=>by rw [hg];exact C41 J J) ?_;refine A5 (D7 J (fun h=>by first | rfl | (rw [h];rfl)) (fun h=>by first | rfl | (rw [h];rfl))) J ?_;refine A3 J J (C2 J J J J (fun hg=>by rw [hg];exact C5 J) ?_);refine C2 J J J J (fun hg=>by rw [hg];exact B1 J J) ?_;refine C2 J J J J (fun hg=>by rw [hg];exact F4 J J) ?_;refine C2 J J J J (fun hg=>by rw [hg];exact C8 J J) ?_;refine Y7 J J J (.gd (.val _)) J (fun hg=>by obtain ⟨hg1,hg2⟩:=C12 hg;(try rw [hg1]);(try rw [hg2]);exact C5 J) ?_;refine Y7 J J J (.gd (.val _)) J (fun hg=>by obtain ⟨hg1,hg2⟩:=C12 hg;(try rw [hg1]);(try rw [hg2]);exact B1 J J) ?_;refine Y7 J J J (.gd (.val _)) J (fun hg=>by obtain ⟨hg1,hg2⟩:=C12 hg;(try rw [hg1]);(try rw [hg2]);exact C5 J) ?_;refine Y7 J J J (.gd (.val _)) J (fun hg=>by obtain ⟨hg1,hg2⟩:=C12 hg;(try rw [hg1]);(try rw [hg2]);exact B1 J J) ?_;refine Y7 J J J (.gd (.val _)) J (fun hg=>by obtain ⟨hg1,hg2⟩:=C12 hg;(try rw [hg1]);(try rw [hg2]);exact U8 J J) ?_;refine Y7 J J J (.gd (.val _)) J (fun hg=>by obtain ⟨hg1,hg2⟩:=C12 hg;(try rw [hg1]);(try rw [hg2]);exact C8 J J) ?_;refine Y7 J J J (.gd (.gd (.val _))) J (fun hg=>by obtain ⟨hg1,hg2,hg3⟩:=F60 hg;(try rw [hg1]);(try rw [hg2]);(try rw [hg3]);exact C5 J) ?_;refine Y7 J J J (.gd (.gd (.val _))) J (fun hg=>by obtain ⟨hg1,hg2,hg3⟩:=F60 hg;(try rw [hg1]);(try rw [hg2]);(try rw [hg3]);exact B1 J J) ?_;refine Y7 J J J (.gd (.gd (.val _))) J (fun hg=>by obtain ⟨hg1,hg2,hg3⟩:=F60 hg;(try rw [hg1]);(try rw [hg2]);(try rw [hg3]);exact C41 J J) ?_;refine Y7 J J J (.gd (.val _)) J (fun hg=>by obtain ⟨hg1,hg2⟩:=C12 hg;(try rw [hg1]);(try rw [hg2]);exact D7 J (fun h=>by first | rfl | (rw [h];rfl)) (fun h=>by first | rfl | (rw [h];rfl))) ?_;refine C2 J J J J (fun hg=>by rw [hg];exact D7 J (fun h=>by first | rfl | (rw [h];rfl)) (fun h=>by first | rfl | (rw [h];rfl))) ?_;refine A5 (D7 J (fun h=>by first | rfl | (rw [h];rfl)) (fun h=>by first | rfl | (rw [h];rfl))) J ?_;refine A6 J J (A4 ?_);refine k1 (k10 (B7 (I4 J J J) ?_))
 simp only [T7,or_pick]
 rw [decide_eq_true (by omega)]
theorem B01 {n:AL.Node} {i:Int} (h:D69 n i=true):(∀k∈n.Kids,0≤k∧k < i)∧((n.Kind=0∨n.Kind=1∨n.Kind=2∨n.Kind=3)∧n.Kids.length=0∨(n.Kind=4∨n.Kind=5)∧2≤n.Kids.length∨n.Kind=6∧n.Kids.length=1∧0≤n.Min∧n.Min≤100∧(n.Max = -1∨n.Min≤n.Max∧n.Max≤100)):=by
 unfold D69 at h
 rw [J61,List.all_eq_true] at h
 refine ⟨fun k hk=>A0 (h.1 k hk),?_⟩
 have h2:=h.2
 split at h2
 ·rename_i hk;exact .inl ⟨hk,A0 h2⟩
 ·split at h2
  ·rename_i hk;exact .inr (.inl ⟨hk,A0 h2⟩)
  ·split at h2
   ·rename_i hk;exact .inr (.inr ⟨hk,A0 h2⟩)
   ·cases h2
theorem A10 {L:List AL.Node} (h:B19 L=0):1≤L.length∧L.length≤4000∧∀(i:Nat) n,L[i]?=some n→D69 n i=true:=by
 unfold B19 at h
 split at h
 ·cases h
 ·split at h
  ·rename_i h1 h2
   refine ⟨by omega,by omega,fun i n hn=>?_⟩
   have h3:=List.all_eq_true.1 h2 i (List.mem_range.2 (List.getElem?_eq_some_iff.1 hn).1)
   rwa [J65,hn] at h3
  ·cases h
theorem J12 (n:AL.Node) (i:Int) (hf:D69 n i=true) (hlen:n.Kids.length≤4000):FnOk Tryz.prog 127 [D68 n,G1 i] (fun rs=>rs=[J2 true]):=by
 obtain ⟨hk,hX⟩:=B01 hf
 refine FnOk.intro Tryz.func127 (by decide) J J J J ?_
 refine k2 (A2 (A5 (m9 J J J) J (A6 J J (A4 ?_))));refine k1 (k2 (k2 (A2 (A5 (C5 J) J (A5 (B1 J J) J (F3 J J (A3 J J (A4 ?_))))))));refine k1 (k3 (D6 (X:=Nat) (fun j=>([(1,C3 i),(2,.s (.one (.eref Unit 8 (fun _ j=>(cellsOf w9 n 0 8).getD j (.v undef)) () 0))),(8,D5 Int 1 F0 n.Kids),(9,C3 n.Kids.length),(10,C3 j)],[])) (fun j=>j≤n.Kids.length) (fun j=>n.Kids.length - j) 0 (Nat.zero_le _) (Sees.of ⟨le1 rfl,le1 rfl,le1 rfl,le1 rfl,le1 rfl,trivial⟩ trivial) ?_))
 intro j hj
 dsimp only at hj ⊢
 refine k2 (A2 (G7 J J J (A4 ?_)));refine k1 (k2 ?_);refine B0 rfl (fun ht=>?_) (fun ht=>?_)
 ·have hlt:j < n.Kids.length:=by have:=A0 ht;omega
  have hv:=getI hlt
  have hkj:=hk _ (J69 hv)
  refine k5 (k1 (k2 (k3 (k2 (A2 (A5 (B3 J (.pure _ _ _ _) J (by omega) hv) J (A5 (B1 J J) J (A6 J J (A4 ?_)))))))));refine k1 (k2 (A2 (A3 J J (G7 J J J (A3 J J (C2 J J J J (fun hg=>by rw [hg];exact C8 J J) ?_))))));refine C2 J J J J (fun hg=>by rw [hg];exact C8 J J) ?_;refine C2 J J J J (fun hg=>by rw [hg];exact U8 J J) ?_;refine A5 (D7 J (fun h=>by first | rfl | (rw [h];rfl)) (fun h=>by first | rfl | (rw [h];rfl))) J ?_;refine A4 ?_;refine k1 ?_;refine B0 rfl (fun ht=>?_) (fun ht=>?_)
  ·simp only [or_pick] at ht
   have:=A0 ht
   omega
  refine k5 (k4 (k1 (A2 (E4 J J J (A3 J J (A4 ?_))))));refine k1 ?_
  exact ⟨j+1,by omega,by omega,Sees.of ⟨le1 rfl,le1 rfl,le1 rfl,le1 rfl,le1 rfl,trivial⟩ trivial⟩
 refine k6 (k2 (k2 (A2 (A5 (C5 J) J (A5 (B1 J J) J (A4 ?_))))));refine k1 (k3 (k2 (k2 (A2 (A5 (F4 J J) J (A6 J J (A4 ?_)))))));refine k1 ?_;refine B0 rfl (fun ht=>?_) (fun ht=>?_)
 ·have hK:=A0 ht
  have hT:decide ((n.Kids.length:Int)=0)=true:=decide_eq_true (by omega)
  refine k5 (k1 ?_);refine B0 rfl (fun ht=>?_) (fun ht=>?_)
  rotate_left
  ·exact absurd hK (A1 ht)
  refine k2 (A2 (A5 (C5 J) J (A5 (B1 J J) J (F3 J J (A5 (F4 J J) J (A6 J J (A4 ?_)))))));refine k1 (k10 (k12 (k11 ?_)))
  exact B7 (I4 rfl rfl rfl) (by rw [hT])
 have hK0:=A1 ht
 refine k2 (A2 (A5 (F4 J J) J (A6 J J (A4 ?_))));refine k1 ?_;refine B0 rfl (fun ht=>?_) (fun ht=>?_)
 ·have hK:=A0 ht
  have hT:decide ((n.Kids.length:Int)=0)=true:=decide_eq_true (by omega)
  refine k5 (k1 ?_);refine B0 rfl (fun ht=>?_) (fun ht=>?_)
  rotate_left
  ·exact absurd hK (A1 ht)
  refine k2 (A2 (A5 (C5 J) J (A5 (B1 J J) J (F3 J J (A5 (F4 J J) J (A6 J J (A4 ?_)))))));refine k1 (k10 (k12 (k11 ?_)))
  exact B7 (I4 rfl rfl rfl) (by rw [hT])
 have hK1:=A1 ht
 refine k2 (A2 (A5 (F4 J J) J (A6 J J (A4 ?_))));refine k1 ?_;refine B0 rfl (fun ht=>?_) (fun ht=>?_)
 ·have hK:=A0 ht
  have hT:decide ((n.Kids.length:Int)=0)=true:=decide_eq_true (by omega)
  refine k5 (k1 ?_);refine B0 rfl (fun ht=>?_) (fun ht=>?_)
  rotate_left
  ·exact absurd hK (A1 ht)
  refine k2 (A2 (A5 (C5 J) J (A5 (B1 J J) J (F3 J J (A5 (F4 J J) J (A6 J J (A4 ?_)))))));refine k1 (k10 (k12 (k11 ?_)))
  exact B7 (I4 rfl rfl rfl) (by rw [hT])
 have hK2:=A1 ht
 skip
 refine A2 (A5 (F4 J J) J (A6 J J (A4 ?_)));refine k1 ?_;refine B0 rfl (fun ht=>?_) (fun ht=>?_)
 ·have hK:=A0 ht
  have hT:decide ((n.Kids.length:Int)=0)=true:=decide_eq_true (by omega)
  refine k2 (A2 (A5 (C5 J) J (A5 (B1 J J) J (F3 J J (A5 (F4 J J) J (A6 J J (A4 ?_)))))));refine k1 (k10 (k12 (k11 ?_)))
  exact B7 (I4 rfl rfl rfl) (by rw [hT])
 have hK3:=A1 ht
 refine k2 (k2 (A2 (A5 (F4 J J) J (A6 J J (A4 ?_)))));refine k1 ?_;refine B0 rfl (fun ht=>?_) (fun ht=>?_)
 ·have hK:=A0 ht
  have hT:decide ((n.Kids.length:Int)≥2)=true:=decide_eq_true (by omega)
  refine k5 (k1 ?_);refine B0 rfl (fun ht=>?_) (fun ht=>?_)
  rotate_left
  ·exact absurd hK (A1 ht)
  refine k2 (A2 (A5 (C5 J) J (A5 (B1 J J) J (F3 J J (A5 (U8 J J) J (A6 J J (A4 ?_)))))));refine k1 (k10 (k12 (k11 ?_)))
  exact B7 (I4 rfl rfl rfl) (by rw [hT])
 have hK4:=A1 ht
 skip
 refine A2 (A5 (F4 J J) J (A6 J J (A4 ?_)));refine k1 ?_;refine B0 rfl (fun ht=>?_) (fun ht=>?_)
 ·have hK:=A0 ht
  have hT:decide ((n.Kids.length:Int)≥2)=true:=decide_eq_true (by omega)
  refine k2 (A2 (A5 (C5 J) J (A5 (B1 J J) J (F3 J J (A5 (U8 J J) J (A6 J J (A4 ?_)))))));refine k1 (k10 (k12 (k11 ?_)))
  exact B7 (I4 rfl rfl rfl) (by rw [hT])
 have hK5:=A1 ht
 refine k2 (A2 (A5 (F4 J J) J (A6 J J (A4 ?_))));refine k1 ?_;refine B0 rfl (fun ht=>?_) (fun ht=>?_)
 ·have hK:=A0 ht
  have hd1:decide ((n.Kids.length:Int)=1)=true:=decide_eq_true (by omega)
  refine k2 (A2 (A5 (C5 J) J (A5 (B1 J J) J (F3 J J (A5 (F4 J J) J (A3 J J (G6 J J J hd1 (A5 (E3 J J) J (G6 J J J hd1 (D8 (G61 n (by omega)) J J J ?_))))))))));rintro _ rfl;refine A5 (O8 J (hd1) J) J (A6 J J (A4 ?_));refine k1 (k10 (k12 (k11 ?_)))
  exact B7 (I4 rfl rfl rfl) rfl
 have hK6:=A1 ht
 exfalso
 omega
theorem H41 (L:List AL.Node) (hc:B19 L=0) (hkl:∀n∈L,n.Kids.length≤4000):FnOk Tryz.prog 89 [x7 L] (fun rs=>rs=[G1 0]):=by
 obtain ⟨hl1,hl2,hk⟩:=A10 hc
 refine FnOk.intro Tryz.func89 (by decide) J J J J ?_
 refine k2 (A2 (A6 J J (A4 ?_)));refine k1 (k2 (k2 (A2 (A3 J J (F3 J J (A5 (F4 J J) J (A3 J J (C2 J J J J (fun hg=>by rw [hg];exact C8 J J) ?_))))))));refine C2 J J J J (fun hg=>by rw [hg];exact r5 J (.pure _ _ _ _)) ?_;refine C2 J J J J (fun hg=>by rw [hg];exact R8 J J) ?_;refine A5 (D7 J (fun h=>by first | rfl | (rw [h];rfl)) (fun h=>by first | rfl | (rw [h];rfl))) J ?_;refine A4 ?_;refine k1 ?_;refine B0 rfl (fun ht=>?_) (fun ht=>?_)
 ·simp only [or_pick] at ht
  have:=A0 ht
  omega
 refine k5 (k1 (k2 (k2 (A2 (A3 J J (F3 J J (A3 J J (A4 ?_))))))));refine k1 (k3 (D6 (X:=Nat) (fun i=>([(13,.s (x7 L).s1),(14,C3 L.length),(15,C3 i)],[])) (fun i=>i≤L.length) (fun i=>L.length - i) 0 (Nat.zero_le _) (Sees.of ⟨le1 rfl,le1 rfl,le1 rfl,trivial⟩ trivial) ?_))
 intro i hi
 dsimp only at hi ⊢
 refine k2 (A2 (G7 J J J (A4 ?_)));refine k1 (k2 ?_);refine B0 rfl (fun ht=>?_) (fun ht=>?_)
 ·have hlt:i < L.length:=by have:=A0 ht;omega
  obtain ⟨n,hn⟩:∃n,n=L[i]:=⟨_,rfl⟩
  have hv:L[i]?=some n:=by rw [hn];simp [hlt]
  have hkk:=hk i n hv
  refine k5 (k1 (k2 (k3 (k2 (A2 (A3 J J (A5 (B3 J (.pure _ _ _ _) J (by omega) hv) J (A5 (E3 J J) J (D2 (I9 4 J) J (A6 J J (H7 (C4 TySz.out J J J J J J) (A4 ?_))))))))))));refine k1 (k2 (A2 (A5 (U1 J J J) J (A3 J J (D8 (J12 n i hkk (hkl n (J69 hv))) J J J ?_)))));rintro _ rfl;refine A5 (U0 J) J (A4 ?_);refine k1 ?_;refine B0 rfl (fun ht=>?_) (fun ht=>?_)
  ·cases ht
  refine k5 (k4 (k1 (A2 (E4 J J J (A3 J J (A4 ?_))))));refine k1 ?_
  exact ⟨i+1,by omega,by omega,Sees.of ⟨le1 rfl,le1 rfl,le1 rfl,trivial⟩ trivial⟩
 refine k6 (k2 (A2 (A6 J J (A4 ?_))));refine k1 (k10 ?_)
 exact B7 (rs:=[G1 0]) (I4 rfl rfl rfl) rfl
theorem I07 (w:List Int) (hw:∀v∈w,0≤v∧v≤4001) (k:Int):0≤atG w k.toNat∧atG w k.toNat≤4001:=by
 unfold atG
 cases h:w[k.toNat]? with
 | none=>simp
 | some v=>exact hw v (J69 h)
theorem H42 (n:AL.Node) (w:List Int) (i:Int) (hf:D69 n i=true) (hlen:n.Kids.length≤4000) (hi:i≤w.length) (hw:∀v∈w,0≤v∧v≤4001):FnOk Tryz.prog 90 [D68 n,L1 w] (fun rs=>rs=[G1 (A52 n w)]):=by
 obtain ⟨hk0,hX⟩:=B01 hf
 have hk:∀k∈n.Kids,0≤k∧k < w.length:=fun k hk=>by have:=hk0 k hk;omega
 refine FnOk.intro Tryz.func90 (by decide) J J J J ?_
 refine k2 (A2 (A5 (m9 J J J) J (A6 J J (A4 ?_))));refine k1 (k2 (A2 (A6 J J (A4 ?_))));refine k1 (k2 (k2 (A2 (A5 (C5 J) J (A5 (B1 J J) J (F3 J J (A3 J J (A4 ?_))))))));refine k1 (k3 (D6 (X:=Nat × Int) (fun x=>([(1,D5 Int 1 F0 w),(2,.s (.one (.eref Unit 8 (fun _ j=>(cellsOf w9 n 0 8).getD j (.v undef)) () 0))),(5,C3 x.2),(9,D5 Int 1 F0 n.Kids),(10,C3 n.Kids.length),(11,C3 x.1)],[])) (fun x=>x.1≤n.Kids.length∧0≤x.2∧x.2≤4001∧G12 w x.2 (n.Kids.drop x.1)=G12 w 0 n.Kids) (fun x=>n.Kids.length - x.1) (0,0) ⟨Nat.zero_le _,by decide,by decide,rfl⟩ (Sees.of ⟨le1 rfl,le1 rfl,le1 rfl,le1 rfl,le1 rfl,le1 rfl,trivial⟩ trivial) ?_))
 rintro ⟨j,acc⟩ ⟨hj,h0,h1,hs⟩
 dsimp only at hj h0 h1 hs ⊢
 refine k2 (A2 (G7 J J J (A4 ?_)));refine k1 (k2 ?_);refine B0 rfl (fun ht=>?_) (fun ht=>?_)
 ·have hlt:j < n.Kids.length:=by have:=A0 ht;omega
  obtain ⟨k,hkd⟩:∃k,k=n.Kids[j]:=⟨_,rfl⟩
  have hv:n.Kids[j]?=some k:=by rw [hkd];simp [hlt]
  have hkk:=hk k (J69 hv)
  have hb:=I07 w hw k
  have hvw:w[k.toNat]?=some (atG w k.toNat):=by
   unfold atG
   rw [J60 (by omega)];rfl
  rw [J71 hlt,←hkd,G12] at hs
  refine k5 (k1 (k2 (k3 (k2 (A2 (A5 (B3 J (.pure _ _ _ _) J (by omega) hv) J (A5 (B1 J J) J (A6 J J (A4 ?_)))))))));refine k1 (A2 (A3 J J (A3 J J (A3 J J (A5 (B3 J (.pure _ _ _ _) J (by omega) hvw) J (A5 (B1 J J) J (E4 J J J (A5 (F09 J J) J (A6 J J (A4 ?_))))))))));refine k4 (k1 (A2 (E4 J J J (A3 J J (A4 ?_)))));refine k1 ?_
  exact ⟨(j+1,A51 (acc+atG w k.toNat) 4001),⟨by dsimp only;omega,by dsimp only [A51];split<;>omega,by dsimp only [A51];split<;>omega,hs⟩,by dsimp only;omega,Sees.of ⟨le1 rfl,le1 rfl,le1 rfl,le1 rfl,le1 rfl,le1 rfl,trivial⟩ trivial⟩
 have hjl:j=n.Kids.length:=by have:=A1 ht;omega
 have hs:acc=G12 w 0 n.Kids:=by
  rw [hjl,List.drop_length] at hs
  exact hs
 have hW:A52 n w=if n.Kind=4 then acc else if n.Kind=5 then A51 (acc+n.Kids.length - 1) 4001 else if n.Kind=6 then (if n.Max < 0 then A51 (n.Min*acc+acc+1) 4001 else A51 (n.Min*acc+(n.Max - n.Min)*(acc+1)) 4001) else 1:=by
  rw [hs];rfl
 refine k6 (k2 (k2 (A2 (A5 (C5 J) J (A5 (B1 J J) J (A4 ?_))))));refine k1 (k3 (k2 (A2 (A5 (F4 J J) J (A6 J J (A4 ?_))))));refine k1 ?_;refine B0 rfl (fun ht=>?_) (fun ht=>?_)
 ·have hK:n.Kind=4:=A0 ht
  refine k2 (A2 (A3 J J (A6 J J (A4 ?_))));refine k1 (k10 (k12 (k11 ?_)))
  exact B7 (rs:=[G1 acc]) (I4 rfl rfl rfl) (by rw [hW,if_pos hK])
 have hK4:¬n.Kind=4:=A1 ht
 refine k2 (A2 (A5 (F4 J J) J (A6 J J (A4 ?_))));refine k1 ?_;refine B0 rfl (fun ht=>?_) (fun ht=>?_)
 ·have hK:n.Kind=5:=A0 ht
  refine k2 (A2 (A3 J J (A5 (C5 J) J (A5 (B1 J J) J (F3 J J (E4 J J J (A5 (K1 J J (by omega)) J (A5 (F09 J J) J (A6 J J (A4 ?_))))))))));refine k1 (k10 (k12 (k11 ?_)))
  exact B7 (I4 rfl rfl rfl) (by rw [hW,if_neg hK4,if_pos hK];rfl)
 have hK5:¬n.Kind=5:=A1 ht
 refine k2 (A2 (A5 (F4 J J) J (A6 J J (A4 ?_))));refine k1 ?_;refine B0 rfl (fun ht=>?_) (fun ht=>?_)
 ·have hK:n.Kind=6:=A0 ht
  have hm1:0≤n.Min*acc:=Int.mul_nonneg (by omega) (by omega)
  have hm2:n.Min*acc≤100*4001:=Int.mul_le_mul (by omega) (by omega) (by omega) (by omega)
  refine k2 (k2 (A2 (A5 (C5 J) J (A5 (B1 J J) J (G7 J J J (A4 ?_))))));refine k1 ?_;refine B0 rfl (fun ht=>?_) (fun ht=>?_)
  ·have hM:n.Max < 0:=A0 ht
   refine k2 (A2 (A5 (C5 J) J (A5 (B1 J J) J (A3 J J (A5 (B33 J J (by ((try dsimp only);omega))) J ?_)))));refine A3 J J (A5 (q9 J J (by ((try dsimp only);omega))) J ?_);refine A5 (q9 J J (by ((try dsimp only);omega))) J ?_;refine A5 (F09 J J) J (A6 J J (A4 ?_));refine k1 (k10 (k11 (k12 (k11 ?_))))
   exact B7 (I4 rfl rfl rfl) (by rw [hW,if_neg hK4,if_neg hK5,if_pos hK,if_pos hM];rfl)
  ·have hM:¬n.Max < 0:=A1 ht
   have hm3:0≤(n.Max - n.Min)*(acc+1):=Int.mul_nonneg (by omega) (by omega)
   have hm4:(n.Max - n.Min)*(acc+1)≤100*4002:=Int.mul_le_mul (by omega) (by omega) (by omega) (by omega)
   refine k5 (k1 (k2 (A2 (A5 (C5 J) J (A5 (B1 J J) J (A3 J J (A5 (B33 J J (by ((try dsimp only);omega))) J ?_)))))));refine A5 (C5 J) J (A5 (B1 J J) J (A5 (C5 J) J (A5 (B1 J J) J (A5 (K1 J J (by ((try dsimp only);omega))) J ?_))));refine A3 J J (A5 (q9 J J (by ((try dsimp only);omega))) J ?_);refine A5 (B33 J J (by ((try dsimp only);omega))) J ?_;refine A5 (q9 J J (by ((try dsimp only);omega))) J ?_;refine A5 (F09 J J) J (A6 J J (A4 ?_));refine k1 (k10 (k12 (k11 ?_)))
   exact B7 (I4 rfl rfl rfl) (by rw [hW,if_neg hK4,if_neg hK5,if_pos hK,if_neg hM];rfl)
 have hK6:¬n.Kind=6:=A1 ht
 refine k5 (k2 (A2 (A6 J J (A4 ?_))));refine k1 (k10 ?_)
 exact B7 (rs:=[G1 1]) (I4 rfl rfl rfl) (by rw [hW,if_neg hK4,if_neg hK5,if_neg hK6])
def wtU (L:List AL.Node) (i:Nat):List Int:=T8 (L.take i) 0 (List.replicate L.length 0)
theorem C00:∀(l:List AL.Node) (i:Nat) (w:List Int),(T8 l i w).length=w.length
 | [],_,_=>rfl
 | n::r,i,w=>by rw [T8,C00 r,J83]
theorem B48:∀(l:List AL.Node) (n:AL.Node) (i:Nat) (w:List Int),T8 (l++[n]) i w=(T8 l i w).set (i+l.length) (A52 n (T8 l i w))
 | [],n,i,w=>rfl
 | x::r,n,i,w=>by
  rw [J82,T8,B48 r,T8,J64,show i+1+r.length=i+(r.length+1) by omega]
theorem G62 {L:List AL.Node} {i:Nat} {n:AL.Node} (h:L[i]?=some n):wtU L (i+1)=(wtU L i).set i (A52 n (wtU L i)):=by
 have hlt:=(List.getElem?_eq_some_iff.1 h).1
 unfold wtU
 rw [List.take_add_one,h,Option.toList_some,B48,J70,Nat.zero_add,Nat.min_eq_left (by omega)]
theorem F83 (L:List AL.Node) (i:Nat):(wtU L i).length=L.length:=by unfold wtU;rw [C00,J90]
theorem F84 (L:List AL.Node):wtU L L.length=V4 L:=by unfold wtU V4;rw [J67]
theorem I08 (w:List Int) (hw:∀v∈w,0≤v∧v≤4001):∀(ks:List Int) (acc:Int),0≤acc∧acc≤4001→0≤G12 w acc ks∧G12 w acc ks≤4001
 | [],_,h=>h
 | k::r,acc,h=>by
  have:=I07 w hw k
  exact I08 w hw r _ (by unfold A51;split<;>omega)
theorem H43 {n:AL.Node} {i:Int} (hf:D69 n i=true) {w:List Int} (hw:∀v∈w,0≤v∧v≤4001):0≤A52 n w∧A52 n w≤4001:=by
 obtain ⟨_,hX⟩:=B01 hf
 obtain ⟨h1,h2⟩:=I08 w hw n.Kids 0 (by decide)
 have cap:∀a:Int,0≤a→0≤A51 a 4001∧A51 a 4001≤4001:=fun a ha=>by unfold A51;split<;>omega
 unfold A52
 obtain ⟨s,hs⟩:∃s,s=G12 w 0 n.Kids:=⟨_,rfl⟩
 rw [←hs] at h1 h2
 rw [←hs]
 dsimp only
 split
 ·exact ⟨h1,h2⟩
 split
 ·exact cap _ (by omega)
 split
 ·rename_i h6
  have hm1:0≤n.Min*s:=Int.mul_nonneg (by omega) h1
  split
  ·exact cap _ (by omega)
  ·have hm3:0≤(n.Max - n.Min)*(s+1):=Int.mul_nonneg (by omega) (by omega)
   exact cap _ (by omega)
 ·decide
theorem H44 {L:List AL.Node} (hk:∀(i:Nat) n,L[i]?=some n→D69 n i=true):∀i,i≤L.length→∀v∈wtU L i,0≤v∧v≤4001
 | 0,_,v,hv=>by
  unfold wtU at hv
  rw [List.take_zero,T8] at hv
  rw [(List.mem_replicate.1 hv).2];decide
 | i+1,hi,v,hv=>by
  have hn:L[i]?=some L[i]:=J60 (by omega)
  rw [G62 hn] at hv
  rcases List.mem_or_eq_of_mem_set hv with h | rfl
  ·exact H44 hk i (by omega) v h
  ·exact H43 (hk i _ hn) (H44 hk i (by omega))
theorem D44 (L:List AL.Node) (hc:B19 L=0) (hkl:∀n∈L,n.Kids.length≤4000):FnOk Tryz.prog 59 [x7 L] (fun rs=>rs=[L1 (V4 L)]):=by
 obtain ⟨hl1,hl2,hk⟩:=A10 hc
 refine FnOk.intro Tryz.func59 (by decide) J J J J ?_
 refine k2 (A2 (A6 J J (A4 ?_)));refine k1 (k2 (A2 (A3 J J (F3 J J (D2 (A30 764 Int F0 0 J J (by omega) (by omega) (fun _=>by first | exact ⟨⟨rfl,rfl⟩,trivial⟩ | exact ⟨I5 _ _ _,trivial⟩ | exact ⟨I5 _ _ _,⟨rfl,rfl⟩,I5 _ _ _,trivial⟩) (by first | rfl | (simp [J6,K0,Ob.free,SV.free,S1.free,TC.free]<;>rfl))) J ?_)))));refine A6 J J (A4 ?_);refine k1 (k2 (k2 (A2 (A3 J J (F3 J J (A3 J J (A4 ?_)))))));refine k1 (k3 ?_);refine D6 (X:=Nat) (fun i=>([(3,.s (.one (.mut 764))),(9,.s (x7 L).s1),(10,C3 L.length),(11,C3 i)],[(764,.arr Int 1 F0 (wtU L i))])) (fun i=>i≤L.length) (fun i=>L.length - i) 0 (Nat.zero_le _) ?_ ?_
 ·rw [show wtU L 0=List.replicate ((L.length:Nat):Int).toNat 0 by rw [J62];rfl]
  exact Sees.of ⟨le1 rfl,le1 rfl,le1 rfl,le1 rfl,trivial⟩ ⟨rfl,trivial⟩
 intro i hi
 dsimp only at hi ⊢
 have h5:=F83 L i
 have hb:=H44 hk i hi
 refine k2 (A2 (G7 J J J (A4 ?_)));refine k1 (k2 ?_);refine B0 rfl (fun ht=>?_) (fun ht=>?_)
 ·have hlt:i < L.length:=by have:=A0 ht;omega
  obtain ⟨n,hn⟩:∃n,n=L[i]:=⟨_,rfl⟩
  have hv:L[i]?=some n:=by rw [hn];simp [hlt]
  have hvw:(wtU L i)[i]?=some ((wtU L i)[i]'(by omega)):=J60 (by omega)
  refine k5 (k1 (k2 (k3 (k2 (A2 (A3 J J (A5 (B3 J (.pure _ _ _ _) J (by omega) hv) J (A5 (E3 J J) J (D2 (I9 5 J) J (A6 J J (H7 (C4 TySz.out J J J J J J) (A4 ?_))))))))))));refine k1 (A2 (A3 J J (A3 J J (A5 (U1 J J J) J (A3 J J (I99 (Sees.freeze (k:=764) J) (H42 n (wtU L i) i (hk i n hv) (hkl n (J69 hv)) (by omega) hb) J J J ?_))))));rintro _ rfl;refine ⟨fun _ _ _ h=>h,?_⟩;refine A5 (G8 J J J (by omega) (by omega)) J (H7 (L2 TySz.out J J (by simp;omega) J J) (A4 ?_))
  rw [J62,←G62 hv]
  refine k4 (k1 (A2 (E4 J J J (A3 J J (A4 ?_)))));refine k1 ?_
  exact ⟨i+1,by omega,by omega,Sees.of ⟨le1 rfl,le1 rfl,le1 rfl,le1 rfl,trivial⟩ ⟨rfl,trivial⟩⟩
 have hie:i=L.length:=by have:=A1 ht;omega
 rw [hie,F84]
 refine D9 (Sees.freeze (k:=764) J) ?_
 refine k6 (k2 (A2 (A3 J J (A6 J J (A4 ?_)))));refine k1 (k10 ?_)
 exact B7 (rs:=[L1 (V4 L)]) (I4 rfl rfl rfl) rfl
def topW (L:List AL.Node):Int:=atG (V4 L) (L.length - 1)
theorem G63 (L:List AL.Node) (hc:B19 L=0) (hkl:∀n∈L,n.Kids.length≤4000):FnOk Tryz.prog 58 [x7 L] (fun rs=>rs=[G1 (topW L),G1 0]):=by
 obtain ⟨hl1,hl2,hk⟩:=A10 hc
 have hwl:(V4 L).length=L.length:=by rw [←F84];exact F83 L _
 refine FnOk.intro Tryz.func58 (by decide) J J J J ?_
 refine k2 (A2 (A6 J J (A6 J J (A4 ?_))));refine k1 (k2 (k2 (A2 (A3 J J (D8 (H41 L hc hkl) J J J ?_)))));rintro _ rfl;refine A6 J J (A4 ?_);refine k1 (k2 (A2 (A3 J J (A5 (T9 J J) J (A4 ?_)))));refine k1 ?_;refine B0 rfl (fun ht=>?_) (fun ht=>?_)
 ·cases ht
 refine k5 (k1 (k2 ?_))
 have hv:(V4 L)[((L.length:Int) - 1).toNat]?=some (topW L):=by
  rw [show ((L.length:Int) - 1).toNat=L.length - 1 by omega,topW,atG,J60 (by omega)];rfl
 refine A2 (A3 J J (D8 (D44 L hc hkl) J J J ?_));rintro _ rfl;refine A3 J J (F3 J J (A5 (K1 J J (by omega)) J (A5 (B3 J (.pure _ _ _ _) J (by omega) hv) J (A5 (B1 J J) J (A6 J J (A6 J J (A4 ?_)))))));refine k1 (k10 ?_)
 exact B7 (rs:=[G1 (topW L),G1 0]) (l9 rfl rfl rfl rfl rfl) rfl
set_option maxHeartbeats 1000000
abbrev pat4:Str:=[94,97,43,36]
abbrev ndS:AL.Node:=⟨2,⟨0,0,0,0⟩,0,0,[]⟩
abbrev ndA:AL.Node:=⟨1,⟨0,8589934592,0,0⟩,0,0,[]⟩
abbrev ndR:AL.Node:=⟨6,⟨0,0,0,0⟩,1,-1,[1]⟩
abbrev ndE:AL.Node:=⟨3,⟨0,0,0,0⟩,0,0,[]⟩
abbrev ndC:AL.Node:=⟨4,⟨0,0,0,0⟩,0,0,[0,2,3]⟩
def atI:Nat→Nat
 | 0=>0
 | 1=>1
 | 2=>3
 | _=>4
def H45:Nat→List AL.Node
 | 0=>[]
 | 1=>[ndS]
 | 2=>[ndS,ndA,ndR]
 | _=>[ndS,ndA,ndR,ndE]
def kidI:Nat→Int
 | 0=>0
 | 1=>2
 | _=>3
def G64:Nat→List Int
 | 0=>[]
 | 1=>[0]
 | 2=>[0,2]
 | _=>[0,2,3]
theorem three {p:Nat→Prop} (h0:p 0) (h1:p 1) (h2:p 2):∀i,i < 3→p i
 | 0,_=>h0
 | 1,_=>h1
 | 2,_=>h2
theorem H46:∀i,i < 3→G64 i++[kidI i]=G64 (i+1):=three rfl rfl rfl
theorem I55:∀i,i < 3→(G64 i).length < 3:=three (by decide) (by decide) (by decide)
theorem atI_len:∀i,i < 3→atI i < pat4.length∧pat4.getD (atI i) 0≠124∧pat4.getD (atI i) 0≠41:=three (by decide) (by decide) (by decide)
theorem H47 {gf:Fr} {ob:Obs} (d:Nat) (i:Nat) (hi:i < 3) (h0:B4 ob 810=some (M8 pat4 (atI i) d)) (h1:B4 ob 811=some (M4 (H45 i))) :
  AL.Met Tryz.prog 125 [P0,W4 (pat4.getD (atI i) 0)] gf ob [811] (fun rs ob'=>rs=[M3 (kidI i)]∧ob'=(810,M8 pat4 (atI (i+1)) d)::(811,M4 (H45 (i+1)))::Obs.forget 811 ob):=by
 match i,hi with
 | 0,_=>exact E31 pat4 0 d [] rfl (by decide) (by decide) h0 h1
 | 1,_=>exact H40 pat4 1 d [ndS] rfl rfl (by decide) (by decide) h0 h1
 | 2,_=>exact F82 pat4 3 d [ndS,ndA,ndR] rfl (by decide) (by decide) h0 h1
theorem E33 (k q:Nat) (o:Ob):(o.forget q).forget k=(o.forget k).forget q:=by
 cases o with
 | box l=>simp only [Ob.forget,J94];congr 1;exact List.map_congr_left fun t _=>TC.forget_comm k q t
 | tbx e l=>simp only [Ob.forget,J94];congr 1;exact List.map_congr_left fun t _=>TC.forget_comm k q t
 | tarr n m l=>simp only [Ob.forget,J94];congr 1;exact List.map_congr_left fun t _=>TC.forget_comm k q t
 | growT e n m l=>simp only [Ob.forget,J94];congr 1;exact List.map_congr_left fun t _=>TC.forget_comm k q t
 | growA e α ec c xs p l=>simp only [Ob.forget,J94];congr 1;exact List.map_congr_left fun t _=>TC.forget_comm k q t
 | _=>rfl
theorem B25 (k q:Nat) (ob:Obs):Obs.forget k (Obs.forget q ob)=Obs.forget q (Obs.forget k ob):=by
 simp only [Obs.forget,J94,Function.comp_def,E33 k q]
theorem t8 {K:List Nat} {T ob:Obs} (j k:Nat) (h:∀i x,K8 K i=false→B4 (Obs.forget j (Obs.forget k ob)) i=some x→B4 T i=some x) :
  ∀i x,K8 K i=false→B4 (Obs.forget j (Obs.forget k ob)) i=some x→B4 (Obs.forget k T) i=some x:=by
 rw [B25] at h ⊢
 exact J3 k h
theorem J13 {gf:Fr} {ob:Obs} (d:Nat) (hf:B4 ob 812=none) (h0:B4 ob 810=some (M8 pat4 0 d)) (h1:B4 ob 811=some (M4 [])) :
  AL.Met Tryz.prog 86 [P0] gf ob [811,812] (fun rs ob'=>rs=[M3 4]∧ob'=(810,M8 pat4 4 d)::(811,M4 [ndS,ndA,ndR,ndE,ndC])::(812,.spare 3 1 3)::Obs.forget 812 (Obs.forget 811 ob)):=by
 refine AL.Met.introH Tryz.func86 (by decide) rfl rfl rfl (fun hH=>?_)
 refine D9 (J37 811 (l:=[(0,.s P0)]) (L:=[(810,_),(811,_)]) ⟨le1 rfl,trivial⟩ hH (by repeat (first | exact A8 | refine A9 rfl ?_)) ⟨h0,h1,trivial⟩) ?_
 have hf2:B4 ([(810,M8 pat4 0 d),(811,M4 [])]++Obs.forget 811 ob) 812=none:=by
  show B4 (Obs.forget 811 ob) 812=none
  rw [J7,hf];rfl
 refine k2 (A2 (A6 J J (A4 ?_)));refine k1 (k2 (A2 (A6 J J (A4 ?_))));refine D9 (J50 812 Int 1 F0 3 (t:=3) J hf2 J) ?_
 refine k3 ?_;refine D6 (X:=Nat) (fun i=>([(0,.s P0),(3,.s (.one (.buf 812 Int 1 F0 (G64 i))))]++C1 [811,812] gf,[(810,M8 pat4 (atI i) d),(811,M4 (H45 i)),(812,.spare (G64 i).length 1 3)]++Obs.forget 812 (Obs.forget 811 ob))) (fun i=>i≤3) (fun i=>3 - i) 0 (Nat.zero_le _) ?_ ?_
 ·exact J36 ⟨le1 rfl,le1 rfl,trivial⟩ (D3 hH) (by repeat (first | exact A8 | refine A9 rfl ?_ | refine B6 _ ?_)) (C9 (L:=[(810,_),(811,_),(812,_)]) ⟨rfl,rfl,rfl,trivial⟩ (by repeat (first | exact B8 | refine C0 rfl ?_ | refine J3 _ ?_)))
 intro i hi
 dsimp only at hi ⊢
 have hat:atI i≤pat4.length:=by
  match i,hi with
  | 0,_=>decide
  | 1,_=>decide
  | 2,_=>decide
  | 3,_=>decide
 refine k3 (k2 (A2 (A3 J J (H4 (A08 pat4 (atI i) d hat (by decide) J) J J J ?_))));rintro _ _ ⟨rfl,rfl⟩;refine A3 J J (H5 J J J (H5 J J J (A6 J J (A6 J J (A4 ?_)))));refine k1 (k2 (k2 (A2 (A3 J J (A5 (U0 J) J (A3 J J (C2 J J J J (fun hg=>by rw [hg];exact C8 J J) ?_)))))));refine C2 J J J J (fun hg=>by rw [hg];exact F4 J J) ?_;refine A5 (D7 J (fun h=>by first | rfl | (rw [h];rfl)) (fun h=>by first | rfl | (rw [h];rfl))) J ?_;refine A3 J J (C2 J J J J (fun hg=>by rw [hg];exact C8 J J) ?_);refine C2 J J J J (fun hg=>by rw [hg];exact F4 J J) ?_;refine A5 (D7 J (fun h=>by first | rfl | (rw [h];rfl)) (fun h=>by first | rfl | (rw [h];rfl))) J ?_;refine A4 ?_;refine k1 ?_
 by_cases h3:i=3
 ·subst h3
  refine B0 rfl (fun ht=>?_) (fun ht=>?_)
  ·refine k2 (D9 (Sees.forget 812) ?_)
   refine A2 (A3 J J (A3 J J (H4 (E32 pat4 4 d [ndS,ndA,ndR,ndE] 4 [0,2,3] (by decide) (by decide) J J) J J J ?_)));rintro _ _ ⟨rfl,rfl⟩;refine A6 J J (A4 ?_);refine k1 (k10 (k11 (k12 (k11 (k12 ?_)))))
   exact E0 (H9 rfl rfl) (by repeat (first | exact A8 | refine tail_drop rfl ?_ | refine A9 rfl ?_ | refine F2 _ rfl ?_)) (C9 (L:=[(810,_),(811,_),(812,_)]) ⟨rfl,rfl,rfl,trivial⟩ (by repeat (first | exact B8 | refine C0 rfl ?_ | refine J3 _ ?_ | refine t8 _ _ ?_))) ⟨rfl,rfl⟩
  ·cases ht
 have hi3:i < 3:=by omega
 obtain ⟨ha1,ha2,ha3⟩:=atI_len i hi3
 refine B0 rfl (fun ht=>?_) (fun ht=>?_)
 ·exfalso
  rw [ifOr,ifOr,decide_eq_true ha1,decide_eq_false (fun h=>ha2 (UInt8.toNat_inj.1 (by have e:UInt8.toNat 124=124:=rfl;omega))),decide_eq_false (fun h=>ha3 (UInt8.toNat_inj.1 (by have e:UInt8.toNat 41=41:=rfl;omega)))] at ht
  cases ht
 refine k5 (k1 ?_)
 have hkl:=I55 i hi3
 refine A2 (A3 J J (A3 J J (A3 J J (H4 (H47 d i hi3 J J) J J J ?_))));rintro _ _ ⟨rfl,rfl⟩;refine A5 (D1 (c:=F0) (ys:=[kidI i]) (E5 J J J J H1) J J J) J (D2 (M6 J J J (.pure _ _ _ _) (by (simp only [J64,J68];omega)) J) J (A6 J J (A4 ?_)));refine k4 (k1 ?_);refine ⟨i+1,by omega,by omega,?_⟩
 rw [←H46 i hi3]
 exact J36 ⟨le1 rfl,le1 rfl,trivial⟩ (D3 hH) (by repeat (first | exact A8 | refine A9 rfl ?_ | refine F2 _ rfl ?_)) (C9 (L:=[(810,_),(811,_),(812,_)]) ⟨rfl,rfl,rfl,trivial⟩ (by repeat (first | exact B8 | refine C0 rfl ?_ | refine J3 _ ?_ | refine t8 _ _ ?_)))
theorem J14 {gf:Fr} {ob:Obs} (d:Nat) (hf:B4 ob 812=none) (h0:B4 ob 810=some (M8 pat4 0 d)) (h1:B4 ob 811=some (M4 [])) :
  AL.Met Tryz.prog 57 [P0] gf ob [811,812] (fun rs ob'=>rs=[M3 4]∧ob'=(810,M8 pat4 4 d)::(811,M4 [ndS,ndA,ndR,ndE,ndC])::(812,.spare 3 1 3)::Obs.forget 812 (Obs.forget 811 ob)):=by
 refine AL.Met.introH Tryz.func57 (by decide) rfl rfl rfl (fun hH=>?_)
 refine k2 (A2 (A6 J J (A4 ?_)));refine k1 (k2 (A2 (A3 J J (H4 (J13 d hf h0 h1) J J J ?_))));rintro _ _ ⟨rfl,rfl⟩;refine A5 (D1 (c:=F0) (ys:=[(4:Int)]) (E5 J J J J H1) J J J) J (A6 J J (A4 ?_));refine k1 (k2 (k3 ?_));refine D6 (X:=Nat) (fun _=>([(0,.s P0),(3,D5 Int 1 F0 [4])]++C1 [811,812] gf,[(810,M8 pat4 4 d),(811,M4 [ndS,ndA,ndR,ndE,ndC]),(812,.spare 3 1 3)]++Obs.forget 812 (Obs.forget 811 ob))) (fun _=>True) (fun i=>i) 0 trivial ?_ ?_
 ·exact J36 ⟨le1 rfl,le1 rfl,trivial⟩ (D3 hH) (by repeat (first | exact A8 | refine A9 rfl ?_ | refine B6 _ ?_)) (C9 (L:=[(810,_),(811,_),(812,_)]) ⟨rfl,rfl,rfl,trivial⟩ (by repeat (first | exact B8 | refine C0 rfl ?_)))
 intro i _
 dsimp only
 refine k2 (k2 (A2 (A3 J J (H4 (F81 pat4 4 d 124 (by decide) (by decide) J) J J J ?_))));rintro _ _ ⟨rfl,rfl⟩;refine A4 ?_;refine k1 ?_;refine B0 rfl (fun ht=>?_) (fun ht=>?_)
 ·cases ht
 refine k6 (k2 (A2 (A3 J J (A3 J J (H4 (C21 5 4) J J J ?_)))));rintro _ _ ⟨rfl,rfl⟩;refine A6 J J (A4 ?_);refine k1 (k10 ?_)
 exact E0 (H9 rfl rfl) (by repeat (first | exact A8 | refine tail_drop rfl ?_ | refine A9 rfl ?_ | refine F2 _ rfl ?_)) (C9 (L:=[(810,_),(811,_),(812,_)]) ⟨rfl,rfl,rfl,trivial⟩ (by repeat (first | exact B8 | refine C0 rfl ?_ | refine J3 _ ?_ | refine t8 _ _ ?_))) ⟨rfl,rfl⟩
set_option maxHeartbeats 1000000
theorem D45:IdleFn Tryz.prog 56 2:=by
 intro vs w hl
 obtain ⟨x,y,rfl⟩:∃x y,vs=[x,y]:=by
  match vs,hl with
  | [x,y],_=>exact ⟨x,y,rfl⟩
 refine ⟨N5 ⟨_,rfl,rfl,rfl⟩,?_⟩
 have hta:(Instr.typeAssert .nilIface 20 27 true).run Tryz.prog w=.ok (.tuple #[.int .i64 0,.bool false]) w:=by
  simp only [Instr.typeAssert]
  rfl
 refine callsDIn_of_wpSIn Tryz.func56 rfl trivial fun c₀ cs hu=>?_
 simp only [Tryz.ntmps56,List.size_toArray,J64,J68,Nat.reduceAdd,Nat.reduceSub,Array.replicate_succ,Array.replicate_zero,List.push_toArray,List.append_toArray,J93,J82]
 apply wpSIn_seq
 apply wpSIn_region
 simp [wpOpsSIn,go_sem,recoverD,hu,Exit.thenS,hta]
 apply wpSIn_seq
 apply wpSIn_region
 simp [wpOpsSIn,go_sem,Exit.thenS]
 refine wpSIn_cond (t:=false) (by simp [Act.eval]) ?_
 simp only [Bool.false_eq_true,if_false]
 refine wpSIn_of_wpIn rfl (wpIn_skip ?_)
 cases c₀
 simp_all [bodyPostS,results,Tryz.results56]
theorem I09 {P:Program} {fr:Fr} {ob:Obs} {S:Ctx} {G:Gh} {a:Act} {w:World} (h:Sim P S fr ob G a w) {t:Tmp} {k:Nat} {tt:TypeId} {ts:List TC} {c:Cell} [hty:TyOne P tt] (ht:x1 fr t=some (.s (.one (.ref k 0)))) (hk:B4 ob k=some (.box ts)) (h0:ts[0]?=some (.p c)) :
  ∃b z,a.tmps.getD t undef=.pointer (some ⟨b,0,none⟩)∧(loadVar tt ⟨b,0,none⟩).run P w=.ok z w∧(PV.one c).rep (E8 (Mut S ob G) w) z:=by
 obtain ⟨b,hg,hu⟩:=h.slot ht
 obtain ⟨b',vs,tt',hg',hh,ha⟩:=h.box hk
 rw [hg] at hg';cases hg'
 obtain ⟨z,hz1,hz2⟩:=ha.get 0 _ h0
 exact ⟨b,z,hu,R5 (ht:=hty) (N4 hh (by simpa using hz1)),hz2⟩
theorem retcc {P:Program} {fn:Func} {fr:Fr} {ob:Obs} {t t':Tmp} {k k':Nat} {tt tt':TypeId} {ts ts':List TC} {c c':Cell} [TyOne P tt] [TyOne P tt'] (hr:fn.results=#[.cell t tt,.cell t' tt']) (ht:x1 fr t=some (.s (.one (.ref k 0)))) (hk:B4 ob k=some (.box ts)) (h0:ts[0]?=some (.p c))
  (ht':x1 fr t'=some (.s (.one (.ref k' 0)))) (hk':B4 ob k'=some (.box ts')) (h0':ts'[0]?=some (.p c')):RetOk P fn fr ob [.one c,.one c']:=by
 unfold RetOk
 intro S G a w h
 obtain ⟨b,z,h1,h2,h3⟩:=I09 h (tt:=tt) ht hk h0
 obtain ⟨b',z',h1',h2',h3'⟩:=I09 h (tt:=tt') ht' hk' h0'
 rw [Array.getD_eq_getD_getElem?] at h1 h1'
 exact ⟨_,by simp [results,hr,h1,h1',asAddr,h2,h2'],[_,_],rfl,h3,h3',trivial⟩
abbrev D11:List AL.Node:=[ndS,ndA,ndR,ndE,ndC]
theorem I56:FnOk Tryz.prog 37 [M1 pat4] (fun rs=>rs=[x7 D11,G1 0]):=by
 refine FnOk.intro Tryz.func37 (by decide) J J J J ?_
 refine k2 (A2 (D2 (I9 2 J) J (D2 (I9 3 J) J (A4 ?_))));refine k1 (k2 (k2 (A2 (A3 J J (A5 (N2 J) J (A5 (R8 J J) J (A4 ?_)))))));refine k1 ?_;refine B0 rfl (fun ht=>?_) (fun ht=>?_)
 ·exact absurd (A0 ht) (by decide)
 refine k5 (k1 ?_)
 refine I03 (caps:=[.tmp 2,.tmp 3]) (nc:=[(2,0),(3,0)]) J J D45 ?_
 refine k2 (A2 (A3 J J (A5 (I8 J) J (D2 (l4 810 J J J) J (A6 J J (A4 ?_))))));refine D9 (J41 811 AL.Node 8 w9 152 (kb:=810) (o:=3) J J J) ?_
 refine k2 (A2 (A3 J J (H4 (J14 0 J J J) J J J ?_)));rintro _ _ ⟨rfl,rfl⟩;refine A4 ?_;refine k1 (k2 (k2 (A2 (A3 J J (A5 (B2 J) J (A5 (A7 J) J (G3 J J J J (A3 J J (A5 (N2 J) J (G7 J J J (A4 ?_)))))))))));refine k1 ?_;refine B0 rfl (fun ht=>?_) (fun ht=>?_)
 ·cases ht
 refine k5 (k1 (k2 (A2 (A3 J J (A5 (B2 J) J (A5 (A7 J) J (G3 J J J J (H7 (C4 TySz.out J J J J J J) (H7 (C4 TySz.out J J J J J J) (A4 ?_))))))))));refine k1 (D9 (Sees.freezeG (k:=811) (α:=AL.Node) (ec:=8) (c:=w9) (xs:=D11) (e:=152) rfl rfl) ?_)
 refine k10 ?_
 exact B7 (rs:=[x7 D11,G1 0]) (retcc rfl rfl rfl rfl rfl rfl rfl) rfl
set_option maxHeartbeats 1000000
set_option maxHeartbeats 1000000
theorem five {p:Nat→Prop} (h0:p 0) (h1:p 1) (h2:p 2) (h3:p 3) (h4:p 4):∀i,i < 5→p i
 | 0,_=>h0
 | 1,_=>h1
 | 2,_=>h2
 | 3,_=>h3
 | 4,_=>h4
set_option maxHeartbeats 1000000
theorem D4 {K:List Nat} {T rest:Obs} {k:Nat} {o:Ob} (hn:B4 rest k=none) (h:∀j x,K8 K j=false→B4 rest j=some x→B4 T j=some x):∀j x,K8 K j=false→B4 rest j=some x→B4 ((k,o)::T) j=some x:=by
 intro j x hj hx
 have:k≠j:=fun e=>by rw [e,hx] at hn;cases hn
 rw [B9 this];exact h j x hj hx
def G4 (ks:List Nat) (ob:Obs):Obs:=ks.foldl (fun f k=>Obs.forget k f) ob
theorem S9 {k:Nat}:∀{ks:List Nat} {ob:Obs},B4 ob k=none→B4 (G4 ks ob) k=none
 | [],_,h=>h
 | q::ks,ob,h=>S9 (ks:=ks) (ob:=Obs.forget q ob) (by rw [J7,h];rfl)
theorem C58 (k:Nat):∀(ks:List Nat) (ob:Obs),G4 ks (Obs.forget k ob)=Obs.forget k (G4 ks ob)
 | [],_=>rfl
 | q::ks,ob=>by
  show G4 ks (Obs.forget q (Obs.forget k ob))=Obs.forget k (G4 ks (Obs.forget q ob))
  rw [B25 q k,C58 k ks]
theorem A62 {k:Nat}:∀{ks:List Nat} {ob:Obs},K8 ks k=true→Obs.forget k (G4 ks ob)=G4 ks ob
 | [],ob,h=>by cases h
 | q::ks,ob,h=>by
  show Obs.forget k (G4 ks (Obs.forget q ob))=G4 ks (Obs.forget q ob)
  by_cases hq:k=q
  ·subst hq;rw [C58,Obs.forget_idem]
  ·have h2:K8 ks k=true:=by
    rw [hasN_iff] at h ⊢
    rcases List.mem_cons.1 h with h | h
    ·exact absurd h hq
    ·exact h
   exact A62 h2
theorem K6 {K ks:List Nat} {T ob:Obs} (k:Nat) (hk:K8 ks k=true) (h:∀j x,K8 K j=false→B4 (G4 ks ob) j=some x→B4 T j=some x) :
  ∀j x,K8 K j=false→B4 (G4 ks ob) j=some x→B4 (Obs.forget k T) j=some x:=by
 intro j x hj hx
 rw [←A62 hk,J7] at hx
 rw [J7]
 cases hr:B4 (G4 ks ob) j with
 | none=>rw [hr] at hx;cases hx
 | some y=>rw [hr] at hx;rw [h j y hj hr];exact hx
abbrev qAcc:AL.State:=⟨4,⟨0,0,0,0⟩,0,0⟩
abbrev qEnd:AL.State:=⟨3,⟨0,0,0,0⟩,0,0⟩
abbrev qSet:AL.State:=⟨0,⟨0,8589934592,0,0⟩,2,0⟩
abbrev qSp:AL.State:=⟨1,⟨0,0,0,0⟩,3,1⟩
abbrev qSta:AL.State:=⟨2,⟨0,0,0,0⟩,4,0⟩
set_option maxHeartbeats 1000000
def oZ (ks:List Nat) (ob:Obs):Obs:=(G4 ks ob).filter fun p=>!K8 ks p.1
theorem E34 (k:Nat) (o:Ob):(o.forget k).free k=true:=by
 have key:∀ts:List TC,(ts.map (TC.forget k)).all (TC.free k)=true:=fun ts=>by
  rw [List.all_map,List.all_eq_true]
  intro t _
  exact TC.free_forget k t
 cases o with
 | box ts=>exact key ts
 | tbx e ts=>exact key ts
 | tarr n m ts=>exact key ts
 | growT e n m ts=>exact key ts
 | growA e α ec c xs p ts=>exact key ts
 | _=>rfl
theorem E35 {k:Nat}:∀{Z:Obs},Nat.blt k 1000000=true→(∀p∈Z,p.1≠k∧p.2.free k=true)→K0 k Z=true
 | [],h,_=>h
 | (i,o)::r,h,hp=>by
  have h1:=hp (i,o) (List.mem_cons_self ..)
  simp only [K0,J61,Bool.not_eq_true']
  exact ⟨T4 h1.1,h1.2,E35 h fun p hm=>hp p (List.mem_cons_of_mem _ hm)⟩
theorem C22 {k:Nat}:∀{Z:Obs} {j:Nat} {x:Ob},K0 k Z=true→B4 Z j=some x→j≠k∧x.free k=true
 | [],j,x,_,h=>by cases h
 | (i,o)::r,j,x,hz,h=>by
  simp only [K0,J61,Bool.not_eq_true'] at hz
  by_cases e:i=j
  ·subst e
   rw [E9] at h
   cases h
   exact ⟨fun e=>(by rw [e,Nat.beq_refl] at hz;cases hz.1),hz.2.1⟩
  ·rw [B9 e] at h
   exact C22 hz.2.2 h
theorem C59 {k:Nat} {ks:List Nat} {ob:Obs} (hk:K8 ks k=true) (hb:Nat.blt k 1000000=true):K0 k (oZ ks ob)=true:=by
 refine E35 hb fun p hp=>?_
 obtain ⟨h1,h2⟩:=List.mem_filter.1 hp
 refine ⟨fun e=>(by rw [e,hk] at h2;cases h2),?_⟩
 rw [←A62 hk] at h1
 obtain ⟨q,_,rfl⟩:=List.mem_map.1 h1
 exact E34 k q.2
theorem B49 {f:Nat→Bool}:∀{ob:Obs} {j:Nat} {x:Ob},B4 (ob.filter fun p=>f p.1) j=some x→B4 ob j=some x
 | [],_,_,h=>by cases h
 | (i, o)::r,j,x,h=>by
  by_cases e:i=j
  ·subst e
   rw [K04] at h
   split at h
   ·rw [E9] at h ⊢;exact h
   ·rename_i hf
    exfalso
    have:∀(r:Obs),B4 (r.filter fun p=>f p.1) i=none:=by
     intro r
     induction r with
     | nil=>rfl
     | cons p r ih =>
      obtain ⟨a,b⟩:=p
      rw [K04]
      split
      ·rename_i h2
       have:a≠i:=fun e=>hf (by rw [e] at h2;exact h2)
       rw [B9 this];exact ih
      ·exact ih
    rw [this r] at h;cases h
  ·rw [K04] at h
   rw [B9 e]
   split at h
   ·rw [B9 e] at h;exact B49 h
   ·exact B49 h
theorem oZ_base {K ks:List Nat} {ob:Obs}:∀j x,K8 K j=false→B4 (oZ ks ob) j=some x→B4 (G4 ks ob) j=some x:=fun _ _ _ h=>B49 (f:=fun i=>!K8 ks i) h
theorem C01 {K:List Nat} {k:Nat} {T Z:Obs} (hz:K0 k Z=true) (h:∀j x,K8 K j=false→B4 Z j=some x→B4 T j=some x):∀j x,K8 K j=false→B4 Z j=some x→B4 (Obs.forget k T) j=some x:=by
 intro j x hj hx
 rw [J7,h j x hj hx]
 show some (x.forget k)=some x
 rw [Ob.forget_free (C22 hz hx).2]
theorem getO_mapO (f:Ob→Ob):∀(ob:Obs) (j:Nat),B4 (J38 f ob) j=(B4 ob j).map f
 | [],_=>rfl
 | (i,o)::r,j=>by
  show B4 ((i,f o)::J38 f r) j=_
  by_cases e:i=j
  ·subst e;rw [E9,E9];rfl
  ·rw [B9 e,B9 e,getO_mapO f r j]
theorem A81 {k j:Nat} (h:j≠k):∀(ob:Obs),B4 (Obs.drop k ob) j=B4 ob j
 | []=>rfl
 | (i,o)::r=>by
  unfold Obs.drop
  cases hb:Nat.beq i k
  ·show B4 ((i,o)::Obs.drop k r) j=_
   by_cases e:i=j
   ·subst e;rw [E9,E9]
   ·rw [B9 e,B9 e,A81 h r]
  ·have:i≠j:=fun e=>h (by rw [←e];exact Nat.eq_of_beq_eq_true hb)
   rw [B9 this]
   exact A81 h r
theorem p6 {K:List Nat} {k:Nat} {α:Type} {ec:Nat} {c:α→Nat→Cell} {xs:List α} {T Z:Obs} (hz:K0 k Z=true) (h:∀j x,K8 K j=false→B4 Z j=some x→B4 T j=some x) :
  ∀j x,K8 K j=false→B4 Z j=some x→B4 (J38 (Ob.freeze k α ec c xs) (Obs.drop k T)) j=some x:=by
 intro j x hj hx
 obtain ⟨h1,h2⟩:=C22 hz hx
 rw [getO_mapO,A81 h1,h j x hj hx]
 show some (x.freeze k α ec c xs)=some x
 rw [Ob.freeze_free h2]
theorem E36 {k:Nat} {α:Type} {ec:Nat} {c:α→Nat→Cell} {xs:List α} {s:SV} (h:s.free k=true):s.freeze k α ec c xs=s:=by
 cases s with
 | s x=>cases x with
  | one t=>simp only [SV.freeze,S1.freeze,TC.freeze_free (show t.free k=true from h)]
  | agg ts=>simp only [SV.freeze,S1.freeze];rw [T5 fun t ht=>TC.freeze_free (List.all_eq_true.1 (show ts.all (TC.free k)=true from h) t ht)]
 | tup l =>
  simp only [SV.freeze]
  rw [T5 fun x hx=>?_]
  have hf:=List.all_eq_true.1 (show l.all (S1.free k)=true from h) x hx
  cases x with
  | one t=>simp only [S1.freeze,TC.freeze_free (show t.free k=true from hf)]
  | agg ts=>simp only [S1.freeze];rw [T5 fun t ht=>TC.freeze_free (List.all_eq_true.1 (show ts.all (TC.free k)=true from hf) t ht)]
 | _=>rfl
theorem C23 {k:Nat}:∀{F:Fr},(∀p∈F,p.2.free k=true)→J6 k F=true
 | [],_=>rfl
 | (i,s)::r,h=>by
  simp only [J6,J61]
  exact ⟨h (i,s) (List.mem_cons_self ..),C23 fun p hp=>h p (List.mem_cons_of_mem _ hp)⟩
theorem J15 {F:Fr} {i:Nat} {s:SV}:E6 F i=some s→∃p∈F,p.2=s:=by
 induction F with
 | nil=>intro h;cases h
 | cons p r ih =>
  obtain ⟨j,t⟩:=p
  intro h
  by_cases e:j=i
  ·subst e;rw [E1] at h;cases h;exact ⟨_,List.mem_cons_self ..,rfl⟩
  ·rw [C7 e] at h
   obtain ⟨q,h1,h2⟩:=ih h
   exact ⟨q,List.mem_cons_of_mem _ h1,h2⟩
theorem X1 {ks:List Nat} {k:Nat} {α:Type} {ec:Nat} {c:α→Nat→Cell} {xs:List α} {gf fr:Fr} (hk:K8 ks k=true) (h:Tail (C1 ks gf) fr):Tail (C1 ks gf) (J44 (SV.freeze k α ec c xs) fr):=by
 intro i s hi hs
 have:=h i s hi hs
 rw [B70,this]
 obtain ⟨p,hp,rfl⟩:=J15 hs
 show some (p.2.freeze k α ec c xs)=some p.2
 rw [E36 (Z0 hk p hp)]
theorem M9 {i k:Nat} {o:Ob} {r:Obs} (h1:Nat.beq i k=false) (h2:o.free k=true) (h3:K0 k r=true):K0 k ((i,o)::r)=true:=by
 simp only [K0,h1,h2,h3,Bool.not_false,Bool.and_self]
theorem B50 {i k:Nat} {s:SV} {r:Fr} (h1:s.free k=true) (h2:J6 k r=true):J6 k ((i,s)::r)=true:=by
 simp only [J6,h1,h2,Bool.and_self]
theorem H48 {b:Bool} (h:b=true):(true&&b)=true:=h
theorem and_tt {a b:Bool} (h1:a=true) (h2:b=true):(a&&b)=true:=by rw [h1,h2];rfl
theorem E37 {X:Obs}:∀{Z:Obs} {seen:List Nat},(∀j x,K8 seen j=false→B4 Z j=some x→B4 X j=some x)→H99 X seen Z
 | [],_,_=>trivial
 | (k,o)::r,seen,h=>by
  refine ⟨?_,E37 fun j x hj hx=>?_⟩
  ·cases hs:K8 seen k
   ·exact .inr (h k o hs (E9 _ _ _))
   ·exact .inl rfl
  ·have h1:k≠j∧K8 seen j=false:=by
    refine ⟨fun e=>?_,?_⟩
    ·have:K8 (k::seen) j=true:=by rw [hasN_iff];exact e ▸ List.mem_cons_self ..
     rw [this] at hj;cases hj
    ·cases hs:K8 seen j
     ·rfl
     ·have:K8 (k::seen) j=true:=by rw [hasN_iff];exact List.mem_cons_of_mem _ (hasN_iff.1 hs)
      rw [this] at hj;cases hj
   exact h j x h1.2 (by rw [B9 h1.1];exact hx)
set_option maxHeartbeats 1000000
abbrev auto5:AL.Auto:=⟨[qAcc,qEnd,qSp,qSet,qSet,qSta],5⟩
theorem B51 {gf:Fr} {ob:Obs} (i n:Int) (h:B4 ob 3=some (.box [.p (.v (.int .i64 n))])) :
  AL.Met Tryz.prog 111 [M3 i,.one (.ref 3 0)] gf ob [] (fun rs ob'=>rs=[A79 (decide (0≤i∧i < n))]∧ob'=ob):=by
 refine AL.Met.intro Tryz.func111 (by decide) J J J ?_
 refine k2 (A2 (A6 J J (A4 ?_)));refine k1 (k2 (A2 (A3 J J (A5 (U8 J J) J (A3 J J (C2 J J J J (fun hg=>by rw [hg];exact C8 J J) ?_))))));refine C2 J J J J (fun hg=>by rw [hg];exact C6 J h J) ?_;refine C2 J J J J (fun hg=>by rw [hg];exact B34 J J) ?_;refine A5 (D7 J (fun h=>by first | rfl | (rw [h];rfl)) (fun h=>by first | rfl | (rw [h];rfl))) J ?_;refine A6 J J (A4 ?_);refine k1 (k10 ?_);refine E0 (H9 rfl rfl) (by repeat (first | exact A8 | refine A9 rfl ?_ | refine B6 _ ?_)) (fun _ _ h=>h) ⟨?_,rfl⟩
 rw [T7]
set_option maxHeartbeats 1000000
set_option maxHeartbeats 1000000
abbrev aa:Str:=[97,97]
structure AS where
 opn:List Int
 th:List AL.Thread
 sn:List Bool
def topI (x:AS):Int:=atG x.opn (x.opn.length - 1)
def addStep (a:Nat) (fr:Int) (x:AS):AS :=
 if K7 x.sn (topI x).toNat=true then ⟨x.opn.take (x.opn.length - 1),x.th,x.sn⟩
 else ⟨x.opn.take (x.opn.length - 1)++O6 (auto5.States.getD (topI x).toNat o5) (decide ((a:Int)=0)) (decide ((a:Int)=(aa.length:Int))),x.th++[⟨topI x,fr⟩],x.sn.set (topI x).toNat true⟩
def addIt (a:Nat) (fr:Int) (x:AS):Nat→AS
 | 0=>x
 | n+1=>addStep a fr (addIt a fr x n)
def H49 (y:AS):Prop:=0 < y.opn.length∧y.opn.length≤10∧0≤topI y∧topI y < 6∧y.sn.length=6∧y.th.length≤10
instance (y:AS):Decidable (H49 y):=by unfold H49;infer_instance
def addOk (a:Nat) (fr:Int) (x:AS) (n:Nat):Bool:=(List.range n).all (fun k=>decide (H49 (addIt a fr x k)))
set_option maxHeartbeats 1000000
set_option maxHeartbeats 1000000
set_option maxHeartbeats 1000000
set_option maxHeartbeats 1000000
theorem F85 (n:Nat) (hn:n≤1000000):AL.Met Tryz.prog 70 [.one (.p (.v (.slice none 0 0))),M3 n] [] [] [] (fun rs ob'=>rs=[.one (.mut 803)]∧ob'=[(803,I06 [])]):=by
 refine AL.Met.intro Tryz.func70 (by decide) J J J ?_
 refine k2 (A2 (A5 (I7 _ 2 A19) J (A4 ?_)));refine k1 (k2 (k2 (A2 (A3 J J (G7 J J J (A4 ?_))))));refine k1 ?_;refine B0 rfl (fun ht=>?_) (fun ht=>?_)
 ·have h1:=A0 ht
  omega
 refine k5 (k1 (k2 (k2 (A2 (A3 J J (A3 J J (A5 (B73 J) J (A3 J J (A5 (B68 J) J (A5 (K1 J J (by omega)) J (A5 (K1 J J (by omega)) J (A6 J J (A4 ?_)))))))))))))
 rw [show (n:Int) - (0 - 0)=(n:Int) by omega]
 refine k1 (k2 (A2 (A3 J J (A5 (R8 J J) J (A4 ?_)))));refine k1 ?_;refine B0 rfl (fun ht=>?_) (fun ht=>?_)
 ·have h1:=A0 ht
  skip
  refine A2 (A3 J J (A3 J J (A5 (B73 J) J (A5 (B94 J J) J (A3 J J (D2 (F17 803 J J (by omega) (by omega) J J) J (A3 J J (A5 (B68 J) J (D2 (A37 J J J (by omega) (by omega) J) J (A6 J J (A4 ?_)))))))))));refine k1 (k2 ?_)
  rw [show Int.toNat 0=0 from rfl,List.take_zero]
  refine D9 (J49 (k:=803) (Str × Str) A19 J) ?_
  refine A2 (A3 J J (A6 J J (A4 ?_)));refine k1 (k10 ?_)
  exact E0 (H9 rfl rfl) (by repeat (first | exact A8 | refine A9 rfl ?_ | refine B6 _ ?_)) (ObIn.spec (ob':=[(803,I06 [])]) ⟨rfl,trivial⟩) ⟨rfl,rfl⟩
 ·refine D9 (J47 0 803 (Str × Str) 2 A19 60 J J) ?_
  refine k5 (k1 (k2 (A2 (A3 J J (A6 J J (A4 ?_))))));refine k1 (k10 ?_)
  exact E0 (H9 rfl rfl) (by repeat (first | exact A8 | refine A9 rfl ?_ | refine B6 _ ?_)) (ObIn.spec (ob':=[(803,I06 [])]) ⟨rfl,trivial⟩) ⟨rfl,rfl⟩
theorem E96 (B:List (List (Str × Str))) (hB:FewB B):FnOk Tryz.prog 41 [G11 B] (fun rs=>rs=[pPairs B.flatten]):=by
 have hBl:=hB.len
 have hall:B.flatten=i7 B B.length:=by unfold i7;rw [J67]
 rw [hall]
 refine FnOk.intro Tryz.func41 (by decide) J J J J ?_
 refine k2 (A2 (A6 J J (A4 ?_)));refine k1 (k2 (A2 (A6 J J (A4 ?_))));refine k1 (k2 (k2 (A2 (A3 J J (F3 J J (A3 J J (A4 ?_)))))));refine k1 (k3 (D6 (X:=Nat) (fun i=>([(0,D5 (List (Str × Str)) 1 A69 B),(3,C3 ((i7 B i).length:Nat)),(9,D5 (List (Str × Str)) 1 A69 B),(10,C3 B.length),(11,C3 i)],[])) (fun i=>i≤B.length) (fun i=>B.length - i) 0 (Nat.zero_le _) (Sees.of ⟨le1 rfl,le1 rfl,le1 rfl,le1 rfl,le1 rfl,trivial⟩ trivial) ?_))
 intro i hi
 dsimp only at hi ⊢
 have hfl:=B00 hB i
 refine k2 (A2 (G7 J J J (A4 ?_)));refine k1 (k2 ?_);refine B0 rfl (fun ht=>?_) (fun ht=>?_)
 ·have hlt:i < B.length:=by have h1:=A0 ht;(try dsimp only at h1);omega
  obtain ⟨l,hl⟩:∃l,l=B[i]:=⟨_,rfl⟩
  have hv:B[i]?=some l:=by rw [hl];simp [hlt]
  have hll:=hB.lens l (by rw [hl];exact J66 hlt)
  have hs:((i7 B (i+1)).length:Int)=(i7 B i).length+l.length:=by rw [D43 hlt,J63,hl];omega
  refine k5 (k1 (k2 (k3 (k2 (A2 (A5 (B3 J (.pure _ _ _ _) J (by omega) hv) J (A5 (B1 J J) J (A6 J J (A4 ?_)))))))));refine k1 (k2 (A2 (A3 J J (A3 J J (F3 J J (E4 J J J (A6 J J (A4 ?_))))))));refine k1 (k2 (A2 (A3 J J (G7 J J J (A4 ?_)))));refine k1 ?_;refine B0 rfl (fun ht=>?_) (fun ht=>?_)
  ·have h1:=A0 ht
   omega
  refine k5 (k4 (k1 (A2 (E4 J J J (A3 J J (A4 ?_))))));refine k1 ?_;refine ⟨i+1,by omega,by omega,?_⟩
  rw [hs]
  exact (Sees.of ⟨le1 rfl,le1 rfl,le1 rfl,le1 rfl,le1 rfl,trivial⟩ trivial)
 have hie:i=B.length:=by have h1:=A1 ht;(try dsimp only at h1);omega
 rw [hie]
 have hfl2:=B00 hB B.length
 refine k6 (k2 (A2 (A3 J J (A77 (F85 (i7 B B.length).length (by omega)) J J J J ?_))));rintro _ _ ⟨rfl,rfl⟩;refine ⟨rfl,?_⟩;refine A6 J J (A4 ?_);refine k1 (k2 (k2 (A2 (A3 J J (F3 J J (A3 J J (A4 ?_)))))));refine k1 (k3 (D6 (X:=Nat) (fun i=>([(6,.s (.one (.mut 803))),(25,D5 (List (Str × Str)) 1 A69 B),(26,C3 B.length),(27,C3 i)],[(803,I06 (i7 B i))])) (fun i=>i≤B.length) (fun i=>B.length - i) 0 (Nat.zero_le _) (Sees.of ⟨le1 rfl,le1 rfl,le1 rfl,le1 rfl,trivial⟩ ⟨rfl,trivial⟩) ?_))
 intro i hi
 dsimp only at hi ⊢
 have hfl:=B00 hB i
 refine k2 (A2 (G7 J J J (A4 ?_)));refine k1 (k2 ?_);refine B0 rfl (fun ht=>?_) (fun ht=>?_)
 ·have hlt:i < B.length:=by have h1:=A0 ht;(try dsimp only at h1);omega
  obtain ⟨l,hl⟩:∃l,l=B[i]:=⟨_,rfl⟩
  have hv:B[i]?=some l:=by rw [hl];simp [hlt]
  have hll:=hB.lens l (by rw [hl];exact J66 hlt)
  have hs:=D43 hlt
  rw [←hl] at hs
  refine k5 (k1 (k2 (k3 (k2 (A2 (A5 (B3 J (.pure _ _ _ _) J (by omega) hv) J (A5 (B1 J J) J (A6 J J (A4 ?_)))))))));refine k1 (A2 (A3 J J (A3 J J (D2 (Q8 J J J (.pure _ _ _ _) (by omega) J) J (A6 J J (A4 ?_))))));refine k4 (k1 (A2 (E4 J J J (A3 J J (A4 ?_)))));refine k1 ?_;refine ⟨i+1,by omega,by omega,?_⟩
  rw [hs]
  exact (Sees.of ⟨le1 rfl,le1 rfl,le1 rfl,le1 rfl,trivial⟩ ⟨rfl,trivial⟩)
 have hie2:i=B.length:=by have h1:=A1 ht;(try dsimp only at h1);omega
 rw [hie2]
 refine k6 (k2 (D9 (Sees.freezeG (k:=803) J J) ?_))
 refine A2 (A3 J J (A6 J J (A4 ?_)));refine k1 (k10 ?_)
 exact B7 (rs:=[pPairs (i7 B B.length)]) (I4 rfl rfl rfl) rfl
set_option maxHeartbeats 1000000
def S3 (B:List (List Str)) (i:Nat):List Str:=(B.take i).flatten
theorem y5 {B:List (List Str)} {i:Nat} (h:i < B.length):S3 B (i+1)=S3 B i++B[i]:=by
 unfold S3
 rw [List.take_add_one,J60 h,Option.toList_some,J95];simp
theorem u0 {B:List (List Str)} (h:B.flatten.length≤1000000) (i:Nat):(S3 B i).length≤1000000:=by
 have e:B.flatten=(B.take i).flatten++(B.drop i).flatten:=by rw [←J95,K01]
 rw [e,J63] at h
 unfold S3;omega
abbrev F86 (l:List Str):Ob:=.grow 9 Str 1 P5 l
theorem G65 (n:Nat) (hn:n≤1000000):AL.Met Tryz.prog 77 [.one (.p (.v (.slice none 0 0))),M3 n] [] [] [] (fun rs ob'=>rs=[.one (.mut 804)]∧ob'=[(804,F86 [])]):=by
 refine AL.Met.intro Tryz.func77 (by decide) J J J ?_
 refine k2 (A2 (A5 (I7 _ 1 P5) J (A4 ?_)));refine k1 (k2 (k2 (A2 (A3 J J (G7 J J J (A4 ?_))))));refine k1 ?_;refine B0 rfl (fun ht=>?_) (fun ht=>?_)
 ·have h1:=A0 ht
  omega
 refine k5 (k1 (k2 (k2 (A2 (A3 J J (A3 J J (A5 (B73 J) J (A3 J J (A5 (B68 J) J (A5 (K1 J J (by omega)) J (A5 (K1 J J (by omega)) J (A6 J J (A4 ?_)))))))))))))
 rw [show (n:Int) - (0 - 0)=(n:Int) by omega]
 refine k1 (k2 (A2 (A3 J J (A5 (R8 J J) J (A4 ?_)))));refine k1 ?_;refine B0 rfl (fun ht=>?_) (fun ht=>?_)
 ·have h1:=A0 ht
  skip
  refine A2 (A3 J J (A3 J J (A5 (B73 J) J (A5 (B94 J J) J (A3 J J (D2 (F17 804 J J (by omega) (by omega) J J) J (A3 J J (A5 (B68 J) J (D2 (A37 J J J (by omega) (by omega) J) J (A6 J J (A4 ?_)))))))))));refine k1 (k2 ?_)
  rw [show Int.toNat 0=0 from rfl,List.take_zero]
  refine D9 (J49 (k:=804) Str P5 J) ?_
  refine A2 (A3 J J (A6 J J (A4 ?_)));refine k1 (k10 ?_)
  exact E0 (H9 rfl rfl) (by repeat (first | exact A8 | refine A9 rfl ?_ | refine B6 _ ?_)) (ObIn.spec (ob':=[(804,F86 [])]) ⟨rfl,trivial⟩) ⟨rfl,rfl⟩
 ·refine D9 (J47 0 804 Str 1 P5 9 J J) ?_
  refine k5 (k1 (k2 (A2 (A3 J J (A6 J J (A4 ?_))))));refine k1 (k10 ?_)
  exact E0 (H9 rfl rfl) (by repeat (first | exact A8 | refine A9 rfl ?_ | refine B6 _ ?_)) (ObIn.spec (ob':=[(804,F86 [])]) ⟨rfl,trivial⟩) ⟨rfl,rfl⟩
theorem F87 (B:List (List Str)) (hB1:B.length≤1000) (hB2:B.flatten.length≤1000000):FnOk Tryz.prog 45 [pStrss B] (fun rs=>rs=[B91 B.flatten]):=by
 have hBl:=hB1
 have hall:B.flatten=S3 B B.length:=by unfold S3;rw [J67]
 rw [hall]
 refine FnOk.intro Tryz.func45 (by decide) J J J J ?_
 refine k2 (A2 (A6 J J (A4 ?_)));refine k1 (k2 (A2 (A6 J J (A4 ?_))));refine k1 (k2 (k2 (A2 (A3 J J (F3 J J (A3 J J (A4 ?_)))))));refine k1 (k3 (D6 (X:=Nat) (fun i=>([(0,D5 (List Str) 1 strsC B),(3,C3 ((S3 B i).length:Nat)),(9,D5 (List Str) 1 strsC B),(10,C3 B.length),(11,C3 i)],[])) (fun i=>i≤B.length) (fun i=>B.length - i) 0 (Nat.zero_le _) (Sees.of ⟨le1 rfl,le1 rfl,le1 rfl,le1 rfl,le1 rfl,trivial⟩ trivial) ?_))
 intro i hi
 dsimp only at hi ⊢
 have hfl:=u0 hB2 i
 refine k2 (A2 (G7 J J J (A4 ?_)));refine k1 (k2 ?_);refine B0 rfl (fun ht=>?_) (fun ht=>?_)
 ·have hlt:i < B.length:=by have h1:=A0 ht;(try dsimp only at h1);omega
  obtain ⟨l,hl⟩:∃l,l=B[i]:=⟨_,rfl⟩
  have hv:B[i]?=some l:=by rw [hl];simp [hlt]
  have hfl1:=u0 hB2 (i+1)
  have hfs:(S3 B (i+1)).length=(S3 B i).length+l.length:=by rw [y5 hlt,J63,hl]
  have hs:((S3 B (i+1)).length:Int)=(S3 B i).length+l.length:=by rw [y5 hlt,J63,hl];omega
  refine k5 (k1 (k2 (k3 (k2 (A2 (A5 (B3 J (.pure _ _ _ _) J (by omega) hv) J (A5 (B1 J J) J (A6 J J (A4 ?_)))))))));refine k1 (k2 (A2 (A3 J J (A3 J J (F3 J J (E4 J J J (A6 J J (A4 ?_))))))));refine k1 (k2 (A2 (A3 J J (G7 J J J (A4 ?_)))));refine k1 ?_;refine B0 rfl (fun ht=>?_) (fun ht=>?_)
  ·have h1:=A0 ht
   omega
  refine k5 (k4 (k1 (A2 (E4 J J J (A3 J J (A4 ?_))))));refine k1 ?_;refine ⟨i+1,by omega,by omega,?_⟩
  rw [hs]
  exact (Sees.of ⟨le1 rfl,le1 rfl,le1 rfl,le1 rfl,le1 rfl,trivial⟩ trivial)
 have hie:i=B.length:=by have h1:=A1 ht;(try dsimp only at h1);omega
 rw [hie]
 have hfl2:=u0 hB2 B.length
 refine k6 (k2 (A2 (A3 J J (A77 (G65 (S3 B B.length).length (by omega)) J J J J ?_))));rintro _ _ ⟨rfl,rfl⟩;refine ⟨rfl,?_⟩;refine A6 J J (A4 ?_);refine k1 (k2 (k2 (A2 (A3 J J (F3 J J (A3 J J (A4 ?_)))))));refine k1 (k3 (D6 (X:=Nat) (fun i=>([(6,.s (.one (.mut 804))),(25,D5 (List Str) 1 strsC B),(26,C3 B.length),(27,C3 i)],[(804,F86 (S3 B i))])) (fun i=>i≤B.length) (fun i=>B.length - i) 0 (Nat.zero_le _) (Sees.of ⟨le1 rfl,le1 rfl,le1 rfl,le1 rfl,trivial⟩ ⟨rfl,trivial⟩) ?_))
 intro i hi
 dsimp only at hi ⊢
 have hfl:=u0 hB2 i
 refine k2 (A2 (G7 J J J (A4 ?_)));refine k1 (k2 ?_);refine B0 rfl (fun ht=>?_) (fun ht=>?_)
 ·have hlt:i < B.length:=by have h1:=A0 ht;(try dsimp only at h1);omega
  obtain ⟨l,hl⟩:∃l,l=B[i]:=⟨_,rfl⟩
  have hv:B[i]?=some l:=by rw [hl];simp [hlt]
  have hfl1:=u0 hB2 (i+1)
  have hfs:(S3 B (i+1)).length=(S3 B i).length+l.length:=by rw [y5 hlt,J63,hl]
  have hs:=y5 hlt
  rw [←hl] at hs
  refine k5 (k1 (k2 (k3 (k2 (A2 (A5 (B3 J (.pure _ _ _ _) J (by omega) hv) J (A5 (B1 J J) J (A6 J J (A4 ?_)))))))));refine k1 (A2 (A3 J J (A3 J J (D2 (Q8 J J J (.pure _ _ _ _) (by omega) J) J (A6 J J (A4 ?_))))));refine k4 (k1 (A2 (E4 J J J (A3 J J (A4 ?_)))));refine k1 ?_;refine ⟨i+1,by omega,by omega,?_⟩
  rw [hs]
  exact (Sees.of ⟨le1 rfl,le1 rfl,le1 rfl,le1 rfl,trivial⟩ ⟨rfl,trivial⟩)
 have hie2:i=B.length:=by have h1:=A1 ht;(try dsimp only at h1);omega
 rw [hie2]
 refine k6 (k2 (D9 (Sees.freezeG (k:=804) J J) ?_))
 refine A2 (A3 J J (A6 J J (A4 ?_)));refine k1 (k10 ?_)
 exact B7 (rs:=[B91 (S3 B B.length)]) (I4 rfl rfl rfl) rfl
end Go.Proofs.YtkahafmcmiiolaaGreatDoor
