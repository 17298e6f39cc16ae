/- Walks of the program's functions. -/
import Derived.Test.YtkahafmcmiiolaaGreatDoorTy
import Derived.Test.YtkahafmcmiiolaaGreatDoorFs
import Derived.Test.YtkahafmcmiiolaaGreatDoorSh
import Derived.Lib.AppendIntMem
import Derived.RangeFuncBound
import Derived.RangeFuncOwn
import Derived.OwnWalkIn
import Derived.TacticsInMore
import Derived.LoopNIn
import Derived.LoopIn
set_option linter.unusedSimpArgs false
namespace Go.Proofs.YtkahafmcmiiolaaGreatDoor
open Go Go.AL
set_option maxRecDepth 100000
theorem H18 (p:Int):0≤IntKind.u64.wrap p:=by simp [IntKind.wrap,IntKind.signed,IntKind.bits];omega
theorem J01 (s:Str) (hs:s.length≤1099511627776):FnOk Tryz.prog 32 [M1 s] (fun rs=>rs=[J2 (ended s)]):=by
 refine FnOk.intro Tryz.func32 (by decide) J J J J ?_
 refine k2 (A2 (A6 J J (A4 ?_)));refine k1 (k2 ?_)
 have hl:s≠[]→s[((s.length:Int) - 1).toNat]?=some (s.getLastD 0):=by
  intro h
  have h1:0 < s.length:=List.length_pos_iff.2 h
  have h2:((s.length:Int) - 1).toNat=s.length - 1:=by omega
  rw [h2,←List.getLast?_eq_getElem?,List.getLast?_eq_some_getLast h,List.getLastD_eq_getLast?,List.getLast?_eq_some_getLast h]
  rfl
 refine A2 (A3 J J (A5 (D85 J J) J (A3 J J (C2 J J J J (fun hg=>by rw [hg];exact C8 J J) ?_))));refine C2 J J J J (fun hg=>by rw [hg];exact C8 J J) ?_;refine C2 J J J J (fun hg=>by rw [hg];exact N2 J) ?_;refine C2 J J J J (fun hg=>by have hq:=hg;(try simp at hq);rw [hg];exact K1 J J (by omega)) ?_;refine C2 J J J J (fun hg=>by have hq:=hg;(try simp at hq);have h1:=List.length_pos_iff.2 hq;rw [hg];exact y8 J J (by omega) (hl hq)) ?_;refine C2 J J J J (fun hg=>by rw [hg];exact F4 J J) ?_;refine A5 (D7 J (fun h=>by first | rfl | (rw [h];rfl)) (fun h=>by first | rfl | (rw [h];rfl))) J ?_;refine A6 J J (A4 ?_);refine k1 (k10 (B7 (I4 J J J) ?_))
 rw [J24]
theorem E22 (b:Str) (hb:b.length≤536870912):FnOk Tryz.prog 15 [M1 b] (fun rs=>rs=[B91 (F8 b)]):=by
 refine FnOk.intro Tryz.func15 (by decide) J J J J ?_
 refine k2 (A2 (A6 J J (A4 ?_)));refine k1 (k2 (A2 (D2 (Y1 3 _ P5 J) J (A4 ?_))));refine k1 (k2 (A2 (A6 J J (A4 ?_))));refine k1 (k2 (k2 (A2 (A6 J J (A4 ?_)))));refine k1 (k3 ?_);refine D6 (X:=Nat × Nat × List Str) (fun x=>([(0,V5 b),(3,.s (.one (.buf 3 Str 1 P5 x.2.2))),(4,C3 x.2.1),(5,C3 x.1)],[(3,.spare x.2.2.length 1 9)]))
  (fun x=>x.1≤b.length∧x.2.1≤x.1∧x.2.2.length≤x.1∧(x.1=b.length→x.2.1=x.1)∧x.2.2++I2 ((b.drop x.2.1).take (x.1 - x.2.1)) (b.drop x.1)=F8 b) (fun x=>b.length - x.1) (0,0,[]) (by simp [F8]) ?_ ?_
 ·exact Sees.of ⟨⟨_,rfl,.same _⟩,⟨_,rfl,.same _⟩,⟨_,rfl,.same _⟩,⟨_,rfl,.same _⟩,trivial⟩ ⟨rfl,trivial⟩
 ·rintro ⟨i,from',out⟩ ⟨hi,hf,ho,he,hp⟩
  dsimp only at hi hf ho he hp ⊢
  refine k2 (k2 (A2 (A3 J J (A3 J J (A5 (N2 J) J (G7 J J J (A4 ?_)))))));refine k1 ?_;refine B0 rfl (fun ht=>?_) (fun ht=>?_)
  ·have hlt:i < b.length:=by simpa using ht
   have hv:b[i]?=some b[i]:=by simp [hlt]
   refine k5 (k1 (k2 (k3 (k2 (A2 (A3 J J (A3 J J (A5 (y8 J J (by omega) hv) J (A5 (F4 J J) J (A3 J J (C2 J J J J (fun hg=>by rw [hg];exact C8 J J) ?_)))))))))));refine C2 J J J J (fun hg=>by have hq:=hg;(try simp at hq);rw [hg];exact q9 J J (by omega)) ?_;refine C2 J J J J (fun hg=>by rw [hg];exact C8 J J) ?_;refine C2 J J J J (fun hg=>by rw [hg];exact N2 J) ?_;refine C2 J J J J (fun hg=>by rw [hg];exact F4 J J) ?_;refine A5 (D7 J (fun h=>by first | rfl | (rw [h];rfl)) (fun h=>by first | rfl | (rw [h];rfl))) J ?_;refine A4 ?_;refine k1 ?_;refine B0 rfl (fun ht2=>?_) (fun ht2=>?_)
   ·refine k2 (A2 (A3 J J (A3 J J (A3 J J (A3 J J (E4 J J J (A5 (I95 J J J (by omega) (by omega) (by omega)) J (A5 (D1 (c:=P5) (ys:=[_]) (E5 J J J J H1) J J J) J (D2 (M6 J J J (.pure _ _ _ _) (by simp;omega) J) J (A6 J J (A4 ?_)))))))))));refine k1 (A2 (A3 J J (E4 J J J (A6 J J (A4 ?_)))));refine k4 (k1 (A2 (A3 J J (E4 J J J (A6 J J (A4 ?_))))));refine k1 ?_;refine ⟨(i+1,i+1,_),⟨?_,?_,?_,?_,?_⟩,?_,Sees.of ⟨⟨_,rfl,.same _⟩,⟨_,rfl,.same _⟩,⟨_,rfl,.same _⟩,⟨_,rfl,.same _⟩,trivial⟩ ⟨rfl,trivial⟩⟩
    all_goals dsimp only
    ·omega
    ·omega
    ·simp;omega
    ·omega
    ·have hc:b[i]=10∨i+1=b.length:=by
      simp only [u8_lf] at ht2
      by_cases h:b[i]=10
      ·exact .inl h
      ·simp [h] at ht2;exact .inr (by omega)
     rw [H68,J62,K06,List.take_zero,←F30 b from' i hf hlt,J73,←hp,J71 hlt,A65]
     rcases hc with h | h
     ·rw [if_pos h];rfl
     ·have hd:b.drop (i+1)=[]:=J78 (by omega)
      rw [hd]
      split
      ·rfl
      ·rw [show I2 ([]:Str) []=[] from rfl,F93 _ (by simp)];simp
    ·omega
   ·refine k5 (k4 (k1 (A2 (A3 J J (E4 J J J (A6 J J (A4 ?_)))))));refine k1 ?_;refine ⟨(i+1,from',out),⟨?_,?_,?_,?_,?_⟩,?_,Sees.of ⟨⟨_,rfl,.same _⟩,⟨_,rfl,.same _⟩,⟨_,rfl,.same _⟩,⟨_,rfl,.same _⟩,trivial⟩ ⟨rfl,trivial⟩⟩
    all_goals dsimp only
    ·omega
    ·omega
    ·omega
    ·intro h
     simp [show (i:Int)+1=(b.length:Int) by omega] at ht2
    ·have hc:b[i]≠10:=fun h=>by simp [h] at ht2
     rw [←F30 b from' i hf hlt,←hp,J71 hlt,A65,if_neg hc]
    ·omega
  ·refine k6 (k2 (A2 (A3 J J (A6 J J (A4 ?_)))));refine k1 (k10 (B7 (I4 J J J) ?_))
   have hi':i=b.length:=by simp at ht;omega
   subst hi'
   have:=he rfl
   subst this
   rw [K06,List.take_zero,J78 (Nat.le_refl _)] at hp
   rw [←hp];simp [I2]
set_option maxHeartbeats 1000000
set_option maxHeartbeats 1000000
theorem F67 (f:FuncId) (pr:File→Bool) (l:List File) (hl:l.length≤1073741824) (hf:∀x∈l,FnOk Tryz.prog f [I12 x] (fun rs=>rs=[J2 (pr x)])) :
  FnOk Tryz.prog 152 [n6 l,.one (.v (.func (.func f) #[] #[]))] (fun rs=>∃i:Int,rs=[G1 i]∧decide (0≤i)=l.any pr):=by
 refine FnOk.intro Tryz.func152 (by decide) J J J J ?_
 refine k2 (A2 (A6 J J (A4 ?_)));refine k1 (k2 (k2 (A2 (A3 J J (F3 J J (A3 J J (A4 ?_)))))));refine k1 (k3 (D6 (X:=Nat) (fun i=>([(0,D5 File 2 y1 l),(1,I0 (.func (.func f) #[] #[])),(7,C3 l.length),(8,C3 i)],[])) (fun i=>i≤l.length∧(l.take i).any pr=false) (fun i=>l.length - i) 0 ⟨Nat.zero_le _,rfl⟩ (Sees.of ⟨le1 rfl,le1 rfl,le1 rfl,le1 rfl,trivial⟩ trivial) ?_))
 rintro i ⟨hi,hn⟩
 dsimp only at hi hn ⊢
 refine k2 (A2 (G7 J J J (A4 ?_)));refine k1 (k2 ?_);refine B0 rfl (fun ht=>?_) (fun ht=>?_)
 rotate_left
 ·have h1:i=l.length:=by have h1:=A1 ht;(try dsimp only at h1);omega
  rw [h1,J67] at hn
  refine k6 (k2 (A2 (A6 J J (A4 ?_))));refine k1 (k10 ?_)
  exact B7 (rs:=[G1 (-1)]) (I4 rfl rfl rfl) ⟨-1,rfl,by rw [hn];rfl⟩
 have hlt:i < l.length:=by have h1:=A0 ht;(try dsimp only at h1);omega
 obtain ⟨x,hx⟩:∃x,x=l[i]:=⟨_,rfl⟩
 have hv:l[i]?=some x:=by rw [hx];simp [hlt]
 have hfx:=hf x (by rw [hx];exact J66 hlt)
 refine k5 (k1 (k2 (k3 (k2 (A2 (A3 J J (A6 J J (A4 ?_))))))));refine k1 (k2 (A2 (A3 J J (A3 J J (A3 J J (A5 (B3 J (.pure _ _ _ _) J (by omega) hv) J (A5 (E3 J J) J (A5 (F66 (hfx) J J J) J (A4 ?_)))))))));refine k1 ?_;refine B0 rfl (fun ht=>?_) (fun ht=>?_)
 ·refine k2 (A2 (A3 J J (A6 J J (A4 ?_))));refine k1 (k10 (k12 (k11 (k11 (k12 (k11 ?_))))));refine B7 (rs:=[G1 i]) (I4 rfl rfl rfl) ⟨i,rfl,?_⟩
  rw [List.any_eq_true.2 ⟨x,by rw [hx];exact J66 hlt,ht⟩]
  exact decide_eq_true (by omega)
 ·refine k5 (k4 (k1 (A2 (E4 J J J (A3 J J (A4 ?_))))));refine k1 ?_;refine ⟨i+1,⟨hlt,?_⟩,by omega,(Sees.of ⟨le1 rfl,le1 rfl,le1 rfl,le1 rfl,trivial⟩ trivial)⟩
  rw [List.take_add_one,hv,Option.toList_some,List.any_append,hn,Bool.false_or,List.any_cons,List.any_nil,Bool.or_false]
  exact ht
theorem B24 (f:FuncId) (pr:File→Bool) (l:List File) (hl:l.length≤1073741824) (hf:∀x∈l,FnOk Tryz.prog f [I12 x] (fun rs=>rs=[J2 (pr x)])) :
  FnOk Tryz.prog 131 [n6 l,.one (.v (.func (.func f) #[] #[]))] (fun rs=>rs=[J2 (l.any pr)]):=by
 refine FnOk.intro Tryz.func131 (by decide) J J J J ?_
 refine k2 (A2 (A6 J J (A4 ?_)));refine k1 (k2 (A2 (A3 J J (A3 J J (D8 (F67 f pr l hl hf) J J J ?_)))));rintro _ ⟨i,rfl,hi⟩;refine A5 (U8 J J) J (A6 J J (A4 ?_));refine k1 (k10 ?_)
 exact B7 (I4 rfl rfl rfl) (by rw [←hi])
theorem E23 (f:FuncId) (pr:Commit→Bool) (l:List Commit) (hl:l.length≤1073741824) (hf:∀x∈l,FnOk Tryz.prog f [C62 x] (fun rs=>rs=[J2 (pr x)])) :
  FnOk Tryz.prog 130 [P1 l,.one (.v (.func (.func f) #[] #[]))] (fun rs=>∃i:Int,rs=[G1 i]∧decide (0≤i)=l.any pr):=by
 refine FnOk.intro Tryz.func130 (by decide) J J J J ?_
 refine k2 (A2 (A6 J J (A4 ?_)));refine k1 (k2 (k2 (A2 (A3 J J (F3 J J (A3 J J (A4 ?_)))))));refine k1 (k3 (D6 (X:=Nat) (fun i=>([(0,D5 Commit 3 J5 l),(1,I0 (.func (.func f) #[] #[])),(7,C3 l.length),(8,C3 i)],[])) (fun i=>i≤l.length∧(l.take i).any pr=false) (fun i=>l.length - i) 0 ⟨Nat.zero_le _,rfl⟩ (Sees.of ⟨le1 rfl,le1 rfl,le1 rfl,le1 rfl,trivial⟩ trivial) ?_))
 rintro i ⟨hi,hn⟩
 dsimp only at hi hn ⊢
 refine k2 (A2 (G7 J J J (A4 ?_)));refine k1 (k2 ?_);refine B0 rfl (fun ht=>?_) (fun ht=>?_)
 rotate_left
 ·have h1:i=l.length:=by have h1:=A1 ht;(try dsimp only at h1);omega
  rw [h1,J67] at hn
  refine k6 (k2 (A2 (A6 J J (A4 ?_))));refine k1 (k10 ?_)
  exact B7 (rs:=[G1 (-1)]) (I4 rfl rfl rfl) ⟨-1,rfl,by rw [hn];rfl⟩
 have hlt:i < l.length:=by have h1:=A0 ht;(try dsimp only at h1);omega
 obtain ⟨x,hx⟩:∃x,x=l[i]:=⟨_,rfl⟩
 have hv:l[i]?=some x:=by rw [hx];simp [hlt]
 have hfx:=hf x (by rw [hx];exact J66 hlt)
 refine k5 (k1 (k2 (k3 (k2 (A2 (A3 J J (A6 J J (A4 ?_))))))));refine k1 (k2 (A2 (A3 J J (A3 J J (A3 J J (A5 (B3 J (.pure _ _ _ _) J (by omega) hv) J (A5 (E3 J J) J (A5 (F66 (hfx) J J J) J (A4 ?_)))))))));refine k1 ?_;refine B0 rfl (fun ht=>?_) (fun ht=>?_)
 ·refine k2 (A2 (A3 J J (A6 J J (A4 ?_))));refine k1 (k10 (k12 (k11 (k11 (k12 (k11 ?_))))));refine B7 (rs:=[G1 i]) (I4 rfl rfl rfl) ⟨i,rfl,?_⟩
  rw [List.any_eq_true.2 ⟨x,by rw [hx];exact J66 hlt,ht⟩]
  exact decide_eq_true (by omega)
 ·refine k5 (k4 (k1 (A2 (E4 J J J (A3 J J (A4 ?_))))));refine k1 ?_;refine ⟨i+1,⟨hlt,?_⟩,by omega,(Sees.of ⟨le1 rfl,le1 rfl,le1 rfl,le1 rfl,trivial⟩ trivial)⟩
  rw [List.take_add_one,hv,Option.toList_some,List.any_append,hn,Bool.false_or,List.any_cons,List.any_nil,Bool.or_false]
  exact ht
theorem A38 (f:FuncId) (pr:Commit→Bool) (l:List Commit) (hl:l.length≤1073741824) (hf:∀x∈l,FnOk Tryz.prog f [C62 x] (fun rs=>rs=[J2 (pr x)])) :
  FnOk Tryz.prog 96 [P1 l,.one (.v (.func (.func f) #[] #[]))] (fun rs=>rs=[J2 (l.any pr)]):=by
 refine FnOk.intro Tryz.func96 (by decide) J J J J ?_
 refine k2 (A2 (A6 J J (A4 ?_)));refine k1 (k2 (A2 (A3 J J (A3 J J (D8 (E23 f pr l hl hf) J J J ?_)))));rintro _ ⟨i,rfl,hi⟩;refine A5 (U8 J J) J (A6 J J (A4 ?_));refine k1 (k10 ?_)
 exact B7 (I4 rfl rfl rfl) (by rw [←hi])
set_option maxHeartbeats 1000000
structure FewG (g:Graph):Prop where
 len:g.length≤1000
 pars:∀c∈g,c.Parents.length≤1048576
set_option maxHeartbeats 1000000
theorem I44 (l:List Int) (n:Int) (hl:l.length≤1073741824):FnOk Tryz.prog 151 [L1 l,G1 n] (fun rs=>∃i:Int,rs=[G1 i]∧decide (0≤i)=decide (n∈l)):=by
 refine FnOk.intro Tryz.func151 (by decide) J J J J ?_
 refine k2 (A2 (A6 J J (A4 ?_)));refine k1 (k2 (k2 (A2 (A3 J J (F3 J J (A3 J J (A4 ?_)))))));refine k1 (k3 (D6 (X:=Nat) (fun i=>([(0,D5 Int 1 F0 l),(1,C3 n),(7,C3 l.length),(8,C3 i)],[])) (fun i=>i≤l.length∧n∉l.take i) (fun i=>l.length - i) 0 ⟨Nat.zero_le _,by simp⟩ (Sees.of ⟨le1 rfl,le1 rfl,le1 rfl,le1 rfl,trivial⟩ trivial) ?_))
 rintro i ⟨hi,hf⟩
 dsimp only at hi hf ⊢
 refine k2 (A2 (G7 J J J (A4 ?_)));refine k1 (k2 ?_);refine B0 rfl (fun ht=>?_) (fun ht=>?_)
 rotate_left
 ·have h1:i=l.length:=by have h1:=A1 ht;(try dsimp only at h1);omega
  rw [h1,J67] at hf
  refine k6 (k2 (A2 (A6 J J (A4 ?_))));refine k1 (k10 ?_)
  exact B7 (rs:=[G1 (-1)]) (I4 rfl rfl rfl) ⟨-1,rfl,by rw [decide_eq_false hf];rfl⟩
 have hlt:i < l.length:=by have h1:=A0 ht;(try dsimp only at h1);omega
 have hv:l[i]?=some l[i]:=by simp [hlt]
 refine k5 (k1 (k2 (k3 (k2 (A2 (A3 J J (A6 J J (A4 ?_))))))));refine k1 (k2 (A2 (A3 J J (A3 J J (A3 J J (A5 (B3 J (.pure _ _ _ _) J (by omega) hv) J (A5 (B1 J J) J (A5 (F4 J J) J (A4 ?_)))))))));refine k1 ?_;refine B0 rfl (fun ht=>?_) (fun ht=>?_)
 ·have h1:n=l[i]:=A0 ht
  refine k2 (A2 (A3 J J (A6 J J (A4 ?_))));refine k1 (k10 (k12 (k11 (k11 (k12 (k11 ?_))))));refine B7 (rs:=[G1 i]) (I4 rfl rfl rfl) ⟨i,rfl,?_⟩
  rw [decide_eq_true (show n∈l from h1 ▸ J66 hlt)]
  exact decide_eq_true (by omega)
 ·have h1:¬n=l[i]:=A1 ht
  refine k5 (k4 (k1 (A2 (E4 J J J (A3 J J (A4 ?_))))));refine k1 ?_;refine ⟨i+1,⟨hlt,?_⟩,by omega,(Sees.of ⟨le1 rfl,le1 rfl,le1 rfl,le1 rfl,trivial⟩ trivial)⟩
  rw [List.take_add_one,J60 hlt,Option.toList_some,J84,List.mem_singleton]
  rintro (h | h)
  ·exact hf h
  ·exact h1 h
theorem F68 (l:List Int) (n:Int) (hl:l.length≤1073741824):FnOk Tryz.prog 129 [L1 l,G1 n] (fun rs=>rs=[J2 (decide (n∈l))]):=by
 refine FnOk.intro Tryz.func129 (by decide) J J J J ?_
 refine k2 (A2 (A6 J J (A4 ?_)));refine k1 (k2 (A2 (A3 J J (A3 J J (D8 (I44 l n hl) J J J ?_)))));rintro _ ⟨i,rfl,hi⟩;refine A5 (U8 J J) J (A6 J J (A4 ?_));refine k1 (k10 ?_)
 exact B7 (I4 rfl rfl rfl) (by rw [←hi])
theorem F69 (c:Commit) (hc:c.Parents.length≤1073741824):FnOk Tryz.prog 128 [C62 c] (fun rs=>rs=[J2 (decide (c.Parents.length > 32))]):=by
 refine FnOk.intro Tryz.func128 (by decide) J J J J ?_
 refine k2 (A2 (D2 (l4 1 J J J) J (A6 J J (A4 ?_))));refine k1 (k2 (A2 (A5 (A7 J) J (G3 J J J J (F3 J J (A5 (R8 J J) J (A6 J J (A4 ?_))))))));refine k1 (k10 ?_)
 exact B7 (I4 rfl rfl rfl) (congrArg (fun b=>[J2 b]) (decide_eq_decide.2 ⟨fun h=>by omega,fun h=>by omega⟩))
theorem G32 (g:Graph) (hf:FewG g) (hgl:g.length≤1073741824):FnOk Tryz.prog 93 [P1 g] (fun rs=>rs=[J2 (j6 g)]):=by
 refine FnOk.intro Tryz.func93 (by decide) J J J J ?_
 refine k2 (A2 (A6 J J (A4 ?_)));refine k1 (k2 (A2 (A3 J J (F3 J J (A5 (C41 J J) J (A3 J J (C2 J J J J (fun hg=>by rw [hg];exact C8 J J) ?_)))))));refine C2 J J J J (fun hg=>by have hq:=hg;(try simp at hq);rw [hg];exact U4 (A38 128 (fun c=>decide (c.Parents.length > 32)) g hgl (fun c hc=>F69 c (by have:=hf.pars c hc;omega))) J J) ?_;refine C2 J J J J (fun hg=>by rw [hg];exact U0 J) ?_;refine A5 (D7 J (fun h=>by first | rfl | (rw [h];rfl)) (fun h=>by first | rfl | (rw [h];rfl))) J ?_;refine A6 J J (A4 ?_);refine k1 (k10 (B7 (I4 J J J) ?_))
 unfold j6
 rw [G78,show decide ((g.length:Int)≤300)=decide (g.length≤300) from decide_eq_decide.2 (by omega)]
theorem H19 (c:Commit):FnOk Tryz.prog 97 [C62 c] (fun rs=>rs=[J2 (decide (c.Date < 0∨c.Date > 2147483647))]):=by
 refine FnOk.intro Tryz.func97 (by decide) J J J J ?_
 refine k2 (A2 (D2 (l4 1 J J J) J (A6 J J (A4 ?_))));refine k1 (k2 (A2 (A5 (A7 J) J (G3 J J J J (G7 J J J (A3 J J (C2 J J J J (fun hg=>by rw [hg];exact A7 J) ?_)))))));refine C2 J J J J (fun hg=>by rw [hg];exact C6 J J J) ?_;refine C2 J J J J (fun hg=>by rw [hg];exact R8 J J) ?_;refine A5 (D7 J (fun h=>by first | rfl | (rw [h];rfl)) (fun h=>by first | rfl | (rw [h];rfl))) J ?_;refine A6 J J (A4 ?_);refine k1 (k10 (B7 (I4 J J J) ?_))
 rw [or_pick]
theorem dis_ok (g:Graph) (c:Int):FnOk Tryz.prog 63 [P1 g,G1 c] (fun rs=>rs=[J2 (decide (j9 g c))]):=by
 refine FnOk.intro Tryz.func63 (by decide) J J J J ?_
 refine k2 (A2 (A6 J J (A4 ?_)));refine k1 (k2 (A2 (A3 J J (A5 (U8 J J) J (A3 J J (C2 J J J J (fun hg=>by rw [hg];exact C8 J J) ?_))))));refine C2 J J J J (fun hg=>by rw [hg];exact C8 J J) ?_;refine C2 J J J J (fun hg=>by rw [hg];exact r5 J (.pure _ _ _ _)) ?_;refine C2 J J J J (fun hg=>by rw [hg];exact B34 J J) ?_;refine A5 (D7 J (fun h=>by first | rfl | (rw [h];rfl)) (fun h=>by first | rfl | (rw [h];rfl))) J ?_;refine A6 J J (A4 ?_);refine k1 (k10 (B7 (I4 J J J) ?_))
 rw [T7]
 rfl
theorem G33 (g:Graph) (hf:FewG g) (hg:g.length≤1073741824):FnOk Tryz.prog 94 [P1 g] (fun rs=>rs=[J2 (related g)]):=by
 refine FnOk.intro Tryz.func94 (by decide) J J J J ?_
 refine k2 (A2 (A6 J J (A4 ?_)));refine k1 (k2 (k2 (A2 (A3 J J (F3 J J (A3 J J (A4 ?_)))))));refine k1 (k3 (D6 (X:=Nat) (fun i=>([(0,D5 Commit 3 J5 g),(7,D5 Commit 3 J5 g),(8,C3 g.length),(9,C3 i)],[])) (fun i=>i≤g.length∧((g.take i).all fun c=>B55 g.length [] c.Parents)=true) (fun i=>g.length - i) 0 ⟨Nat.zero_le _,rfl⟩ (Sees.of ⟨le1 rfl,le1 rfl,le1 rfl,le1 rfl,trivial⟩ trivial) ?_))
 rintro i ⟨hi,ha⟩
 dsimp only at hi ha ⊢
 refine k2 (A2 (G7 J J J (A4 ?_)));refine k1 (k2 ?_);refine B0 rfl (fun ht=>?_) (fun ht=>?_)
 rotate_left
 ·have h1:i=g.length:=by have h1:=A1 ht;(try dsimp only at h1);omega
  rw [h1,J67] at ha
  refine k6 (k2 (A2 (A6 J J (A4 ?_))));refine k1 (k10 ?_)
  exact B7 (rs:=[J2 true]) (I4 rfl rfl rfl) (by unfold related;rw [ha])
 have hlt:i < g.length:=by have h1:=A0 ht;(try dsimp only at h1);omega
 obtain ⟨c,hc⟩:∃c,c=g[i]:=⟨_,rfl⟩
 have hv:g[i]?=some c:=by rw [hc];simp [hlt]
 have hpl:=hf.pars c (by rw [hc];exact J66 hlt)
 have hbad:B55 g.length [] c.Parents=false→[J2 false]=[J2 (related g)]:=fun h=>by
  have:related g=false:=by
   unfold related
   rw [List.all_eq_false]
   exact ⟨c,by rw [hc];exact J66 hlt,by rw [h];decide⟩
  rw [this]
 refine k5 (k1 (k2 (k3 (k2 (A2 (A5 (B3 J (.pure _ _ _ _) J (by omega) hv) J (A5 (E3 J J) J (D2 (I9 4 J) J (H7 (C4 TySz.out J J J J J J) (A4 ?_))))))))));refine k1 (k2 (A2 (A5 (A7 J) J (G3 J J J J (F3 J J (A3 J J (A4 ?_)))))));refine k1 (k3 (D6 (X:=Nat) (fun k=>([(0,D5 Commit 3 J5 g),(4,.s (.one (.ref 4 0))),(7,D5 Commit 3 J5 g),(8,C3 g.length),(9,C3 i),(14,D5 Int 1 F0 c.Parents),(15,C3 c.Parents.length),(16,C3 k)],[(4,.box (C62 c).s1.cells)])) (fun k=>k≤c.Parents.length∧B55 g.length [] c.Parents=B55 g.length (c.Parents.take k) (c.Parents.drop k)) (fun k=>c.Parents.length - k) 0 ⟨Nat.zero_le _,rfl⟩ (Sees.of ⟨le1 rfl,le1 rfl,le1 rfl,le1 rfl,le1 rfl,le1 rfl,le1 rfl,le1 rfl,trivial⟩ ⟨rfl,trivial⟩) ?_))
 rintro k ⟨hk,hr⟩
 dsimp only at hk hr ⊢
 refine k2 (A2 (G7 J J J (A4 ?_)));refine k1 (k2 ?_);refine B0 rfl (fun ht=>?_) (fun ht=>?_)
 rotate_left
 ·have h1:k=c.Parents.length:=by have h1:=A1 ht;(try dsimp only at h1);omega
  rw [h1,List.drop_length] at hr
  refine k6 (k7 (k7 (k8 J (k4 (k1 (A2 (E4 J J J (A3 J J (A4 ?_)))))))));refine k1 ?_;refine ⟨i+1,⟨hlt,?_⟩,by omega,(Sees.of ⟨le1 rfl,le1 rfl,le1 rfl,le1 rfl,trivial⟩ trivial)⟩
  rw [List.take_add_one,hv,Option.toList_some,K11,ha,Bool.true_and,List.all_cons,List.all_nil,Bool.and_true,hr]
  rfl
 have hklt:k < c.Parents.length:=by have h1:=A0 ht;(try dsimp only at h1);omega
 have hvp:c.Parents[k]?=some c.Parents[k]:=by simp [hklt]
 rw [J71 hklt] at hr
 obtain ⟨p,hp⟩:∃p,p=c.Parents[k]:=⟨_,rfl⟩
 rw [←hp] at hvp hr
 have htk:c.Parents.take (k+1)=c.Parents.take k++[p]:=by rw [List.take_add_one,hvp,Option.toList_some]
 rw [B55,←htk] at hr
 refine k5 (k1 (k2 (k3 (k2 (A2 (A3 J J (A5 (B3 J (.pure _ _ _ _) J (by omega) hvp) J (A5 (B1 J J) J (A6 J J (A6 J J (A4 ?_)))))))))));refine k1 (k2 (A2 (A3 J J (G7 J J J (A3 J J (C2 J J J J (fun hg=>by rw [hg];exact C8 J J) ?_))))));refine C2 J J J J (fun hg=>by rw [hg];exact C8 J J) ?_;refine C2 J J J J (fun hg=>by rw [hg];exact r5 J (.pure _ _ _ _)) ?_;refine C2 J J J J (fun hg=>by rw [hg];exact U8 J J) ?_;refine A5 (D7 J (fun h=>by first | rfl | (rw [h];rfl)) (fun h=>by first | rfl | (rw [h];rfl))) J ?_;refine A3 J J (C2 J J J J (fun hg=>by rw [hg];exact A7 J) ?_);refine C2 J J J J (fun hg=>by rw [hg];exact C6 J J J) ?_;refine C2 J J J J (fun hg=>by rw [hg];exact C8 J J) ?_;refine C2 J J J J (fun hg=>by have hq:=hg;(try simp at hq);rw [hg];exact I38 J (.pure _ _ _ _) J (by omega) (by omega)) ?_;refine C2 J J J J (fun hg=>by rw [hg];exact C8 J J) ?_;refine C2 J J J J (fun hg=>by have hq:=hg;(try simp at hq);rw [hg];exact U4 (F68 (c.Parents.take ((k:Nat):Int).toNat) p (by rw [J70];omega)) J J) ?_;refine A5 (D7 J (fun h=>by first | rfl | (rw [h];rfl)) (fun h=>by first | rfl | (rw [h];rfl))) J ?_;refine A4 ?_;refine k1 ?_
 rw [J62,ifOr,ifOr]
 refine B0 rfl (fun ht=>?_) (fun ht=>?_)
 ·rw [J81,J81,decide_eq_true_eq,decide_eq_true_eq,decide_eq_true_eq] at ht
  have h1:decide (0≤p∧p < (g.length:Int)∧p∉c.Parents.take k)=false:=by
   rw [decide_eq_false_iff_not]
   rintro ⟨a1,a2,a3⟩
   rcases ht with (h | h) | h
   ·omega
   ·omega
   ·exact a3 h
  rw [h1,Bool.false_and] at hr
  refine k2 (A2 (A6 J J (A4 ?_)));refine k1 (k10 (k12 (k11 (k11 (k12 (k12 (k11 (k11 (k12 (k11 ?_))))))))))
  exact B7 (rs:=[J2 false]) (I4 rfl rfl rfl) (hbad hr)
 ·rw [J99,J99,decide_eq_false_iff_not,decide_eq_false_iff_not,decide_eq_false_iff_not] at ht
  have h1:decide (0≤p∧p < (g.length:Int)∧p∉c.Parents.take k)=true:=decide_eq_true ⟨by omega,by omega,ht.2⟩
  rw [h1,Bool.true_and] at hr
  refine k5 (k4 (k1 (A2 (E4 J J J (A3 J J (A4 ?_))))));refine k1 ?_
  exact ⟨k+1,⟨hklt,hr⟩,by omega,(Sees.of ⟨le1 rfl,le1 rfl,le1 rfl,le1 rfl,le1 rfl,le1 rfl,le1 rfl,le1 rfl,trivial⟩ ⟨rfl,trivial⟩)⟩
theorem F70 (ps l:List Int) (k:Nat) (h:k < ps.length):U5 (ps.take (k+1)) l=bump (U5 (ps.take k) l) ps[k]:=by
 unfold U5
 rw [List.take_add_one,J60 h,Option.toList_some,K09];rfl
theorem C19 {l:List Int} {p:Int} (h:0≤p∧p < l.length):l[p.toNat]?=some (atG l p.toNat):=by
 unfold atG;rw [J60 (by omega)];rfl
theorem H20 {ps:List Int} {l:List Int} {p:Nat} (hr:∀p∈ps,0≤p∧p < l.length) (hn:ps.Nodup):atG l p≤atG (U5 ps l) p∧atG (U5 ps l) p≤atG l p+1:=by
 rw [C30 (n:=0) hr hn];split<;>omega
theorem G34 {g:Graph} (hr:related g=true) {i p:Nat} (hi:i≤g.length) (hp:p < g.length):0≤atG (N7 g i) p∧atG (N7 g i) p≤i:=by
 rw [B58 hr p hp i hi]
 have:=List.countP_le_length (p:=fun c=>decide ((p:Int)∈F1 g c)) (l:=List.range i)
 rw [J96] at this
 omega
theorem H21 (g:Graph) (hf:FewG g) (hr:related g=true):FnOk Tryz.prog 95 [P1 g] (fun rs=>∃ch out,rs=[L1 out]∧KInv g out.length 0 ch out):=by
 have hg:=hf.len
 refine FnOk.intro Tryz.func95 (by decide) J J J J ?_
 refine k2 (A2 (A6 J J (A4 ?_)));refine k1 (k2 (A2 (A3 J J (F3 J J (D2 (A30 753 Int F0 0 J J (by omega) (by omega) (fun _=>by first | exact ⟨⟨rfl,rfl⟩,trivial⟩ | exact ⟨I5 _ _ _,trivial⟩ | exact ⟨I5 _ _ _,⟨rfl,rfl⟩,I5 _ _ _,trivial⟩) (by first | rfl | (simp [J6,K0,Ob.free,SV.free,S1.free,TC.free]<;>rfl))) J ?_)))));refine A6 J J (A4 ?_);refine k1 (k2 (k2 (A2 (A3 J J (F3 J J (A3 J J (A4 ?_)))))));refine k1 (k3 ?_)
 rw [J62]
 refine D6 (X:=Nat) (fun i=>([(0,D5 Commit 3 J5 g),(3,.s (.one (.mut 753))),(17,D5 Commit 3 J5 g),(18,C3 g.length),(19,C3 i)],[(753,.arr Int 1 F0 (N7 g i))])) (fun i=>i≤g.length) (fun i=>g.length - i) 0 (Nat.zero_le _) (Sees.of ⟨le1 rfl,le1 rfl,le1 rfl,le1 rfl,le1 rfl,trivial⟩ ⟨rfl,trivial⟩) ?_
 intro i hi
 dsimp only at hi ⊢
 refine k2 (A2 (G7 J J J (A4 ?_)));refine k1 (k2 ?_);refine B0 rfl (fun ht=>?_) (fun ht=>?_)
 ·have hlt:i < g.length:=by have h1:=A0 ht;(try dsimp only at h1);omega
  obtain ⟨c,hc⟩:∃c,c=g[i]:=⟨_,rfl⟩
  have hv:g[i]?=some c:=by rw [hc];simp [hlt]
  have hps:F1 g i=c.Parents:=by rw [u7 hlt,hc]
  have hpr:=K5 hr i
  have hpl:=hf.pars c (by rw [hc];exact J66 hlt)
  have hs:=C05 hlt
  rw [hps] at hpr hs
  have hcl:=y6 g i
  have hhi:=fun p (hp:p < g.length)=>G34 hr (i:=i) (p:=p) (by omega) hp
  obtain ⟨z,hz⟩:∃z,z=N7 g i:=⟨_,rfl⟩
  rw [←hz] at hs hcl hhi ⊢
  refine k5 (k1 (k2 (k3 (k2 (A2 (A5 (B3 J (.pure _ _ _ _) J (by omega) hv) J (A5 (E3 J J) J (D2 (I9 5 J) J (H7 (C4 TySz.out J J J J J J) (A4 ?_))))))))));refine k1 (k2 (A2 (A5 (A7 J) J (G3 J J J J (F3 J J (A3 J J (A4 ?_)))))));refine k1 (k3 (D6 (X:=Nat) (fun k=>([(0,D5 Commit 3 J5 g),(3,.s (.one (.mut 753))),(17,D5 Commit 3 J5 g),(18,C3 g.length),(19,C3 i),(24,D5 Int 1 F0 c.Parents),(25,C3 c.Parents.length),(26,C3 k)],[(753,.arr Int 1 F0 (U5 (c.Parents.take k) z))])) (fun k=>k≤c.Parents.length) (fun k=>c.Parents.length - k) 0 (Nat.zero_le _) (Sees.of ⟨le1 rfl,le1 rfl,le1 rfl,le1 rfl,le1 rfl,le1 rfl,le1 rfl,le1 rfl,trivial⟩ ⟨rfl,trivial⟩) ?_))
  intro k hk
  dsimp only at hk ⊢
  have hbl:=B57 (c.Parents.take k) z
  refine k2 (A2 (G7 J J J (A4 ?_)));refine k1 (k2 ?_);refine B0 rfl (fun ht=>?_) (fun ht=>?_)
  rotate_left
  ·have h1:k=c.Parents.length:=by have h1:=A1 ht;(try dsimp only at h1);omega
   rw [h1,J67,←hs]
   refine k6 (k7 (k7 (k8 J (k4 (k1 (A2 (E4 J J J (A3 J J (A4 ?_)))))))));refine k1 ?_
   exact ⟨i+1,hlt,by omega,(Sees.of ⟨le1 rfl,le1 rfl,le1 rfl,le1 rfl,le1 rfl,trivial⟩ ⟨rfl,trivial⟩)⟩
  have hklt:k < c.Parents.length:=by have h1:=A0 ht;(try dsimp only at h1);omega
  have hvp:c.Parents[k]?=some c.Parents[k]:=by simp [hklt]
  have hpb:=hpr.1 _ (J66 hklt)
  have hsn:=F70 c.Parents z k hklt
  obtain ⟨p,hp⟩:∃p,p=c.Parents[k]:=⟨_,rfl⟩
  rw [←hp] at hvp hpb hsn
  have hb:=H20 (ps:=c.Parents.take k) (l:=z) (p:=p.toNat) (fun q hq=>by rw [hcl];exact hpr.1 q (List.mem_of_mem_take hq)) (hpr.2.sublist (List.take_sublist _ _))
  have hh:=hhi p.toNat (by omega)
  have hva:=C19 (l:=U5 (c.Parents.take k) z) (p:=p) (by rw [hbl,hcl];exact hpb)
  refine k5 (k1 (k2 (k3 (k2 (A2 (A5 (B3 J (.pure _ _ _ _) J (by omega) hvp) J (A5 (B1 J J) J (A6 J J (A4 ?_)))))))));refine k1 (A2 (A3 J J (A3 J J (A5 (G8 J J J (by omega) (by (rw [hbl];omega))) J ?_))));refine A5 (M7 J J hva J) J (E4 J J J (A5 (G8 J J J (by omega) (by (rw [hbl];omega))) J ?_));refine H7 (L2 TySz.out J J (by (rw [hbl];omega)) J J) ?_;refine A4 ?_;refine k4 (k1 (A2 (E4 J J J (A3 J J (A4 ?_)))));refine k1 ?_;refine ⟨k+1,by omega,by omega,?_⟩
  rw [hsn]
  exact (Sees.of ⟨le1 rfl,le1 rfl,le1 rfl,le1 rfl,le1 rfl,le1 rfl,le1 rfl,le1 rfl,trivial⟩ ⟨rfl,trivial⟩)
 have hie:i=g.length:=by have h1:=A1 ht;(try dsimp only at h1);omega
 rw [hie]
 have hst:=KInv.start hr
 obtain ⟨z,hz⟩:∃z,z=N7 g g.length:=⟨_,rfl⟩
 have hzl:z.length=g.length:=by rw [hz];exact y6 g _
 rw [←hz] at hst ⊢
 refine k6 (k2 (A2 (D2 (Y1 8 _ F0 J) J (A4 ?_))));refine k1 (k2 (k2 (A2 (A3 J J (A5 (C94 J J) J (A3 J J (A4 ?_)))))));refine k1 (k3 (D6 (X:=Nat) (fun i=>([(0,D5 Commit 3 J5 g),(3,.s (.one (.mut 753))),(8,.s (.one (.buf 8 Int 1 F0 (S4 z i)))),(38,.s (.one (.mut 753))),(39,C3 g.length),(40,C3 i)],[(8,.spare (S4 z i).length 1 3),(753,.arr Int 1 F0 z)])) (fun i=>i≤g.length) (fun i=>g.length - i) 0 (Nat.zero_le _) (by rw [←hzl];exact (Sees.of ⟨le1 rfl,le1 rfl,le1 rfl,le1 rfl,le1 rfl,le1 rfl,trivial⟩ ⟨rfl,rfl,trivial⟩)) ?_))
 intro i hi
 dsimp only at hi ⊢
 have hzu:=G86 z i
 have hsu:=F98 z i
 refine k2 (A2 (G7 J J J (A4 ?_)));refine k1 (k2 ?_);refine B0 rfl (fun ht=>?_) (fun ht=>?_)
 ·have hlt:i < g.length:=by have h1:=A0 ht;(try dsimp only at h1);omega
  have hva:=C19 (l:=z) (p:=(i:Int)) (by omega)
  rw [J62] at hva
  refine k5 (k1 (k2 (k3 (k2 (A2 (A3 J J (A5 (G8 J J J (by omega) (by (rw [hzl];omega))) J ?_)))))));refine A5 (M7 J J hva J) J (A6 J J (A6 J J (A4 ?_)));refine k1 (k2 (A2 (A3 J J (A5 (F4 J J) J (A4 ?_)))));refine k1 ?_;refine B0 rfl (fun ht=>?_) (fun ht=>?_)
  ·have h1:atG z i=0:=A0 ht
   rw [if_pos h1] at hsu
   skip
   refine A2 (A3 J J (A3 J J (A5 (D1 (c:=F0) (ys:=[(i:Int)]) (E5 J J J J H1) J J J) J (D2 (M6 J J J (.pure _ _ _ _) (by (simp only [J64,J68];omega)) J) J (A6 J J (A4 ?_))))));refine k4 (k1 (A2 (E4 J J J (A3 J J (A4 ?_)))));refine k1 ?_;refine ⟨i+1,by omega,by omega,?_⟩
   rw [hsu]
   exact (Sees.of ⟨le1 rfl,le1 rfl,le1 rfl,le1 rfl,le1 rfl,le1 rfl,trivial⟩ ⟨rfl,rfl,trivial⟩)
  ·have h1:¬atG z i=0:=A1 ht
   rw [if_neg h1] at hsu
   refine k5 (k4 (k1 (A2 (E4 J J J (A3 J J (A4 ?_))))));refine k1 ?_;refine ⟨i+1,by omega,by omega,?_⟩
   rw [hsu]
   exact (Sees.of ⟨le1 rfl,le1 rfl,le1 rfl,le1 rfl,le1 rfl,le1 rfl,trivial⟩ ⟨rfl,rfl,trivial⟩)
 have hie:i=g.length:=by have h1:=A1 ht;(try dsimp only at h1);omega
 rw [hie]
 refine k6 (k2 (k2 (A2 (A6 J J (A4 ?_)))));refine k1 (k3 (D6 (X:=Nat × List Int × List Int) (fun x=>([(0,D5 Commit 3 J5 g),(3,.s (.one (.mut 753))),(8,.s (.one (.buf 8 Int 1 F0 x.2.2))),(11,C3 x.1)],[(8,.spare x.2.2.length 1 3),(753,.arr Int 1 F0 x.2.1)])) (fun x=>x.1≤x.2.2.length∧KInv g x.1 0 x.2.1 x.2.2) (fun x=>g.length - x.1) (0,z,S4 z g.length) ⟨Nat.zero_le _,hst⟩ (Sees.of ⟨le1 rfl,le1 rfl,le1 rfl,le1 rfl,trivial⟩ ⟨rfl,rfl,trivial⟩) ?_))
 rintro ⟨k,ch,out⟩ ⟨hk,hK⟩
 dsimp only at hk hK ⊢
 have hol:=hK.le
 refine k2 (k2 (A2 (A3 J J (A3 J J (A5 (r5 J (.buf _ _ _ _ _)) J (G7 J J J (A4 ?_)))))));refine k1 ?_;refine B0 rfl (fun ht=>?_) (fun ht=>?_)
 rotate_left
 ·have h1:k=out.length:=by have h1:=A1 ht;(try dsimp only at h1);omega
  rw [h1] at hK
  refine k6 (k2 (A2 (A3 J J (A6 J J (A4 ?_)))));refine k1 (k10 ?_)
  exact B7 (rs:=[L1 out]) (I4 rfl rfl rfl) ⟨ch,out,rfl,hK⟩
 have hklt:k < out.length:=by have h1:=A0 ht;(try dsimp only at h1);omega
 have hcr:=hK.rng _ (J66 hklt)
 obtain ⟨cn,hcn⟩:∃cn:Nat,out[k]=(cn:Int):=⟨out[k].toNat,by omega⟩
 have hvo:out[k]?=some (cn:Int):=by rw [J60 hklt,hcn]
 have hcl:cn < g.length:=by omega
 obtain ⟨c,hc⟩:∃c,c=g[cn]:=⟨_,rfl⟩
 have hvc:g[((cn:Nat):Int).toNat]?=some c:=by rw [hc];simp [hcl]
 have hps:F1 g cn=c.Parents:=by rw [u7 hcl,hc]
 have hpl:=hf.pars c (by rw [hc];exact J66 hcl)
 refine k5 (k1 (k2 (k3 (k2 (A2 (A3 J J (A3 J J (A3 J J (A5 (B3 J (.buf _ _ _ _ _) J (by omega) hvo) J (A5 (B1 J J) J (A5 (B3 J (.pure _ _ _ _) J (by omega) hvc) J (A5 (C5 J) J (A5 (B1 J J) J (F3 J J (A3 J J (A4 ?_))))))))))))))));refine k1 (k3 (D6 (X:=Nat × List Int × List Int) (fun x=>([(0,D5 Commit 3 J5 g),(3,.s (.one (.mut 753))),(8,.s (.one (.buf 8 Int 1 F0 x.2.2))),(11,C3 k),(65,D5 Int 1 F0 c.Parents),(66,C3 c.Parents.length),(67,C3 x.1)],[(8,.spare x.2.2.length 1 3),(753,.arr Int 1 F0 x.2.1)])) (fun x=>x.1≤c.Parents.length∧k < x.2.2.length∧x.2.2[k]?=some (cn:Int)∧KInv g k x.1 x.2.1 x.2.2) (fun x=>c.Parents.length - x.1) (0,ch,out) ⟨Nat.zero_le _,hklt,hvo,hK⟩ (Sees.of ⟨le1 rfl,le1 rfl,le1 rfl,le1 rfl,le1 rfl,le1 rfl,le1 rfl,trivial⟩ ⟨rfl,rfl,trivial⟩) ?_))
 rintro ⟨i,ch',out'⟩ ⟨hi,hkl,hvo',hK'⟩
 dsimp only at hi hkl hvo' hK' ⊢
 have hol':=hK'.le
 have hchl:=hK'.len
 have hcn':out'[k]=(cn:Int):=by rw [J60 hkl] at hvo';exact Option.some.inj hvo'
 refine k2 (A2 (G7 J J J (A4 ?_)));refine k1 (k2 ?_);refine B0 rfl (fun ht=>?_) (fun ht=>?_)
 rotate_left
 ·have h1:i=c.Parents.length:=by have h1:=A1 ht;(try dsimp only at h1);omega
  rw [h1,←hps] at hK'
  have hN:=hK'.next hkl hcn'
  refine k6 (k7 (k7 (k8 J (k4 (k1 (A2 (A3 J J (E4 J J J (A6 J J (A4 ?_))))))))));refine k1 ?_
  exact ⟨(k+1,ch',out'),⟨by dsimp only;omega,hN⟩,by dsimp only;omega,(Sees.of ⟨le1 rfl,le1 rfl,le1 rfl,le1 rfl,trivial⟩ ⟨rfl,rfl,trivial⟩)⟩
 have hilt:i < c.Parents.length:=by have h1:=A0 ht;(try dsimp only at h1);omega
 have hvp:c.Parents[i]?=some c.Parents[i]:=by simp [hilt]
 have hpb:=(K5 hr cn).1 c.Parents[i] (by rw [hps];exact J66 hilt)
 obtain ⟨p,hp⟩:∃p:Nat,c.Parents[i]=(p:Int):=⟨c.Parents[i].toNat,by omega⟩
 rw [hp] at hvp
 obtain ⟨s1,s2,s3,s4⟩:=hK'.step hr hkl hcn' (i:=i) (p:=p) (by rw [hps];exact hilt) (by simp only [hps];exact hp)
 have hva:=C19 (l:=ch') (p:=(p:Int)) (by omega)
 have hva2:(U2 ch' p)[((p:Nat):Int).toNat]?=some (atG ch' p - 1):=by
  unfold U2
  rw [J62,List.getElem?_set_self (by omega)]
 have hdl:(U2 ch' p).length=g.length:=by unfold U2;rw [J83,hchl]
 have hset:ch'.set ((p:Nat):Int).toNat (atG ch' ((p:Nat):Int).toNat - 1)=U2 ch' p:=rfl
 refine k5 (k1 (k2 (k3 (k2 (A2 (A5 (B3 J (.pure _ _ _ _) J (by omega) hvp) J (A5 (B1 J J) J (A6 J J (A4 ?_)))))))));refine k1 (k2 (A2 (A3 J J (A3 J J (A5 (G8 J J J (by omega) (by (rw [hchl];omega))) J ?_)))));refine A5 (M7 J J hva J) J (A5 (K1 J J (by (rw [J62];omega))) J ?_);refine A5 (G8 J J J (by omega) (by (rw [hchl];omega))) J ?_;refine H7 (L2 TySz.out J J (by (rw [hchl];omega)) J J) ?_;refine A4 ?_
 rw [hset]
 refine k1 (k2 (A2 (A3 J J (A3 J J (A5 (G8 J J J (by omega) (by (rw [hdl];omega))) J ?_)))));refine A5 (M7 J J hva2 J) J (A5 (F4 J J) J (A4 ?_));refine k1 ?_;refine B0 rfl (fun ht=>?_) (fun ht=>?_)
 ·have h1:atG ch' p - 1=0:=A0 ht
  rw [if_pos h1] at s4
  skip
  refine A2 (A3 J J (A3 J J (A5 (D1 (c:=F0) (ys:=[(p:Int)]) (E5 J J J J H1) J J J) J (D2 (M6 J J J (.pure _ _ _ _) (by (simp only [J64,J68];omega)) J) J (A6 J J (A4 ?_))))));refine k4 (k1 (A2 (E4 J J J (A3 J J (A4 ?_)))));refine k1 ?_
  exact ⟨(i+1,U2 ch' p,out'++[(p:Int)]),⟨hilt,by dsimp only;rw [J63];omega,by dsimp only;rw [J75 hkl];exact hvo',s4⟩,by dsimp only;omega,(Sees.of ⟨le1 rfl,le1 rfl,le1 rfl,le1 rfl,le1 rfl,le1 rfl,le1 rfl,trivial⟩ ⟨rfl,rfl,trivial⟩)⟩
 ·have h1:¬atG ch' p - 1=0:=A1 ht
  rw [if_neg h1] at s4
  refine k5 (k4 (k1 (A2 (E4 J J J (A3 J J (A4 ?_))))));refine k1 ?_
  exact ⟨(i+1,U2 ch' p,out'),⟨hilt,hkl,hvo',s4⟩,by dsimp only;omega,(Sees.of ⟨le1 rfl,le1 rfl,le1 rfl,le1 rfl,le1 rfl,le1 rfl,le1 rfl,trivial⟩ ⟨rfl,rfl,trivial⟩)⟩
set_option maxHeartbeats 1000000
abbrev E90 (s:Str):Cell:=.v (.string ⟨s.toArray⟩)
def S2 (l:List File):List (Str × Cell):=l.foldl (fun m f=>V6 m f.Path (E90 f.Blob)) []
theorem I04 (a b:Str) (c:Cell):∀kvs:List (Str × Cell),L6 (V6 kvs a c) b=if a=b then some c else L6 kvs b
 | []=>by
  unfold V6 L6
  split
  ·rfl
  ·rfl
 | (k,x)::r=>by
  unfold V6
  split
  ·rename_i e;subst e
   unfold L6
   split
   ·rfl
   ·rfl
  ·rename_i e
   rw [L6,I04 a b c r]
   by_cases h1:k=b
   ·subst h1;rw [if_pos rfl,if_neg (fun h=>e h.symm)];simp [L6]
   ·rw [if_neg h1]
    by_cases h2:a=b
    ·rw [if_pos h2,if_pos h2]
    ·rw [if_neg h2,if_neg h2,L6,if_neg h1]
theorem C52 (l:List File) (i:Nat) (h:i < l.length):S2 (l.take (i+1))=V6 (S2 (l.take i)) l[i].Path (E90 l[i].Blob):=by
 unfold S2
 rw [List.take_add_one,J60 h,Option.toList_some,K09];rfl
theorem E24 (p:Str):∀(l:List File) (m:List (Str × Cell)),L6 (l.foldl (fun m f=>V6 m f.Path (E90 f.Blob)) m) p=((K3 l.reverse p).map E90).or (L6 m p)
 | [],m=>by simp [K3]
 | f::r,m=>by
  rw [J89,E24 p r,I04,List.reverse_cons]
  have key:∀(l:List File),K3 (l++[f]) p=(K3 l p).or (if f.Path=p then some f.Blob else none):=by
   intro l
   induction l with
   | nil=>simp [K3]
   | cons g l ih =>
    rw [J82,K3,K3]
    split
    ·rfl
    ·exact ih
  rw [key]
  cases K3 r.reverse p with
  | some x=>rfl
  | none=>by_cases h:f.Path=p<;>simp [h]
theorem F71 (l:List File) (p:Str):(L6 (S2 l) p).isSome=decide (p∈l.map (·.Path)):=by
 unfold S2
 rw [E24]
 have:L6 ([]:List (Str × Cell)) p=none:=rfl
 rw [this,Option.or_none,Option.isSome_map]
 cases h:K3 l.reverse p with
 | none =>
  have:=findF_none.1 h
  rw [List.map_reverse,List.mem_reverse] at this
  simp only [Option.isSome_none,this,decide_false]
 | some x =>
  obtain ⟨f,hf,he,_⟩:=A14 h
  have:p∈l.map (·.Path):=by rw [←he];exact List.mem_map_of_mem (List.mem_reverse.1 hf)
  simp only [Option.isSome_some,this,decide_true]
theorem I45 {l m:List File} {p:Str} (hl:ascend l=true) (hm:∀f,f∈m↔f∈l) (_hu:∀f∈l,∀g∈l,f.Path=g.Path→f=g):K3 m p=K3 l p:=by
 cases h:K3 m p with
 | none =>
  symm
  rw [findF_none] at h ⊢
  intro hp
  obtain ⟨f,hf,e⟩:=List.mem_map.1 hp
  exact h (List.mem_map.2 ⟨f,(hm f).2 hf,e⟩)
 | some x =>
  obtain ⟨f,hf,e1,e2⟩:=A14 h
  rw [←e1,u6 hl f ((hm f).1 hf),e2]
theorem C53 {l:List File} (hl:ascend l=true) (p:Str):L6 (S2 l) p=(K3 l p).map E90:=by
 unfold S2
 rw [E24]
 have:L6 ([]:List (Str × Cell)) p=none:=rfl
 rw [this,Option.or_none]
 congr 1
 refine I45 hl (fun f=>List.mem_reverse) fun f hf g hg e=>?_
 have h1:=u6 hl f hf
 have h2:=u6 hl g hg
 rw [e,h2] at h1
 cases f;cases g
 simp only [File.mk.injEq]
 exact ⟨e,(Option.some.inj h1).symm⟩
theorem E25 (l:List File) (hl:l.length≤1073741824):AL.Met Tryz.prog 120 [.one (.p (.list File 2 y1 l))] [] [] [] (fun rs ob'=>rs=[.one (.mut 800)]∧ob'=[(800,.map Str i6 (S2 l))]):=by
 refine AL.Met.intro Tryz.func120 (by decide) J J J ?_
 refine k2 (A2 (A6 J J (A4 ?_)));refine k1 (k2 (A2 (D2 (D02 800 Str i6 J) J (A6 J J (A4 ?_)))));refine k1 (k2 (k2 (A2 (A3 J J (F3 J J (A3 J J (A4 ?_)))))));refine k1 (k3 (D6 (X:=Nat) (fun i=>([(3,.s (.one (.mut 800))),(7,D5 File 2 y1 l),(8,C3 l.length),(9,C3 i)],[(800,.map Str i6 (S2 (l.take i)))])) (fun i=>i≤l.length) (fun i=>l.length - i) 0 (Nat.zero_le _) (Sees.of ⟨le1 rfl,le1 rfl,le1 rfl,le1 rfl,trivial⟩ ⟨rfl,trivial⟩) ?_))
 intro i hi
 dsimp only at hi ⊢
 refine k2 (A2 (G7 J J J (A4 ?_)));refine k1 (k2 ?_);refine B0 rfl (fun ht=>?_) (fun ht=>?_)
 ·have hlt:i < l.length:=by have h1:=A0 ht;(try dsimp only at h1);omega
  have hs:=C52 l i hlt
  obtain ⟨f,hf⟩:∃f,f=l[i]:=⟨_,rfl⟩
  have hv:l[i]?=some f:=by rw [hf];simp [hlt]
  rw [←hf] at hs
  refine k5 (k1 (k2 (k3 (k2 (A2 (A5 (B3 J (.pure _ _ _ _) J (by omega) hv) J (A5 (E3 J J) J (D2 (I9 5 J) J (H7 (C4 TySz.out J J J J J J) (A4 ?_))))))))));refine k1 (A2 (A3 J J (A5 (A7 J) J (G3 J J J J (A5 (A7 J) J (G3 J J J J (H7 (G30 (f.Path) J J J J J s7 s8) (A4 ?_))))))));refine k4 (k1 (A2 (E4 J J J (A3 J J (A4 ?_)))));refine k1 ?_;refine ⟨i+1,by omega,by omega,?_⟩
  rw [hs]
  exact (Sees.of ⟨le1 rfl,le1 rfl,le1 rfl,le1 rfl,trivial⟩ ⟨rfl,trivial⟩)
 ·have hie:i=l.length:=by have h1:=A1 ht;(try dsimp only at h1);omega
  rw [hie,J67]
  refine k6 (k2 (A2 (A3 J J (A6 J J (A4 ?_)))));refine k1 (k10 ?_)
  exact E0 (H9 rfl rfl) (by repeat (first | exact A8 | refine A9 rfl ?_ | refine B6 _ ?_)) (fun _ _ h=>h) ⟨rfl,rfl⟩
theorem G35 (l:List File) (hl:l.length≤1073741824):AL.Met Tryz.prog 120 [.one (.p (.list File 2 y1 l))] [] [] [] (fun rs ob'=>rs=[.one (.mut 801)]∧ob'=[(801,.map Str i6 (S2 l))]):=by
 refine AL.Met.intro Tryz.func120 (by decide) J J J ?_
 refine k2 (A2 (A6 J J (A4 ?_)));refine k1 (k2 (A2 (D2 (D02 801 Str i6 J) J (A6 J J (A4 ?_)))));refine k1 (k2 (k2 (A2 (A3 J J (F3 J J (A3 J J (A4 ?_)))))));refine k1 (k3 (D6 (X:=Nat) (fun i=>([(3,.s (.one (.mut 801))),(7,D5 File 2 y1 l),(8,C3 l.length),(9,C3 i)],[(801,.map Str i6 (S2 (l.take i)))])) (fun i=>i≤l.length) (fun i=>l.length - i) 0 (Nat.zero_le _) (Sees.of ⟨le1 rfl,le1 rfl,le1 rfl,le1 rfl,trivial⟩ ⟨rfl,trivial⟩) ?_))
 intro i hi
 dsimp only at hi ⊢
 refine k2 (A2 (G7 J J J (A4 ?_)));refine k1 (k2 ?_);refine B0 rfl (fun ht=>?_) (fun ht=>?_)
 ·have hlt:i < l.length:=by have h1:=A0 ht;(try dsimp only at h1);omega
  have hs:=C52 l i hlt
  obtain ⟨f,hf⟩:∃f,f=l[i]:=⟨_,rfl⟩
  have hv:l[i]?=some f:=by rw [hf];simp [hlt]
  rw [←hf] at hs
  refine k5 (k1 (k2 (k3 (k2 (A2 (A5 (B3 J (.pure _ _ _ _) J (by omega) hv) J (A5 (E3 J J) J (D2 (I9 5 J) J (H7 (C4 TySz.out J J J J J J) (A4 ?_))))))))));refine k1 (A2 (A3 J J (A5 (A7 J) J (G3 J J J J (A5 (A7 J) J (G3 J J J J (H7 (G30 (f.Path) J J J J J s7 s8) (A4 ?_))))))));refine k4 (k1 (A2 (E4 J J J (A3 J J (A4 ?_)))));refine k1 ?_;refine ⟨i+1,by omega,by omega,?_⟩
  rw [hs]
  exact (Sees.of ⟨le1 rfl,le1 rfl,le1 rfl,le1 rfl,trivial⟩ ⟨rfl,trivial⟩)
 ·have hie:i=l.length:=by have h1:=A1 ht;(try dsimp only at h1);omega
  rw [hie,J67]
  refine k6 (k2 (A2 (A3 J J (A6 J J (A4 ?_)))));refine k1 (k10 ?_)
  exact E0 (H9 rfl rfl) (by repeat (first | exact A8 | refine A9 rfl ?_ | refine B6 _ ?_)) (fun _ _ h=>h) ⟨rfl,rfl⟩
theorem G36 {gf:Fr} {ob:Obs} (p:Str) (kvs:List (Str × Cell)) (hp:p.length≤1073741824) (h0:B4 ob 800=some (.map Str i6 kvs)) (_hc:∀kv∈kvs,∃v,kv.2=.v v) (ps:List Str) (hps:∀q,(L6 kvs q).isSome=decide (q∈ps)) :
  AL.Met Tryz.prog 155 [.one (.p (.v (.string ⟨p.toArray⟩))),.one (.mut 800)] gf ob [] (fun rs ob'=>rs=[.one (.p (.v (.bool (P7 p ps))))]∧ob'=ob):=by
 have h47:∀c:UInt8,((c.toNat:Int)=47)↔c=47:=fun c=>by
  constructor
  ·intro h; exact UInt8.toNat_inj.1 (by have:c.toNat=47:=by omega
                                        simpa using this)
  ·rintro rfl;rfl
 refine AL.Met.introH Tryz.func155 (by decide) rfl rfl rfl (fun hH=>?_)
 refine k2 (A2 (A6 J J (A4 ?_)));refine k1 (k2 (k2 (A2 (A3 J J (A5 (N2 J) J (A3 J J (A4 ?_)))))));refine k1 (k3 ?_);refine D6 (X:=Nat) (fun i=>([(0,V5 p),(1,.s (.one (.mut 800))),(9,C3 p.length),(10,C3 i)]++gf,ob)) (fun i=>i≤p.length∧∀j,j < i→(decide (p.take j∈ps)&&decide (p[j]?=some 47))=false) (fun i=>p.length - i) 0 ⟨Nat.zero_le _,fun j h=>by omega⟩ (J36 ⟨le1 rfl,le1 rfl,le1 rfl,le1 rfl,trivial⟩ hH (by repeat (first | exact A8 | refine A9 rfl ?_)) (fun _ _ h=>h)) ?_
 rintro i ⟨hi,hn⟩
 dsimp only at hi hn ⊢
 refine k2 (A2 (G7 J J J (A4 ?_)));refine k1 (k2 ?_);refine B0 rfl (fun ht=>?_) (fun ht=>?_)
 rotate_left
 ·have hie:i=p.length:=by have h1:=A1 ht;(try dsimp only at h1);omega
  have hno:P7 p ps=false:=by
   unfold P7
   rw [List.any_eq_false]
   intro j hj
   rw [hn j (by rw [hie];exact List.mem_range.1 hj)];simp
  refine k6 (k2 (A2 (A6 J J (A4 ?_))));refine k1 (k10 ?_)
  exact E0 (H9 rfl rfl) (by repeat (first | exact A8 | refine A9 rfl ?_ | refine B6 _ ?_)) (fun _ _ h=>h) ⟨by rw [hno],rfl⟩
 have hlt:i < p.length:=by have h1:=A0 ht;(try dsimp only at h1);omega
 have hv:p[((i:Nat):Int).toNat]?=some p[i]:=by simp [hlt]
 have hpi:p[i]?=some p[i]:=by simp [hlt]
 have hq:=hps (p.take ((i:Nat):Int).toNat)
 obtain ⟨r,hr⟩:∃r,r=L6 kvs (p.take ((i:Nat):Int).toNat):=⟨_,rfl⟩
 rw [←hr,J62] at hq
 refine k5 (k1 (k2 (k3 (k2 (A2 (A3 J J (A6 J J (A4 ?_))))))));refine k1 (k2 (A2 (A3 J J (A3 J J (A3 J J (A5 (D86 J J (by omega) (by omega)) J (A5 (B40 ((p.take ((i:Nat):Int).toNat)) (r:=r) J h0 J s7 s8 (hr.symm)) J (A3 J J (H5 J J J (H5 J J J (A6 J J (A6 J J (A4 ?_)))))))))))));refine k1 (k2 (A2 (A3 J J (A3 J J (C2 J J J J (fun hg=>by rw [hg];exact C8 J J) ?_)))));refine C2 J J J J (fun hg=>by rw [hg];exact C8 J J) ?_;refine C2 J J J J (fun hg=>by have hq:=hg;(try simp at hq);rw [hg];exact y8 J J (by omega) hv) ?_;refine C2 J J J J (fun hg=>by rw [hg];exact F4 J J) ?_;refine A5 (D7 J (fun h=>by first | rfl | (rw [h];rfl)) (fun h=>by first | rfl | (rw [h];rfl))) J ?_;refine A4 ?_;refine k1 ?_;refine B0 rfl (fun ht=>?_) (fun ht=>?_)
 ·rw [G78,J61,decide_eq_true_eq] at ht
  have hyes:P7 p ps=true:=by
   unfold P7
   rw [List.any_eq_true]
   exact ⟨i,List.mem_range.2 hlt,by rw [←hq,ht.1,hpi,(h47 _).1 ht.2];rfl⟩
  refine k2 (A2 (A6 J J (A4 ?_)));refine k1 (k10 (k12 (k11 (k11 (k12 (k11 ?_))))))
  exact E0 (H9 rfl rfl) (by repeat (first | exact A8 | refine A9 rfl ?_ | refine B6 _ ?_)) (fun _ _ h=>h) ⟨by rw [hyes],rfl⟩
 ·rw [G78] at ht
  refine k5 (k4 (k1 (A2 (E4 J J J (A3 J J (A4 ?_))))));refine k1 ?_;refine ⟨i+1,⟨hlt,fun j hj=>?_⟩,by omega,J36 ⟨le1 rfl,le1 rfl,le1 rfl,le1 rfl,trivial⟩ hH (by repeat (first | exact A8 | refine A9 rfl ?_)) (fun _ _ h=>h)⟩
  by_cases e:j=i
  ·subst e
   rw [←hq,hpi]
   cases hrs:r.isSome
   ·rfl
   ·rw [hrs,Bool.true_and,decide_eq_false_iff_not] at ht
    have:¬p[j]=47:=fun h=>ht ((h47 _).2 h)
    simp [this]
  ·exact hn j (by omega)
theorem I46 (l:List File):∀kv∈S2 l,∃v,kv.2=.v v:=by
 have key:∀(l:List File) (m:List (Str × Cell)),(∀kv∈m,∃v,kv.2=.v v)→∀kv∈l.foldl (fun m f=>V6 m f.Path (E90 f.Blob)) m,∃v,kv.2=.v v:=by
  intro l
  induction l with
  | nil=>exact fun m h=>h
  | cons f r ih =>
   intro m h
   refine ih _ ?_
   clear ih
   induction m with
   | nil=>intro kv hkv;change kv∈V6 [] f.Path (E90 f.Blob) at hkv;rw [V6,List.mem_singleton] at hkv;rw [hkv];exact ⟨_,rfl⟩
   | cons x m ihm =>
    obtain ⟨k,c⟩:=x
    intro kv hkv
    change kv∈V6 ((k,c)::m) f.Path (E90 f.Blob) at hkv
    rw [V6] at hkv
    split at hkv
    ·rcases List.mem_cons.1 hkv with rfl | hkv
     ·exact ⟨_,rfl⟩
     ·exact h kv (by simp [hkv])
    ·rcases List.mem_cons.1 hkv with rfl | hkv
     ·exact h _ (by simp)
     ·exact ihm (fun kv hk=>h kv (by simp [hk])) kv hkv
 exact key l [] fun _ h=>by cases h
theorem D39:∀(l:List File) (i:Nat),i+1 < l.length→(ascend (l.take (i+2))=(ascend (l.take (i+1))&&ltS (l.getD i ⟨[],[]⟩).Path (l.getD (i+1) ⟨[],[]⟩).Path))
 | [],i,h=>by simp at h
 | [_],i,h=>by simp at h
 | f::g::r,0,_=>by simp [ascend]
 | f::g::r,i+1,h=>by
  have ih:ascend (g::r.take (i+1))=(ascend (g::r.take i)&&ltS ((g::r).getD i ⟨[],[]⟩).Path ((g::r).getD (i+1) ⟨[],[]⟩).Path):=D39 (g::r) i (by simpa using h)
  show ascend (f::g::r.take (i+1))=(ascend (f::g::r.take i)&&ltS ((g::r).getD i ⟨[],[]⟩).Path ((g::r).getD (i+1) ⟨[],[]⟩).Path)
  rw [ascend,ascend,ih,Bool.and_assoc]
theorem F72 (l:List File):ascend (l.take 1)=true:=by
 cases l with
 | nil=>rfl
 | cons f r=>rfl
theorem G37 (l:List File) (hl:l.length≤1073741824) (hp:∀f∈l,f.Path.length≤1073741824):FnOk Tryz.prog 134 [n6 l] (fun rs=>rs=[J2 (Y3 l)]):=by
 rw [←H69]
 have hbv:=I46 l
 have hbs:=F71 l
 refine FnOk.intro Tryz.func134 (by decide) J J J J ?_
 refine k2 (A2 (A6 J J (A4 ?_)));refine k1 (k2 (A2 (A3 J J (A77 (E25 l hl) J J J J ?_))));rintro _ _ ⟨rfl,rfl⟩;refine ⟨rfl,?_⟩;refine A6 J J (A4 ?_);refine k1 (k2 (k2 (A2 (A3 J J (F3 J J (A3 J J (A4 ?_)))))));refine k1 (k3 (D6 (X:=Nat) (fun i=>([(0,D5 File 2 y1 l),(3,.s (.one (.mut 800))),(8,D5 File 2 y1 l),(9,C3 l.length),(10,C3 i)],[(800,.map Str i6 (S2 l))])) (fun i=>i≤l.length∧ascend (l.take i)=true∧((l.take i).all fun f=>!P7 f.Path (l.map (·.Path)))=true) (fun i=>l.length - i) 0 ⟨Nat.zero_le _,rfl,rfl⟩ (Sees.of ⟨le1 rfl,le1 rfl,le1 rfl,le1 rfl,le1 rfl,trivial⟩ ⟨rfl,trivial⟩) ?_))
 rintro i ⟨hi,ha,hn⟩
 dsimp only at hi ha hn ⊢
 refine k2 (A2 (G7 J J J (A4 ?_)));refine k1 (k2 ?_);refine B0 rfl (fun ht=>?_) (fun ht=>?_)
 rotate_left
 ·have hie:i=l.length:=by have h1:=A1 ht;(try dsimp only at h1);omega
  rw [hie,J67] at ha hn
  refine k6 (k2 (A2 (A6 J J (A4 ?_))));refine k1 (k10 ?_)
  exact B7 (rs:=[J2 true]) (I4 rfl rfl rfl) (by unfold u5;rw [ha,hn];rfl)
 have hlt:i < l.length:=by have h1:=A0 ht;(try dsimp only at h1);omega
 obtain ⟨f,hf⟩:∃f,f=l[i]:=⟨_,rfl⟩
 have hv:l[i]?=some f:=by rw [hf];simp [hlt]
 have hfp:=hp f (by rw [hf];exact J66 hlt)
 obtain ⟨g,hg⟩:∃g,g=l.getD (i - 1) ⟨[],[]⟩:=⟨_,rfl⟩
 have hvg:0 < i→l[((i:Int) - 1).toNat]?=some g:=fun h0=>by
  rw [hg,show ((i:Int) - 1).toNat=i - 1 by omega,J65,J60 (by omega)];rfl
 have hnext:ascend (l.take (i+1))=if 0 < i then ltS g.Path f.Path else true:=by
  cases i with
  | zero=>rw [if_neg (by omega)];exact F72 l
  | succ i =>
   rw [if_pos (by omega),D39 l i hlt,ha,Bool.true_and,hg]
   rw [show l.getD (i+1) ⟨[],[]⟩=f by rw [J65,hv];rfl]
   rfl
 have hbad:((0 < i∧ltS g.Path f.Path=false)∨P7 f.Path (l.map (·.Path))=true)→[J2 false]=[J2 (u5 l)]:=by
  rintro (⟨h0,h⟩ | h)
  ·have : ascend l=false:=by
    cases h2:ascend l
    ·rfl
    ·exfalso
     rw [if_pos h0,h] at hnext
     have key:∀(l:List File) (k:Nat),ascend l=true→ascend (l.take k)=true:=by
      intro l
      induction l with
      | nil=>intro k h;simpa using h
      | cons x r ih =>
       intro k h
       cases k with
       | zero=>rfl
       | succ k =>
        have h3:=ih k (A42 h)
        rw [List.take_succ_cons]
        cases hk:r.take k with
        | nil=>rfl
        | cons y t =>
         unfold ascend
         rw [J61]
         refine ⟨d6 h y (List.mem_of_mem_take (by rw [hk];simp)),by rw [←hk];exact h3⟩
     rw [key l (i+1) h2] at hnext;cases hnext
   unfold u5;rw [this];rfl
  ·have:(l.all fun f=>!P7 f.Path (l.map (·.Path)))=false:=by
    rw [List.all_eq_false]
    exact ⟨f,by rw [hf];exact J66 hlt,by rw [h];simp⟩
   unfold u5;rw [this,Bool.and_false]
 have hgood:(0 < i→ltS g.Path f.Path=true)→P7 f.Path (l.map (·.Path))=false→ascend (l.take (i+1))=true∧((l.take (i+1)).all fun f=>!P7 f.Path (l.map (·.Path)))=true:=by
  intro h1 h2
  refine ⟨?_,?_⟩
  ·rw [hnext];split
   ·rename_i h0;exact h1 h0
   ·rfl
  ·rw [List.take_add_one,hv,Option.toList_some,K11,hn,Bool.true_and,List.all_cons,List.all_nil,h2];rfl
 refine k5 (k1 (k2 (k3 (k2 (A2 (A3 J J (A5 (B3 J (.pure _ _ _ _) J (by omega) hv) J (A5 (E3 J J) J (D2 (I9 5 J) J (A6 J J (H7 (C4 TySz.out J J J J J J) (A4 ?_))))))))))));refine k1 (k2 ?_)
 cases hQ:(if decide ((0:Int) < (i:Int))=true then !Op.bytesLess g.Path f.Path else false)
 ·have h1:0 < i→ltS g.Path f.Path=true:=fun h0=>by
   rw [if_pos (decide_eq_true (by omega)),Bool.not_eq_false'] at hQ;exact hQ
  refine E18 17 (by kernel_rfl) (by kernel_rfl) J (F9 J J (B5 (R8 J J) J J (F9 J J (F7 J J (fun hg=>by rw [hg];exact C8 J J) J J ?_))));refine F7 J J (fun hg=>by rw [hg];exact C8 J J) J J ?_;refine F7 J J (fun hg=>by have hq:=hg;(try simp at hq);rw [hg];exact K1 J J (by omega)) J J ?_;refine F7 J J (fun hg=>by have hq:=hg;(try simp at hq);rw [hg];exact B3 J (.pure _ _ _ _) J (by omega) (hvg (by omega))) J J ?_;refine F7 J J (fun hg=>by rw [hg];exact C5 J) J J ?_;refine F7 J J (fun hg=>by rw [hg];exact B1 J J) J J ?_;refine F7 J J (fun hg=>by rw [hg];exact A7 J) J J ?_;refine F7 J J (fun hg=>by rw [hg];exact C6 J J J) J J ?_;refine F7 J J (fun hg=>by rw [hg];exact I01 J J) J J ?_;refine B5 (D7 J (fun h=>by first | rfl | (rw [h];rfl)) (fun h=>by first | rfl | (rw [h];rfl))) J J ?_;refine F9 J J (d_go J J hQ J (B5 (A7 J) J J (d_go J J hQ J (B5 (C6 J J J) J J (d_go J J hQ J (F9 J J (R1 ?_)))))));refine I41 J J hQ (G21 (G36 f.Path (S2 l) hfp J hbv (l.map (·.Path)) hbs) J J J ?_);rintro _ _ ⟨rfl,rfl⟩;refine ⟨_,rfl,?_⟩;refine B5 (D7 J (fun h=>by first | rfl | (rw [h];rfl)) (fun h=>by first | rfl | (rw [h];rfl))) J J ?_;refine R1 ?_;refine k1 ?_
  rw [hQ]
  refine B0 rfl (fun ht=>?_) (fun ht=>?_)
  ·have h2:P7 f.Path (l.map (·.Path))=true:=by simpa using ht
   refine k2 (A2 (A6 J J (A4 ?_)));refine k1 (k10 (k12 (k11 (k11 (k12 (k11 ?_))))))
   exact B7 (rs:=[J2 false]) (I4 rfl rfl rfl) (hbad (.inr h2))
  ·have h2:P7 f.Path (l.map (·.Path))=false:=by simpa using ht
   obtain ⟨h3,h4⟩:=hgood h1 h2
   refine k5 (k4 (k1 (A2 (E4 J J J (A3 J J (A4 ?_))))));refine k1 ?_
   exact ⟨i+1,⟨hlt,h3,h4⟩,by omega,(Sees.of ⟨le1 rfl,le1 rfl,le1 rfl,le1 rfl,le1 rfl,trivial⟩ ⟨rfl,trivial⟩)⟩
 ·have h0:0 < i:=by
   apply Classical.byContradiction
   intro h0;rw [if_neg (by rw [decide_eq_true_eq];omega)] at hQ;cases hQ
  have h1:ltS g.Path f.Path=false:=by
   rw [if_pos (decide_eq_true (by omega)),Bool.not_eq_true'] at hQ;exact hQ
  refine F5 (by kernel_rfl) (by kernel_rfl) (F9 J J (B5 (R8 J J) J J (F9 J J (F7 J J (fun hg=>by rw [hg];exact C8 J J) J J ?_))));refine F7 J J (fun hg=>by rw [hg];exact C8 J J) J J ?_;refine F7 J J (fun hg=>by have hq:=hg;(try simp at hq);rw [hg];exact K1 J J (by omega)) J J ?_;refine F7 J J (fun hg=>by have hq:=hg;(try simp at hq);rw [hg];exact B3 J (.pure _ _ _ _) J (by omega) (hvg (by omega))) J J ?_;refine F7 J J (fun hg=>by rw [hg];exact C5 J) J J ?_;refine F7 J J (fun hg=>by rw [hg];exact B1 J J) J J ?_;refine F7 J J (fun hg=>by rw [hg];exact A7 J) J J ?_;refine F7 J J (fun hg=>by rw [hg];exact C6 J J J) J J ?_;refine F7 J J (fun hg=>by rw [hg];exact I01 J J) J J ?_;refine B5 (D7 J (fun h=>by first | rfl | (rw [h];rfl)) (fun h=>by first | rfl | (rw [h];rfl))) J J ?_;refine F9 J J (E02 J J (by rw [hQ];decide) J J ?_);refine E02 J J (by rw [hQ];decide) J J ?_;refine E02 J J (by rw [hQ];decide) J J ?_;refine E02 J J (by rw [hQ];decide) J J ?_;refine B5 (O8 J (hQ) J) J J (R1 ?_);refine k1 ?_;refine B0 rfl (fun ht=>?_) (fun ht=>?_)
  ·refine k2 (A2 (A6 J J (A4 ?_)));refine k1 (k10 (k12 (k11 (k11 (k12 (k11 ?_))))))
   exact B7 (rs:=[J2 false]) (I4 rfl rfl rfl) (hbad (.inl ⟨h0,h1⟩))
  ·cases ht
end Go.Proofs.YtkahafmcmiiolaaGreatDoor
namespace Go.Proofs.YtkahafmcmiiolaaGreatDoor
open Go Go.AL
set_option maxRecDepth 100000
theorem u64_in {n:Int} (h:0≤n∧n < 18446744073709551616):IntKind.u64.wrap n=n:=by simp [IntKind.wrap,IntKind.signed,IntKind.bits];omega
def t7 (a n:Int):Int:=IntKind.u64.wrap a % n
theorem A78 (a:Int) {n:Int} (h:1≤n):0≤t7 a n∧t7 a n < n:=⟨Int.emod_nonneg _ (by omega),Int.emod_lt_of_pos _ (by omega)⟩
theorem F73 (a n:Int) (hn:1≤n) (hn':n≤9223372036854775807):FnOk Tryz.prog 7 [G1 a,G1 n] (fun rs=>rs=[G1 (t7 a n)]):=by
 refine FnOk.intro Tryz.func7 (by decide) J J J J ?_
 refine k2 (A2 (A6 J J (A4 ?_)));refine k1 (k2 ?_)
 have h1:IntKind.u64.wrap n=n:=u64_in (by omega)
 refine A2 (A3 J J (A5 (V3 J) J (A3 J J (A5 (V3 J) J (A5 (D31 J J (by (rw [h1];omega))) J ?_)))));refine A5 (V3 J) J (A6 J J (A4 ?_));refine k1 (k10 (B7 (I4 J J J) ?_))
 have h2:=H18 a
 have h3:(IntKind.u64.wrap a).tmod n=IntKind.u64.wrap a % n:=Int.tmod_eq_emod_of_nonneg h2
 have h4:=A78 a hn
 unfold t7 at *
 rw [h1,h3,D32 ⟨by omega,by omega⟩]
def xor64 (a b:Int):Int:=IntKind.u64.wrap ((BitVec.ofInt IntKind.u64.bits a ^^^ BitVec.ofInt IntKind.u64.bits b).toNat:Int)
def shr64 (a n:Int):Int:=a.fdiv (2 ^ (min n.toNat IntKind.u64.bits))
def at0 (k:Int):Int:=IntKind.u64.wrap (IntKind.u64.wrap (k+1)*11400714819323198485)
def at1 (raw:List Int) (k:Int):Int:=if 0 < raw.length then xor64 (at0 k) (IntKind.u64.wrap (raw.getD (k.tmod raw.length).toNat 0)) else at0 k
def at2 (x:Int):Int:=IntKind.u64.wrap (xor64 x (shr64 x 31)*13787848793156543929)
def A59 (raw:List Int) (k:Int):Int:=IntKind.i64.wrap (shr64 (xor64 (at2 (at1 raw k)) (shr64 (at2 (at1 raw k)) 29)) 1)
theorem G38 (raw:List Int) (k:Int) (h0:0≤k) (h1:k≤1099511627776):FnOk Tryz.prog 17 [L1 raw,G1 k] (fun rs=>rs=[G1 (A59 raw k)]):=by
 refine FnOk.intro Tryz.func17 (by decide) J J J J ?_
 refine c_bound (t:=0) rfl (.pure _ _ _ _) fun hlen=>?_
 refine k2 (A2 (A6 J J (A4 ?_)));refine k1 (k2 (A2 (A3 J J (E4 J J J (A5 (V3 J) J (A5 (F56 J J) J (A6 J J (A4 ?_))))))));refine Q0 ?_
 refine E03 [(0,D5 Int 1 F0 raw),(1,C3 k),(5,I0 (.int .u64 (at1 raw k)))] [] ?_ ?_
 ·refine k2 (A2 (A3 J J (F3 J J (A5 (R8 J J) J (A4 ?_)))));refine k1 ?_;refine B0 rfl (fun ht=>?_) (fun ht=>?_)
  ·have hpos:0 < raw.length:=by have:=A0 ht;omega
   have hm0:0≤k.tmod raw.length:=Int.tmod_nonneg _ h0
   have hm1:k.tmod raw.length < raw.length:=Int.tmod_lt_of_pos _ (by omega)
   have hv:raw[(k.tmod raw.length).toNat]?=some (raw.getD (k.tmod raw.length).toNat 0):=by
    rw [J65,J60 (by omega)];rfl
   skip
   refine A2 (A3 J J (A3 J J (A3 J J (A3 J J (F3 J J (A5 (D31 J J (by omega)) J (A5 (B3 J (.pure _ _ _ _) J (by omega) hv) J (A5 (B1 J J) J (A5 (V3 J) J (A5 (C92 J J J (fun _=>rfl)) J (A6 J J (A4 ?_))))))))))));refine k1 ?_
   rw [at1,if_pos hpos]
   exact Sees.of ⟨le1 rfl,le1 rfl,le1 rfl,trivial⟩ trivial
  ·have hpos:¬0 < raw.length:=by have:=A1 ht;omega
   refine k5 (k1 ?_)
   rw [at1,if_neg hpos]
   exact Sees.of ⟨le1 rfl,le1 rfl,le1 rfl,trivial⟩ trivial
 ·refine k2 (A2 (A3 J J (A3 J J (A5 (H92 J J (by omega)) J (A5 (C92 J J J (fun _=>rfl)) J (A5 (F56 J J) J (A6 J J (A4 ?_))))))));refine k1 (k2 (A2 (A3 J J (A3 J J (A5 (H92 J J (by omega)) J (A5 (C92 J J J (fun _=>rfl)) J (A5 (H92 J J (by omega)) J (A5 (V3 J) J (A6 J J (A4 ?_))))))))));refine k1 (k10 ?_)
  exact B7 (I4 rfl rfl rfl) rfl
def lineTab:List Str:=[[97],[98],[99],[97,98],[98,97],[],[97,97],[98,32,97],[120,43,121],[92]]
def A60 (k:Int):Str:=lineTab.getD (t7 k 10).toNat []
theorem G39:∀s∈lineTab,s.length≤3:=by decide
theorem A98 (k:Int):(A60 k).length≤3:=by
 unfold A60
 rw [J65]
 cases h:lineTab[(t7 k 10).toNat]? with
 | none=>simp
 | some s=>exact G39 s (J69 h)
theorem G40 (k:Int):FnOk Tryz.prog 31 [G1 k] (fun rs=>rs=[M1 (A60 k)]):=by
 refine FnOk.intro Tryz.func31 (by decide) J J J J ?_
 refine k2 (A2 (A6 J J (A4 ?_)));refine k1 (k2 ?_)
 have hm:=A78 k (n:=10) (by decide)
 have hv:lineTab[(t7 k 10).toNat]?=some (A60 k):=by
  unfold A60
  rw [J65,J60 (show (t7 k 10).toNat < lineTab.length by simp [lineTab];omega)];rfl
 refine A2 (A5 (D1 (c:=P5) (ys:=lineTab) (E5 J J J J (E5 J J J J (E5 J J J J (E5 J J J J (E5 J J J J (E5 J J J J (E5 J J J J (E5 J J J J (E5 J J J J (E5 J J J J H1)))))))))) J J J) J (A3 J J (D8 (F73 k 10 (by decide) (by decide)) J J J ?_)));rintro _ rfl;refine A5 (B3 J (.pure _ _ _ _) J (by omega) hv) J (A5 (B1 J J) J (A6 J J (A4 ?_)));refine k1 (k10 ?_)
 exact B7 (I4 rfl rfl rfl) rfl
def c9 (raw:List Int) (from':Int) (kinds:Int) (m:Nat):Str:=((List.range m).map fun (i:Nat)=>A60 (t7 (A59 raw (from'+1+(i:Int))) kinds)++[10]).flatten
def D06 (raw:List Int) (from' n kinds:Int):Str :=
 let s:=c9 raw from' kinds (t7 (A59 raw from') (n+1)).toNat
 if ((A59 raw (from'+90)).tmod 4=0∧(1:Int) < s.length)∧((s.getD (s.length - 2) 0).toNat:Int)≠10 then s.take (s.length - 1) else s
theorem B44 (raw:List Int) (from' kinds:Int) (m:Nat):c9 raw from' kinds (m+1)=c9 raw from' kinds m++A60 (t7 (A59 raw (from'+1+(m:Int))) kinds)++[10]:=by
 unfold c9;rw [K08,J91,J95];simp
theorem B95 (raw:List Int) (from' kinds:Int) (m:Nat):(c9 raw from' kinds m).length≤4*m:=by
 induction m with
 | zero=>simp [c9]
 | succ m ih=>have:=A98 (t7 (A59 raw (from'+1+(m:Int))) kinds);rw [B44];simp only [J63,J64,J68];omega
theorem blob_ok (raw:List Int) (from' n kinds:Int) (h0:0≤from'∧from'≤1073741824) (h1:0≤n∧n≤1048576) (h2:1≤kinds∧kinds≤1048576) :
  FnOk Tryz.prog 12 [L1 raw,G1 from',G1 n,G1 kinds] (fun rs=>rs=[M1 (D06 raw from' n kinds)]):=by
 obtain ⟨m,hm⟩:∃m:Nat,t7 (A59 raw from') (n+1)=m:=⟨(t7 (A59 raw from') (n+1)).toNat,by have:=A78 (A59 raw from') (n:=n+1) (by omega);omega⟩
 have hmi:=A78 (A59 raw from') (n:=n+1) (by omega)
 have hml:m≤1048576:=by omega
 refine FnOk.intro Tryz.func12 (by decide) J J J J ?_
 refine k2 (A2 (A6 J J (A4 ?_)));refine k1 (k2 (A2 (A3 J J (A3 J J (D8 (G38 raw from' (by omega) (by omega)) J J J ?_)))));rintro _ rfl;refine A3 J J (E4 J J J (D8 (F73 _ (n+1) (by omega) (by omega)) J J J ?_));rintro _ rfl;refine A6 J J (A4 ?_);refine k1 (k2 ?_)
 rw [hm]
 refine A2 (A6 J J (A4 ?_));refine k1 (k2 (k2 (A2 (A6 J J (A4 ?_)))));refine k1 (k3 (D6 (X:=Nat) (fun i=>([(0,D5 Int 1 F0 raw),(1,C3 from'),(2,C3 m),(3,C3 kinds),(9,V5 (c9 raw from' kinds i)),(10,C3 i)],[])) (fun i=>i≤m) (fun i=>m - i) 0 (Nat.zero_le _) (Sees.of ⟨le1 rfl,le1 rfl,le1 rfl,le1 rfl,le1 rfl,le1 rfl,trivial⟩ trivial) ?_))
 intro i hi
 dsimp only at hi ⊢
 have hbl:=B95 raw from' kinds i
 refine k2 (k2 (A2 (A3 J J (A3 J J (G7 J J J (A4 ?_))))));refine k1 ?_;refine B0 rfl (fun ht=>?_) (fun ht=>?_)
 ·have hlt:i < m:=by have:=A0 ht;omega
  have hll:=A98 (t7 (A59 raw (from'+1+(i:Int))) kinds)
  refine k5 (k1 (k2 (k3 (A2 (A3 J J (A3 J J (A3 J J (E4 J J J (A3 J J (E4 J J J (D8 (G38 raw _ (by omega) (by omega)) J J J ?_)))))))))));rintro _ rfl;refine A3 J J (D8 (F73 _ kinds (by omega) (by omega)) J J J ?_);rintro _ rfl;refine D8 (G40 _) J J J ?_;rintro _ rfl;refine A5 (A25 J J (by omega)) J (A5 (A25 J J (by (simp only [J63,J64,J68];omega))) J (A6 J J (A4 ?_)));refine k4 (k1 (A2 (A3 J J (E4 J J J (A6 J J (A4 ?_))))));refine k1 ?_;refine ⟨i+1,by omega,by omega,?_⟩
  rw [B44]
  exact Sees.of ⟨le1 rfl,le1 rfl,le1 rfl,le1 rfl,le1 rfl,le1 rfl,trivial⟩ trivial
 ·have hi':i=m:=by have:=A1 ht;omega
  subst hi'
  obtain ⟨s,hs⟩:∃s,s=c9 raw from' kinds i:=⟨_,rfl⟩
  have hv:(1:Int) < s.length→s[((s.length:Int) - 2).toNat]?=some (s.getD (s.length - 2) 0):=fun h=>by
   rw [show ((s.length:Int) - 2).toNat=s.length - 2 by omega,J65,J60 (by omega)];rfl
  have hbo:D06 raw from' n kinds=if ((A59 raw (from'+90)).tmod 4=0∧(1:Int) < s.length)∧((s.getD (s.length - 2) 0).toNat:Int)≠10 then s.take (s.length - 1) else s:=by
   simp only [D06,hm,J62,←hs]
  rw [←hs] at hbl
  refine k6 (k2 (k2 ?_))
  rw [←hs]
  refine A2 (A3 J J (A3 J J (E4 J J J (D8 (G38 raw _ (by omega) (by omega)) J J J ?_))));rintro _ rfl;refine A5 (D31 J J (by omega)) J (A5 (F4 J J) J (A3 J J (C2 J J J J (fun hg=>by rw [hg];exact C8 J J) ?_)));refine C2 J J J J (fun hg=>by rw [hg];exact N2 J) ?_;refine C2 J J J J (fun hg=>by rw [hg];exact R8 J J) ?_;refine A5 (D7 J (fun h=>by first | rfl | (rw [h];rfl)) (fun h=>by first | rfl | (rw [h];rfl))) J ?_;refine A3 J J (C2 J J J J (fun hg=>by rw [hg];exact C8 J J) ?_);refine C2 J J J J (fun hg=>by rw [hg];exact C8 J J) ?_;refine C2 J J J J (fun hg=>by rw [hg];exact N2 J) ?_;refine C2 J J J J (fun hg=>by have hq:=hg;(try simp at hq);rw [hg];exact K1 J J (by omega)) ?_;refine C2 J J J J (fun hg=>by have hq:=hg;(try simp at hq);rw [hg];exact y8 J J (by omega) (hv (by omega))) ?_;refine C2 J J J J (fun hg=>by rw [hg];exact T9 J J) ?_;refine A5 (D7 J (fun h=>by first | rfl | (rw [h];rfl)) (fun h=>by first | rfl | (rw [h];rfl))) J ?_;refine A4 ?_;refine k1 ?_;refine B0 rfl (fun ht=>?_) (fun ht=>?_)
  ·simp only [T7] at ht
   have h:=A0 ht
   skip
   refine A2 (A3 J J (A3 J J (A5 (N2 J) J (A5 (K1 J J (by omega)) J (A5 (D86 J J (by omega) (by omega)) J (A6 J J (A4 ?_)))))));refine k1 (k2 (A2 (A3 J J (A6 J J (A4 ?_)))));refine k1 (k10 ?_)
   exact B7 (I4 rfl rfl rfl) (by rw [hbo,if_pos h,show ((s.length:Int) - 1).toNat=s.length - 1 by omega])
  ·simp only [T7] at ht
   have h:=A1 ht
   refine k5 (k1 (k2 (A2 (A3 J J (A6 J J (A4 ?_))))));refine k1 (k10 ?_)
   exact B7 (I4 rfl rfl rfl) (by rw [hbo,if_neg h])
theorem H22 (raw:List Int) (from' n kinds:Int) (h1:0≤n):((D06 raw from' n kinds).length:Int)≤4*n:=by
 have h:=A78 (A59 raw from') (n:=n+1) (by omega)
 have h2:=B95 raw from' kinds (t7 (A59 raw from') (n+1)).toNat
 unfold D06
 simp only
 split
 ·simp only [J70];omega
 ·omega
def A06 (raw:List Int) (from':Int) (i:Nat) (s:Str):List Str→Str
 | []=>s
 | x::r=>if (A59 raw (from'+(i:Int))).tmod 6=0 then A06 raw from' (i+1) s r
  else if (A59 raw (from'+(i:Int))).tmod 6=1 then A06 raw from' (i+1) (s++A60 (A59 raw (from'+40+(i:Int)))++[10]++x) r
  else A06 raw from' (i+1) (s++x) r
def E26 (blob:Str) (raw:List Int) (from':Int):Str:=A06 raw from' 0 [] (F8 blob)
theorem A99 (raw:List Int) (from':Int):∀(l:List Str) (i:Nat) (s:Str),(A06 raw from' i s l).length≤s.length+l.flatten.length+4*l.length
 | [],i,s=>by simp [A06]
 | x::r,i,s=>by
  have h1:=A99 raw from' r (i+1) s
  have h2:=A99 raw from' r (i+1) (s++A60 (A59 raw (from'+40+(i:Int)))++[10]++x)
  have h3:=A99 raw from' r (i+1) (s++x)
  have h4:=A98 (A59 raw (from'+40+(i:Int)))
  simp only [J63,J64,J68,J92] at *
  unfold A06
  split
  ·omega
  ·split<;>omega
theorem D07 (s cur:Str):(I2 cur s).flatten=cur++s:=by
 induction s generalizing cur with
 | nil=>unfold I2;split<;>simp [*]
 | cons c r ih=>unfold I2;split<;>simp [ih]
theorem D79 (s:Str):(F8 s).flatten=s:=D07 s []
theorem near_ok (blob:Str) (raw:List Int) (from':Int) (hb:blob.length≤16777216) (h0:0≤from'∧from'≤1073741824) :
  FnOk Tryz.prog 13 [M1 blob,L1 raw,G1 from'] (fun rs=>rs=[M1 (E26 blob raw from')]):=by
 have hll:=X2 blob
 have hlf:=D79 blob
 have hlf':(F8 blob).flatten.length=blob.length:=by rw [hlf]
 refine FnOk.intro Tryz.func13 (by decide) J J J J ?_
 refine k2 (A2 (A6 J J (A4 ?_)));refine k1 (k2 (A2 (A3 J J (D8 (E22 blob (by omega)) J J J ?_))));rintro _ rfl;refine A6 J J (A4 ?_);refine k1 (k2 ?_)
 obtain ⟨l,hl⟩:∃l,l=F8 blob:=⟨_,rfl⟩
 have hno:E26 blob raw from'=A06 raw from' 0 [] l:=by rw [E26,hl]
 rw [←hl] at hll hlf' ⊢
 refine A2 (A6 J J (A4 ?_));refine k1 (k2 (k2 (A2 (A6 J J (A4 ?_)))));refine k1 (k3 (D6 (X:=Nat × Str) (fun x=>([(1,D5 Int 1 F0 raw),(2,C3 from'),(7,D5 Str 1 P5 l),(8,V5 x.2),(9,C3 x.1)],[])) (fun x=>x.1≤l.length∧x.2.length≤(l.take x.1).flatten.length+4*x.1∧A06 raw from' x.1 x.2 (l.drop x.1)=A06 raw from' 0 [] l) (fun x=>l.length - x.1) (0,[]) (by simp) (Sees.of ⟨le1 rfl,le1 rfl,le1 rfl,le1 rfl,le1 rfl,trivial⟩ trivial) ?_))
 rintro ⟨i,s⟩ ⟨hi,hs,hp⟩
 dsimp only at hi hs hp ⊢
 have hle:=B27 l i
 refine k2 (k2 (A2 (A3 J J (A3 J J (F3 J J (G7 J J J (A4 ?_)))))));refine k1 ?_;refine B0 rfl (fun ht=>?_) (fun ht=>?_)
 ·have hlt:i < l.length:=by have:=A0 ht;omega
  have hv:l[i]?=some l[i]:=by simp [hlt]
  have hle2:=B27 l (i+1)
  have hst:=A41 l i hlt
  rw [hst,J63] at hle2
  rw [J71 hlt,A06] at hp
  refine k5 (k1 (k2 (k3 (k2 (k2 (A2 (A3 J J (A3 J J (A3 J J (E4 J J J (D8 (G38 raw _ (by omega) (by omega)) J J J ?_)))))))))));rintro _ rfl;refine A5 (D31 J J (by omega)) J (A4 ?_);refine k1 (k3 (k2 (A2 (A5 (F4 J J) J (A6 J J (A4 ?_))))));refine k1 ?_;refine B0 rfl (fun ht=>?_) (fun ht=>?_)
  ·rw [if_pos (A0 ht)] at hp
   refine k6 (k9 J (k7 (k8 J (k1 (A2 (A3 J J (E4 J J J (A6 J J (A4 ?_)))))))));refine k1 ?_
   exact ⟨(i+1,s),⟨by dsimp only;omega,by dsimp only;rw [hst,J63];omega,hp⟩,by dsimp only;omega,Sees.of ⟨le1 rfl,le1 rfl,le1 rfl,le1 rfl,le1 rfl,trivial⟩ trivial⟩
  ·rw [if_neg (A1 ht)] at hp
   refine k2 (A2 (A5 (F4 J J) J (A6 J J (A4 ?_))));refine k1 ?_;refine B0 rfl (fun ht=>?_) (fun ht=>?_)
   ·rw [if_pos (A0 ht)] at hp
    have h4:=A98 (A59 raw (from'+40+(i:Int)))
    skip
    refine A2 (A3 J J (A3 J J (A3 J J (E4 J J J (A3 J J (E4 J J J (D8 (G38 raw _ (by omega) (by omega)) J J J ?_)))))));rintro _ rfl;refine D8 (G40 _) J J J ?_;rintro _ rfl;refine A5 (A25 J J (by omega)) J (A5 (A25 J J (by (simp only [J63,J64,J68];omega))) J (A6 J J (A4 ?_)));refine k4 (k1 (A2 (A3 J J (A3 J J (A3 J J (A5 (B3 J (.pure _ _ _ _) J (by omega) hv) J (A5 (B1 J J) J (A5 (A25 J J (by (simp only [J63,J64,J68];omega))) J (A6 J J (A4 ?_))))))))));refine k4 (k1 (A2 (A3 J J (E4 J J J (A6 J J (A4 ?_))))));refine k1 ?_
    exact ⟨(i+1,s++A60 (A59 raw (from'+40+(i:Int)))++[10]++l[i]),⟨by dsimp only;omega,by dsimp only;rw [hst];simp only [J63,J64,J68];omega,hp⟩,by dsimp only;omega,Sees.of ⟨le1 rfl,le1 rfl,le1 rfl,le1 rfl,le1 rfl,trivial⟩ trivial⟩
   ·rw [if_neg (A1 ht)] at hp
    refine k5 (k4 (k1 (A2 (A3 J J (A3 J J (A3 J J (A5 (B3 J (.pure _ _ _ _) J (by omega) hv) J (A5 (B1 J J) J (A5 (A25 J J (by omega)) J (A6 J J (A4 ?_)))))))))));refine k4 (k1 (A2 (A3 J J (E4 J J J (A6 J J (A4 ?_))))));refine k1 ?_
    exact ⟨(i+1,s++l[i]),⟨by dsimp only;omega,by dsimp only;rw [hst,J63,J63];omega,hp⟩,by dsimp only;omega,Sees.of ⟨le1 rfl,le1 rfl,le1 rfl,le1 rfl,le1 rfl,trivial⟩ trivial⟩
 ·have hi':i=l.length:=by have:=A1 ht;omega
  rw [hi',J78 (Nat.le_refl _)] at hp
  refine k6 (k2 (A2 (A3 J J (A6 J J (A4 ?_)))));refine k1 (k10 ?_)
  exact B7 (I4 rfl rfl rfl) (by rw [hno,←hp];rfl)
end Go.Proofs.YtkahafmcmiiolaaGreatDoor
namespace Go.Proofs.YtkahafmcmiiolaaGreatDoor
open Go Go.AL
set_option maxRecDepth 100000
theorem F18 (s:Str):(ByteArray.mk s.toArray).size=s.length:=by simp [ByteArray.size]
theorem F74 (s p:Str) (hs:s.length≤1099511627776):FnOk Tryz.prog 138 [M1 s,M1 p] (fun rs=>rs=[J2 (Lib.hasSuffix s p)]) :=
 J40 (xs:=[.string ⟨s.toArray⟩,.string ⟨p.toArray⟩]) ⟨_,rfl,rfl,rfl⟩ rfl fun w=>by simpa using Tryz.strings_HasSuffix ⟨s.toArray⟩ ⟨p.toArray⟩ w (by rw [F18];omega)
theorem E91 (s p:Str) (hs:s.length≤1099511627776):FnOk Tryz.prog 80 [M1 s,M1 p] (fun rs=>rs=[M1 (Lib.trimSuffix s p)]) :=
 J40 (xs:=[.string ⟨s.toArray⟩,.string ⟨p.toArray⟩]) ⟨_,rfl,rfl,rfl⟩ rfl fun w=>by simpa using Tryz.strings_TrimSuffix ⟨s.toArray⟩ ⟨p.toArray⟩ w (by rw [F18];omega)
theorem C54 (s:Str) (c:UInt8):FnOk Tryz.prog 172 [M1 s,.one (.v (.int .u8 c.toNat))] (fun rs=>rs=[G1 (Lib.indexByte s c)]) :=
 J40 (xs:=[.string ⟨s.toArray⟩,.int .u8 c.toNat]) ⟨_,rfl,rfl,rfl⟩ rfl fun w=>by simpa using Tryz.strings_IndexByte ⟨s.toArray⟩ c.toNat w
theorem I47 (s:Str) (hs:s.length≤1099511627776):FnOk Tryz.prog 103 [M1 s] (fun rs=>rs=[J2 (ended s)]):=by
 refine FnOk.intro Tryz.func103 (by decide) J J J J ?_
 refine k2 (A2 (A6 J J (A4 ?_)));refine k1 (k2 (A2 (A3 J J (D8 (F74 s [10] hs) J J J ?_))));rintro _ rfl;refine A6 J J (A4 ?_)
 rw [C69]
 refine k1 (k10 ?_)
 exact B7 (I4 rfl rfl rfl) rfl
theorem J02 (s:Str) (hs:s.length≤1099511627776):FnOk Tryz.prog 47 [M1 s] (fun rs=>rs=[M1 (R4 s)]):=by
 refine FnOk.intro Tryz.func47 (by decide) J J J J ?_
 refine k2 (A2 (A6 J J (A4 ?_)));refine k1 (k2 (A2 (A3 J J (D8 (E91 s [10] hs) J J J ?_))));rintro _ rfl;refine A6 J J (A4 ?_)
 rw [F03]
 refine k1 (k10 ?_)
 exact B7 (I4 rfl rfl rfl) rfl
end Go.Proofs.YtkahafmcmiiolaaGreatDoor
namespace Go.Proofs.YtkahafmcmiiolaaGreatDoor
open Go Go.AL
set_option maxRecDepth 100000
end Go.Proofs.YtkahafmcmiiolaaGreatDoor
namespace Go.Proofs.YtkahafmcmiiolaaGreatDoor
open Go Go.AL Go.RowKit
set_option maxRecDepth 100000
theorem F19 (s:Str) (c:UInt8):FnOk Tryz.prog 102 [M1 s,M1 [c]] (fun rs=>rs=[G1 (s.count c)]) :=
 J40 (xs:=[.string ⟨s.toArray⟩,.string ⟨#[c]⟩]) ⟨_,rfl,rfl,rfl⟩ rfl fun w=>by simpa [Lib.countByte] using Tryz.strings_Count_one ⟨s.toArray⟩ c w
theorem I48 (s:Str) (c:UInt8):FnOk Tryz.prog 118 [M1 s,M1 [c]] (fun rs=>rs=[G1 (Lib.indexByte s c)]) :=
 J40 (xs:=[.string ⟨s.toArray⟩,.string ⟨#[c]⟩]) ⟨_,rfl,rfl,rfl⟩ rfl fun w=>by simpa using Tryz.strings_Index_one ⟨s.toArray⟩ c w
abbrev C55 (l:List Str):Ob:=.grow 9 Str 1 P5 l
theorem F75 (s:Str) (hs:s.length≤536870912):AL.Met Tryz.prog 104 [(M1 s).s1,(M1 [10]).s1,(G1 1).s1,(G1 (-1)).s1] [] [] [] (fun rs ob'=>rs=[.one (.mut 9)]∧ob'=[(9,C55 (P8 s))]):=by
 have hP:=X5 s []
 have hc:s.count 10≤s.length:=List.count_le_length
 have h10:([10]:Str).length=1:=rfl
 obtain ⟨P,hPe⟩:∃P,P=P8 s:=⟨_,rfl⟩
 have hPl:P.length=s.count 10+1:=by rw [hPe];exact hP
 refine AL.Met.intro Tryz.func104 (by decide) J J J ?_
 refine k2 (A2 (A6 J J (A4 ?_)));refine k1 (k2 (k2 (A2 (A3 J J (A5 (F4 J J) J (A4 ?_))))));refine k1 ?_;refine B0 rfl (fun ht=>?_) (fun ht=>?_)
 ·exact absurd (A0 ht) (by omega)
 refine k5 (k1 (k2 (k2 (A2 (A3 J J (A5 (A90 J J) J (A4 ?_)))))));refine k1 ?_;refine B0 rfl (fun ht=>?_) (fun ht=>?_)
 ·exact absurd (A0 ht) (by simp)
 refine k5 (k1 (k2 (k2 (A2 (A3 J J (G7 J J J (A4 ?_)))))));refine k1 ?_;refine B0 rfl (fun ht=>?_) (fun ht=>?_)
 rotate_left
 ·exact absurd (A1 ht) (by omega)
 skip
 refine A2 (A3 J J (A3 J J (D8 (F19 s 10) J J J ?_)));rintro _ rfl;refine E4 J J J (A6 J J (A4 ?_));refine k1 (k2 (A2 (A3 J J (A3 J J (A5 (N2 J) J (E4 J J J (A5 (F09 J J) J (A6 J J (A4 ?_)))))))));refine k1 (k2 ?_)
 rw [show (if (s.length:Int)+1 < (s.count 10:Int)+1 then (s.length:Int)+1 else (s.count 10:Int)+1)=(P.length:Int) from by split<;>omega]
 refine A2 (A3 J J (D2 (f_makeG 9 Str P5 [] J J (by omega) (by omega) (fun _=>by first | exact ⟨⟨rfl,rfl⟩,trivial⟩ | exact ⟨I5 _ _ _,trivial⟩ | exact ⟨I5 _ _ _,⟨rfl,rfl⟩,I5 _ _ _,trivial⟩) (by first | rfl | (simp [J6,K0,Ob.free,SV.free,S1.free,TC.free]<;>rfl))) J ?_));refine A6 J J (A4 ?_);refine k1 (k2 (A2 (A3 J J (A5 (K1 J J (by omega)) J (A6 J J (A4 ?_))))));refine k1 (k2 (A2 (A6 J J (A4 ?_))));refine k1 (k2 (k3 (D6 (X:=Nat × Str) (fun x=>([(0,V5 x.2),(1,V5 [10]),(2,C3 1),(3,C3 ((P.length:Int) - 1)),(9,.s (.one (.mut 9))),(10,C3 x.1)],[(9,C55 (P.take x.1++List.replicate (P.length - x.1) []))])) (fun x=>x.1+1≤P.length∧P.drop x.1=P8 x.2∧x.2.length≤s.length) (fun x=>P.length - x.1) (0,s) ⟨by dsimp only;omega,hPe,Nat.le_refl _⟩ (Sees.of ⟨le1 rfl,le1 rfl,le1 rfl,le1 rfl,le1 rfl,le1 rfl,trivial⟩ ⟨rfl,trivial⟩) ?_)))
 rintro ⟨i,r⟩ ⟨hi,hp,hr⟩
 dsimp only at hi hp hr ⊢
 refine k2 (k2 (A2 (A3 J J (A3 J J (G7 J J J (A4 ?_))))));refine k1 ?_;refine B0 rfl (fun ht=>?_) (fun ht=>?_)
 ·have hlt:i+1 < P.length:=by have:=A0 ht;omega
  have hin:(10:UInt8)∈r:=by
   have h1:=X5 r []
   have h2:(P.drop i).length=r.count 10+1:=by rw [hp];exact h1
   rw [J76] at h2
   exact List.count_pos_iff.1 (by omega)
  rcases Z5 10 r with ⟨h1,_⟩ | ⟨a,b,h1,h2,h3⟩
  ·exact absurd hin h1
  obtain ⟨h4,h5⟩:=H72 hp h1 h2
  have hl:r.length=a.length+1+b.length:=by rw [h1];simp;omega
  refine k5 (k1 (k3 (k2 (A2 (A3 J J (A3 J J (D8 (I48 r 10) J J J ?_)))))));rintro _ rfl;refine A6 J J (A4 ?_);refine k1 (k2 (k2 (A2 (A3 J J (G7 J J J (A4 ?_))))));refine k1 ?_
  rw [h3]
  refine B0 rfl (fun ht=>?_) (fun ht=>?_)
  ·exact absurd (A0 ht) (by omega)
  refine k5 (k1 (k2 ?_))
  have hvi:(P.take i++List.replicate (P.length - i) ([]:Str))[((i:Nat):Int).toNat]?=some []:=by
   rw [J62,J74 (by rw [J70];omega),List.getElem?_replicate,if_pos (by rw [J70];omega)]
  refine A2 (A3 J J (A3 J J (A3 J J (A3 J J (A3 J J (E4 J J J (A5 (D86 J J (by omega) (by omega)) J (A5 (H0 J J J (by omega) (by (simp;omega))) J (H7 (m7 ((r.take ((a.length:Int)+1).toNat)) TySz.out J J hvi J J J J (fun _ _ _ h=>r9 h) (by intro j h1 h2;rcases j with _ | _ | _ | _ | _ | _ | _ | j<;>first | rfl | omega)) ?_)))))))));refine A4 ?_;refine k1 (k2 (A2 (A3 J J (A3 J J (A3 J J (A5 (N2 J) J (E4 J J J (A5 (H93 J J (by omega) (by omega)) J (A6 J J (A4 ?_))))))))));refine k1 (A2 (A3 J J (E4 J J J (A6 J J (A4 ?_)))));refine k4 (k1 ?_)
  have e1:r.take (((a.length:Int)+1).toNat)=a++[10]:=by rw [h1,show ((a.length:Int)+1).toNat=a.length+1 by omega,show a++10::b=(a++[10])++b by simp,List.take_left' (by simp)]
  have e2:r.drop (((a.length:Int)+(([10]:Str).length:Int)).toNat)=b:=by rw [h1,h10,show ((a.length:Int)+((1:Nat):Int)).toNat=a.length+1 by omega,show a++10::b=(a++[10])++b by simp,List.drop_left' (by simp)]
  refine ⟨(i+1,b),⟨by dsimp only;omega,h5,by dsimp only;omega⟩,by dsimp only;omega,?_⟩
  rw [e1,e2]
  dsimp only
  rw [←F40 P [] _ i h4]
  exact Sees.of ⟨le1 rfl,le1 rfl,le1 rfl,le1 rfl,le1 rfl,le1 rfl,trivial⟩ ⟨rfl,trivial⟩
 ·have hge:i+1=P.length:=by have:=A1 ht;omega
  have h1:=X5 r []
  have h2:(P.drop i).length=r.count 10+1:=by rw [hp];exact h1
  rw [J76] at h2
  have h3:(10:UInt8)∉r:=List.count_eq_zero.1 (by omega)
  have h4:P[i]?=some r:=by rw [←List.head?_drop,hp];unfold P8;rw [F04 _ _ h3];rfl
  refine k6 (k2 ?_)
  have hvi:(P.take i++List.replicate (P.length - i) ([]:Str))[((i:Nat):Int).toNat]?=some []:=by
   rw [J62,J74 (by rw [J70];omega),List.getElem?_replicate,if_pos (by rw [J70];omega)]
  refine A2 (A3 J J (A3 J J (A3 J J (A5 (H0 J J J (by omega) (by (simp;omega))) J (H7 (m7 (r) TySz.out J J hvi J J J J (fun _ _ _ h=>r9 h) (by intro j h1 h2;rcases j with _ | _ | _ | _ | _ | _ | _ | j<;>first | rfl | omega)) ?_)))));refine A4 ?_;refine k1 (k2 ?_)
  have e:(P.take i++List.replicate (P.length - i) ([]:Str)).set (i:Int).toNat r=P:=by rw [J62,F40 P [] r i h4,hge];simp
  rw [e]
  refine A2 (A3 J J (A3 J J (E4 J J J (D2 (A37 J J J (by omega) (by omega) J) J (A6 J J (A4 ?_))))));refine k1 (k10 ?_)
  rw [show ((i:Int)+1).toNat=P.length by omega,J67,hPe]
  exact E0 (H9 rfl rfl) (by repeat (first | exact A8 | refine A9 rfl ?_ | refine B6 _ ?_)) (ObIn.spec (ob':=[(9,_)]) ⟨rfl,trivial⟩) ⟨rfl,rfl⟩
theorem E27 (s:Str) (hs:s.length≤536870912):AL.Met Tryz.prog 72 [(M1 s).s1,(M1 [10]).s1] [] [] [] (fun rs ob'=>rs=[.one (.mut 9)]∧ob'=[(9,C55 (P8 s))]):=by
 refine AL.Met.intro Tryz.func72 (by decide) J J J ?_
 refine k2 (A2 (A6 J J (A4 ?_)));refine k1 (k2 (A2 (A3 J J (A3 J J (A3 J J (A5 (N2 J) J (A77 (F75 s hs) J J J J ?_)))))));rintro _ _ ⟨rfl,rfl⟩;refine ⟨rfl,?_⟩;refine A6 J J (A4 ?_);refine k1 (k10 ?_)
 exact E0 (H9 rfl rfl) (by repeat (first | exact A8 | refine A9 rfl ?_ | refine B6 _ ?_)) (ObIn.spec (ob':=[(9,_)]) ⟨rfl,trivial⟩) ⟨rfl,rfl⟩
theorem F20 (s:Str) (hs:s.length≤536870912):FnOk Tryz.prog 71 [M1 s] (fun rs=>rs=[G1 (K9 s)]):=by
 have hl:=C10 s
 have hc:s.count 10≤s.length:=List.count_le_length
 refine FnOk.intro Tryz.func71 (by decide) J J J J ?_
 refine k2 (A2 (A6 J J (A4 ?_)));refine k1 (k2 (A2 (A3 J J (D8 (F19 s 10) J J J ?_))));rintro _ rfl;refine A6 J J (A4 ?_);refine Q0 ?_
 refine E03 [(0,V5 s),(3,C3 (F8 s).length)] [] ?_ ?_
 ·refine k2 (A2 (A3 J J (A5 (D85 J J) J (A3 J J (C2 J J J J (fun hg=>by rw [hg];exact C8 J J) ?_)))));refine C2 J J J J (fun hg=>by have hq:=hg;(try simp at hq);rw [hg];exact U4 (I47 s (by omega)) J J) ?_;refine C2 J J J J (fun hg=>by rw [hg];exact U0 J) ?_;refine A5 (D7 J (fun h=>by first | rfl | (rw [h];rfl)) (fun h=>by first | rfl | (rw [h];rfl))) J ?_;refine A4 ?_;refine k1 ?_;refine B0 rfl (fun ht=>?_) (fun ht=>?_)
  ·have h:s≠[]∧ended s=false:=by
    by_cases h1:s=[]
    ·simp [h1] at ht
    ·refine ⟨h1,?_⟩;simpa [h1] using ht
   rw [if_pos h] at hl
   skip
   refine A2 (A3 J J (E4 J J J (A6 J J (A4 ?_))));refine k1 ?_
   rw [hl,Int.natCast_add]
   exact Sees.of ⟨le1 rfl,le1 rfl,trivial⟩ trivial
  ·have h:¬(s≠[]∧ended s=false):=by
    rintro ⟨h1,h2⟩
    simp [h1,h2] at ht
   rw [if_neg h] at hl
   refine k5 (k1 ?_)
   rw [hl]
   exact Sees.of ⟨le1 rfl,le1 rfl,trivial⟩ trivial
 ·refine k2 (k2 (A2 (A3 J J (A5 (N2 J) J (A5 (R8 J J) J (A3 J J (C2 J J J J (fun hg=>by rw [hg];exact C8 J J) ?_)))))));refine C2 J J J J (fun hg=>by rw [hg];exact R8 J J) ?_;refine A5 (D7 J (fun h=>by first | rfl | (rw [h];rfl)) (fun h=>by first | rfl | (rw [h];rfl))) J ?_;refine A4 ?_;refine k1 ?_;refine B0 rfl (fun ht=>?_) (fun ht=>?_)
  ·have h:=A0 (or_pick.symm.trans ht)
   refine k2 (A2 (A6 J J (A4 ?_)));refine k1 (k10 (k11 ?_))
   exact B7 (I4 rfl rfl rfl) (by rw [K9,if_pos (by omega)])
  ·have h:=A1 (or_pick.symm.trans ht)
   refine k5 (k1 (k2 (A2 (A6 J J (A4 ?_)))));refine k1 (k10 ?_)
   exact B7 (I4 rfl rfl rfl) (by rw [K9,if_neg (by omega)])
theorem H23 (s:Str) (hs:s.length≤536870912):AL.Met Tryz.prog 42 [(M1 s).s1] [] [] [] (fun rs ob'=>rs=[.one (.mut 9),(G1 (Y4 s).2).s1]∧ob'=[(9,C55 (Y4 s).1)]):=by
 have hp:F8 s=if (P8 s).getLastD []=[] then (P8 s).dropLast else P8 s:=G88 s []
 have hc:(P8 s).length=s.count 10+1:=X5 s []
 have hcl:s.count 10≤s.length:=List.count_le_length
 refine AL.Met.intro Tryz.func42 (by decide) J J J ?_
 refine k2 (A2 (A6 J J (A6 J J (A4 ?_))));refine k1 (k2 (k2 (A2 (A3 J J (D8 (F20 s hs) J J J ?_)))));rintro _ rfl;refine A6 J J (A4 ?_);refine k1 (k2 (A2 (A3 J J (A5 (T9 J J) J (A4 ?_)))));refine k1 ?_;refine B0 rfl (fun ht=>?_) (fun ht=>?_)
 ·have h:K9 s≠0:=by simpa using ht
  have h1:s.length > 1048576∨(F8 s).length > 4096:=by
   by_cases h1:s.length > 1048576∨(F8 s).length > 4096
   ·exact h1
   ·exact absurd (by rw [K9,if_neg h1]) h
  refine k2 (A2 (A3 J J (D2 (G19 9 _ P5 J) J (A6 J J (A4 ?_)))));refine k1 (k10 (k11 ?_));refine E0 (H95 rfl rfl rfl) (by repeat (first | exact A8 | refine A9 rfl ?_ | refine B6 _ ?_)) (ObIn.spec (ob':=[(9,_)]) ⟨rfl,trivial⟩) ?_
  rw [Y4,if_pos h1,K9,if_pos h1]
  exact ⟨rfl,rfl⟩
 ·have h:K9 s=0:=by simpa using ht
  have h1:¬(s.length > 1048576∨(F8 s).length > 4096):=fun h1=>by rw [K9,if_pos h1] at h;omega
  have hv:(P8 s)[(P8 s).length - 1]?=some ((P8 s).getLastD []):=by
   rw [←List.getLast?_eq_getElem?,List.getLast?_eq_some_getLast (fun e=>by rw [e] at hc;simp at hc)]
   rw [List.getLastD_eq_getLast?,List.getLast?_eq_some_getLast (fun e=>by rw [e] at hc;simp at hc)];rfl
  have hi:(((P8 s).length:Int) - 1).toNat=(P8 s).length - 1:=by omega
  refine k5 (k1 (k2 (A2 (A3 J J (A77 (E27 s hs) J J J J ?_)))));rintro _ _ ⟨rfl,rfl⟩;refine ⟨rfl,?_⟩;refine A6 J J (A4 ?_);refine Q0 ?_
  refine E03 [(5,.s (.one (.mut 9)))] [(9,C55 (F8 s))] ?_ ?_
  ·refine k2 (A2 (A3 J J (A3 J J (A5 (T3 J J) J (A5 (K1 J J (by omega)) J (A5 (H0 J J J (by omega) (by omega)) J (A5 (t6 J J (by rw [hi];exact hv) J) J ?_)))))));refine A5 (A90 J J) J (A4 ?_);refine k1 ?_;refine B0 rfl (fun ht=>?_) (fun ht=>?_)
   ·have h2:=A0 ht
    skip
    refine A2 (A3 J J (A3 J J (A5 (T3 J J) J (A5 (K1 J J (by omega)) J (D2 (A37 J J J (by omega) (by omega) J) J (A6 J J (A4 ?_)))))));refine k1 ?_
    rw [hp,if_pos h2,List.dropLast_eq_take,←hi]
    exact Sees.of ⟨le1 rfl,trivial⟩ ⟨rfl,trivial⟩
   ·have h2:=A1 ht
    refine k5 (k1 ?_)
    rw [hp,if_neg h2]
    exact Sees.of ⟨le1 rfl,trivial⟩ ⟨rfl,trivial⟩
  ·refine k2 (A2 (A3 J J (A6 J J (A6 J J (A4 ?_)))));refine k1 (k10 ?_);refine E0 (H95 rfl rfl rfl) (by repeat (first | exact A8 | refine A9 rfl ?_ | refine B6 _ ?_)) (ObIn.spec (ob':=[(9,_)]) ⟨rfl,trivial⟩) ?_
   rw [Y4,if_neg h1]
   exact ⟨rfl,rfl⟩
theorem F21 (s:Str) (hs:s.length≤536870912):FnOk Tryz.prog 42 [M1 s] (fun rs=>rs=[B91 (Y4 s).1,G1 (Y4 s).2]) :=
 J57 (H23 s hs) fun rs ob' hm=>by
  obtain ⟨rfl,rfl⟩:=hm
  exact ⟨9,Str,1,P5,(Y4 s).1,_,[B91 (Y4 s).1,G1 (Y4 s).2],rfl,rfl,rfl,rfl⟩
end Go.Proofs.YtkahafmcmiiolaaGreatDoor
namespace Go.Proofs.YtkahafmcmiiolaaGreatDoor
open Go Go.RowKit Go.AL
attribute [local go_sem] Oper.semAt_some
set_option maxRecDepth 100000
set_option maxHeartbeats 2000000
theorem B96:∀(a r cur:Str),47∉a→J4 cur (a++47::r)=(cur++a)::J4 [] r
 | [],r,cur,_=>by simp [J4]
 | x::a,r,cur,h=>by
  have hx:x≠47:=fun e=>h (by simp [e])
  rw [J82,J4,if_neg hx,B96 a r _ (fun e=>h (by simp [e])),J73];rfl
theorem B97:∀(a cur:Str),47∉a→J4 cur a=[cur++a]
 | [],cur,_=>by simp [J4]
 | x::a,cur,h=>by
  have hx:x≠47:=fun e=>h (by simp [e])
  rw [J4,if_neg hx,B97 a _ (fun e=>h (by simp [e])),J73];rfl
theorem X0 {W:World} {B:Nat} {v:Value} {t:TypeId} (h:W.heap[B]?=some (.cells #[v] t (0,0))):W.cell? ⟨B,0,none⟩=some v∧W.frozen? ⟨B,0,none⟩=false:=by
 constructor<;>simp [World.cell?,World.frozen?,h]
structure RInv (rec:LoopState→Option Code→Loop) (n0:Nat) (w0:World) (l D b2 bs bp bv:Nat) (rest:Str) (W:World):Prop where
 s:W.heap[bs]?=some (.cells #[.string ⟨rest.toArray⟩] 9 (0,0))
 p:W.heap[bp]?=some (.cells #[.string ⟨#[47]⟩] 9 (0,0))
 v:W.heap[bv]?=some (.cells #[.int .i64 0] 3 (0,0))
 r:W.heap[b2]?=some (.cells #[.int .i64 0] 27 (0,0))
 l:W.heap[l]?=some (.loop (rec .ready none))
 d:W.heap[D]?=some (.deferred (some []))
 b:Below n0 w0 W
structure RFin (rec:LoopState→Option Code→Loop) (n0:Nat) (w0:World) (l D b2:Nat) (W:World):Prop where
 r:W.heap[b2]?=some (.cells #[.int .i64 210] 27 (0,0))
 l:W.heap[l]?=some (.loop (rec .done (some .ret)))
 d:W.heap[D]?=some (.deferred (some []))
 b:Below n0 w0 W
def leftIn (bs:Nat) (W:World):Nat:=match W.cell? ⟨bs,0,none⟩ with | some (.string s)=>s.size | _=>0
theorem n4 {W:World} {B:Nat} {v v':Value} {t:TypeId} (h:W.heap[B]?=some (.cells #[v] t (0,0))):(W.setCell ⟨B,0,none⟩ v').heap[B]?=some (.cells #[v'] t (0,0)):=by
 obtain ⟨hlt,hk'⟩:=Array.getElem?_eq_some_iff.1 h
 show (W.heap.modify B _)[B]?=_
 rw [Array.getElem?_eq_getElem (by rw [Array.size_modify];exact hlt),Array.getElem_modify_self,hk']
 rfl
theorem RInv.step {rec:LoopState→Option Code→Loop} {n0:Nat} {w0:World} {l D b2 bs bp bv:Nat} {rest:Str} {W:World} (h:RInv rec n0 w0 l D b2 bs bp bv rest W) (hne:bs≠bp∧bs≠bv∧bs≠b2∧bs≠l∧bs≠D∧n0≤bs) (r:Str) :
  RInv rec n0 w0 l D b2 bs bp bv r (W.setCell ⟨bs,0,none⟩ (.string ⟨r.toArray⟩)):=by
 obtain ⟨h1,h2,h3,h4,h5,h6⟩:=hne
 exact ⟨n4 h.s,(Below.heap_setCell W _ _ _ (Ne.symm h1)).trans h.p,(Below.heap_setCell W _ _ _ (Ne.symm h2)).trans h.v,(Below.heap_setCell W _ _ _ (Ne.symm h3)).trans h.r,(Below.heap_setCell W _ _ _ (Ne.symm h4)).trans h.l,(Below.heap_setCell W _ _ _ (Ne.symm h5)).trans h.d,h.b.setCell (p:=⟨bs,0,none⟩) h6 _⟩
theorem G41 {rec:LoopState→Option Code→Loop} {n0:Nat} {w0:World} {l D b2 bs bp bv:Nat} (hne:bs≠bp∧bs≠bv∧bs≠b2∧bs≠l∧bs≠D∧n0≤bs)
  (hIdx:∀(s:Str) (w:World),Calls Tryz.prog 118 #[.string ⟨s.toArray⟩,.string ⟨#[47]⟩] w (fun e w'=>e=.returned (.int .i64 (Lib.indexByte s 47))∧w'=w))
  (hY:∀rest x W,RInv rec n0 w0 l D b2 bs bp bv rest W→YieldAt Fence.wide 3 Tryz.prog l #[.string ⟨x.toArray⟩] W (fun e W'=>(R3 x=true∧e=.returned (.bool true)∧RInv rec n0 w0 l D b2 bs bp bv rest W')∨(R3 x=false∧e=.returned (.bool false)∧RFin rec n0 w0 l D b2 W')))
  (p:Str) (hp:p.length≤1073741824) (W:World) (hI:RInv rec n0 w0 l D b2 bs bp bv p W) :
  CallsIn Fence.wide 4 Tryz.prog 194 #[.func (.yield l) #[] #[],.pointer (some ⟨bp,0,none⟩),.pointer (some ⟨bs,0,none⟩),.pointer (some ⟨bv,0,none⟩)] W (fun e W'=>(∃v,e=.returned v) ∧
   (((J4 [] p).all R3=true∧∃rest,RInv rec n0 w0 l D b2 bs bp bv rest W')∨((J4 [] p).all R3=false∧RFin rec n0 w0 l D b2 W'))):=by
 refine callsIn_of_wp Tryz.func194 rfl trivial ?_ rfl
 simp only [Tryz.ntmps194,List.size_toArray,J64,J68,Nat.reduceAdd,Nat.reduceSub,Array.replicate_succ,Array.replicate_zero,List.push_toArray,List.append_toArray,J93,J82]
 have hcp:=X0 hI.p
 gi_wp2
 gi_loopw [7] (fun v wr=>∃rest:Str,rest.length≤p.length∧(J4 [] p).all R3=(J4 [] rest).all R3∧RInv rec n0 w0 l D b2 bs bp bv rest wr) (fun v wr=>leftIn bs wr)
 case atStart=>exact ⟨p,Nat.le_refl _,rfl,hI⟩
 case round =>
  obtain ⟨rest,hl,hall,hR⟩:=hrel
  obtain ⟨hs1,hs2⟩:=X0 hR.s
  obtain ⟨hp1,hp2⟩:=X0 hR.p
  obtain ⟨hv1,hv2⟩:=X0 hR.v
  rcases Z5 47 rest with ⟨h1,h2⟩ | ⟨x,r,h1,h2,h3⟩
  ·rw [B97 _ _ h1] at hall
   obtain ⟨fn,tmps,assign,body,hy,hRd⟩:=hY rest rest wr hR
   gi_wp2_with (refine ⟨trivial,?_⟩;gi_at_call 118;refine (callsIn_wide.2 (hIdx rest _)).mono ?_;rintro e w' ⟨rfl,rfl⟩;rw [h2])
   refine hRd.mono ?_
   rintro e W' (⟨h5,rfl,h6⟩ | ⟨h5,rfl,h6⟩)
   ·gi_wp2
    go_end0
    exact ⟨⟨_,rfl⟩,.inl ⟨by simp [hall,h5],rest,h6⟩⟩
   ·gi_wp2
    go_end0
    exact ⟨⟨_,rfl⟩,.inr ⟨by simp [hall,h5],h6⟩⟩
  ·subst h1
   rw [B96 _ _ _ h2,List.all_cons] at hall
   have hxl:x.length < (x++47::r).length:=by simp
   have hex:(⟨(x++47::r).toArray⟩:ByteArray).extract 0 x.length=⟨x.toArray⟩:=by
    apply ByteArray.ext;rw [ByteArray.data_extract];simp
   have hex2:(⟨(x++47::r).toArray⟩:ByteArray).extract (x.length+1) (x.length+(r.length+1))=⟨r.toArray⟩:=by
    apply ByteArray.ext;rw [ByteArray.data_extract];simp;exact J86 (by omega)
   obtain ⟨fn,tmps,assign,body,hy,hRd⟩:=hY _ x wr hR
   gi_wp2_with (refine ⟨trivial,?_⟩;gi_at_call 118;refine (callsIn_wide.2 (hIdx _ _)).mono ?_;rintro e w' ⟨rfl,rfl⟩;rw [h3])
   refine hRd.mono ?_
   rintro e W' (⟨h5,rfl,h6⟩ | ⟨h5,rfl,h6⟩)
   ·obtain ⟨hs3,hs4⟩:=X0 h6.s
    obtain ⟨hp3,hp4⟩:=X0 h6.p
    gi_wp2
    try rw [hex2]
    have h7:=h6.step hne r
    refine ⟨⟨r,by simp at hl;omega,by simp [hall,h5],h7⟩,?_⟩
    unfold leftIn
    rw [(X0 h7.s).1,hs1]
    show r.toArray.size < (x++47::r).toArray.size
    simp
    omega
   ·gi_wp2
    refine bodyPost_ret (results_none J _ _ _) J ?_
    exact ⟨⟨_,rfl⟩,.inr ⟨by simp [hall,h5],h6⟩⟩
def chkPost (b2:Nat) (x:Str) (W:World):Exit→Act→World→Prop
 | .normal,_,W'=>R3 x=true∧W'=W
 | .ret,_,W'=>R3 x=false∧W'=W.setCell ⟨b2,0,none⟩ (.int .i64 210)
 | _,_,_=>False
theorem G42 {ps:Array Tmp} {assign body:Code} {Q:Exit→Act→World→Prop} {a:Act} {w:World} {g:Operand} {b2 bs bp bv:Nat} {n0:Nat} {w0:World} {p:Str} (hp:p.length≤1073741824)
  (hne:bs≠bp∧bs≠bv∧bs≠b2∧n0≤bs∧n0≤b2) (hlt:bs < w.heap.size∧b2 < w.heap.size∧n0≤w.heap.size) (hps:ps.size=1)
  (hIdx:∀(s:Str) (w:World),Calls Tryz.prog 118 #[.string ⟨s.toArray⟩,.string ⟨#[47]⟩] w (fun e w'=>e=.returned (.int .i64 (Lib.indexByte s 47))∧w'=w))
  (hg:a.eval g=.func (.func 194) #[] #[.pointer (some ⟨bp,0,none⟩),.pointer (some ⟨bs,0,none⟩),.pointer (some ⟨bv,0,none⟩)])
  (hs:w.heap[bs]?=some (.cells #[.string ⟨p.toArray⟩] 9 (0,0))) (hsp:w.heap[bp]?=some (.cells #[.string ⟨#[47]⟩] 9 (0,0))) (hsv:w.heap[bv]?=some (.cells #[.int .i64 0] 3 (0,0))) (hr:w.heap[b2]?=some (.cells #[.int .i64 0] 27 (0,0))) (hb:Below n0 w0 w)
  (a₁:Str→Act)
  (hassign:∀(l:Nat) (x:Str) (W:World) (K:Act→World→Prop),K (a₁ x) W →
   assign.wpIn (Fence.wide.inRound l) 3 Tryz.prog (Exit.then K (fun _ _ _=>False)) { tmps:=(ps.zip #[Value.string ⟨x.toArray⟩]).foldl (fun t (p,v)=>t.setIfInBounds p v) a.tmps,defers:=[] } W)
  (hbody:∀(l:Nat) (x:Str) (W:World),W.heap[b2]?=some (.cells #[.int .i64 0] 27 (0,0))→body.wpIn (Fence.wide.inRound l) 3 Tryz.prog (chkPost b2 x W) (a₁ x) W)
  (hdone:∀(D:Nat) (W:World),w.heap.size≤D→(J4 [] p).all R3=true→W.heap[b2]?=some (.cells #[.int .i64 0] 27 (0,0))→W.heap[D]?=some (.deferred (some []))→Below n0 w0 W→Q .normal { a with defers:={ target:=.collected D,args:=#[] }::a.defers } W)
  (hstop:∀(D:Nat) (W:World),w.heap.size≤D→(J4 [] p).all R3=false→W.heap[b2]?=some (.cells #[.int .i64 210] 27 (0,0))→W.heap[D]?=some (.deferred (some []))→Below n0 w0 W→Code.ret.wpIn Fence.wide 5 Tryz.prog Q { a with defers:={ target:=.collected D,args:=#[] }::a.defers } W) :
  (Code.rangeFunc g ps assign body).wpIn Fence.wide 5 Tryz.prog Q a w:=by
 refine wpIn_rangeFunc ?_
 intro fn hfn
 obtain ⟨rec,hrec⟩:∃rec:LoopState→Option Code→Loop,rec=fun st pe=>{ state:=st,pending:=pe,fn,tmps:=a.tmps,params:=ps,assign,body,defers:=w.heap.size }:=⟨_,rfl⟩
 obtain ⟨W1,hW1⟩:∃W1,(w.alloc (.deferred (some []))).alloc (.loop (rec .ready none))=W1:=⟨_,rfl⟩
 have old:∀k o,w.heap[k]?=some o→W1.heap[k]?=some o:=fun k o h=>by
  have hlt:=(Array.getElem?_eq_some_iff.1 h).1
  rw [←hW1]
  exact (Below.heap_alloc _ _ _ (by rw [World.size_alloc];omega)).trans ((Below.heap_alloc _ _ _ hlt).trans h)
 have hL1:W1.heap[w.heap.size+1]?=some (.loop (rec .ready none)):=by
  rw [←hW1];have:=World.alloc_heap_new (w.alloc (.deferred (some []))) (.loop (rec .ready none));rwa [World.size_alloc] at this
 have hK1:W1.heap[w.heap.size]?=some (.deferred (some [])):=by
  rw [←hW1];exact (Below.heap_alloc _ _ _ (by simp)).trans (World.alloc_heap_new w _)
 have hb1:Below n0 w0 W1:=by
  rw [←hW1];exact hb.trans (((Below.refl n0 w).alloc hlt.2.2 _).alloc (by simp;omega) _)
 refine ⟨w.heap.size+1,[{ target:=.collected w.heap.size,args:=#[] }],W1,{ target:=.fn (.func 194) #[.pointer (some ⟨bp,0,none⟩),.pointer (some ⟨bs,0,none⟩),.pointer (some ⟨bv,0,none⟩)],args:=#[.func (.yield (w.heap.size+1)) #[] #[]] },W1,194,
  #[.func (.yield (w.heap.size+1)) #[] #[],.pointer (some ⟨bp,0,none⟩),.pointer (some ⟨bs,0,none⟩),.pointer (some ⟨bv,0,none⟩)],W1,?_,?_,?_,?_,fun _=>by omega,?_⟩
 ·rw [←hW1,hrec];exact run_enterLoop_outer _ _ _ _ _
 ·simp only [resolve,hg]
  simp [go_sem]
 ·intro f' hf';trivial
 ·simp [invoke,go_sem]
 ·have hY:∀rest x W,RInv rec n0 w0 (w.heap.size+1) w.heap.size b2 bs bp bv rest W→YieldAt Fence.wide 3 Tryz.prog (w.heap.size+1) #[.string ⟨x.toArray⟩] W (fun e W'=>(R3 x=true∧e=.returned (.bool true)∧RInv rec n0 w0 (w.heap.size+1) w.heap.size b2 bs bp bv rest W')∨(R3 x=false∧e=.returned (.bool false)∧RFin rec n0 w0 (w.heap.size+1) w.heap.size b2 W')):=by
   intro rest x W hI
   have hy:=run_yield (P:=Tryz.prog) (args:=#[Value.string ⟨x.toArray⟩]) hI.l (by rw [hrec];exact hps.symm)
   rw [hrec] at hy
   refine ⟨fn,_,assign,body,hy,roundIn_of_wpIn hfn (hassign _ x W _ ⟨_,run_beginRound hI.l (by rw [hrec]),?_⟩)⟩
   have hltl:w.heap.size+1 < W.heap.size:=(Array.getElem?_eq_some_iff.1 hI.l).1
   obtain ⟨W2,hW2⟩:∃W2,W.putObj (w.heap.size+1) (.loop { rec .ready none with state:=.busy })=W2:=⟨_,rfl⟩
   rw [hW2]
   have oth:∀k,k≠w.heap.size+1→W2.heap[k]?=W.heap[k]?:=fun k hk=>by rw [←hW2];exact World.putObj_heap_other hk
   have hl2:W2.heap[w.heap.size+1]?=some (.loop { rec .ready none with state:=.busy }):=by rw [←hW2];exact World.putObj_heap_same hltl
   have hbB:∀(o:Obj) (X:World),Below n0 w0 X→w.heap.size+1 < X.heap.size→Below n0 w0 (X.putObj (w.heap.size+1) o):=fun o X hX hXs=>hX.grown (grownBy_putObj' X _ o) (by have:=hX.size;omega) (fun k e=>by cases e;omega)
   have hb2:Below n0 w0 W2:=by rw [←hW2];exact hbB _ _ hI.b hltl
   refine wpIn_mono (hbody _ x W2 ((oth _ (by omega)).trans hI.r)) ?_
   rintro e a3 W3 hp
   cases e with
   | normal =>
    obtain ⟨hok,rfl⟩:=hp
    refine ⟨_,_,run_endRound none hl2,.inl ⟨hok,rfl,?_⟩⟩
    have fin:∀k,k≠w.heap.size+1→(W3.putObj (w.heap.size+1) (.loop { rec .ready none with state:=.ready,pending:=none })).heap[k]?=W.heap[k]?:=fun k hk=>(World.putObj_heap_other hk).trans (oth k hk)
    have hsz:w.heap.size+1 < W3.heap.size:=(Array.getElem?_eq_some_iff.1 hl2).1
    have hbs:=(Array.getElem?_eq_some_iff.1 hs).1
    have hbp:=(Array.getElem?_eq_some_iff.1 hsp).1
    have hbv:=(Array.getElem?_eq_some_iff.1 hsv).1
    refine ⟨(fin _ (by omega)).trans hI.s,(fin _ (by omega)).trans hI.p,(fin _ (by omega)).trans hI.v,(fin _ (by omega)).trans hI.r,?_,(fin _ (by omega)).trans hI.d,hbB _ _ hb2 hsz⟩
    refine (World.putObj_heap_same hsz).trans ?_
    rw [hrec];rfl
   | ret =>
    obtain ⟨hok,rfl⟩:=hp
    have hl3:(W2.setCell ⟨b2,0,none⟩ (.int .i64 210)).heap[w.heap.size+1]?=some (.loop { rec .ready none with state:=.busy }):=(Below.heap_setCell W2 _ _ _ (by show w.heap.size+1≠b2;omega)).trans hl2
    have hsz:w.heap.size+1 < (W2.setCell ⟨b2,0,none⟩ (.int .i64 210)).heap.size:=(Array.getElem?_eq_some_iff.1 hl3).1
    refine ⟨_,_,run_endRound (some .ret) hl3,.inr ⟨hok,rfl,?_⟩⟩
    refine ⟨(World.putObj_heap_other (by omega)).trans (n4 ((oth _ (by omega)).trans hI.r)),?_,?_,hbB _ _ (hb2.setCell (p:=⟨b2,0,none⟩) hne.2.2.2.2 _) hsz⟩
    ·refine (World.putObj_heap_same hsz).trans ?_
     rw [hrec];rfl
    ·exact (World.putObj_heap_other (by omega)).trans ((Below.heap_setCell W2 _ _ _ (by show w.heap.size≠b2;omega)).trans ((oth _ (by omega)).trans hI.d))
   | _=>exact hp.elim
  refine (G41 ⟨hne.1,hne.2.1,hne.2.2.1,by omega,by omega,hne.2.2.2.1⟩ hIdx hY p hp W1 ⟨old _ _ hs,old _ _ hsp,old _ _ hsv,old _ _ hr,hL1,hK1,hb1⟩).mono ?_
  have hbE:∀(o:Obj) (X:World),Below n0 w0 X→w.heap.size+1 < X.heap.size→Below n0 w0 (X.putObj (w.heap.size+1) o):=fun o X hX hXs=>hX.grown (grownBy_putObj' X _ o) (by have:=hX.size;omega) (fun k e=>by cases e;omega)
  rintro e W2 ⟨⟨v,rfl⟩,(⟨hall,rest,hI⟩ | ⟨hall,hI⟩)⟩
  ·have hsz:w.heap.size+1 < W2.heap.size:=(Array.getElem?_eq_some_iff.1 hI.l).1
   refine ⟨none,_,by have:=run_endLoop (P:=Tryz.prog) hI.l (by rw [hrec];simp);rw [hrec] at this;exact this,?_⟩
   exact hdone _ _ (Nat.le_refl _) hall ((World.putObj_heap_other (by omega)).trans hI.r) ((World.putObj_heap_other (by omega)).trans hI.d) (hbE _ _ hI.b hsz)
  ·have hsz:w.heap.size+1 < W2.heap.size:=(Array.getElem?_eq_some_iff.1 hI.l).1
   refine ⟨some .ret,_,by have:=run_endLoop (P:=Tryz.prog) hI.l (by rw [hrec];simp);rw [hrec] at this;exact this,?_⟩
   exact hstop _ _ (Nat.le_refl _) hall ((World.putObj_heap_other (by omega)).trans hI.r) ((World.putObj_heap_other (by omega)).trans hI.d) (hbE _ _ hI.b hsz)
theorem G43 (w:World) (s p:ByteArray):CallsIn Fence.wide 3 Tryz.prog 179 #[.string s,.string p,.int .i64 0] w fun e w' =>
  e=.returned (.func (.func 194) #[] #[.pointer (some ⟨w.heap.size+1,0,none⟩),.pointer (some ⟨w.heap.size,0,none⟩),.pointer (some ⟨w.heap.size+1+1,0,none⟩)]) ∧
  w'=((w.alloc (.cells #[.string s] 9)).alloc (.cells #[.string p] 9)).alloc (.cells #[.int .i64 0] 3):=by
 have hmf:∀(fn:Fn) (first cap:Array Value) (w:World),(Instr.makeFunc fn first cap).run Tryz.prog w=.ok (.func fn first cap) w:=fun _ _ _ _=>rfl
 refine callsIn_of_wp Tryz.func179 rfl trivial ?_ rfl
 simp only [Tryz.ntmps179,List.size_toArray,J64,J68,Nat.reduceAdd,Nat.reduceSub,Array.replicate_succ,Array.replicate_zero,List.push_toArray,List.append_toArray,J93,J82]
 gi_wp2
 go_ret
 exact ⟨rfl,rfl⟩
theorem G44 (w:World) (s p:ByteArray):CallsIn Fence.wide 4 Tryz.prog 154 #[.string s,.string p] w fun e w' =>
  e=.returned (.func (.func 194) #[] #[.pointer (some ⟨w.heap.size+1,0,none⟩),.pointer (some ⟨w.heap.size,0,none⟩),.pointer (some ⟨w.heap.size+1+1,0,none⟩)]) ∧
  w'=((w.alloc (.cells #[.string s] 9)).alloc (.cells #[.string p] 9)).alloc (.cells #[.int .i64 0] 3):=by
 refine callsIn_of_wp Tryz.func154 rfl trivial ?_ rfl
 simp only [Tryz.ntmps154,List.size_toArray,J64,J68,Nat.reduceAdd,Nat.reduceSub,Array.replicate_succ,Array.replicate_zero,List.push_toArray,List.append_toArray,J93,J82]
 gi_wp2_with (refine ⟨trivial,?_⟩;gi_at_call 179;refine (G43 _ _ _).mono ?_;rintro e w' ⟨rfl,rfl⟩)
 go_ret
 exact ⟨rfl,rfl⟩
theorem C56 {tmps:Array Value} {b:Nat} {v:Value} {W:World} (ht:tmps[2]?.getD undef=.pointer (some ⟨b,0,none⟩)) (hc:W.heap[b]?=some (.cells #[v] 27 (0,0))):(results Tryz.f133 tmps).run Tryz.prog W=.ok v W:=by
 have h1:=(X0 hc).1
 simp [results,Tryz.results133,go_sem,h1,ht]
theorem F76 (p:Str) (hp:p.length≤1073741824)
  (hIdx:∀(s:Str) (w:World),Calls Tryz.prog 118 #[.string ⟨s.toArray⟩,.string ⟨#[47]⟩] w (fun e w'=>e=.returned (.int .i64 (Lib.indexByte s 47))∧w'=w))
  (hCon:∀(s:Str) (w:World),Calls Tryz.prog 153 #[.string ⟨s.toArray⟩,.string ⟨#[0]⟩] w (fun e w'=>e=.returned (.bool (decide (0≤Lib.indexByte s 0)))∧w'=w)) (w:World) :
  CallsIn Fence.wide 5 Tryz.prog 133 #[.string ⟨p.toArray⟩] w (fun e w'=>e=.returned (.int .i64 (if p.length > 200∨0≤Lib.indexByte p 0 then 210 else if (J4 [] p).all R3=true then 0 else 210))∧Below w.heap.size w w'):=by
 refine callsIn_of_wp_marks Tryz.func133 rfl trivial ?_ rfl
 simp only [Tryz.ntmps133,List.size_toArray,J64,J68,Nat.reduceAdd,Nat.reduceSub,Array.replicate_succ,Array.replicate_zero,List.push_toArray,List.append_toArray,J93,J82]
 have hnew:=X0 (World.alloc_heap_new w (.cells #[.int .i64 0] 27))
 have hB:Below w.heap.size w (w.alloc (.cells #[.int .i64 0] 27)):=(Below.refl _ w).alloc (Nat.le_refl _) _
 by_cases h1:200 < p.length
 ·rw [if_pos (.inl h1)]
  gi_wp2_with (refine ⟨trivial,?_⟩)
  exact ⟨_,C56 rfl (World.alloc_heap_new w _),rfl,(Below.refl _ w).alloc (Nat.le_refl _) _⟩
 by_cases h2:0≤Lib.indexByte p 0
 ·rw [if_pos (.inr h2)]
  gi_wp2_with (refine ⟨trivial,?_⟩;gi_at_call 153;refine (callsIn_wide.2 (hCon p _)).mono ?_;rintro e w' ⟨rfl,rfl⟩)
  exact ⟨_,C56 rfl (World.alloc_heap_new w _),rfl,(Below.refl _ w).alloc (Nat.le_refl _) _⟩
 ·rw [if_neg (by omega)]
  obtain ⟨r,hr0⟩:∃r:Int,(if (J4 [] p).all R3=true then 0 else 210:Int)=r:=⟨_,rfl⟩
  rw [hr0]
  gi_wp2_with (first | (refine ⟨trivial,?_⟩;gi_at_call 153;refine (callsIn_wide.2 (hCon p _)).mono ?_;rintro e w' ⟨rfl,rfl⟩) | (refine ⟨trivial,?_⟩;gi_at_call 154;refine (G44 _ _ _).mono ?_;rintro e w' ⟨rfl,rfl⟩))
  obtain ⟨W0,hW0⟩:∃W0,(((w.alloc (.cells #[.int .i64 0] 27)).alloc (.cells #[.string ⟨p.toArray⟩] 9)).alloc (.cells #[.string ⟨#[47]⟩] 9)).alloc (.cells #[.int .i64 0] 3)=W0:=⟨_,rfl⟩
  have hsz:W0.heap.size=w.heap.size+4:=by rw [←hW0];simp
  have g0:W0.heap[w.heap.size]?=some (.cells #[.int .i64 0] 27 (0,0)):=by
   rw [←hW0]
   refine (Below.heap_alloc _ _ _ (by simp;omega)).trans ((Below.heap_alloc _ _ _ (by simp;omega)).trans ((Below.heap_alloc _ _ _ (by simp)).trans (World.alloc_heap_new w _)))
  have g1:W0.heap[w.heap.size+1]?=some (.cells #[.string ⟨p.toArray⟩] 9 (0,0)):=by
   rw [←hW0]
   refine (Below.heap_alloc _ _ _ (by simp)).trans ((Below.heap_alloc _ _ _ (by simp)).trans ?_)
   have:=World.alloc_heap_new (w.alloc (.cells #[.int .i64 0] 27)) (.cells #[.string ⟨p.toArray⟩] 9)
   rwa [World.size_alloc] at this
  have g2:W0.heap[w.heap.size+1+1]?=some (.cells #[.string ⟨#[47]⟩] 9 (0,0)):=by
   rw [←hW0]
   refine (Below.heap_alloc _ _ _ (by simp)).trans ?_
   have:=World.alloc_heap_new ((w.alloc (.cells #[.int .i64 0] 27)).alloc (.cells #[.string ⟨p.toArray⟩] 9)) (.cells #[.string ⟨#[47]⟩] 9)
   simp only [World.size_alloc] at this
   exact this
  have g3:W0.heap[w.heap.size+1+1+1]?=some (.cells #[.int .i64 0] 3 (0,0)):=by
   rw [←hW0]
   have:=World.alloc_heap_new (((w.alloc (.cells #[.int .i64 0] 27)).alloc (.cells #[.string ⟨p.toArray⟩] 9)).alloc (.cells #[.string ⟨#[47]⟩] 9)) (.cells #[.int .i64 0] 3)
   simp only [World.size_alloc] at this
   exact this
  have hb0:Below w.heap.size w W0:=by
   rw [←hW0]
   exact (((hB.alloc (by simp) _).alloc (by simp;omega) _).alloc (by simp;omega) _)
  rw [hW0]
  refine G42 (b2:=w.heap.size) (bs:=w.heap.size+1) (bp:=w.heap.size+1+1) (bv:=w.heap.size+1+1+1) (n0:=w.heap.size) (w0:=w) (p:=p) hp (by omega) (by omega) rfl hIdx rfl g1 g2 g3 g0 hb0 (fun x=>{ tmps:=#[.string ⟨p.toArray⟩,undef,.pointer (some ⟨w.heap.size,0,none⟩),.string ⟨x.toArray⟩,.string ⟨p.toArray⟩,.int .i64 p.length,.bool (decide (200 < (p.length:Int))),.bool (decide (200 < (p.length:Int))),.string ⟨p.toArray⟩,.bool (decide (0≤Lib.indexByte p 0)),.bool (decide (200 < (p.length:Int))||decide (0≤Lib.indexByte p 0)),.string ⟨p.toArray⟩,.func (.func 194) #[] #[.pointer (some ⟨w.heap.size+1+1,0,none⟩),.pointer (some ⟨w.heap.size+1,0,none⟩),.pointer (some ⟨w.heap.size+1+1+1,0,none⟩)],.string ⟨x.toArray⟩,undef,undef,undef,undef,undef,undef,undef,undef,undef,undef],defers:=[] }) ?assign ?body ?done ?stop
  case assign =>
   intro l x W K hK
   gi_wp2
   exact hK
  case body =>
   intro l x W hr
   obtain ⟨hc1,hc2⟩:=X0 hr
   by_cases e1:x=[]
   ·subst e1
    gi_wp2
    exact ⟨rfl,rfl⟩
   by_cases e2:x=[46]
   ·subst e2
    gi_wp2
    exact ⟨rfl,rfl⟩
   by_cases e3:x=[46,46]
   ·subst e3
    gi_wp2
    exact ⟨rfl,rfl⟩
   have f1:x.isEmpty=false:=by cases x with | nil=>exact absurd rfl e1 | cons _ _=>rfl
   have f2:(x == [46])=false:=by simpa using e2
   have f3:(x == [46,46])=false:=by simpa using e3
   have hok:R3 x=true:=decide_eq_true ⟨e1,e2,e3⟩
   clear e1 e2 e3
   gi_wp2
   all_goals exact ⟨hok,rfl⟩
  case done =>
   intro D W hD hall hr hK hb
   obtain ⟨hc1,hc2⟩:=X0 hr
   rw [if_pos hall] at hr0
   subst hr0
   clear hall
   gi_wp2
   have hK2:(W.setCell ⟨w.heap.size,0,none⟩ (.int .i64 0)).heap[D]?=some (.deferred (some [])):=(Below.heap_setCell W _ _ _ (by show D≠w.heap.size;omega)).trans hK
   refine ⟨by simp,.inl ⟨_,_,rfl,run_takeDeferred hK2,?_⟩⟩
   refine ⟨_,C56 rfl ((World.putObj_heap_other (by omega)).trans (n4 hr)),rfl,?_⟩
   have hb3:=hb.setCell (p:=⟨w.heap.size,0,none⟩) (Nat.le_refl _) (.int .i64 0)
   exact hb3.grown (grownBy_putObj' _ _ _) (by have:=hb3.size;omega) (fun k e=>by cases e;omega)
  case stop =>
   intro D W hD hall hr hK hb
   rw [hall,if_neg (by decide)] at hr0
   subst hr0
   clear hall
   gi_wp2
   refine ⟨by simp,.inl ⟨_,_,rfl,run_takeDeferred hK,?_⟩⟩
   refine ⟨_,C56 rfl ((World.putObj_heap_other (by omega)).trans hr),rfl,?_⟩
   exact hb.grown (grownBy_putObj' W _ _) (by have:=hb.size;omega) (fun k e=>by cases e;omega)
theorem E92 (p:Str) (hp:p.length≤1073741824):FnOk Tryz.prog 133 [M1 p] (fun rs=>rs=[G1 (d5 p)]) :=
 J46 (xs:=[.string ⟨p.toArray⟩]) ⟨_,rfl,rfl,rfl⟩ rfl fun w hg=>by
  have h:=callsIn_wide.1 (F76 p hp (fun s w=>by simpa using Tryz.strings_Index_one ⟨s.toArray⟩ 47 w) (fun s w=>by simpa using Tryz.strings_Contains_one ⟨s.toArray⟩ 0 w) w)
  refine h.mono ?_
  rintro e w' ⟨rfl,hb⟩
  refine ⟨?_,hb⟩
  rw [F96]
  have hc:p.contains 0=true↔0≤Lib.indexByte p 0:=by rw [C09,List.contains_iff_mem]
  simp only [hc]
set_option maxHeartbeats 1000000
structure FewF (l:List File):Prop where
 len:l.length≤1073741824
 path:∀f∈l,f.Path.length≤1073741824
 blob:∀f∈l,f.Blob.length≤16777216
theorem H24 (f:File) (hp:f.Path.length≤1073741824):FnOk Tryz.prog 132 [I12 f] (fun rs=>rs=[J2 (decide (d5 f.Path≠0))]):=by
 refine FnOk.intro Tryz.func132 (by decide) J J J J ?_
 refine k2 (A2 (D2 (l4 1 J J J) J (A6 J J (A4 ?_))));refine k1 (k2 (A2 (A5 (A7 J) J (G3 J J J J (D8 (E92 f.Path hp) J J J ?_)))));rintro _ rfl;refine A5 (T9 J J) J (A6 J J (A4 ?_));refine k1 (k10 ?_)
 exact B7 (I4 rfl rfl rfl) rfl
theorem H25 (f:File) (hp:f.Blob.length≤16777216):FnOk Tryz.prog 135 [I12 f] (fun rs=>rs=[J2 (decide (K9 f.Blob≠0))]):=by
 refine FnOk.intro Tryz.func135 (by decide) J J J J ?_
 refine k2 (A2 (D2 (l4 1 J J J) J (A6 J J (A4 ?_))));refine k1 (k2 (A2 (A5 (A7 J) J (G3 J J J J (D8 (F20 f.Blob (by omega)) J J J ?_)))));rintro _ rfl;refine A5 (T9 J J) J (A6 J J (A4 ?_));refine k1 (k10 ?_)
 exact B7 (I4 rfl rfl rfl) rfl
theorem C20 (l:List File) (h:FewF l):FnOk Tryz.prog 98 [n6 l] (fun rs=>rs=[G1 (G5 l)]):=by
 have hl:=h.len
 refine FnOk.intro Tryz.func98 (by decide) J J J J ?_
 refine k2 (A2 (A6 J J (A4 ?_)));refine k1 (k2 (k3 (k2 (A2 (A3 J J (F3 J J (A5 (R8 J J) J (A6 J J (A4 ?_)))))))));refine k1 ?_;refine B0 rfl (fun ht=>?_) (fun ht=>?_)
 ·have h1:(200:Int) < l.length:=A0 ht
  refine k2 (A2 (A6 J J (A4 ?_)));refine k1 (k10 (k12 (k11 ?_)))
  exact B7 (rs:=[G1 1]) (I4 rfl rfl rfl) (by unfold G5;rw [if_pos (by omega)])
 have h1:¬(200:Int) < l.length:=A1 ht
 refine k2 (A2 (A3 J J (D8 (B24 132 (fun f=>decide (d5 f.Path≠0)) l hl (fun f hf=>H24 f (h.path f hf))) J J J ?_)));rintro _ rfl;refine A6 J J (A4 ?_);refine k1 ?_;refine B0 rfl (fun ht=>?_) (fun ht=>?_)
 ·refine k2 (A2 (A6 J J (A4 ?_)));refine k1 (k10 (k12 (k11 ?_)))
  exact B7 (rs:=[G1 210]) (I4 rfl rfl rfl) (by unfold G5;rw [if_neg (by omega),if_pos ht])
 have h2:=ht
 refine k2 (A2 (A3 J J (D8 (G37 l hl h.path) J J J ?_)));rintro _ rfl;refine A5 (U0 J) J (A6 J J (A4 ?_));refine k1 ?_;refine B0 rfl (fun ht=>?_) (fun ht=>?_)
 ·refine k2 (A2 (A6 J J (A4 ?_)));refine k1 (k10 (k12 (k11 ?_)))
  exact B7 (rs:=[G1 211]) (I4 rfl rfl rfl) (by unfold G5;rw [if_neg (by omega),if_neg (by rw [h2];decide),if_pos (by simpa using ht)])
 have h3:Y3 l=true:=by simpa using ht
 refine k2 (A2 (A3 J J (D8 (B24 135 (fun f=>decide (K9 f.Blob≠0)) l hl (fun f hf=>H25 f (h.blob f hf))) J J J ?_)));rintro _ rfl;refine A6 J J (A4 ?_);refine k1 ?_;refine B0 rfl (fun ht=>?_) (fun ht=>?_)
 ·refine k2 (A2 (A6 J J (A4 ?_)));refine k1 (k10 (k12 (k11 ?_)))
  exact B7 (rs:=[G1 1]) (I4 rfl rfl rfl) (by unfold G5;rw [if_neg (by omega),if_neg (by rw [h2];decide),if_neg (by rw [h3];decide),if_pos ht])
 ·refine k5 (k2 (A2 (A6 J J (A4 ?_))));refine k1 (k10 ?_)
  exact B7 (rs:=[G1 0]) (I4 rfl rfl rfl) (by unfold G5;rw [if_neg (by omega),if_neg (by rw [h2];decide),if_neg (by rw [h3];decide),if_neg (by rw [ht];decide)])
theorem J03 (a b:List File) (ha:FewF a) (hb:FewF b):FnOk Tryz.prog 119 [n6 a,n6 b] (fun rs=>rs=[G1 (if G5 a≠0 then G5 a else G5 b)]):=by
 refine FnOk.intro Tryz.func119 (by decide) J J J J ?_
 refine k2 (A2 (A6 J J (A4 ?_)));refine k1 (k2 (k2 (A2 (A3 J J (D8 (C20 a ha) J J J ?_)))));rintro _ rfl;refine A6 J J (A4 ?_);refine k1 (k2 (A2 (A3 J J (A5 (T9 J J) J (A4 ?_)))));refine k1 ?_;refine B0 rfl (fun ht=>?_) (fun ht=>?_)
 ·have h1:G5 a≠0:=A0 ht
  refine k2 (A2 (A3 J J (A6 J J (A4 ?_))));refine k1 (k10 (k11 ?_))
  exact B7 (rs:=[G1 (G5 a)]) (I4 rfl rfl rfl) (by rw [if_pos h1])
 ·have h1:¬G5 a≠0:=A1 ht
  refine k5 (k1 (k2 (A2 (A3 J J (D8 (C20 b hb) J J J ?_)))));rintro _ rfl;refine A6 J J (A4 ?_);refine k1 (k10 ?_)
  exact B7 (rs:=[G1 (G5 b)]) (I4 rfl rfl rfl) (by rw [if_neg h1])
theorem G45 (l:List File) (p:Str) (hl:l.length≤1073741824):FnOk Tryz.prog 55 [n6 l,M1 p] (fun rs=>rs=[M1 ((K3 l p).getD []),J2 (K3 l p).isSome]):=by
 refine FnOk.intro Tryz.func55 (by decide) J J J J ?_
 refine k2 (A2 (A6 J J (A6 J J (A4 ?_))));refine k1 (k2 (k2 (A2 (A3 J J (F3 J J (A3 J J (A4 ?_)))))));refine k1 (k3 (D6 (X:=Nat) (fun i=>([(1,V5 p),(8,D5 File 2 y1 l),(9,C3 l.length),(10,C3 i)],[])) (fun i=>i≤l.length∧K3 l p=K3 (l.drop i) p) (fun i=>l.length - i) 0 ⟨Nat.zero_le _,rfl⟩ (Sees.of ⟨le1 rfl,le1 rfl,le1 rfl,le1 rfl,trivial⟩ trivial) ?_))
 rintro i ⟨hi,hf⟩
 dsimp only at hi hf ⊢
 refine k2 (A2 (G7 J J J (A4 ?_)));refine k1 (k2 ?_);refine B0 rfl (fun ht=>?_) (fun ht=>?_)
 rotate_left
 ·have h1:i=l.length:=by have h1:=A1 ht;(try dsimp only at h1);omega
  rw [J78 (by omega)] at hf
  rw [hf]
  refine k6 (k2 (A2 (A6 J J (A6 J J (A4 ?_)))));refine k1 (k10 ?_)
  exact B7 (rs:=[M1 [],J2 false]) (l9 rfl rfl rfl rfl rfl) rfl
 have hlt:i < l.length:=by have h1:=A0 ht;(try dsimp only at h1);omega
 obtain ⟨f,hfe⟩:∃f,f=l[i]:=⟨_,rfl⟩
 have hv:l[i]?=some f:=by rw [hfe];simp [hlt]
 rw [J71 hlt,←hfe] at hf
 have hfs:K3 (f::l.drop (i+1)) p=if f.Path=p then some f.Blob else K3 (l.drop (i+1)) p:=rfl
 rw [hfs] at hf
 refine k5 (k1 (k2 (k3 (k2 (A2 (A5 (B3 J (.pure _ _ _ _) J (by omega) hv) J (A5 (E3 J J) J (D2 (I9 7 J) J (H7 (C4 TySz.out J J J J J J) (A4 ?_))))))))));refine k1 (k2 (A2 (A5 (A7 J) J (G3 J J J J (A3 J J (A5 (A90 J J) J (A4 ?_)))))));refine k1 ?_;refine B0 rfl (fun ht=>?_) (fun ht=>?_)
 ·have h1:f.Path=p:=A0 ht
  rw [if_pos h1] at hf
  rw [hf]
  refine k2 (A2 (A5 (A7 J) J (G3 J J J J (A6 J J (A6 J J (A4 ?_))))));refine k1 (k10 (k12 (k11 (k11 (k12 (k11 ?_))))))
  exact B7 (rs:=[M1 f.Blob,J2 true]) (l9 rfl rfl rfl rfl rfl) rfl
 ·have h1:¬f.Path=p:=A1 ht
  rw [if_neg h1] at hf
  refine k5 (k4 (k1 (A2 (E4 J J J (A3 J J (A4 ?_))))));refine k1 ?_
  exact ⟨i+1,⟨hlt,hf⟩,by omega,(Sees.of ⟨le1 rfl,le1 rfl,le1 rfl,le1 rfl,trivial⟩ trivial)⟩
end Go.Proofs.YtkahafmcmiiolaaGreatDoor
