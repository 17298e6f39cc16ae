/- Walks of the program's functions. -/
import Derived.Test.YtgejaedjnbjpoaaGreatDoorTy
import Derived.Test.YtgejaedjnbjpoaaGreatDoorFs
import Derived.Test.YtgejaedjnbjpoaaGreatDoorSh
namespace Go.Proofs.YtgejaedjnbjpoaaGreatDoor
open Go Go.AL
set_option maxRecDepth 100000
theorem B86 (p:Int):0≤IntKind.u64.wrap p:=by simp [IntKind.wrap,IntKind.signed,IntKind.bits];omega
theorem F92 (s:Str) (hs:s.length≤1099511627776):FnOk Tryz.prog 127 [F3 s] (fun rs=>rs=[E0 (ended s)]):=by
 refine FnOk.intro Tryz.func127 (by decide) Z Z Z Z ?_
 refine k2 ?_
 refine A3 (A2 (A5 Z Z) Z (A6 ?_))
 refine k1 (k2 ?_)
 have hl:s≠[]→s[((s.length:Int) - 1).toNat]?=some (s.getLastD 0):=by
  intro h
  have h1:0 < s.length:=List.length_pos_iff.2 h
  have h2:((s.length:Int) - 1).toNat=s.length - 1:=by omega
  rw [h2,←List.getLast?_eq_getElem?,List.getLast?_eq_some_getLast h,List.getLastD_eq_getLast?,List.getLast?_eq_some_getLast h]
  rfl
 refine A3 (A2 (A4 Z Z) Z (A2 (x9 Z Z) Z (A2 (A4 Z Z) Z (A9 Z Z Z Z (fun hg=>by rw [hg];exact A4 Z Z) ?_))));refine A9 Z Z Z Z (fun hg=>by rw [hg];exact A4 Z Z) ?_;refine A9 Z Z Z Z (fun hg=>by rw [hg];exact E4 Z) ?_;refine A9 Z Z Z Z (fun hg=>by have hq:=hg;(try simp at hq);rw [hg];exact Q7 Z Z (by omega)) ?_;refine A9 Z Z Z Z (fun hg=>by have hq:=hg;(try simp at hq);have h1:=List.length_pos_iff.2 hq;rw [hg];exact I6 Z Z (by omega) (hl hq)) ?_;refine A9 Z Z Z Z (fun hg=>by rw [hg];exact F6 Z Z) ?_;refine A2 (B4 Z (fun h=>by first | rfl | (rw [h];rfl)) (fun h=>by first | rfl | (rw [h];rfl))) Z ?_;refine A2 (A5 Z Z) Z (A6 ?_)
 refine k1 (k10 ?_)
 refine B5 (F2 Z Z Z) ?_
 rw [I47]
theorem C22 (b:Str) (hb:b.length≤536870912):FnOk Tryz.prog 61 [F3 b] (fun rs=>rs=[j2 (C8 b)]):=by
 refine FnOk.intro Tryz.func61 (by decide) Z Z Z Z ?_
 refine k2 ?_
 refine A3 (A2 (A5 Z Z) Z (A6 ?_))
 refine k1 (k2 ?_)
 refine A3 (C3 (V4 3 _ K1 Z) Z (A6 ?_))
 refine k1 (k2 ?_)
 refine A3 (A2 (A5 Z Z) Z (A6 ?_))
 refine k1 (k2 (k2 ?_))
 refine A3 (A2 (A5 Z Z) Z (A6 ?_))
 refine k1 (k3 ?_)
 refine D3 (X:=Nat × Nat × List Str) (fun x=>([(0,H5 b),(3,.s (.one (.buf 3 Str 1 K1 x.2.2))),(4,C2 x.2.1),(5,C2 x.1)],[(3,.spare x.2.2.length 1 9)]))
  (fun x=>x.1≤b.length∧x.2.1≤x.1∧x.2.2.length≤x.1∧(x.1=b.length→x.2.1=x.1)∧x.2.2++G1 ((b.drop x.2.1).take (x.1 - x.2.1)) (b.drop x.1)=C8 b) (fun x=>b.length - x.1) (0,0,[]) (by simp [C8]) ?_ ?_
 ·exact I72 ⟨⟨_,rfl,.same _⟩,⟨_,rfl,.same _⟩,⟨_,rfl,.same _⟩,⟨_,rfl,.same _⟩,trivial⟩ ⟨rfl,trivial⟩
 ·rintro ⟨i,from',out⟩ ⟨hi,hf,ho,he,hp⟩
  dsimp only at hi hf ho he hp ⊢
  refine k2 (k2 ?_)
  refine A3 (A2 (A4 Z Z) Z (A2 (A4 Z Z) Z (A2 (E4 Z) Z (A2 (D6 Z Z) Z (A6 ?_)))))
  refine k1 ?_
  refine B1 rfl (fun ht=>?_) (fun ht=>?_)
  ·have hlt:i < b.length:=by simpa using ht
   have hv:b[i]?=some b[i]:=by simp [hlt]
   refine k5 (k1 (k2 (k3 (k2 ?_))))
   refine A3 (A2 (A4 Z Z) Z (A2 (A4 Z Z) Z (A2 (I6 Z Z (by omega) hv) Z (A2 (F6 Z Z) Z (A2 (A4 Z Z) Z (A9 Z Z Z Z (fun hg=>by rw [hg];exact A4 Z Z) ?_))))));refine A9 Z Z Z Z (fun hg=>by have hq:=hg;(try simp at hq);rw [hg];exact C1 Z Z (by omega)) ?_;refine A9 Z Z Z Z (fun hg=>by rw [hg];exact A4 Z Z) ?_;refine A9 Z Z Z Z (fun hg=>by rw [hg];exact E4 Z) ?_;refine A9 Z Z Z Z (fun hg=>by rw [hg];exact F6 Z Z) ?_;refine A2 (B4 Z (fun h=>by first | rfl | (rw [h];rfl)) (fun h=>by first | rfl | (rw [h];rfl))) Z ?_;refine A6 ?_
   refine k1 ?_
   refine B1 rfl (fun ht2=>?_) (fun ht2=>?_)
   ·refine k2 ?_
    refine A3 (A2 (A4 Z Z) Z (A2 (A4 Z Z) Z (A2 (A4 Z Z) Z (A2 (A4 Z Z) Z (A2 (C1 Z Z (by omega)) Z (A2 (W6 Z Z Z (by omega) (by omega) (by omega)) Z (A2 (C9 (c:=K1) (ys:=[_]) (E1 Z Z Z Z F4) Z Z Z) Z (C3 (G7 Z Z Z (.pure _ _ _ _) (by simp;omega) Z) Z (A2 (A5 Z Z) Z (A6 ?_))))))))))
    refine k1 ?_
    refine A3 (A2 (A4 Z Z) Z (A2 (C1 Z Z (by omega)) Z (A2 (A5 Z Z) Z (A6 ?_))))
    refine k4 (k1 ?_)
    refine A3 (A2 (A4 Z Z) Z (A2 (C1 Z Z (by omega)) Z (A2 (A5 Z Z) Z (A6 ?_))))
    refine k1 ?_
    refine ⟨(i+1,i+1,_),⟨?_,?_,?_,?_,?_⟩,?_,I72 ⟨⟨_,rfl,.same _⟩,⟨_,rfl,.same _⟩,⟨_,rfl,.same _⟩,⟨_,rfl,.same _⟩,trivial⟩ ⟨rfl,trivial⟩⟩
    all_goals dsimp only
    ·omega
    ·omega
    ·simp;omega
    ·omega
    ·have hc:b[i]=10∨i+1=b.length:=by
      simp only [F02] at ht2
      by_cases h:b[i]=10
      ·exact .inl h
      ·simp [h] at ht2;exact .inr (by omega)
     rw [G94,J09,J52,List.take_zero,←F03 b from' i hf hlt,J13,←hp,J07 hlt,U7]
     rcases hc with h | h
     ·rw [if_pos h];rfl
     ·have hd:b.drop (i+1)=[]:=J11 (by omega)
      rw [hd]
      split
      ·rfl
      ·rw [show G1 ([]:Str) []=[] from rfl,F52 _ (by simp)];simp
    ·omega
   ·refine k5 (k4 (k1 ?_))
    refine A3 (A2 (A4 Z Z) Z (A2 (C1 Z Z (by omega)) Z (A2 (A5 Z Z) Z (A6 ?_))))
    refine k1 ?_
    refine ⟨(i+1,from',out),⟨?_,?_,?_,?_,?_⟩,?_,I72 ⟨⟨_,rfl,.same _⟩,⟨_,rfl,.same _⟩,⟨_,rfl,.same _⟩,⟨_,rfl,.same _⟩,trivial⟩ ⟨rfl,trivial⟩⟩
    all_goals dsimp only
    ·omega
    ·omega
    ·omega
    ·intro h
     simp [show (i:Int)+1=(b.length:Int) by omega] at ht2
    ·have hc:b[i]≠10:=fun h=>by simp [h] at ht2
     rw [←F03 b from' i hf hlt,←hp,J07 hlt,U7,if_neg hc]
    ·omega
  ·refine k6 (k2 ?_)
   refine A3 (A2 (A4 Z Z) Z (A2 (A5 Z Z) Z (A6 ?_)))
   refine k1 (k10 ?_)
   refine B5 (F2 Z Z Z) ?_
   have hi':i=b.length:=by simp at ht;omega
   subst hi'
   have:=he rfl
   subst this
   rw [J52,List.take_zero,J11 (Nat.le_refl _)] at hp
   rw [←hp];simp [G1]
theorem F93 (b:Str) (hb:b.length≤1099511627776):FnOk Tryz.prog 103 [F3 b] (fun rs=>rs=[E6 (C27 b)]):=by
 refine FnOk.intro Tryz.func103 (by decide) Z Z Z Z ?_
 refine k2 ?_
 refine A3 (A2 (A5 Z Z) Z (A6 ?_))
 refine k1 (k2 (k2 ?_))
 refine A3 (A2 (A4 Z Z) Z (A2 (E4 Z) Z (A2 (N2 Z Z) Z (A2 (A4 Z Z) Z (A9 Z Z Z Z (fun hg=>by rw [hg];exact A4 Z Z) ?_)))));refine A9 Z Z Z Z (fun hg=>by have hq:=hg;(try simp at hq);rw [hg];exact G9 (C22 b (by omega)) Z Z) ?_;refine A9 Z Z Z Z (fun hg=>by rw [hg];exact F1 Z (.pure _ _ _ _)) ?_;refine A9 Z Z Z Z (fun hg=>by rw [hg];exact N2 Z Z) ?_;refine A2 (B4 Z (fun h=>by first | rfl | (rw [h];rfl)) (fun h=>by first | rfl | (rw [h];rfl))) Z ?_;refine A6 ?_
 refine k1 ?_
 refine B1 rfl (fun ht=>?_) (fun ht=>?_)
 ·have h:=A0 (or_pick.symm.trans ht)
  refine k2 ?_
  refine A3 (A2 (A5 Z Z) Z (A6 ?_))
  refine k1 (k10 (k11 ?_))
  exact B5 (F2 rfl rfl rfl) (by rw [C27,if_pos (by omega)])
 ·have h:=A1 (or_pick.symm.trans ht)
  refine k5 (k1 (k2 ?_))
  refine A3 (A2 (A5 Z Z) Z (A6 ?_))
  refine k1 (k10 ?_)
  exact B5 (F2 rfl rfl rfl) (by rw [C27,if_neg (by omega)])
theorem list_ok (l:List Str) (hl:∀s∈l,s.length≤1099511627776):FnOk Tryz.prog 63 [j2 l] (fun rs=>rs=[E0 (Y4 l)]):=by
 refine FnOk.intro Tryz.func63 (by decide) Z Z Z Z ?_
 refine A14 (t:=0) rfl (.pure _ _ _ _) fun hlen=>?_
 refine k2 ?_
 refine A3 (A2 (A5 Z Z) Z (A6 ?_))
 refine k1 (k2 (k2 ?_))
 refine A3 (A2 (A5 Z Z) Z (A6 ?_))
 refine k1 (k3 ?_)
 refine D3 (X:=Nat) (fun i=>([(0,D1 Str 1 K1 l),(3,C2 i)],[])) (fun i=>i≤l.length∧Y4 l=Y4 (l.drop i)) (fun i=>l.length - i) 0 (by simp) (I72 ⟨le1 rfl,le1 rfl,trivial⟩ trivial) ?_
 rintro i ⟨hi,hp⟩
 dsimp only at hi hp ⊢
 refine k2 (k2 ?_)
 refine A3 (A2 (A4 Z Z) Z (A2 (A4 Z Z) Z (A2 (F1 Z (.pure _ _ _ _)) Z (A2 (D6 Z Z) Z (A6 ?_)))))
 refine k1 ?_
 refine B1 rfl (fun ht=>?_) (fun ht=>?_)
 ·have hlt:i < l.length:=by simpa using ht
  have hv:l[i]?=some l[i]:=by simp [hlt]
  have hs:=hl l[i] (J19 hlt)
  rw [J07 hlt] at hp
  refine k5 (k1 (k2 (k3 (k2 (k2 ?_)))))
  refine A3 (A2 (A5 Z Z) Z (A6 ?_))
  refine k1 (k3 ?_)
  refine D3 (X:=Nat) (fun k=>([(0,D1 Str 1 K1 l),(3,C2 i),(4,C2 k)],[])) (fun k=>k≤l[i].length∧I0 l[i]=((l[i].dropLast.drop k).all (·≠10)&&l[i] != [])) (fun k=>l[i].length - k) 0 (by simp [I0]) (I72 ⟨le1 rfl,le1 rfl,le1 rfl,trivial⟩ trivial) ?_
  intro k hk
  dsimp only at hk ⊢
  refine k2 (k2 ?_)
  refine A3 (A2 (A4 Z Z) Z (A2 (C1 Z Z (by omega)) Z (A2 (A4 Z Z) Z (A2 (A4 Z Z) Z (A2 (B3 Z (.pure _ _ _ _) Z (by omega) hv) Z (A2 (B6 Z Z) Z (A2 (E4 Z) Z (A2 (D6 Z Z) Z (A6 ?_)))))))))
  refine k1 ?_
  refine B1 rfl (fun ht=>?_) (fun ht=>?_)
  ·have hk2:k+1 < l[i].length:=by have:=A0 ht;omega
   have hvk:l[i][k]?=some (l[i][k]'(by omega)):=J03 (by omega)
   have hd:l[i].dropLast.drop k=l[i][k]'(by omega)::l[i].dropLast.drop (k+1):=by
    rw [J07 (by simp;omega)];simp
   rw [hd,List.all_cons] at hk
   refine k5 (k1 (k2 (k3 (k2 ?_))))
   refine A3 (A2 (A4 Z Z) Z (A2 (A4 Z Z) Z (A2 (B3 Z (.pure _ _ _ _) Z (by omega) hv) Z (A2 (B6 Z Z) Z (A2 (A4 Z Z) Z (A2 (I6 Z Z (by omega) hvk) Z (A2 (F6 Z Z) Z (A6 ?_))))))))
   refine k1 ?_
   refine B1 rfl (fun ht=>?_) (fun ht=>?_)
   ·have h10:=(F02 _).1 (A0 ht)
    refine k2 ?_
    refine A3 (A2 (A5 Z Z) Z (A6 ?_))
    refine k1 (k10 (k12 (k11 (k11 (k12 (k11 (k12 (k11 (k11 (k12 (k11 ?_)))))))))))
    exact B5 (F2 rfl rfl rfl) (by rw [hp,Y4,hk.2];simp [h10])
   ·have h10:l[i][k]'(by omega)≠10:=fun h=>A1 ht ((F02 _).2 h)
    refine k5 (k4 (k1 ?_))
    refine A3 (A2 (A4 Z Z) Z (A2 (C1 Z Z (by omega)) Z (A2 (A5 Z Z) Z (A6 ?_))))
    refine k1 ?_
    exact ⟨k+1,⟨by omega,by rw [hk.2];simp [h10]⟩,by omega,I72 ⟨le1 rfl,le1 rfl,le1 rfl,trivial⟩ trivial⟩
  ·have hk2:l[i].length≤k+1:=by have:=A1 ht;omega
   have hlo:I0 l[i]=(l[i] != []):=by rw [hk.2,J11 (by simp;omega)];rfl
   refine k6 (k2 ?_)
   refine A3 (A2 (A4 Z Z) Z (A2 (A4 Z Z) Z (A2 (B3 Z (.pure _ _ _ _) Z (by omega) hv) Z (A2 (B6 Z Z) Z (A2 (V3 Z Z) Z (A2 (A4 Z Z) Z (A9 Z Z Z Z (fun hg=>by rw [hg];exact A4 Z Z) ?_)))))));refine A9 Z Z Z Z (fun hg=>by have hq:=hg;(try simp at hq);rw [hg];exact C1 Z Z (by omega)) ?_;refine A9 Z Z Z Z (fun hg=>by rw [hg];exact A4 Z Z) ?_;refine A9 Z Z Z Z (fun hg=>by rw [hg];exact F1 Z (.pure _ _ _ _)) ?_;refine A9 Z Z Z Z (fun hg=>by rw [hg];exact D6 Z Z) ?_;refine A9 Z Z Z Z (fun hg=>by rw [hg];exact A4 Z Z) ?_;refine F7 Z Z Z (.gd (.val _)) Z (fun hg=>by obtain ⟨hg1,hg2⟩:=K6 hg;(try rw [hg1]);(try rw [hg2]);exact A4 Z Z) ?_;refine F7 Z Z Z (.gd (.val _)) Z (fun hg=>by obtain ⟨hg1,hg2⟩:=K6 hg;(try rw [hg1]);(try rw [hg2]);exact A4 Z Z) ?_;refine F7 Z Z Z (.gd (.val _)) Z (fun hg=>by have hq:=hg;(try simp at hq);obtain ⟨hg1,hg2⟩:=K6 hg;(try rw [hg1]);(try rw [hg2]);exact B3 Z (.pure _ _ _ _) Z (by omega) hv) ?_;refine F7 Z Z Z (.gd (.val _)) Z (fun hg=>by obtain ⟨hg1,hg2⟩:=K6 hg;(try rw [hg1]);(try rw [hg2]);exact B6 Z Z) ?_;refine F7 Z Z Z (.gd (.val _)) Z (fun hg=>by have hq:=hg;(try simp at hq);obtain ⟨hg1,hg2⟩:=K6 hg;(try rw [hg1]);(try rw [hg2]);exact G9 (F92 l[i] hs) Z Z) ?_;refine F7 Z Z Z (.gd (.val _)) Z (fun hg=>by obtain ⟨hg1,hg2⟩:=K6 hg;(try rw [hg1]);(try rw [hg2]);exact F0 Z) ?_;refine A9 Z Z Z Z (fun hg=>by rw [hg];exact B4 Z (fun h=>by first | rfl | (rw [h];rfl)) (fun h=>by first | rfl | (rw [h];rfl))) ?_;refine A2 (B4 Z (fun h=>by first | rfl | (rw [h];rfl)) (fun h=>by first | rfl | (rw [h];rfl))) Z ?_;refine A6 ?_
   refine k1 ?_
   have he:(l.drop (i+1)).isEmpty=decide (l.length≤i+1):=by
    rw [Bool.eq_iff_iff];simp
   rw [Y4,hlo,he] at hp
   refine B1 rfl (fun ht=>?_) (fun ht=>?_)
   ·refine k2 ?_
    refine A3 (A2 (A5 Z Z) Z (A6 ?_))
    refine k1 (k10 (k12 (k11 (k11 (k12 (k11 ?_))))))
    refine B5 (F2 Z Z Z) ?_
    have:Y4 l=false:=by
     rw [hp]
     by_cases h:l[i]=[]
     ·simp [h]
     ·rw [if_neg (by simpa using h)] at ht
      by_cases h2:(i:Int)+1 < l.length
      ·rw [if_pos (by simpa using h2)] at ht
       have h3:¬(l.length≤i+1):=by omega
       simp only [Bool.not_eq_true'] at ht
       simp [ht,h3]
      ·rw [if_neg (by simpa using h2)] at ht;cases ht
    rw [this]
   ·refine k5 (k4 (k1 ?_))
    refine A3 (A2 (A4 Z Z) Z (A2 (C1 Z Z (by omega)) Z (A2 (A5 Z Z) Z (A6 ?_))))
    refine k1 ?_
    refine ⟨i+1,⟨by omega,?_⟩,by omega,I72 ⟨le1 rfl,le1 rfl,trivial⟩ trivial⟩
    rw [hp]
    by_cases h:l[i]=[]
    ·rw [if_pos (by simpa using h)] at ht;cases ht
    ·rw [if_neg (by simpa using h)] at ht
     by_cases h2:(i:Int)+1 < l.length
     ·rw [if_pos (by simpa using h2)] at ht
      simp only [Bool.not_eq_false'] at ht
      simp [ht,h]
     ·have h3:l.length≤i+1:=by omega
      simp [h,h3]
 ·have:i=l.length:=by have:=A1 ht;omega
  subst this
  refine k6 (k2 ?_)
  refine A3 (A2 (A5 Z Z) Z (A6 ?_))
  refine k1 (k10 ?_)
  exact B5 (F2 rfl rfl rfl) (by rw [hp];simp [Y4])
theorem all_ok (l:List Str) (hl:l.flatten.length≤536870912):FnOk Tryz.prog 128 [j2 l] (fun rs=>rs=[F3 l.flatten]):=by
 refine FnOk.intro Tryz.func128 (by decide) Z Z Z Z ?_
 refine A14 (t:=0) rfl (.pure _ _ _ _) fun hlen=>?_
 refine k2 ?_
 refine A3 (A2 (A5 Z Z) Z (A6 ?_))
 refine k1 (k2 ?_)
 refine A3 (C3 (V4 3 _ u8C Z) Z (A6 ?_))
 refine k1 (k2 (k2 ?_))
 refine A3 (A2 (A5 Z Z) Z (A6 ?_))
 refine k1 (k3 ?_)
 refine D3 (X:=Nat) (fun i=>([(0,D1 Str 1 K1 l),(3,.s (.one (.buf 3 UInt8 1 u8C (l.take i).flatten))),(4,C2 i)],[(3,.spare (l.take i).flatten.length 1 5)])) (fun i=>i≤l.length) (fun i=>l.length - i) 0 (by simp) (I72 ⟨le1 rfl,le1 rfl,le1 rfl,trivial⟩ ⟨rfl,trivial⟩) ?_
 intro i hi
 dsimp only at hi ⊢
 refine k2 (k2 ?_)
 refine A3 (A2 (A4 Z Z) Z (A2 (A4 Z Z) Z (A2 (F1 Z (.pure _ _ _ _)) Z (A2 (D6 Z Z) Z (A6 ?_)))))
 refine k1 ?_
 refine B1 rfl (fun ht=>?_) (fun ht=>?_)
 ·have hlt:i < l.length:=by simpa using ht
  have hv:l[i]?=some l[i]:=by simp [hlt]
  have hf:=V7 l i hlt
  have hle:=U4 l (i+1)
  rw [hf,J01] at hle
  refine k5 (k1 (k2 (k3 ?_)))
  refine A3 (A2 (A4 Z Z) Z (A2 (A4 Z Z) Z (A2 (A4 Z Z) Z (A2 (B3 Z (.pure _ _ _ _) Z (by omega) hv) Z (A2 (B6 Z Z) Z (C3 (A54 TyStr.out Z Z Z (by omega) Z) Z (A2 (A5 Z Z) Z (A6 ?_))))))))
  refine k4 (k1 ?_)
  refine A3 (A2 (A4 Z Z) Z (A2 (C1 Z Z (by omega)) Z (A2 (A5 Z Z) Z (A6 ?_))))
  refine k1 ?_
  refine ⟨i+1,by omega,by omega,?_⟩
  dsimp only
  rw [hf]
  exact I72 ⟨le1 rfl,le1 rfl,le1 rfl,trivial⟩ ⟨rfl,trivial⟩
 ·have:i=l.length:=by simp at ht;omega
  subst this
  refine k6 (k2 ?_)
  refine A3 (A2 (A4 Z Z) Z (A2 (N5 TyStr.out Z (.buf _ _ _ _ _)) Z (A2 (A5 Z Z) Z (A6 ?_))))
  refine k1 (k10 ?_)
  exact B5 (F2 rfl rfl rfl) (by simp)
theorem line_ok (s:Str) (hs:s.length≤1099511627776):FnOk Tryz.prog 153 [F3 s] (fun rs=>rs=[E0 (I0 s)]):=by
 refine FnOk.intro Tryz.func153 (by decide) Z Z Z Z ?_
 refine k2 ?_
 refine A3 (A2 (A5 Z Z) Z (A6 ?_))
 refine k1 (k2 (k2 ?_))
 refine A3 (A2 (A5 Z Z) Z (A6 ?_))
 refine k1 (k3 ?_)
 refine D3 (X:=Nat) (fun k=>([(0,H5 s),(3,C2 k)],[])) (fun k=>k≤s.length∧I0 s=((s.dropLast.drop k).all (·≠10)&&s != [])) (fun k=>s.length - k) 0 (by simp [I0]) (I72 ⟨le1 rfl,le1 rfl,trivial⟩ trivial) ?_
 intro k hk
 dsimp only at hk ⊢
 refine k2 (k2 ?_)
 refine A3 (A2 (A4 Z Z) Z (A2 (C1 Z Z (by omega)) Z (A2 (A4 Z Z) Z (A2 (E4 Z) Z (A2 (D6 Z Z) Z (A6 ?_))))))
 refine k1 ?_
 refine B1 rfl (fun ht=>?_) (fun ht=>?_)
 ·have hk2:k+1 < s.length:=by have:=A0 ht;omega
  have hvk:s[k]?=some (s[k]'(by omega)):=J03 (by omega)
  have hd:s.dropLast.drop k=s[k]'(by omega)::s.dropLast.drop (k+1):=by
   rw [J07 (by simp;omega)];simp
  rw [hd,List.all_cons] at hk
  refine k5 (k1 (k2 (k3 (k2 ?_))))
  refine A3 (A2 (A4 Z Z) Z (A2 (A4 Z Z) Z (A2 (I6 Z Z (by omega) hvk) Z (A2 (F6 Z Z) Z (A6 ?_)))))
  refine k1 ?_
  refine B1 rfl (fun ht=>?_) (fun ht=>?_)
  ·have h10:=(F02 _).1 (A0 ht)
   refine k2 ?_
   refine A3 (A2 (A5 Z Z) Z (A6 ?_))
   refine k1 (k10 (k12 (k11 (k11 (k12 (k11 ?_))))))
   exact B5 (F2 rfl rfl rfl) (by rw [hk.2];simp [h10])
  ·have h10:s[k]'(by omega)≠10:=fun h=>A1 ht ((F02 _).2 h)
   refine k5 (k4 (k1 ?_))
   refine A3 (A2 (A4 Z Z) Z (A2 (C1 Z Z (by omega)) Z (A2 (A5 Z Z) Z (A6 ?_))))
   refine k1 ?_
   exact ⟨k+1,⟨by omega,by rw [hk.2];simp [h10]⟩,by omega,I72 ⟨le1 rfl,le1 rfl,trivial⟩ trivial⟩
 ·have hk2:s.length≤k+1:=by have:=A1 ht;omega
  have hlo:I0 s=(s != []):=by rw [hk.2,J11 (by simp;omega)];rfl
  refine k6 (k2 ?_)
  refine A3 (A2 (A4 Z Z) Z (A2 (x9 Z Z) Z (A2 (A5 Z Z) Z (A6 ?_))))
  refine k1 (k10 ?_)
  exact B5 (F2 rfl rfl rfl) (by rw [hlo];by_cases h:s=[]<;>simp [h])
theorem F94 (l:List Str) (s:Str):FnOk Tryz.prog 184 [j2 l,F3 s] (fun rs=>rs=[E6 (S3 l s 0)]):=by
 refine FnOk.intro Tryz.func184 (by decide) Z Z Z Z ?_
 refine A14 (t:=0) rfl (.pure _ _ _ _) fun hlen=>?_
 refine k2 ?_
 refine A3 (A2 (A5 Z Z) Z (A6 ?_))
 refine k1 (k2 (k2 ?_))
 refine A3 (A2 (A5 Z Z) Z (A6 ?_))
 refine k1 (k3 ?_)
 refine D3 (X:=Nat) (fun i=>([(0,D1 Str 1 K1 l),(1,H5 s),(5,C2 i)],[])) (fun i=>i≤l.length∧S3 l s 0=S3 (l.drop i) s i) (fun i=>l.length - i) 0 (by simp) (I72 ⟨le1 rfl,le1 rfl,le1 rfl,trivial⟩ trivial) ?_
 rintro i ⟨hi,hp⟩
 dsimp only at hi hp ⊢
 refine k2 (k2 ?_)
 refine A3 (A2 (A4 Z Z) Z (A2 (A4 Z Z) Z (A2 (F1 Z (.pure _ _ _ _)) Z (A2 (D6 Z Z) Z (A6 ?_)))))
 refine k1 ?_
 refine B1 rfl (fun ht=>?_) (fun ht=>?_)
 ·have hlt:i < l.length:=by simpa using ht
  have hv:l[i]?=some l[i]:=by simp [hlt]
  rw [F53 l s i hlt] at hp
  refine k5 (k1 (k2 (k3 (k2 ?_))))
  refine A3 (A2 (A4 Z Z) Z (A2 (A4 Z Z) Z (A2 (B3 Z (.pure _ _ _ _) Z (by omega) hv) Z (A2 (B6 Z Z) Z (A2 (A4 Z Z) Z (A2 (V3 Z Z) Z (A6 ?_)))))))
  refine k1 ?_
  refine B1 rfl (fun ht=>?_) (fun ht=>?_)
  ·rw [if_pos (by simpa using ht)] at hp
   refine k2 ?_
   refine A3 (A2 (A4 Z Z) Z (A2 (A5 Z Z) Z (A6 ?_)))
   refine k1 (k10 (k12 (k11 (k11 (k12 (k11 ?_))))))
   exact B5 (F2 rfl rfl rfl) (by rw [hp])
  ·rw [if_neg (by simpa using ht)] at hp
   refine k5 (k4 (k1 ?_))
   refine A3 (A2 (A4 Z Z) Z (A2 (C1 Z Z (by omega)) Z (A2 (A5 Z Z) Z (A6 ?_))))
   refine k1 ?_
   exact ⟨i+1,⟨by omega,by simpa using hp⟩,by omega,I72 ⟨le1 rfl,le1 rfl,le1 rfl,trivial⟩ trivial⟩
 ·have:i=l.length:=by simp at ht;omega
  subst this
  refine k6 (k2 ?_)
  refine A3 (A2 (A5 Z Z) Z (A6 ?_))
  refine k1 (k10 ?_)
  exact B5 (F2 rfl rfl rfl) (by rw [hp];simp [S3])
theorem F95 (fs:List (List Str)) (hfs:fs.flatten.length≤536870912):FnOk Tryz.prog 104 [pStrss fs] (fun rs=>rs=[j2 (G2 fs)]):=by
 refine FnOk.intro Tryz.func104 (by decide) Z Z Z Z ?_
 refine A14 (t:=0) rfl (.pure _ _ _ _) fun hlen=>?_
 refine k2 ?_
 refine A3 (A2 (A5 Z Z) Z (A6 ?_))
 refine k1 (k2 ?_)
 refine A3 (C3 (V4 3 _ K1 Z) Z (A6 ?_))
 refine k1 (k2 (k2 ?_))
 refine A3 (A2 (A5 Z Z) Z (A6 ?_))
 refine k1 (k3 ?_)
 refine D3 (X:=Nat) (fun f=>([(0,D1 (List Str) 1 strsC fs),(3,.s (.one (.buf 3 Str 1 K1 (G2 (fs.take f))))),(4,C2 f)],[(3,.spare (G2 (fs.take f)).length 1 9)])) (fun f=>f≤fs.length) (fun f=>fs.length - f) 0 (by simp) (I72 ⟨le1 rfl,le1 rfl,le1 rfl,trivial⟩ ⟨rfl,trivial⟩) ?_
 intro f hf
 dsimp only at hf ⊢
 refine k2 (k2 ?_)
 refine A3 (A2 (A4 Z Z) Z (A2 (A4 Z Z) Z (A2 (F1 Z (.pure _ _ _ _)) Z (A2 (D6 Z Z) Z (A6 ?_)))))
 refine k1 ?_
 refine B1 rfl (fun ht=>?_) (fun ht=>?_)
 ·have hlt:f < fs.length:=by have:=A0 ht;omega
  have hv:fs[f]?=some fs[f]:=by simp [hlt]
  have hfl:=V7 fs f hlt
  have hle:=U4 fs (f+1)
  rw [hfl,J01] at hle
  have hn0:=E00 (fs.take f)
  refine k5 (k1 (k2 (k3 (k2 ?_))))
  refine A3 (A2 (A5 Z Z) Z (A6 ?_))
  refine k1 (k3 ?_)
  refine D3 (X:=Nat) (fun i=>([(0,D1 (List Str) 1 strsC fs),(3,.s (.one (.buf 3 Str 1 K1 ((fs[f].take i).foldl J5 (G2 (fs.take f)))))),(4,C2 f),(5,C2 i)],[(3,.spare ((fs[f].take i).foldl J5 (G2 (fs.take f))).length 1 9)])) (fun i=>i≤fs[f].length) (fun i=>fs[f].length - i) 0 (by simp) (I72 ⟨le1 rfl,le1 rfl,le1 rfl,le1 rfl,trivial⟩ ⟨rfl,trivial⟩) ?_
  intro i hi
  dsimp only at hi ⊢
  have hni:=A08 (fs[f].take i) (G2 (fs.take f))
  rw [J15] at hni
  refine k2 (k2 ?_)
  refine A3 (A2 (A4 Z Z) Z (A2 (A4 Z Z) Z (A2 (A4 Z Z) Z (A2 (B3 Z (.pure _ _ _ _) Z (by omega) hv) Z (A2 (B6 Z Z) Z (A2 (F1 Z (.pure _ _ _ _)) Z (A2 (D6 Z Z) Z (A6 ?_))))))))
  refine k1 ?_
  refine B1 rfl (fun ht=>?_) (fun ht=>?_)
  ·have hlt2:i < fs[f].length:=by have:=A0 ht;omega
   have hvi:fs[f][i]?=some fs[f][i]:=by simp [hlt2]
   have hst:(fs[f].take (i+1)).foldl J5 (G2 (fs.take f))=J5 ((fs[f].take i).foldl J5 (G2 (fs.take f))) fs[f][i]:=by
    rw [List.take_add_one,hvi,Option.toList_some,J42];rfl
   refine k5 (k1 (k2 (k3 (k2 ?_))))
   refine A3 (A2 (A4 Z Z) Z (A2 (A4 Z Z) Z (A2 (A4 Z Z) Z (A2 (B3 Z (.pure _ _ _ _) Z (by omega) hv) Z (A2 (B6 Z Z) Z (A2 (A4 Z Z) Z (A2 (B3 Z (.pure _ _ _ _) Z (by omega) hvi) Z (A2 (B6 Z Z) Z (B9 (F94 _ _) Z Z Z ?_)))))))));rintro _ rfl;refine A2 (D6 Z Z) Z (A6 ?_)
   refine k1 ?_
   have hpl:=G23 ((fs[f].take i).foldl J5 (G2 (fs.take f))) fs[f][i] 0 (Int.le_refl _)
   refine B1 rfl (fun ht=>?_) (fun ht=>?_)
   ·have hnot:=hpl.1 (A0 ht)
    skip
    refine A3 (A2 (A4 Z Z) Z (A2 (A4 Z Z) Z (A2 (A4 Z Z) Z (A2 (B3 Z (.pure _ _ _ _) Z (by omega) hv) Z (A2 (B6 Z Z) Z (A2 (A4 Z Z) Z (A2 (B3 Z (.pure _ _ _ _) Z (by omega) hvi) Z (A2 (B6 Z Z) Z (A2 (C9 (c:=K1) (ys:=[_]) (E1 Z Z Z Z F4) Z Z Z) Z (C3 (G7 Z Z Z (.pure _ _ _ _) (by simp;omega) Z) Z (A2 (A5 Z Z) Z (A6 ?_))))))))))))
    refine k4 (k1 ?_)
    refine A3 (A2 (A4 Z Z) Z (A2 (C1 Z Z (by omega)) Z (A2 (A5 Z Z) Z (A6 ?_))))
    refine k1 ?_
    refine ⟨i+1,by omega,by omega,?_⟩
    rw [hst,J5,if_neg hnot]
    exact I72 ⟨le1 rfl,le1 rfl,le1 rfl,le1 rfl,trivial⟩ ⟨rfl,trivial⟩
   ·have hin:fs[f][i]∈(fs[f].take i).foldl J5 (G2 (fs.take f)):=Classical.byContradiction fun h=>A1 ht (hpl.2 h)
    refine k5 (k4 (k1 ?_))
    refine A3 (A2 (A4 Z Z) Z (A2 (C1 Z Z (by omega)) Z (A2 (A5 Z Z) Z (A6 ?_))))
    refine k1 ?_
    refine ⟨i+1,by omega,by omega,?_⟩
    rw [hst,J5,if_pos hin]
    exact I72 ⟨le1 rfl,le1 rfl,le1 rfl,le1 rfl,trivial⟩ ⟨rfl,trivial⟩
  ·have hi':i=fs[f].length:=by have:=A1 ht;omega
   subst hi'
   refine k6 (k7 (k7 (k8 Z (k4 (k1 ?_)))))
   have:G2 (fs.take (f+1))=(fs[f].take fs[f].length).foldl J5 (G2 (fs.take f)):=by
    rw [G2,hfl,J42,J23];rfl
   refine A3 (A2 (A4 Z Z) Z (A2 (C1 Z Z (by omega)) Z (A2 (A5 Z Z) Z (A6 ?_))))
   refine k1 ?_
   refine ⟨f+1,by omega,by omega,?_⟩
   rw [this]
   exact I72 ⟨le1 rfl,le1 rfl,le1 rfl,trivial⟩ ⟨rfl,trivial⟩
 ·have:f=fs.length:=by have:=A1 ht;omega
  subst this
  refine k6 (k2 ?_)
  refine A3 (A2 (A4 Z Z) Z (A2 (A5 Z Z) Z (A6 ?_)))
  refine k1 (k10 ?_)
  exact B5 (F2 rfl rfl rfl) (by simp)
theorem made_ok (p:List Span) (m n:Int) (hp:p.length≤536870912) (hb:∀s∈p,-1099511627776≤s.From∧s.From≤1099511627776 ∧ -1099511627776≤s.To∧s.To≤1099511627776)
  (hm:-1099511627776≤m∧m≤1099511627776 ∧ -1099511627776≤n∧n≤1099511627776) :
  FnOk Tryz.prog 186 [pSpans p,E6 m,E6 n] (fun rs=>rs=[pChanges (C80 p m n)]):=by
 refine FnOk.intro Tryz.func186 (by decide) Z Z Z Z ?_
 refine k2 ?_
 refine A3 (A2 (A5 Z Z) Z (A6 ?_))
 refine k1 (k2 ?_)
 refine A3 (C3 (V4 7 _ changeC Z) Z (A6 ?_))
 refine k1 (k2 ?_)
 refine A3 (A2 (A5 Z Z) Z (A2 (A5 Z Z) Z (A6 ?_)))
 refine k1 (k2 (k2 ?_))
 refine A3 (A2 (A5 Z Z) Z (A6 ?_))
 refine k1 (k3 ?_)
 refine D3 (X:=Nat × Int × Int × List Change) (fun x=>([(0,D1 Span 2 spanC p),(1,C2 m),(2,C2 n),(7,.s (.one (.buf 7 Change 4 changeC x.2.2.2))),(8,C2 x.2.1),(9,C2 x.2.2.1),(10,C2 x.1)],[(7,.spare x.2.2.2.length 4 164)]))
  (fun x=>x.1≤p.length+1∧x.2.2.2.length≤x.1∧(-1099511627776≤x.2.1∧x.2.1≤1099511627777 ∧ -1099511627776≤x.2.2.1∧x.2.2.1≤1099511627777)∧(x.1≤p.length→x.2.2.2++W9 x.2.1 x.2.2.1 (p.drop x.1) m n=C80 p m n)∧(x.1=p.length+1→x.2.2.2=C80 p m n))
  (fun x=>p.length+1 - x.1) (0,0,0,[]) (by simp [C80]) (I72 ⟨le1 rfl,le1 rfl,le1 rfl,le1 rfl,le1 rfl,le1 rfl,le1 rfl,trivial⟩ ⟨rfl,trivial⟩) ?_
 rintro ⟨k,i,j,out⟩ ⟨hk,ho,hij,h1,h2⟩
 dsimp only at hk ho hij h1 h2 ⊢
 refine k2 (k2 ?_)
 refine A3 (A2 (A4 Z Z) Z (A2 (A4 Z Z) Z (A2 (F1 Z (.pure _ _ _ _)) Z (A2 (x7 Z Z) Z (A6 ?_)))))
 refine k1 ?_
 refine B1 rfl (fun ht=>?_) (fun ht=>?_)
 ·have hk':k≤p.length:=by have:=A0 ht;omega
  have hpp:=h1 hk'
  refine k5 (k1 (k2 (k3 (k2 ?_))))
  refine A3 (A2 (A4 Z Z) Z (A2 (A4 Z Z) Z (A2 (F8 Z) Z (C3 (H1 11 Z) Z (E9 (C0 TySz.out Z Z Z Z Z Z) (A6 ?_))))))
  refine L5 ?_
  obtain ⟨x,hx⟩:∃x,x=p.getD k ⟨m,n⟩:=⟨_,rfl⟩
  have hxb:-1099511627776≤x.From∧x.From≤1099511627776 ∧ -1099511627776≤x.To∧x.To≤1099511627776:=by
   rw [hx,J06]
   by_cases h:k < p.length
   ·rw [J03 h];exact hb _ (J19 h)
   ·rw [J24 (by omega)];exact hm
  have hmade:W9 i j (p.drop k) m n=(if x.From > i∨x.To > j then [⟨i,x.From - i,j,x.To - j⟩] else [])++(if k < p.length then W9 (x.From+1) (x.To+1) (p.drop (k+1)) m n else []):=by
   by_cases h:k < p.length
   ·rw [J07 h,if_pos h,hx,J06,J03 h];rfl
   ·rw [J11 (by omega),if_neg h,hx,J06,J24 (by omega)];simp [W9]
  refine j4 [(0,D1 Span 2 spanC p),(1,C2 m),(2,C2 n),(7,.s (.one (.buf 7 Change 4 changeC out))),(8,C2 i),(9,C2 j),(10,C2 k),(11,.s (.one (.ref 11 0)))] [(11,.box [.p (.v (.int .i64 x.From)),.p (.v (.int .i64 x.To))]),(7,.spare out.length 4 164)] ?_ ?_
  ·refine k2 ?_
   refine A3 (A2 (A4 Z Z) Z (A2 (A4 Z Z) Z (A2 (F1 Z (.pure _ _ _ _)) Z (A2 (D6 Z Z) Z (A6 ?_)))))
   refine k1 ?_
   refine B1 rfl (fun ht=>?_) (fun ht=>?_)
   ·have hlt:k < p.length:=by have:=A0 ht;omega
    have hv:p[k]?=some p[k]:=by simp [hlt]
    have:x=p[k]:=by rw [hx,J06,hv];rfl
    subst this
    skip
    refine A3 (A2 (A4 Z Z) Z (A2 (A4 Z Z) Z (A2 (B3 Z (.pure _ _ _ _) Z (by omega) hv) Z (A2 (G8 Z Z) Z (E9 (C0 TySz.out Z Z Z Z Z Z) (A6 ?_))))))
    refine k1 ?_
    exact I72 ⟨le1 rfl,le1 rfl,le1 rfl,le1 rfl,le1 rfl,le1 rfl,le1 rfl,le1 rfl,trivial⟩ ⟨rfl,rfl,trivial⟩
   ·have hlt:¬k < p.length:=by have:=A1 ht;omega
    have:x=⟨m,n⟩:=by rw [hx,J06,J24 (by omega)];rfl
    subst this
    refine k5 (k1 ?_)
    exact I72 ⟨le1 rfl,le1 rfl,le1 rfl,le1 rfl,le1 rfl,le1 rfl,le1 rfl,le1 rfl,trivial⟩ ⟨rfl,rfl,trivial⟩
  ·obtain ⟨out',hout'⟩:∃o,o=out++(if x.From > i∨x.To > j then [⟨i,x.From - i,j,x.To - j⟩] else []):=⟨_,rfl⟩
   have hol:out'.length≤k+1:=by rw [hout',J01];split<;>simp<;>omega
   refine j4 [(0,D1 Span 2 spanC p),(1,C2 m),(2,C2 n),(7,.s (.one (.buf 7 Change 4 changeC out'))),(10,C2 k),(11,.s (.one (.ref 11 0)))] [(11,.box [.p (.v (.int .i64 x.From)),.p (.v (.int .i64 x.To))]),(7,.spare out'.length 4 164)] ?_ ?_
   ·refine k2 ?_
    refine A3 (A2 (A7 Z) Z (A2 (B0 Z Z Z) Z (A2 (A4 Z Z) Z (A2 (N2 Z Z) Z (A2 (A4 Z Z) Z (A9 Z Z Z Z (fun hg=>by rw [hg];exact A7 Z) ?_))))));refine A9 Z Z Z Z (fun hg=>by rw [hg];exact B0 Z Z Z) ?_;refine A9 Z Z Z Z (fun hg=>by rw [hg];exact A4 Z Z) ?_;refine A9 Z Z Z Z (fun hg=>by rw [hg];exact N2 Z Z) ?_;refine A2 (B4 Z (fun h=>by first | rfl | (rw [h];rfl)) (fun h=>by first | rfl | (rw [h];rfl))) Z ?_;refine A6 ?_
    refine k1 ?_
    refine B1 rfl (fun ht=>?_) (fun ht=>?_)
    ·have h:=A0 (or_pick.symm.trans ht)
     rw [if_pos h] at hout'
     subst hout'
     skip
     refine A3 (A2 (A4 Z Z) Z (A2 (A4 Z Z) Z (A2 (A7 Z) Z (A2 (B0 Z Z Z) Z (A2 (A4 Z Z) Z (A2 (Q7 Z Z (by omega)) Z (A2 (A4 Z Z) Z (A2 (A7 Z) Z (A2 (B0 Z Z Z) Z (A2 (A4 Z Z) Z (A2 (Q7 Z Z (by omega)) Z (A2 (F8 Z) Z (A2 (C9 (c:=changeC) (ys:=[⟨_,_,_,_⟩]) (E1 Z Z Z Z F4) Z Z Z) Z (C3 (G7 Z Z Z (.pure _ _ _ _) (by simp;omega) Z) Z (A2 (A5 Z Z) Z (A6 ?_))))))))))))))))
     refine k1 ?_
     exact I72 ⟨le1 rfl,le1 rfl,le1 rfl,le1 rfl,le1 rfl,le1 rfl,trivial⟩ ⟨rfl,rfl,trivial⟩
    ·have h:=A1 (or_pick.symm.trans ht)
     rw [if_neg h,J25] at hout'
     subst hout'
     refine k5 (k1 ?_)
     exact I72 ⟨le1 rfl,le1 rfl,le1 rfl,le1 rfl,le1 rfl,le1 rfl,trivial⟩ ⟨rfl,rfl,trivial⟩
   ·skip
    refine C4 (by kernel_rfl) (by kernel_rfl) (A8 (A7 Z) Z Z (A8 (B0 Z Z Z) Z Z (A8 (C1 Z Z (by omega)) Z Z (A8 (A7 Z) Z Z (A8 (B0 Z Z Z) Z Z (A8 (C1 Z Z (by omega)) Z Z (A8 (A5 Z Z) Z Z (A8 (A5 Z Z) Z Z (H9 ?_)))))))))
    refine k4 (k1 ?_)
    refine A3 (A2 (A4 Z Z) Z (A2 (C1 Z Z (by omega)) Z (A2 (A5 Z Z) Z (A6 ?_))))
    refine k1 ?_
    refine ⟨(k+1,x.From+1,x.To+1,out'),⟨by dsimp only;omega,hol,by dsimp only;omega,?_,?_⟩,by dsimp only;omega,I72 ⟨le1 rfl,le1 rfl,le1 rfl,le1 rfl,le1 rfl,le1 rfl,le1 rfl,trivial⟩ ⟨rfl,trivial⟩⟩
    ·intro hk2
     dsimp only at hk2 ⊢
     rw [←hpp,hmade,if_pos (show k < p.length by omega),hout'];simp
    ·intro hk2
     dsimp only at hk2 ⊢
     rw [←hpp,hmade,if_neg (show ¬k < p.length by omega),hout'];simp
 ·have hk':k=p.length+1:=by have:=A1 ht;omega
  refine k6 (k2 ?_)
  refine A3 (A2 (A4 Z Z) Z (A2 (A5 Z Z) Z (A6 ?_)))
  refine k1 (k10 ?_)
  exact B5 (F2 rfl rfl rfl) (by rw [h2 hk'])
theorem long_ok (a b:List Int):FnOk Tryz.prog 267 [S6 a,S6 b] (fun rs=>rs=[E0 (decide (4096 < a.length∨4096 < b.length))]):=by
 refine FnOk.intro Tryz.func267 (by decide) Z Z Z Z ?_
 refine k2 ?_
 refine A3 (A2 (A5 Z Z) Z (A6 ?_))
 refine k1 (k2 ?_)
 refine A3 (A2 (A4 Z Z) Z (A2 (F1 Z (.pure _ _ _ _)) Z (A2 (N2 Z Z) Z (A2 (A4 Z Z) Z (A9 Z Z Z Z (fun hg=>by rw [hg];exact A4 Z Z) ?_)))));refine A9 Z Z Z Z (fun hg=>by rw [hg];exact F1 Z (.pure _ _ _ _)) ?_;refine A9 Z Z Z Z (fun hg=>by rw [hg];exact N2 Z Z) ?_;refine A2 (B4 Z (fun h=>by first | rfl | (rw [h];rfl)) (fun h=>by first | rfl | (rw [h];rfl))) Z ?_;refine A2 (A5 Z Z) Z (A6 ?_)
 refine k1 (k10 ?_)
 refine B5 (F2 Z Z Z) ?_
 rw [or_pick]
 simp only [List.cons.injEq,and_true,PV.one.injEq,Cell.v.injEq,Value.bool.injEq,decide_eq_decide]
 omega
theorem E79 (l:List Merged) (hl:l.length≤536870912):FnOk Tryz.prog 239 [pMerged l] (fun rs=>rs=[S6 (J7 l)]):=by
 refine FnOk.intro Tryz.func239 (by decide) Z Z Z Z ?_
 refine k2 ?_
 refine A3 (A2 (A5 Z Z) Z (A6 ?_))
 refine k1 (k2 ?_)
 refine A3 (C3 (V4 3 _ L1 Z) Z (A6 ?_))
 refine k1 (k2 (k2 ?_))
 refine A3 (A2 (A5 Z Z) Z (A6 ?_))
 refine k1 (k3 ?_)
 refine D3 (X:=Nat) (fun i=>([(0,D1 Merged 2 mergedC l),(3,.s (.one (.buf 3 Int 1 L1 (J7 (l.take i))))),(4,C2 i)],[(3,.spare (J7 (l.take i)).length 1 3)])) (fun i=>i≤l.length) (fun i=>l.length - i) 0 (by simp) (I72 ⟨le1 rfl,le1 rfl,le1 rfl,trivial⟩ ⟨rfl,trivial⟩) ?_
 intro i hi
 dsimp only at hi ⊢
 refine k2 (k2 ?_)
 refine A3 (A2 (A4 Z Z) Z (A2 (A4 Z Z) Z (A2 (F1 Z (.pure _ _ _ _)) Z (A2 (D6 Z Z) Z (A6 ?_)))))
 refine k1 ?_
 have hlen:(J7 (l.take i)).length=i:=by simp [J7];omega
 refine B1 rfl (fun ht=>?_) (fun ht=>?_)
 ·have hlt:i < l.length:=by have:=A0 ht;omega
  have hv:l[i]?=some l[i]:=by simp [hlt]
  have hst:J7 (l.take (i+1))=J7 (l.take i)++[l[i].Line]:=by
   unfold J7;rw [List.take_add_one,hv,Option.toList_some,J17];rfl
  refine k5 (k1 (k2 (k3 ?_)))
  refine A3 (A2 (A4 Z Z) Z (A2 (A4 Z Z) Z (A2 (A4 Z Z) Z (A2 (B3 Z (.pure _ _ _ _) Z (by omega) hv) Z (A2 (D7 Z) Z (A2 (B6 Z Z) Z (A2 (C9 (c:=L1) (ys:=[_]) (E1 Z Z Z Z F4) Z Z Z) Z (C3 (G7 Z Z Z (.pure _ _ _ _) (by simp;omega) Z) Z (A2 (A5 Z Z) Z (A6 ?_))))))))))
  refine k4 (k1 ?_)
  refine A3 (A2 (A4 Z Z) Z (A2 (C1 Z Z (by omega)) Z (A2 (A5 Z Z) Z (A6 ?_))))
  refine k1 ?_
  refine ⟨i+1,by omega,by omega,?_⟩
  rw [hst]
  exact I72 ⟨le1 rfl,le1 rfl,le1 rfl,trivial⟩ ⟨rfl,trivial⟩
 ·have:i=l.length:=by have:=A1 ht;omega
  subst this
  refine k6 (k2 ?_)
  refine A3 (A2 (A4 Z Z) Z (A2 (A5 Z Z) Z (A6 ?_)))
  refine k1 (k10 ?_)
  exact B5 (F2 rfl rfl rfl) (by simp)
theorem I33 (a b:List Int) (ha:a.length≤536870912) (hb:b.length≤536870912):FnOk Tryz.prog 185 [S6 a,S6 b] (fun rs=>rs=[pIntss (B48 a b)]):=by
 refine FnOk.intro Tryz.func185 (by decide) Z Z Z Z ?_
 refine k2 ?_
 refine A3 (A2 (A5 Z Z) Z (A6 ?_))
 refine k1 (k2 ?_)
 refine A3 (A2 (A4 Z Z) Z (A2 (F1 Z (.pure _ _ _ _)) Z (A2 (C1 Z Z (by omega)) Z (C3 (j5 5 (List Int) intsC [] Z Z (by omega) (by omega) (fun _=>by first | exact ⟨⟨rfl,rfl⟩,trivial⟩ | exact ⟨O1 _ _ _,trivial⟩) (by first | rfl | (simp [G3,I7,Ob.free,SV.free,S1.free,TC.free]<;>rfl))) Z ?_))));refine A2 (A5 Z Z) Z (A6 ?_)
 refine k1 (k2 (k2 ?_))
 refine A3 (A2 (A4 Z Z) Z (A2 (F1 Z (.pure _ _ _ _)) Z (A2 (A5 Z Z) Z (A6 ?_))))
 refine k1 (k3 ?_)
 refine D3 (X:=Nat) (fun i=>([(0,D1 Int 1 L1 a),(1,D1 Int 1 L1 b),(5,.s (.one (.mut 5))),(6,C2 ((i:Int) - 1))],[(5,.arr (List Int) 1 intsC (L9 a b i))])) (fun i=>i≤a.length+1) (fun i=>i) (a.length+1) (Nat.le_refl _) ?_ ?_
 ·refine I72 ⟨⟨_,rfl,.same _⟩,⟨_,rfl,.same _⟩,⟨_,rfl,.same _⟩,⟨_,rfl,.eq (by simp)⟩,trivial⟩ ⟨?_,trivial⟩
  rw [←E54];rfl
 intro i hi
 dsimp only at hi ⊢
 refine k2 (k2 ?_)
 refine A3 (A2 (A4 Z Z) Z (A2 (s9 Z Z) Z (A6 ?_)))
 refine k1 ?_
 refine B1 rfl (fun ht=>?_) (fun ht=>?_)
 ·obtain ⟨i,rfl⟩:∃r,i=r+1:=⟨i - 1,by have:=A0 ht;omega⟩
  refine V5 [(0,D1 Int 1 L1 a),(1,D1 Int 1 L1 b),(5,.s (.one (.mut 5))),(6,C2 i)] [(5,.arr (List Int) 1 intsC (L9 a b (i+1)))] (I72 ⟨le1 rfl,le1 rfl,le1 rfl,leE Z (by first | (simp;done) | (simp;omega)),trivial⟩ ⟨rfl,trivial⟩) ?_
  refine F5 (I90 5 Z) ?_
  have hTl:((L9 a b (i+1)).map fun x=>TC.p (intsC x 0)).length=a.length+1:=by simp [x1]
  have hRs:=x1 a b (i+1)
  refine k5 (k1 (k2 (k3 (k2 ?_))))
  refine A3 (A2 (A4 Z Z) Z (A2 (A4 Z Z) Z (A2 (A4 Z Z) Z (A2 (F1 Z (.pure _ _ _ _)) Z (A2 (C1 Z Z (by omega)) Z (C3 (j5 23 Int L1 0 Z Z (by omega) (by omega) (fun _=>by first | exact ⟨⟨rfl,rfl⟩,trivial⟩ | exact ⟨O1 _ _ _,trivial⟩) (by first | rfl | (simp [G3,I7,Ob.free,SV.free,S1.free,TC.free]<;>rfl))) Z ?_))))));refine A2 (J2 Z Z Z (by omega) (by omega)) Z (E9 (B07 TySz.out Z Z (by (rw [hTl];simp;omega)) Z Z) ?_);refine A6 ?_
  refine k1 (k2 ?_)
  refine A3 (A2 (A4 Z Z) Z (A2 (F1 Z (.pure _ _ _ _)) Z (A2 (A5 Z Z) Z (A6 ?_))))
  refine k1 (k3 ?_)
  obtain ⟨T,hT⟩:∃T,T=((L9 a b (i+1)).map fun x=>TC.p (intsC x 0)).set i (.mut 23):=⟨_,rfl⟩
  have hTi:T[i]?=some (.mut 23):=by rw [hT,List.getElem?_set_self (by rw [hTl];omega)]
  have hTn:i+1≤a.length→T[i+1]?=some (.p (intsC (O4 a b (i+1) 0) 0)):=fun h=>by
   rw [hT,List.getElem?_set_ne (by omega),J34,A69 a b (i+1) (i+1) (Nat.le_refl _) h];rfl
  refine D3 (X:=Nat) (fun j=>([(0,D1 Int 1 L1 a),(1,D1 Int 1 L1 b),(5,.s (.one (.mut 5))),(6,C2 i),(7,C2 ((j:Int) - 1))],[(5,.tarr (L9 a b (i+1)).length 1 T),(23,.arr Int 1 L1 (O4 a b i j))])) (fun j=>j≤b.length+1) (fun j=>j) (b.length+1) (Nat.le_refl _) ?_ ?_
  ·refine I72 ⟨⟨_,rfl,.same _⟩,⟨_,rfl,.same _⟩,⟨_,rfl,.same _⟩,⟨_,rfl,.same _⟩,⟨_,rfl,.eq (by simp)⟩,trivial⟩ ⟨by rw [hT];rfl,?_,trivial⟩
   rw [←F55];rfl
  intro j hj
  dsimp only at hj ⊢
  refine k2 (k2 ?_)
  refine A3 (A2 (A4 Z Z) Z (A2 (s9 Z Z) Z (A6 ?_)))
  refine k1 ?_
  refine B1 rfl (fun ht=>?_) (fun ht=>?_)
  ·obtain ⟨j,rfl⟩:∃r,j=r+1:=⟨j - 1,by have:=A0 ht;omega⟩
   refine V5 [(0,D1 Int 1 L1 a),(1,D1 Int 1 L1 b),(5,.s (.one (.mut 5))),(6,C2 i),(7,C2 j)] [(5,.tarr (L9 a b (i+1)).length 1 T),(23,.arr Int 1 L1 (O4 a b i (j+1)))] (I72 ⟨le1 rfl,le1 rfl,le1 rfl,le1 rfl,leE Z (by first | (simp;done) | (simp;omega)),trivial⟩ ⟨rfl,rfl,trivial⟩) ?_
   have hRl:=E02 a b i (j+1)
   have hst:=G24 a b i j
   refine F19 ?_
   refine L5 ?_
   refine j4 [(0,D1 Int 1 L1 a),(1,D1 Int 1 L1 b),(5,.s (.one (.mut 5))),(6,C2 i),(7,C2 j)] [(5,.tarr (L9 a b (i+1)).length 1 T),(23,.arr Int 1 L1 (O4 a b i j))] ?_ ?_
   ·refine k3 (k3 (k2 ?_))
    refine A3 (A2 (A4 Z Z) Z (A2 (A4 Z Z) Z (A2 (F1 Z (.pure _ _ _ _)) Z (A2 (F6 Z Z) Z (A2 (A5 Z Z) Z (A6 ?_))))))
    refine k1 ?_
    refine B1 rfl (fun ht=>?_) (fun ht=>?_)
    ·have hia:i=a.length:=by have:=A0 ht;omega
     have hd:(dist (a.drop i) (b.drop j):Int)=b.length - j:=by rw [hia,J11 (Nat.le_refl _),dist,J12];omega
     rw [hd] at hst
     skip
     refine A3 (A2 (A4 Z Z) Z (A2 (A4 Z Z) Z (A2 (J2 Z Z Z (by omega) (by omega)) Z (A2 (P6 Z Z hTi) Z (A2 (A4 Z Z) Z (A2 (A4 Z Z) Z (A2 (F1 Z (.pure _ _ _ _)) Z (A2 (A4 Z Z) Z (A2 (Q7 Z Z (by omega)) Z (A2 (E5 Z Z Z (by omega) (by omega)) Z (E9 (H3 TySz.out Z Z (by (rw [hRl];simp;omega)) Z Z) ?_)))))))))));refine A6 ?_
     refine k4 (k4 (k1 ?_))
     rw [←hst]
     exact I72 ⟨le1 rfl,le1 rfl,le1 rfl,le1 rfl,le1 rfl,trivial⟩ ⟨rfl,rfl,trivial⟩
    ·have hia:i < a.length:=by have:=A1 ht;omega
     refine k2 ?_
     refine A3 (A2 (A4 Z Z) Z (A2 (A4 Z Z) Z (A2 (F1 Z (.pure _ _ _ _)) Z (A2 (F6 Z Z) Z (A2 (A5 Z Z) Z (A6 ?_))))))
     refine k1 ?_
     refine B1 rfl (fun ht=>?_) (fun ht=>?_)
     ·have hjb:j=b.length:=by have:=A0 ht;omega
      have hd:(dist (a.drop i) (b.drop j):Int)=a.length - i:=by rw [hjb,J11 (Nat.le_refl b.length),E01,J12];omega
      rw [hd] at hst
      skip
      refine A3 (A2 (A4 Z Z) Z (A2 (A4 Z Z) Z (A2 (J2 Z Z Z (by omega) (by omega)) Z (A2 (P6 Z Z hTi) Z (A2 (A4 Z Z) Z (A2 (A4 Z Z) Z (A2 (F1 Z (.pure _ _ _ _)) Z (A2 (A4 Z Z) Z (A2 (Q7 Z Z (by omega)) Z (A2 (E5 Z Z Z (by omega) (by omega)) Z (E9 (H3 TySz.out Z Z (by (rw [hRl];simp;omega)) Z Z) ?_)))))))))));refine A6 ?_
      refine k4 (k4 (k1 ?_))
      rw [←hst]
      exact I72 ⟨le1 rfl,le1 rfl,le1 rfl,le1 rfl,le1 rfl,trivial⟩ ⟨rfl,rfl,trivial⟩
     ·have hjb:j < b.length:=by have:=A1 ht;omega
      have hva:a[i]?=some a[i]:=by simp [hia]
      have hvb:b[j]?=some b[j]:=by simp [hjb]
      have hdd:=H95 a b i j hia hjb
      have hTn':=hTn hia
      refine k2 ?_
      refine C4 (by kernel_rfl) (by kernel_rfl) (A8 (A4 Z Z) Z Z (A8 (A4 Z Z) Z Z (A8 (B3 Z (.pure _ _ _ _) Z (by omega) hva) Z Z (A8 (B6 Z Z) Z Z (A8 (A4 Z Z) Z Z (A8 (A4 Z Z) Z Z (A8 (B3 Z (.pure _ _ _ _) Z (by omega) hvb) Z Z (A8 (B6 Z Z) Z Z (A8 (F6 Z Z) Z Z (A8 (A5 Z Z) Z Z (H9 ?_)))))))))))
      refine k1 ?_
      refine B1 rfl (fun ht=>?_) (fun ht=>?_)
      ·rw [if_pos (A0 ht)] at hdd
       have hg:=u5 a b (i+1) 0 (j+1) (Nat.zero_le _) hjb
       rw [hdd] at hst
       skip
       refine C4 (by kernel_rfl) (by kernel_rfl) (A8 (A4 Z Z) Z Z (A8 (A4 Z Z) Z Z (A8 (J2 Z Z Z (by omega) (by omega)) Z Z (A8 (P6 Z Z hTi) Z Z (A8 (A4 Z Z) Z Z (A8 (A4 Z Z) Z Z (A8 (A4 Z Z) Z Z (A8 (C1 Z Z (by omega)) Z Z (A8 (J2 Z Z Z (by omega) (by omega)) Z Z (A8 (P6 Z Z hTn') Z Z (A8 (A4 Z Z) Z Z (A8 (C1 Z Z (by omega)) Z Z (A8 (B3 Z (.pure _ _ _ _) Z (by omega) hg) Z Z (A8 (B6 Z Z) Z Z (A8 (E5 Z Z Z (by omega) (by omega)) Z Z (C10 (H3 TySz.out Z Z (by (rw [hRl];simp;omega)) Z Z) Z ?_))))))))))))))));refine H9 ?_
       refine k4 (k4 (k1 ?_))
       rw [←hst]
       exact I72 ⟨le1 rfl,le1 rfl,le1 rfl,le1 rfl,le1 rfl,trivial⟩ ⟨rfl,rfl,trivial⟩
      ·rw [if_neg (A1 ht)] at hdd
       have hg1:=u5 a b (i+1) 0 j (Nat.zero_le _) (by omega)
       have hg2:=u5 a b i (j+1) (j+1) (Nat.le_refl _) (by omega)
       have hl1:=F54 (a.drop (i+1)) (b.drop j)
       have hl2:=F54 (a.drop i) (b.drop (j+1))
       simp only [J12] at hl1 hl2
       have hval:(1:Int)+(if (dist (a.drop i) (b.drop (j+1)):Int) < (dist (a.drop (i+1)) (b.drop j):Int) then (dist (a.drop i) (b.drop (j+1)):Int) else (dist (a.drop (i+1)) (b.drop j):Int))=(dist (a.drop i) (b.drop j):Int):=by
        rw [hdd];split<;>omega
       rw [←hval] at hst
       skip
       refine C4 (by kernel_rfl) (by kernel_rfl) (A8 (A4 Z Z) Z Z (A8 (A4 Z Z) Z Z (A8 (J2 Z Z Z (by omega) (by omega)) Z Z (A8 (P6 Z Z hTi) Z Z (A8 (A4 Z Z) Z Z (A8 (A4 Z Z) Z Z (A8 (A4 Z Z) Z Z (A8 (C1 Z Z (by omega)) Z Z (A8 (J2 Z Z Z (by omega) (by omega)) Z Z (A8 (P6 Z Z hTn') Z Z (A8 (A4 Z Z) Z Z (A8 (B3 Z (.pure _ _ _ _) Z (by omega) hg1) Z Z (A8 (B6 Z Z) Z Z (A8 (A4 Z Z) Z Z (A8 (A4 Z Z) Z Z (A8 (J2 Z Z Z (by omega) (by omega)) Z Z (A8 (P6 Z Z hTi) Z Z (A8 (A4 Z Z) Z Z (A8 (C1 Z Z (by omega)) Z Z (A8 (E5 Z Z Z (by omega) (by omega)) Z Z (A8 (R5 Z Z hg2 Z) Z Z (A8 (E66 Z Z) Z Z (A8 (C1 Z Z (by (constructor<;>split<;>omega))) Z Z ?_)))))))))))))))))))))));refine A8 (E5 Z Z Z (by omega) (by omega)) Z Z (C10 (H3 TySz.out Z Z (by (rw [hRl];simp;omega)) Z Z) Z ?_);refine H9 ?_
       refine k4 (k4 (k1 ?_))
       rw [←hst]
       exact I72 ⟨le1 rfl,le1 rfl,le1 rfl,le1 rfl,le1 rfl,trivial⟩ ⟨rfl,rfl,trivial⟩
   ·skip
    refine A3 (A2 (A4 Z Z) Z (A2 (Q7 Z Z (by omega)) Z (A2 (A5 Z Z) Z (A6 ?_))))
    refine k1 ?_
    exact ⟨j,by omega,by omega,I72 ⟨le1 rfl,le1 rfl,le1 rfl,le1 rfl,le1 rfl,trivial⟩ ⟨rfl,rfl,trivial⟩⟩
  ·obtain rfl:j=0:=by have:=A1 ht;omega
   refine F5 (Sees.freeze (k:=23) Z) ?_
   refine F5 (I91 5 (L9 a b i) Z (by simp [x1]) (by rw [hT,G60 (y:=O4 a b i 0) rfl,F56])) ?_
   refine k6 (k7 (k7 (k8 Z (k4 (k1 ?_)))))
   refine A3 (A2 (A4 Z Z) Z (A2 (Q7 Z Z (by omega)) Z (A2 (A5 Z Z) Z (A6 ?_))))
   refine k1 ?_
   exact ⟨i,by omega,by omega,I72 ⟨le1 rfl,le1 rfl,le1 rfl,le1 rfl,trivial⟩ ⟨rfl,trivial⟩⟩
 ·obtain rfl:i=0:=by have:=A1 ht;omega
  refine F5 (Sees.freeze (k:=5) Z) ?_
  refine k6 (k2 ?_)
  refine A3 (A2 (A4 Z Z) Z (A2 (A5 Z Z) Z (A6 ?_)))
  refine k1 (k10 ?_)
  exact B5 (F2 rfl rfl rfl) rfl
theorem C23 (a b:List Int):∀(p q:Int),∀s∈I1 p q a b,p≤s.From∧s.From < p+a.length∧q≤s.To∧s.To < q+b.length:=by
 induction a generalizing b with
 | nil=>intro p q s hs;simp [I1] at hs
 | cons x a iha =>
  induction b with
  | nil=>intro p q s hs;simp [I1] at hs
  | cons y b ihb =>
   intro p q s hs
   rw [I1] at hs
   simp only [J02]
   split at hs
   ·rcases List.mem_cons.1 hs with rfl | hs
    ·simp only;omega
    ·have:=iha b (p+1) (q+1) s hs;omega
   ·split at hs
    ·have:=iha (y::b) (p+1) q s hs;simp only [J02] at this;omega
    ·have:=ihb p (q+1) s hs;simp only [J02] at this;omega
theorem H32 (a b:List Int) (ha:a.length≤536870911) (hb:b.length≤536870911):FnOk Tryz.prog 106 [S6 a,S6 b] (fun rs=>rs=[pChanges (l5 a b)]):=by
 refine FnOk.intro Tryz.func106 (by decide) Z Z Z Z ?_
 refine k2 ?_
 refine A3 (A2 (A5 Z Z) Z (A6 ?_))
 refine k1 (k2 ?_)
 refine A3 (A2 (A4 Z Z) Z (A2 (A4 Z Z) Z (B9 (I33 a b (by omega) (by omega)) Z Z Z ?_)));rintro _ rfl;refine A2 (A5 Z Z) Z (A6 ?_)
 refine k1 (k2 ?_)
 refine A3 (C3 (V4 6 _ spanC Z) Z (A6 ?_))
 refine k1 (k2 ?_)
 refine A3 (A2 (A5 Z Z) Z (A2 (A5 Z Z) Z (A6 ?_)))
 refine k1 (k2 (k3 ?_))
 refine D3 (X:=Nat × Nat × List Span) (fun x=>([(0,D1 Int 1 L1 a),(1,D1 Int 1 L1 b),(5,D1 (List Int) 1 intsC (B48 a b)),(6,.s (.one (.buf 6 Span 2 spanC x.2.2))),(7,C2 x.1),(8,C2 x.2.1)],[(6,.spare x.2.2.length 2 95)]))
  (fun x=>x.1≤a.length∧x.2.1≤b.length∧x.2.2.length≤x.1∧x.2.2++I1 x.1 x.2.1 (a.drop x.1) (b.drop x.2.1)=I1 0 0 a b) (fun x=>a.length+b.length - x.1 - x.2.1) (0,0,[]) (by simp) (I72 ⟨le1 rfl,le1 rfl,le1 rfl,le1 rfl,le1 rfl,le1 rfl,trivial⟩ ⟨rfl,trivial⟩) ?_
 rintro ⟨i,j,out⟩ ⟨hi,hj,ho,hp⟩
 dsimp only at hi hj ho hp ⊢
 refine k2 (k2 ?_)
 refine A3 (A2 (A4 Z Z) Z (A2 (A4 Z Z) Z (A2 (F1 Z (.pure _ _ _ _)) Z (A2 (D6 Z Z) Z (A2 (A4 Z Z) Z (A9 Z Z Z Z (fun hg=>by rw [hg];exact A4 Z Z) ?_))))));refine A9 Z Z Z Z (fun hg=>by rw [hg];exact A4 Z Z) ?_;refine A9 Z Z Z Z (fun hg=>by rw [hg];exact F1 Z (.pure _ _ _ _)) ?_;refine A9 Z Z Z Z (fun hg=>by rw [hg];exact D6 Z Z) ?_;refine A2 (B4 Z (fun h=>by first | rfl | (rw [h];rfl)) (fun h=>by first | rfl | (rw [h];rfl))) Z ?_;refine A6 ?_
 refine k1 ?_
 refine B1 rfl (fun ht=>?_) (fun ht=>?_)
 ·have hor:=A0 (or_pick.symm.trans ht)
  refine F19 ?_
  refine L5 ?_
  refine k3 (k3 (k2 ?_))
  have hTi:i < a.length→(B48 a b)[i]?=some (O4 a b i 0):=fun h=>A69 a b 0 i (Nat.zero_le _) (by omega)
  have hTn:i < a.length→(B48 a b)[i+1]?=some (O4 a b (i+1) 0):=fun h=>A69 a b 0 (i+1) (Nat.zero_le _) (by omega)
  have hva:i < a.length→a[i]?=some (a.getD i 0):=fun h=>by simp [J06,h]
  have hvb:j < b.length→b[j]?=some (b.getD j 0):=fun h=>by simp [J06,h]
  have hga:∀h:i < a.length,a.getD i 0=a[i]:=fun h=>by simp [J06,h]
  have hgb:∀h:j < b.length,b.getD j 0=b[j]:=fun h=>by simp [J06,h]
  refine C4 (by kernel_rfl) (by kernel_rfl) (A8 (A4 Z Z) Z Z (A8 (A4 Z Z) Z Z (A8 (F1 Z (.pure _ _ _ _)) Z Z (A8 (D6 Z Z) Z Z (A8 (A4 Z Z) Z Z (C6 Z Z (fun hg=>by rw [hg];exact A4 Z Z) Z Z ?_))))));refine C6 Z Z (fun hg=>by rw [hg];exact A4 Z Z) Z Z ?_;refine C6 Z Z (fun hg=>by rw [hg];exact F1 Z (.pure _ _ _ _)) Z Z ?_;refine C6 Z Z (fun hg=>by rw [hg];exact D6 Z Z) Z Z ?_;refine A8 (B4 Z (fun h=>by first | rfl | (rw [h];rfl)) (fun h=>by first | rfl | (rw [h];rfl))) Z Z ?_;refine A8 (A4 Z Z) Z Z (C6 Z Z (fun hg=>by rw [hg];exact A4 Z Z) Z Z ?_);refine C6 Z Z (fun hg=>by rw [hg];exact A4 Z Z) Z Z ?_;refine C6 Z Z (fun hg=>by have hq:=hg;(try simp at hq);rw [hg];exact B3 Z (.pure _ _ _ _) Z (by omega) (hva (by omega))) Z Z ?_;refine C6 Z Z (fun hg=>by rw [hg];exact B6 Z Z) Z Z ?_;refine C6 Z Z (fun hg=>by rw [hg];exact A4 Z Z) Z Z ?_;refine C6 Z Z (fun hg=>by rw [hg];exact A4 Z Z) Z Z ?_;refine C6 Z Z (fun hg=>by have hq:=hg;(try simp at hq);rw [hg];exact B3 Z (.pure _ _ _ _) Z (by omega) (hvb (by omega))) Z Z ?_;refine C6 Z Z (fun hg=>by rw [hg];exact B6 Z Z) Z Z ?_;refine C6 Z Z (fun hg=>by rw [hg];exact F6 Z Z) Z Z ?_;refine A8 (B4 Z (fun h=>by first | rfl | (rw [h];rfl)) (fun h=>by first | rfl | (rw [h];rfl))) Z Z ?_;refine A8 (A5 Z Z) Z Z (H9 ?_)
  refine k1 ?_
  refine B1 rfl (fun ht=>?_) (fun ht=>?_)
  ·simp only [L2] at ht
   obtain ⟨⟨hia,hjb⟩,heq⟩:=A0 ht
   have hia':i < a.length:=by omega
   have hjb':j < b.length:=by omega
   rw [hga hia',hgb hjb'] at heq
   rw [B25 a b i j hia' hjb',if_pos heq] at hp
   refine k2 ?_
   refine A3 (A2 (A4 Z Z) Z (A2 (A4 Z Z) Z (A2 (A4 Z Z) Z (A2 (F8 Z) Z (A2 (C9 (c:=spanC) (ys:=[⟨_,_⟩]) (E1 Z Z Z Z F4) Z Z Z) Z (C3 (G7 Z Z Z (.pure _ _ _ _) (by simp;omega) Z) Z (A2 (A5 Z Z) Z (A6 ?_))))))))
   refine k1 ?_
   refine A3 (A2 (A4 Z Z) Z (A2 (C1 Z Z (by omega)) Z (A2 (A4 Z Z) Z (A2 (C1 Z Z (by omega)) Z (A2 (A5 Z Z) Z (A2 (A5 Z Z) Z (A6 ?_)))))))
   refine k4 (k4 (k1 ?_))
   exact ⟨(i+1,j+1,out++[⟨i,j⟩]),⟨by dsimp only;omega,by dsimp only;omega,by dsimp only;simp;omega,by dsimp only;rw [J13];exact hp⟩,by dsimp only;omega,I72 ⟨le1 rfl,le1 rfl,le1 rfl,le1 rfl,le1 rfl,le1 rfl,trivial⟩ ⟨rfl,trivial⟩⟩
  ·have hne:∀(h1:i < a.length) (h2:j < b.length),a[i]≠b[j]:=fun h1 h2 h=>by
    simp only [L2] at ht
    exact A1 ht ⟨⟨by omega,by omega⟩,by rw [hga h1,hgb h2];exact h⟩
   refine k2 ?_
   refine C4 (by kernel_rfl) (by kernel_rfl) (A8 (A4 Z Z) Z Z (A8 (A4 Z Z) Z Z (A8 (F1 Z (.pure _ _ _ _)) Z Z (A8 (D6 Z Z) Z Z (A8 (A4 Z Z) Z Z (C6 Z Z (fun hg=>by rw [hg];exact A4 Z Z) Z Z ?_))))));refine C6 Z Z (fun hg=>by rw [hg];exact A4 Z Z) Z Z ?_;refine C6 Z Z (fun hg=>by have hq:=hg;(try simp at hq);rw [hg];exact C1 Z Z (by omega)) Z Z ?_;refine C6 Z Z (fun hg=>by have hq:=hg;(try simp at hq);rw [hg];exact B3 Z (.pure _ _ _ _) Z (by omega) (hTn (by omega))) Z Z ?_;refine C6 Z Z (fun hg=>by rw [hg];exact B6 Z Z) Z Z ?_;refine C6 Z Z (fun hg=>by rw [hg];exact A4 Z Z) Z Z ?_;refine C6 Z Z (fun hg=>by have hq:=hg;(try simp at hq);rw [hg];exact B3 Z (.pure _ _ _ _) Z (by omega) (u5 a b (i+1) 0 j (Nat.zero_le _) hj)) Z Z ?_;refine C6 Z Z (fun hg=>by rw [hg];exact B6 Z Z) Z Z ?_;refine C6 Z Z (fun hg=>by have hq:=hg;(try simp at hq);have h1:=F54 (a.drop (i+1)) (b.drop j);simp only [J12] at h1;rw [hg];exact C1 Z Z (by omega)) Z Z ?_;refine C6 Z Z (fun hg=>by rw [hg];exact A4 Z Z) Z Z ?_;refine C6 Z Z (fun hg=>by rw [hg];exact A4 Z Z) Z Z ?_;refine C6 Z Z (fun hg=>by have hq:=hg;(try simp at hq);rw [hg];exact B3 Z (.pure _ _ _ _) Z (by omega) (hTi (by omega))) Z Z ?_;refine C6 Z Z (fun hg=>by rw [hg];exact B6 Z Z) Z Z ?_;refine C6 Z Z (fun hg=>by rw [hg];exact A4 Z Z) Z Z ?_;refine C6 Z Z (fun hg=>by have hq:=hg;(try simp at hq);rw [hg];exact B3 Z (.pure _ _ _ _) Z (by omega) (u5 a b i 0 j (Nat.zero_le _) hj)) Z Z ?_;refine C6 Z Z (fun hg=>by rw [hg];exact B6 Z Z) Z Z ?_;refine C6 Z Z (fun hg=>by rw [hg];exact F6 Z Z) Z Z ?_;refine A8 (B4 Z (fun h=>by first | rfl | (rw [h];rfl)) (fun h=>by first | rfl | (rw [h];rfl))) Z Z ?_;refine A8 (A5 Z Z) Z Z (H9 ?_)
   refine k1 ?_
   refine B1 rfl (fun ht=>?_) (fun ht=>?_)
   ·rw [L2] at ht
    obtain ⟨hia,hd⟩:=A0 ht
    have hia':i < a.length:=by omega
    have hp':out++I1 (i+1:Nat) j (a.drop (i+1)) (b.drop j)=I1 0 0 a b:=by
     by_cases hjb:j < b.length
     ·rw [B25 a b i j hia' hjb,if_neg (hne hia' hjb),if_pos (by omega)] at hp
      exact hp
     ·rw [J11 (show b.length≤j by omega),A46] at hp ⊢
      exact hp
    skip
    refine A3 (A2 (A4 Z Z) Z (A2 (C1 Z Z (by omega)) Z (A2 (A5 Z Z) Z (A6 ?_))))
    refine k4 (k4 (k1 ?_))
    exact ⟨(i+1,j,out),⟨by dsimp only;omega,by dsimp only;omega,by dsimp only;omega,hp'⟩,by dsimp only;omega,I72 ⟨le1 rfl,le1 rfl,le1 rfl,le1 rfl,le1 rfl,le1 rfl,trivial⟩ ⟨rfl,trivial⟩⟩
   ·rw [L2] at ht
    have hd:=A1 ht
    have hjb:j < b.length:=by
     refine Classical.byContradiction fun h=>?_
     have hjb:j=b.length:=by omega
     have hia:i < a.length:=by omega
     apply hd
     refine ⟨by omega,?_⟩
     rw [J11 (show b.length≤j by omega),E01,E01,J12,J12]
     omega
    have hp':out++I1 i (j+1:Nat) (a.drop i) (b.drop (j+1))=I1 0 0 a b:=by
     by_cases hia:i < a.length
     ·rw [B25 a b i j hia hjb,if_neg (hne hia hjb),if_neg (fun h=>hd ⟨by omega,by omega⟩)] at hp
      exact hp
     ·rw [J11 (show a.length≤i by omega),A94] at hp ⊢
      exact hp
    skip
    refine A3 (A2 (A4 Z Z) Z (A2 (C1 Z Z (by omega)) Z (A2 (A5 Z Z) Z (A6 ?_))))
    refine k4 (k4 (k1 ?_))
    exact ⟨(i,j+1,out),⟨by dsimp only;omega,by dsimp only;omega,by dsimp only;omega,hp'⟩,by dsimp only;omega,I72 ⟨le1 rfl,le1 rfl,le1 rfl,le1 rfl,le1 rfl,le1 rfl,trivial⟩ ⟨rfl,trivial⟩⟩
 ·have hor:=A1 (or_pick.symm.trans ht)
  have hi':i=a.length:=by omega
  have hj':j=b.length:=by omega
  rw [hi',J11 (Nat.le_refl a.length)] at hp
  have hout:out=I1 0 0 a b:=by rw [←hp];simp [I1]
  refine k6 (k2 ?_)
  refine A3 (A2 (A4 Z Z) Z (A2 (A4 Z Z) Z (A2 (F1 Z (.pure _ _ _ _)) Z (A2 (A4 Z Z) Z (A2 (F1 Z (.pure _ _ _ _)) Z (B9 (made_ok out a.length b.length (by omega) (fun s hs=>by have:=C23 a b 0 0 s (hout ▸ hs);omega) (by omega)) Z Z Z ?_))))));rintro _ rfl;refine A2 (A5 Z Z) Z (A6 ?_)
  refine k1 (k10 ?_)
  exact B5 (F2 rfl rfl rfl) (by rw [hout];rfl)
theorem E80 (a b:List Int):FnOk Tryz.prog 238 [S6 a,S6 b] (fun rs=>rs=if 4096 < a.length∨4096 < b.length then [pChanges [],E6 1] else [pChanges (l5 a b),E6 0]):=by
 refine FnOk.intro Tryz.func238 (by decide) Z Z Z Z ?_
 refine k2 ?_
 refine A3 (A2 (A5 Z Z) Z (A2 (A5 Z Z) Z (A6 ?_)))
 refine k1 (k2 (k2 ?_))
 refine A3 (A2 (A4 Z Z) Z (A2 (A4 Z Z) Z (B9 (long_ok a b) Z Z Z ?_)));rintro _ rfl;refine A6 ?_
 refine k1 ?_
 refine B1 rfl (fun ht=>?_) (fun ht=>?_)
 ·have h:=A0 ht
  refine k2 ?_
  refine A3 (A2 (J9 _ 4 changeC) Z (A2 (A5 Z Z) Z (A6 ?_)))
  refine k1 (k10 (k11 ?_))
  exact B5 (X6 rfl rfl rfl rfl rfl) (by rw [if_pos h])
 ·have h:=A1 ht
  refine k5 (k1 (k2 ?_))
  refine A3 (A2 (A4 Z Z) Z (A2 (A4 Z Z) Z (B9 (H32 a b (by omega) (by omega)) Z Z Z ?_)));rintro _ rfl;refine A2 (A5 Z Z) Z (A2 (A5 Z Z) Z (A6 ?_))
  refine k1 (k10 ?_)
  exact B5 (X6 rfl rfl rfl rfl rfl) (by rw [if_neg h])
theorem D79 (l:List Change) (m:Int) (hl:l.length≤1048576) (hm:m≤536870911) (hb:∀c∈l,c.Old≤536870911∧0≤c.OldLen∧c.OldLen≤1048576∧0≤c.NewLen∧c.NewLen≤1048576) :
  FnOk Tryz.prog 107 [pChanges l,E6 m] (fun rs=>rs=[pSpans (c8 l m)]):=by
 refine FnOk.intro Tryz.func107 (by decide) Z Z Z Z ?_
 refine k2 ?_
 refine A3 (A2 (A5 Z Z) Z (A6 ?_))
 refine k1 (k2 ?_)
 refine A3 (C3 (V4 5 _ spanC Z) Z (A6 ?_))
 refine k1 (k2 ?_)
 refine A3 (A2 (A5 Z Z) Z (A2 (A5 Z Z) Z (A6 ?_)))
 refine k1 (k2 (k2 ?_))
 refine A3 (A2 (A5 Z Z) Z (A6 ?_))
 refine k1 (k3 ?_)
 refine D3 (X:=Nat × Int × Int × List Span) (fun x=>([(0,D1 Change 4 changeC l),(1,C2 m),(5,.s (.one (.buf 5 Span 2 spanC x.2.2.2))),(6,C2 x.2.1),(7,C2 x.2.2.1),(8,C2 x.1)],[(5,.spare x.2.2.2.length 2 95)]))
  (fun x=>x.1≤l.length∧0≤x.2.1∧(x.2.2.2.length:Int)≤x.2.1∧x.2.1≤536870911+x.1*1048576∧0≤x.2.2.1∧x.2.2.1≤536870911*(x.1+1)+x.1*1048576∧x.2.2.2.length≤536870911∧x.2.2.2++K2 x.2.1 x.2.2.1 (l.drop x.1) m=c8 l m)
  (fun x=>l.length - x.1) (0,0,0,[]) (by simp [c8]) (I72 ⟨le1 rfl,le1 rfl,le1 rfl,le1 rfl,le1 rfl,le1 rfl,trivial⟩ ⟨rfl,trivial⟩) ?_
 rintro ⟨k,i,j,out⟩ ⟨hk,hi,ho,hi2,hj,hj2,ho2,hp⟩
 dsimp only at hk hi ho hi2 hj hj2 ho2 hp ⊢
 refine k2 (k2 ?_)
 refine A3 (A2 (A4 Z Z) Z (A2 (A4 Z Z) Z (A2 (F1 Z (.pure _ _ _ _)) Z (A2 (D6 Z Z) Z (A6 ?_)))))
 refine k1 ?_
 refine B1 rfl (fun ht=>?_) (fun ht=>?_)
 ·have hlt:k < l.length:=by have:=A0 ht;omega
  have hv:l[k]?=some l[k]:=by simp [hlt]
  have hc:=hb l[k] (J19 hlt)
  rw [J07 hlt,K2] at hp
  refine k5 (k1 (k2 (k3 (k2 (k3 ?_)))))
  refine D3 (X:=Nat) (fun t=>([(0,D1 Change 4 changeC l),(1,C2 m),(5,.s (.one (.buf 5 Span 2 spanC (out++Q6 i j t)))),(6,C2 (i+t)),(7,C2 (j+t)),(8,C2 k)],[(5,.spare (out++Q6 i j t).length 2 95)]))
   (fun t=>t≤(l[k].Old - i).toNat) (fun t=>(l[k].Old - i).toNat - t) 0 (Nat.zero_le _) (by rw [C29,J25];exact I72 ⟨le1 rfl,le1 rfl,le1 rfl,leE rfl (by first | (simp;done) | (simp;omega)),leE rfl (by first | (simp;done) | (simp;omega)),le1 rfl,trivial⟩ ⟨rfl,trivial⟩) ?_
  intro t htl
  dsimp only at htl ⊢
  have hsl:=B24 i j t
  refine k2 (k2 ?_)
  have hol:out.length+t≤536870911:=by omega
  refine A3 (A2 (A4 Z Z) Z (A2 (A4 Z Z) Z (A2 (A4 Z Z) Z (A2 (B3 Z (.pure _ _ _ _) Z (by omega) hv) Z (A2 (D7 Z) Z (A2 (B6 Z Z) Z (A2 (D6 Z Z) Z (A6 ?_))))))))
  refine k1 ?_
  refine B1 rfl (fun ht=>?_) (fun ht=>?_)
  ·have h1:=A0 ht
   refine k5 (k1 (k3 (k2 ?_)))
   refine A3 (A2 (A4 Z Z) Z (A2 (A4 Z Z) Z (A2 (A4 Z Z) Z (A2 (F8 Z) Z (A2 (C9 (c:=spanC) (ys:=[⟨_,_⟩]) (E1 Z Z Z Z F4) Z Z Z) Z (C3 (G7 Z Z Z (.pure _ _ _ _) (by (simp;omega)) Z) Z (A2 (A5 Z Z) Z (A6 ?_))))))))
   refine k1 ?_
   refine A3 (A2 (A4 Z Z) Z (A2 (C1 Z Z (by omega)) Z (A2 (A4 Z Z) Z (A2 (C1 Z Z (by omega)) Z (A2 (A5 Z Z) Z (A2 (A5 Z Z) Z (A6 ?_)))))))
   refine k4 (k1 ?_)
   refine ⟨t+1,by omega,by omega,?_⟩
   rw [C30,←J13]
   exact I72 ⟨le1 rfl,le1 rfl,le1 rfl,leE rfl (by first | (simp;done) | (simp;omega)),leE rfl (by first | (simp;done) | (simp;omega)),le1 rfl,trivial⟩ ⟨rfl,trivial⟩
  ·have h1:=A1 ht
   have h2:t=(l[k].Old - i).toNat:=by omega
   rw [←h2] at hp
   have h3:max i l[k].Old=i+t:=by omega
   rw [h3] at hp
   refine k6 (k7 (k7 (k8 Z (k1 ?_))))
   refine C4 (by kernel_rfl) (by kernel_rfl) (A8 (A4 Z Z) Z Z (A8 (A4 Z Z) Z Z (A8 (A4 Z Z) Z Z (A8 (B3 Z (.pure _ _ _ _) Z (by omega) hv) Z Z (A8 (D7 Z) Z Z (A8 (B6 Z Z) Z Z (A8 (C1 Z Z (by omega)) Z Z (A8 (A4 Z Z) Z Z (A8 (A4 Z Z) Z Z (A8 (A4 Z Z) Z Z (A8 (B3 Z (.pure _ _ _ _) Z (by omega) hv) Z Z (A8 (D7 Z) Z Z (A8 (B6 Z Z) Z Z (A8 (C1 Z Z (by omega)) Z Z (A8 (A5 Z Z) Z Z (A8 (A5 Z Z) Z Z (H9 ?_)))))))))))))))))
   refine k4 (k1 ?_)
   refine A3 (A2 (A4 Z Z) Z (A2 (C1 Z Z (by omega)) Z (A2 (A5 Z Z) Z (A6 ?_))))
   refine k1 ?_
   exact ⟨(k+1,i+t+l[k].OldLen,j+t+l[k].NewLen,out++Q6 i j t),⟨by dsimp only;omega,by dsimp only;omega,by dsimp only;rw [J01,hsl];omega,by dsimp only;omega,by dsimp only;omega,by dsimp only;omega,by dsimp only;rw [J01,hsl];omega,by dsimp only;rw [J13];exact hp⟩,by dsimp only;omega,I72 ⟨le1 rfl,le1 rfl,le1 rfl,le1 rfl,le1 rfl,le1 rfl,trivial⟩ ⟨rfl,trivial⟩⟩
 ·have hk':k=l.length:=by have:=A1 ht;omega
  rw [hk',J11 (Nat.le_refl _),K2] at hp
  refine k6 (k2 (k3 ?_))
  refine D3 (X:=Nat) (fun t=>([(1,C2 m),(5,.s (.one (.buf 5 Span 2 spanC (out++Q6 i j t)))),(6,C2 (i+t)),(7,C2 (j+t))],[(5,.spare (out++Q6 i j t).length 2 95)]))
   (fun t=>t≤(m - i).toNat) (fun t=>(m - i).toNat - t) 0 (Nat.zero_le _) (by rw [C29,J25];exact I72 ⟨le1 rfl,le1 rfl,leE rfl (by first | (simp;done) | (simp;omega)),leE rfl (by first | (simp;done) | (simp;omega)),trivial⟩ ⟨rfl,trivial⟩) ?_
  intro t htl
  dsimp only at htl ⊢
  have hsl:=B24 i j t
  have hol:out.length+t≤536870911:=by omega
  refine k2 (k2 ?_)
  refine A3 (A2 (A4 Z Z) Z (A2 (A4 Z Z) Z (A2 (D6 Z Z) Z (A6 ?_))))
  refine k1 ?_
  refine B1 rfl (fun ht=>?_) (fun ht=>?_)
  ·have h1:=A0 ht
   refine k5 (k1 (k3 (k2 ?_)))
   refine A3 (A2 (A4 Z Z) Z (A2 (A4 Z Z) Z (A2 (A4 Z Z) Z (A2 (F8 Z) Z (A2 (C9 (c:=spanC) (ys:=[⟨_,_⟩]) (E1 Z Z Z Z F4) Z Z Z) Z (C3 (G7 Z Z Z (.pure _ _ _ _) (by (simp;omega)) Z) Z (A2 (A5 Z Z) Z (A6 ?_))))))))
   refine k1 ?_
   refine A3 (A2 (A4 Z Z) Z (A2 (C1 Z Z (by omega)) Z (A2 (A4 Z Z) Z (A2 (C1 Z Z (by omega)) Z (A2 (A5 Z Z) Z (A2 (A5 Z Z) Z (A6 ?_)))))))
   refine k4 (k1 ?_)
   refine ⟨t+1,by omega,by omega,?_⟩
   rw [C30,←J13]
   exact I72 ⟨le1 rfl,le1 rfl,leE rfl (by first | (simp;done) | (simp;omega)),leE rfl (by first | (simp;done) | (simp;omega)),trivial⟩ ⟨rfl,trivial⟩
  ·have h1:=A1 ht
   have h2:t=(m - i).toNat:=by omega
   refine k6 (k2 ?_)
   refine A3 (A2 (A4 Z Z) Z (A2 (A5 Z Z) Z (A6 ?_)))
   refine k1 (k10 ?_)
   exact B5 (F2 rfl rfl rfl) (by rw [h2,hp])
theorem E81 (l:List Merged) (list:List Int) (p:Int) (hl:l.length≤536870912):FnOk Tryz.prog 187 [pMerged l,S6 list,E6 p] (fun rs=>rs=if 4096 < l.length∨4096 < list.length then [pMerged [],E6 1] else [pMerged (l6 l list p),E6 0]):=by
 refine FnOk.intro Tryz.func187 (by decide) Z Z Z Z ?_
 refine k2 ?_
 refine A3 (A2 (A5 Z Z) Z (A2 (A5 Z Z) Z (A6 ?_)))
 refine k1 (k2 ?_)
 have hlm:(J7 l).length=l.length:=by simp [J7]
 by_cases hbig:4096 < l.length∨4096 < list.length
 ·rw [if_pos hbig]
  refine A3 (A2 (A4 Z Z) Z (B9 (E79 l hl) Z Z Z ?_));rintro _ rfl;refine A2 (A4 Z Z) Z (B9 ((E80 (J7 l) list).mono (post':=fun rs=>rs=[pChanges [],E6 1]) (fun rs h=>by rw [if_pos (by rw [hlm];exact hbig)] at h;exact h)) Z Z Z ?_);rintro _ rfl;refine A2 (A4 Z Z) Z (A2 (B2 Z Z) Z (A2 (B2 Z Z) Z (A2 (A5 Z Z) Z (A2 (A5 Z Z) Z (A6 ?_)))))
  refine k1 (k2 (k2 ?_))
  refine A3 (A2 (A4 Z Z) Z (A2 (M5 Z Z) Z (A6 ?_)))
  refine k1 ?_
  refine B1 rfl (fun ht=>?_) (fun ht=>?_)
  ·refine k2 ?_
   refine A3 (A2 (J9 _ 2 mergedC) Z (A2 (A5 Z Z) Z (A6 ?_)))
   refine k1 (k10 (k11 ?_))
   exact B5 (X6 rfl rfl rfl rfl rfl) rfl
  ·cases A1 ht (by decide)
 ·rw [if_neg hbig]
  refine A3 (A2 (A4 Z Z) Z (B9 (E79 l hl) Z Z Z ?_));rintro _ rfl;refine A2 (A4 Z Z) Z (B9 ((E80 (J7 l) list).mono (post':=fun rs=>rs=[pChanges (l5 (J7 l) list),E6 0]) (fun rs h=>by rw [if_neg (by rw [hlm];exact hbig)] at h;exact h)) Z Z Z ?_);rintro _ rfl;refine A2 (A4 Z Z) Z (A2 (B2 Z Z) Z (A2 (B2 Z Z) Z (A2 (A5 Z Z) Z (A2 (A5 Z Z) Z (A6 ?_)))))
  refine k1 (k2 (k2 ?_))
  refine A3 (A2 (A4 Z Z) Z (A2 (M5 Z Z) Z (A6 ?_)))
  refine k1 ?_
  refine B1 rfl (fun ht=>?_) (fun ht=>?_)
  ·cases A0 ht rfl
  ·have hwb:=C33 (J7 l) list
   have hwl:(l5 (J7 l) list).length≤4097:=by
    have h1:=B72 (I1 0 0 (J7 l) list) 0 0 (J7 l).length list.length
    have h2:=s8 0 0 (J7 l) list
    unfold l5 C80;omega
   have hmw:=C32 (J7 l) list
   have hasc:=A70 (J7 l) list 0 0
   rw [Int.zero_add,Int.zero_add] at hasc
   have hpl:=s8 0 0 (J7 l) list
   rw [hlm] at hmw hasc hpl
   obtain ⟨ps,hps⟩:∃ps,ps=I1 0 0 (J7 l) list:=⟨_,rfl⟩
   refine k5 (k1 (k2 ?_))
   refine A3 (A2 (A4 Z Z) Z (A2 (A4 Z Z) Z (A2 (F1 Z (.pure _ _ _ _)) Z (B9 (D79 (l5 (J7 l) list) l.length (by omega) (by omega) (fun c hc=>by have:=hwb c hc;rw [hlm] at this;omega)) Z Z Z ?_))));rintro _ rfl;refine A2 (A5 Z Z) Z (A6 ?_)
   refine k1 (k2 ?_)
   rw [hmw,←hps]
   rw [←hps] at hasc hpl
   refine A3 (C3 (V4 11 _ mergedC Z) Z (A6 ?_))
   refine k1 (k2 ?_)
   refine A3 (A2 (A5 Z Z) Z (A2 (A5 Z Z) Z (A6 ?_)))
   refine k1 (k2 (k2 ?_))
   refine A3 (A2 (A5 Z Z) Z (A6 ?_))
   refine k1 (k3 ?_)
   have hlb:l.length≤4096∧list.length≤4096:=by omega
   have hwp:=B86 p
   refine D3 (X:=Nat × Nat × Nat × List Merged) (fun x=>([(0,D1 Merged 2 mergedC l),(1,D1 Int 1 L1 list),(2,C2 p),(10,D1 Span 2 spanC ps),(11,.s (.one (.buf 11 Merged 2 mergedC x.2.2.2))),(12,C2 x.2.1),(13,C2 x.2.2.1),(14,C2 x.1)],[(11,.spare x.2.2.2.length 2 169)]))
    (fun x=>x.1≤ps.length+1∧x.2.2.2.length≤x.2.1+x.2.2.1∧x.2.1≤l.length∧x.2.2.1≤list.length∧(x.1≤ps.length→Asc l.length list.length x.2.1 x.2.2.1 (ps.drop x.1)∧x.2.2.2++V1 l list (Q9 p) x.2.1 x.2.2.1 (ps.drop x.1)=V1 l list (Q9 p) 0 0 ps)∧(x.1=ps.length+1→x.2.2.2=V1 l list (Q9 p) 0 0 ps))
    (fun x=>ps.length+1 - x.1) (0,0,0,[]) (by simpa using hasc) (I72 ⟨le1 rfl,le1 rfl,le1 rfl,le1 rfl,le1 rfl,le1 rfl,le1 rfl,le1 rfl,trivial⟩ ⟨rfl,trivial⟩) ?_
   rintro ⟨k,i,j,out⟩ ⟨hk,ho,hi,hj,h1,h2⟩
   dsimp only at hk ho hi hj h1 h2 ⊢
   refine k2 (k2 ?_)
   refine A3 (A2 (A4 Z Z) Z (A2 (A4 Z Z) Z (A2 (F1 Z (.pure _ _ _ _)) Z (A2 (x7 Z Z) Z (A6 ?_)))))
   refine k1 ?_
   refine B1 rfl (fun ht=>?_) (fun ht=>?_)
   ·have hk':k≤ps.length:=by have:=A0 ht;omega
    obtain ⟨ha,hp⟩:=h1 hk'
    refine k5 (k1 (k2 (k3 (k2 ?_))))
    refine A3 (A2 (A4 Z Z) Z (A2 (F1 Z (.pure _ _ _ _)) Z (A2 (A4 Z Z) Z (A2 (F1 Z (.pure _ _ _ _)) Z (A2 (F8 Z) Z (C3 (H1 15 Z) Z (E9 (C0 TySz.out Z Z Z Z Z Z) (A6 ?_))))))))
    refine L5 ?_
    obtain ⟨x,hx⟩:∃x,x=ps.getD k ⟨l.length,list.length⟩:=⟨_,rfl⟩
    have hstep:(i:Int)≤x.From∧(j:Int)≤x.To∧x.From≤l.length∧x.To≤list.length∧(k < ps.length→x.From < l.length∧x.To < list.length∧Asc l.length list.length (x.From+1) (x.To+1) (ps.drop (k+1))) ∧
      V1 l list (Q9 p) i j (ps.drop k)=(l.drop i).take (x.From.toNat - i)++(((list.drop j).take (x.To.toNat - j)).map fun v=>⟨v,Q9 p⟩)++(if k < ps.length then (l[x.From.toNat]?.map fun y=>(⟨y.Line,S2 y.Parents (Q9 p)⟩:Merged)).toList++V1 l list (Q9 p) (x.From.toNat+1) (x.To.toNat+1) (ps.drop (k+1)) else []):=by
     by_cases h:k < ps.length
     ·have hxk:x=ps[k]:=by rw [hx,J06,J03 h];rfl
      rw [J07 h,←hxk] at ha
      obtain ⟨a1,a2,a3⟩:=ha
      have a4:=a3.le
      refine ⟨a1,a2,by omega,by omega,fun _=>⟨by omega,by omega,a3⟩,?_⟩
      rw [J07 h,←hxk,if_pos h];rfl
     ·have hxk:x=⟨l.length,list.length⟩:=by rw [hx,J06,J24 (by omega)];rfl
      rw [hxk,if_neg h,J11 (show ps.length≤k by omega)]
      refine ⟨by simp only;omega,by simp only;omega,Int.le_refl _,Int.le_refl _,fun h'=>absurd h' h,?_⟩
      simp [V1]
    obtain ⟨hx1,hx2,hx3,hx4,hx5,hjg⟩:=hstep
    refine j4 [(0,D1 Merged 2 mergedC l),(1,D1 Int 1 L1 list),(2,C2 p),(10,D1 Span 2 spanC ps),(11,.s (.one (.buf 11 Merged 2 mergedC out))),(12,C2 i),(13,C2 j),(14,C2 k),(15,.s (.one (.ref 15 0)))] [(15,.box [.p (.v (.int .i64 x.From)),.p (.v (.int .i64 x.To))]),(11,.spare out.length 2 169)] ?_ ?_
    ·refine k2 ?_
     refine A3 (A2 (A4 Z Z) Z (A2 (A4 Z Z) Z (A2 (F1 Z (.pure _ _ _ _)) Z (A2 (D6 Z Z) Z (A6 ?_)))))
     refine k1 ?_
     refine B1 rfl (fun ht=>?_) (fun ht=>?_)
     ·have hlt:k < ps.length:=by have:=A0 ht;omega
      have hv:ps[k]?=some ps[k]:=by simp [hlt]
      have:x=ps[k]:=by rw [hx,J06,hv];rfl
      subst this
      skip
      refine A3 (A2 (A4 Z Z) Z (A2 (A4 Z Z) Z (A2 (B3 Z (.pure _ _ _ _) Z (by omega) hv) Z (A2 (G8 Z Z) Z (E9 (C0 TySz.out Z Z Z Z Z Z) (A6 ?_))))))
      refine k1 ?_
      exact I72 ⟨le1 rfl,le1 rfl,le1 rfl,le1 rfl,le1 rfl,le1 rfl,le1 rfl,le1 rfl,le1 rfl,trivial⟩ ⟨rfl,rfl,trivial⟩
     ·have hlt:¬k < ps.length:=by have:=A1 ht;omega
      have:x=⟨l.length,list.length⟩:=by rw [hx,J06,J24 (by omega)];rfl
      subst this
      refine k5 (k1 ?_)
      exact I72 ⟨le1 rfl,le1 rfl,le1 rfl,le1 rfl,le1 rfl,le1 rfl,le1 rfl,le1 rfl,le1 rfl,trivial⟩ ⟨rfl,rfl,trivial⟩
    ·obtain ⟨f,hf⟩:∃f:Nat,x.From=f:=⟨x.From.toNat,by omega⟩
     obtain ⟨g,hg⟩:∃g:Nat,x.To=g:=⟨x.To.toNat,by omega⟩
     rw [hf] at hx1 hx3 hx5 hjg
     rw [hg] at hx2 hx4 hx5 hjg
     simp only [J09] at hjg
     rw [hf,hg]
     refine k2 (k3 ?_)
     refine D3 (X:=Nat) (fun t=>([(0,D1 Merged 2 mergedC l),(1,D1 Int 1 L1 list),(2,C2 p),(10,D1 Span 2 spanC ps),(11,.s (.one (.buf 11 Merged 2 mergedC (out++(l.drop i).take t)))),(12,C2 ((i+t:Nat):Int)),(13,C2 j),(14,C2 k),(15,.s (.one (.ref 15 0)))],[(15,.box [.p (.v (.int .i64 f)),.p (.v (.int .i64 g))]),(11,.spare (out++(l.drop i).take t).length 2 169)]))
      (fun t=>t≤f - i) (fun t=>f - i - t) 0 (Nat.zero_le _) (by rw [List.take_zero,J25];exact I72 ⟨le1 rfl,le1 rfl,le1 rfl,le1 rfl,le1 rfl,le1 rfl,le1 rfl,le1 rfl,le1 rfl,trivial⟩ ⟨rfl,rfl,trivial⟩) ?_
     intro t htl
     dsimp only at htl ⊢
     have hb1:(out++(l.drop i).take t).length≤i+j+t:=by simp;omega
     refine k2 (k2 ?_)
     refine A3 (A2 (A4 Z Z) Z (A2 (A7 Z) Z (A2 (B0 Z Z Z) Z (A2 (D6 Z Z) Z (A6 ?_)))))
     refine k1 ?_
     refine B1 rfl (fun ht=>?_) (fun ht=>?_)
     ·have hlt:i+t < f:=by have:=A0 ht;omega
      have hv:l[i+t]?=some (l[i+t]'(by omega)):=J03 (by omega)
      refine k5 (k1 (k3 (k2 ?_)))
      refine A3 (A2 (A4 Z Z) Z (A2 (A4 Z Z) Z (A2 (A4 Z Z) Z (A2 (B3 Z (.pure _ _ _ _) Z (by omega) hv) Z (A2 (G8 Z Z) Z (A2 (C9 (c:=mergedC) (ys:=[⟨_,_⟩]) (E1 Z Z Z Z F4) Z Z Z) Z (C3 (G7 Z Z Z (.pure _ _ _ _) (by (simp only [J02,J05];omega)) Z) Z (A2 (A5 Z Z) Z (A6 ?_)))))))))
      refine k1 ?_
      refine A3 (A2 (A4 Z Z) Z (A2 (C1 Z Z (by omega)) Z (A2 (A5 Z Z) Z (A6 ?_))))
      refine k4 (k1 ?_)
      refine ⟨t+1,by omega,by omega,?_⟩
      rw [B26 l i t (by omega),←J13]
      exact I72 ⟨le1 rfl,le1 rfl,le1 rfl,le1 rfl,le1 rfl,le1 rfl,le1 rfl,le1 rfl,le1 rfl,trivial⟩ ⟨rfl,rfl,trivial⟩
     ·have hte:i+t=f:=by have:=A1 ht;omega
      rw [hte]
      rw [show t=f - i by omega]
      rw [show t=f - i by omega] at hb1
      obtain ⟨o1,ho1⟩:∃o1,o1=out++(l.drop i).take (f - i):=⟨_,rfl⟩
      rw [←ho1] at hb1 ⊢
      refine k6 (k2 (k3 ?_))
      refine D3 (X:=Nat) (fun t=>([(0,D1 Merged 2 mergedC l),(1,D1 Int 1 L1 list),(2,C2 p),(10,D1 Span 2 spanC ps),(11,.s (.one (.buf 11 Merged 2 mergedC (o1++((list.drop j).take t).map fun v=>⟨v,Q9 p⟩)))),(12,C2 f),(13,C2 ((j+t:Nat):Int)),(14,C2 k),(15,.s (.one (.ref 15 0)))],[(15,.box [.p (.v (.int .i64 f)),.p (.v (.int .i64 g))]),(11,.spare (o1++((list.drop j).take t).map fun v=>(⟨v,Q9 p⟩:Merged)).length 2 169)]))
       (fun t=>t≤g - j) (fun t=>g - j - t) 0 (Nat.zero_le _) (by rw [List.take_zero,J37,J25];exact I72 ⟨le1 rfl,le1 rfl,le1 rfl,le1 rfl,le1 rfl,le1 rfl,le1 rfl,le1 rfl,le1 rfl,trivial⟩ ⟨rfl,rfl,trivial⟩) ?_
      intro t htl
      dsimp only at htl ⊢
      have hb2:(o1++((list.drop j).take t).map fun v=>(⟨v,Q9 p⟩:Merged)).length≤i+j+(f - i)+t:=by simp;omega
      refine k2 (k2 ?_)
      refine A3 (A2 (A4 Z Z) Z (A2 (A7 Z) Z (A2 (B0 Z Z Z) Z (A2 (D6 Z Z) Z (A6 ?_)))))
      refine k1 ?_
      refine B1 rfl (fun ht=>?_) (fun ht=>?_)
      ·have hlt:j+t < g:=by have:=A0 ht;omega
       have hv:list[j+t]?=some (list[j+t]'(by omega)):=J03 (by omega)
       refine k5 (k1 (k3 (k2 ?_)))
       refine A3 (A2 (A4 Z Z) Z (A2 (A4 Z Z) Z (A2 (A4 Z Z) Z (A2 (B3 Z (.pure _ _ _ _) Z (by omega) hv) Z (A2 (B6 Z Z) Z (A2 (A4 Z Z) Z (A2 (J4 Z) Z (A2 (E63 Z Z (by omega)) Z (A2 (F8 Z) Z (A2 (C9 (c:=mergedC) (ys:=[⟨_,_⟩]) (E1 Z Z Z Z F4) Z Z Z) Z (C3 (G7 Z Z Z (.pure _ _ _ _) (by (simp only [J02,J05];omega)) Z) Z (A2 (A5 Z Z) Z (A6 ?_)))))))))))))
       refine k1 ?_
       refine A3 (A2 (A4 Z Z) Z (A2 (C1 Z Z (by omega)) Z (A2 (A5 Z Z) Z (A6 ?_))))
       refine k4 (k1 ?_)
       refine ⟨t+1,by omega,by omega,?_⟩
       rw [B26 list j t (by omega),J17,←J13]
       simp only [J08,J37]
       exact I72 ⟨le1 rfl,le1 rfl,le1 rfl,le1 rfl,le1 rfl,le1 rfl,le1 rfl,le1 rfl,le1 rfl,trivial⟩ ⟨rfl,rfl,trivial⟩
      ·have hte:j+t=g:=by have:=A1 ht;omega
       rw [hte]
       rw [show t=g - j by omega]
       rw [show t=g - j by omega] at hb2
       obtain ⟨o2,ho2⟩:∃o2,o2=o1++((list.drop j).take (g - j)).map fun v=>(⟨v,Q9 p⟩:Merged):=⟨_,rfl⟩
       rw [←ho2] at hb2 ⊢
       have hout:out++V1 l list (Q9 p) i j (ps.drop k)=o2++(if k < ps.length then (l[f]?.map fun y=>(⟨y.Line,S2 y.Parents (Q9 p)⟩:Merged)).toList++V1 l list (Q9 p) (f+1) (g+1) (ps.drop (k+1)) else []):=by
        rw [hjg,ho2,ho1];simp only [J13]
       rw [hout] at hp
       refine k6 (k2 ?_)
       refine A3 (A2 (A4 Z Z) Z (A2 (A4 Z Z) Z (A2 (F1 Z (.pure _ _ _ _)) Z (A2 (D6 Z Z) Z (A6 ?_)))))
       refine k1 ?_
       refine B1 rfl (fun ht=>?_) (fun ht=>?_)
       ·have hlt:k < ps.length:=by have:=A0 ht;omega
        obtain ⟨hf1,hg1,hasc'⟩:=hx5 hlt
        have hfl:f < l.length:=by omega
        have hv:l[f]?=some l[f]:=J03 hfl
        rw [if_pos hlt,hv] at hp
        refine k2 ?_
        refine C4 (by kernel_rfl) (by kernel_rfl) (A8 (A4 Z Z) Z Z (A8 (A4 Z Z) Z Z (A8 (A4 Z Z) Z Z (A8 (B3 Z (.pure _ _ _ _) Z (by omega) hv) Z Z (A8 (D7 Z) Z Z (A8 (B6 Z Z) Z Z (A8 (A4 Z Z) Z Z (A8 (A4 Z Z) Z Z (A8 (B3 Z (.pure _ _ _ _) Z (by omega) hv) Z Z (A8 (D7 Z) Z Z (A8 (B6 Z Z) Z Z (A8 (A4 Z Z) Z Z (A8 (J4 Z) Z Z (A8 (E63 Z Z (by omega)) Z Z (A8 (T7 Z Z Z (fun _=>rfl)) Z Z (A8 (F8 Z) Z Z (A8 (C9 (c:=mergedC) (ys:=[⟨l[f].Line,S2 l[f].Parents (Q9 p)⟩]) (E1 Z Z Z Z F4) Z Z Z) Z Z (D59 (G7 Z Z Z (.pure _ _ _ _) (by (simp only [J02,J05];omega)) Z) Z Z (A8 (A5 Z Z) Z Z (H9 ?_))))))))))))))))))))
        refine k1 ?_
        refine A3 (A2 (A4 Z Z) Z (A2 (C1 Z Z (by omega)) Z (A2 (A4 Z Z) Z (A2 (C1 Z Z (by omega)) Z (A2 (A5 Z Z) Z (A2 (A5 Z Z) Z (A6 ?_)))))))
        refine k4 (k1 ?_)
        refine A3 (A2 (A4 Z Z) Z (A2 (C1 Z Z (by omega)) Z (A2 (A5 Z Z) Z (A6 ?_))))
        refine k1 ?_
        refine ⟨(k+1,f+1,g+1,o2++[⟨l[f].Line,S2 l[f].Parents (Q9 p)⟩]),⟨by dsimp only;omega,by dsimp only;simp only [J01,J02,J05];omega,by dsimp only;omega,by dsimp only;omega,fun _=>⟨hasc',?_⟩,fun h=>?_⟩,by dsimp only;omega,I72 ⟨le1 rfl,le1 rfl,le1 rfl,le1 rfl,le1 rfl,le1 rfl,le1 rfl,le1 rfl,trivial⟩ ⟨rfl,trivial⟩⟩
        ·rw [←hp];simp
        ·dsimp only at h ⊢
         omega
       ·have hlt:¬k < ps.length:=by have:=A1 ht;omega
        rw [if_neg hlt,J25] at hp
        refine k5 (k4 (k1 ?_))
        refine A3 (A2 (A4 Z Z) Z (A2 (C1 Z Z (by omega)) Z (A2 (A5 Z Z) Z (A6 ?_))))
        refine k1 ?_
        exact ⟨(k+1,f,g,o2),⟨by dsimp only;omega,by dsimp only;omega,by dsimp only;omega,by dsimp only;omega,fun h=>by dsimp only at h;omega,fun _=>hp⟩,by dsimp only;omega,I72 ⟨le1 rfl,le1 rfl,le1 rfl,le1 rfl,le1 rfl,le1 rfl,le1 rfl,le1 rfl,trivial⟩ ⟨rfl,trivial⟩⟩
   ·have hk':k=ps.length+1:=by have:=A1 ht;omega
    refine k6 (k2 ?_)
    refine A3 (A2 (A4 Z Z) Z (A2 (A5 Z Z) Z (A2 (A5 Z Z) Z (A6 ?_))))
    refine k1 (k10 ?_)
    exact B5 (X6 rfl rfl rfl rfl rfl) (by rw [h2 hk',hps];rfl)
theorem E45 (l:List Merged) (list:List Int) (p:Int) (h1:l.length≤4096) (h2:list.length≤4096):(l6 l list p).length≤536870912:=by
 have h3:=B73 l list (Q9 p) (I1 0 0 (J7 l) list) 0 0
 have h4:=s8 0 0 (J7 l) list
 have h5:(J7 l).length=l.length:=by simp [J7]
 unfold l6
 have h6:l.length*((I1 0 0 (J7 l) list).length+1)≤4096*4097:=Nat.mul_le_mul h1 (by omega)
 have h7:list.length*((I1 0 0 (J7 l) list).length+1)≤4096*4097:=Nat.mul_le_mul h2 (by omega)
 omega
theorem F96 (ls:List (List Int)):FnOk Tryz.prog 108 [pIntss ls] (fun rs=>rs=[pMerged (I2 ls).1,E6 (I2 ls).2]):=by
 refine FnOk.intro Tryz.func108 (by decide) Z Z Z Z ?_
 refine k2 ?_
 refine A3 (A2 (A5 Z Z) Z (A2 (A5 Z Z) Z (A6 ?_)))
 refine k1 (k2 (k2 ?_))
 refine A3 (A2 (A4 Z Z) Z (A2 (F1 Z (.pure _ _ _ _)) Z (A2 (N2 Z Z) Z (A6 ?_))))
 refine k1 ?_
 refine B1 rfl (fun ht=>?_) (fun ht=>?_)
 ·have h:=A0 ht
  refine k2 ?_
  refine A3 (A2 (J9 _ 2 mergedC) Z (A2 (A5 Z Z) Z (A6 ?_)))
  refine k1 (k10 (k11 ?_))
  exact B5 (X6 rfl rfl rfl rfl rfl) (by rw [I2,if_pos (by omega)])
 ·have h:=A1 ht
  have hco:I2 ls=N4 [] 0 ls:=by rw [I2,if_neg (by omega)]
  rw [hco]
  refine k5 (k1 (k2 ?_))
  refine A3 (A2 (J9 _ 2 mergedC) Z (A6 ?_))
  refine k1 (k2 (k2 ?_))
  refine A3 (A2 (A5 Z Z) Z (A6 ?_))
  refine k1 (k3 ?_)
  refine D3 (X:=Nat × List Merged) (fun x=>([(0,D1 (List Int) 1 intsC ls),(4,D1 Merged 2 mergedC x.2),(5,C2 x.1)],[])) (fun x=>x.1≤ls.length∧x.2.length≤536870912∧N4 [] 0 ls=N4 x.2 x.1 (ls.drop x.1)) (fun x=>ls.length - x.1) (0,[]) (by simp) (I72 ⟨le1 rfl,le1 rfl,le1 rfl,trivial⟩ trivial) ?_
  rintro ⟨k,acc⟩ ⟨hk,hacc,hp⟩
  dsimp only at hk hacc hp ⊢
  refine k2 (k2 ?_)
  refine A3 (A2 (A4 Z Z) Z (A2 (A4 Z Z) Z (A2 (F1 Z (.pure _ _ _ _)) Z (A2 (D6 Z Z) Z (A6 ?_)))))
  refine k1 ?_
  refine B1 rfl (fun ht=>?_) (fun ht=>?_)
  ·have hlt:k < ls.length:=by have:=A0 ht;omega
   have hv:ls[k]?=some ls[k]:=by simp [hlt]
   rw [J07 hlt,N4] at hp
   by_cases hbig:4096 < acc.length∨4096 < ls[k].length
   ·rw [if_pos hbig] at hp
    refine k5 (k1 (k2 (k3 (k2 ?_))))
    refine A3 (A2 (A4 Z Z) Z (A2 (A4 Z Z) Z (A2 (A4 Z Z) Z (A2 (B3 Z (.pure _ _ _ _) Z (by omega) hv) Z (A2 (B6 Z Z) Z (A2 (A4 Z Z) Z (B9 ((E81 acc ls[k] k hacc).mono (post':=fun rs=>rs=[pMerged [],E6 1]) (fun rs h=>by rw [if_pos hbig] at h;exact h)) Z Z Z ?_)))))));rintro _ rfl;refine A2 (A4 Z Z) Z (A2 (B2 Z Z) Z (A2 (B2 Z Z) Z (A2 (A5 Z Z) Z (A2 (A5 Z Z) Z (A6 ?_)))))
    refine k1 (k2 (k2 ?_))
    refine A3 (A2 (A4 Z Z) Z (A2 (M5 Z Z) Z (A6 ?_)))
    refine k1 ?_
    refine B1 rfl (fun ht=>?_) (fun ht=>?_)
    ·refine k2 ?_
     refine A3 (A2 (A4 Z Z) Z (A2 (J9 _ 2 mergedC) Z (A2 (A5 Z Z) Z (A6 ?_))))
     refine k1 (k10 (k11 (k12 (k11 (k11 (k12 (k11 ?_)))))))
     exact B5 (X6 rfl rfl rfl rfl rfl) (by rw [hp])
    ·cases A1 ht (by decide)
   ·rw [if_neg hbig] at hp
    have hjl:=E45 acc ls[k] k (by omega) (by omega)
    refine k5 (k1 (k2 (k3 (k2 ?_))))
    refine A3 (A2 (A4 Z Z) Z (A2 (A4 Z Z) Z (A2 (A4 Z Z) Z (A2 (B3 Z (.pure _ _ _ _) Z (by omega) hv) Z (A2 (B6 Z Z) Z (A2 (A4 Z Z) Z (B9 ((E81 acc ls[k] k hacc).mono (post':=fun rs=>rs=[pMerged (l6 acc ls[k] k),E6 0]) (fun rs h=>by rw [if_neg hbig] at h;exact h)) Z Z Z ?_)))))));rintro _ rfl;refine A2 (A4 Z Z) Z (A2 (B2 Z Z) Z (A2 (B2 Z Z) Z (A2 (A5 Z Z) Z (A2 (A5 Z Z) Z (A6 ?_)))))
    refine k1 (k2 (k2 ?_))
    refine A3 (A2 (A4 Z Z) Z (A2 (M5 Z Z) Z (A6 ?_)))
    refine k1 ?_
    refine B1 rfl (fun ht=>?_) (fun ht=>?_)
    ·cases A0 ht rfl
    ·refine k5 (k1 ?_)
     refine A3 (A2 (A4 Z Z) Z (A2 (A5 Z Z) Z (A6 ?_)))
     refine k4 (k1 ?_)
     refine A3 (A2 (A4 Z Z) Z (A2 (C1 Z Z (by omega)) Z (A2 (A5 Z Z) Z (A6 ?_))))
     refine k1 ?_
     exact ⟨(k+1,l6 acc ls[k] k),⟨by dsimp only;omega,hjl,hp⟩,by dsimp only;omega,I72 ⟨le1 rfl,le1 rfl,le1 rfl,trivial⟩ trivial⟩
  ·have hk':k=ls.length:=by have:=A1 ht;omega
   rw [hk',J11 (Nat.le_refl _)] at hp
   refine k6 (k2 ?_)
   refine A3 (A2 (A4 Z Z) Z (A2 (A5 Z Z) Z (A2 (A5 Z Z) Z (A6 ?_))))
   refine k1 (k10 ?_)
   exact B5 (X6 rfl rfl rfl rfl rfl) (by rw [hp];rfl)
theorem u64_in {n:Int} (h:0≤n∧n < 18446744073709551616):IntKind.u64.wrap n=n:=by simp [IntKind.wrap,IntKind.signed,IntKind.bits];omega
def O3 (a n:Int):Int:=IntKind.u64.wrap a % n
theorem Z0 (a:Int) {n:Int} (h:1≤n):0≤O3 a n∧O3 a n < n:=⟨Int.emod_nonneg _ (by omega),Int.emod_lt_of_pos _ (by omega)⟩
theorem B21 (a n:Int) (hn:1≤n) (hn':n≤9223372036854775807):FnOk Tryz.prog 15 [E6 a,E6 n] (fun rs=>rs=[E6 (O3 a n)]):=by
 refine FnOk.intro Tryz.func15 (by decide) Z Z Z Z ?_
 refine k2 ?_
 refine A3 (A2 (A5 Z Z) Z (A6 ?_))
 refine k1 (k2 ?_)
 have h1:IntKind.u64.wrap n=n:=u64_in (by omega)
 refine A3 (A2 (A4 Z Z) Z (A2 (J4 Z) Z (A2 (A4 Z Z) Z (A2 (J4 Z) Z (A2 (B01 Z Z (by (rw [h1];omega))) Z ?_)))));refine A2 (J4 Z) Z (A2 (A5 Z Z) Z (A6 ?_))
 refine k1 (k10 ?_)
 refine B5 (F2 Z Z Z) ?_
 have h2:=B86 a
 have h3:(IntKind.u64.wrap a).tmod n=IntKind.u64.wrap a % n:=Int.tmod_eq_emod_of_nonneg h2
 have h4:=Z0 a hn
 unfold O3 at *
 rw [h1,h3,C97 ⟨by omega,by omega⟩]
def xor64 (a b:Int):Int:=IntKind.u64.wrap ((BitVec.ofInt IntKind.u64.bits a ^^^ BitVec.ofInt IntKind.u64.bits b).toNat:Int)
def shr64 (a n:Int):Int:=a.fdiv (2 ^ (min n.toNat IntKind.u64.bits))
def at0 (k:Int):Int:=IntKind.u64.wrap (IntKind.u64.wrap (k+1)*11400714819323198485)
def at1 (raw:List Int) (k:Int):Int:=if 0 < raw.length then xor64 (at0 k) (IntKind.u64.wrap (raw.getD (k.tmod raw.length).toNat 0)) else at0 k
def at2 (x:Int):Int:=IntKind.u64.wrap (xor64 x (shr64 x 31)*13787848793156543929)
def j7 (raw:List Int) (k:Int):Int:=IntKind.i64.wrap (shr64 (xor64 (at2 (at1 raw k)) (shr64 (at2 (at1 raw k)) 29)) 1)
theorem E82 (raw:List Int) (k:Int) (h0:0≤k) (h1:k≤1099511627776):FnOk Tryz.prog 22 [S6 raw,E6 k] (fun rs=>rs=[E6 (j7 raw k)]):=by
 refine FnOk.intro Tryz.func22 (by decide) Z Z Z Z ?_
 refine A14 (t:=0) rfl (.pure _ _ _ _) fun hlen=>?_
 refine k2 ?_
 refine A3 (A2 (A5 Z Z) Z (A6 ?_))
 refine k1 (k2 ?_)
 refine A3 (A2 (A4 Z Z) Z (A2 (C1 Z Z (by omega)) Z (A2 (J4 Z) Z (A2 (F21 Z Z) Z (A2 (A5 Z Z) Z (A6 ?_))))))
 refine L5 ?_
 refine j4 [(0,D1 Int 1 L1 raw),(1,C2 k),(5,I3 (.int .u64 (at1 raw k)))] [] ?_ ?_
 ·refine k2 ?_
  refine A3 (A2 (A4 Z Z) Z (A2 (F1 Z (.pure _ _ _ _)) Z (A2 (N2 Z Z) Z (A6 ?_))))
  refine k1 ?_
  refine B1 rfl (fun ht=>?_) (fun ht=>?_)
  ·have hpos:0 < raw.length:=by have:=A0 ht;omega
   have hm0:0≤k.tmod raw.length:=Int.tmod_nonneg _ h0
   have hm1:k.tmod raw.length < raw.length:=Int.tmod_lt_of_pos _ (by omega)
   have hv:raw[(k.tmod raw.length).toNat]?=some (raw.getD (k.tmod raw.length).toNat 0):=by
    rw [J06,J03 (by omega)];rfl
   skip
   refine A3 (A2 (A4 Z Z) Z (A2 (A4 Z Z) Z (A2 (A4 Z Z) Z (A2 (A4 Z Z) Z (A2 (F1 Z (.pure _ _ _ _)) Z (A2 (B01 Z Z (by omega)) Z (A2 (B3 Z (.pure _ _ _ _) Z (by omega) hv) Z (A2 (B6 Z Z) Z (A2 (J4 Z) Z (A2 (T7 Z Z Z (fun _=>rfl)) Z (A2 (A5 Z Z) Z (A6 ?_))))))))))))
   refine k1 ?_
   rw [at1,if_pos hpos]
   exact I72 ⟨le1 rfl,le1 rfl,le1 rfl,trivial⟩ trivial
  ·have hpos:¬0 < raw.length:=by have:=A1 ht;omega
   refine k5 (k1 ?_)
   rw [at1,if_neg hpos]
   exact I72 ⟨le1 rfl,le1 rfl,le1 rfl,trivial⟩ trivial
 ·refine k2 ?_
  refine A3 (A2 (A4 Z Z) Z (A2 (A4 Z Z) Z (A2 (A35 Z Z (by omega)) Z (A2 (T7 Z Z Z (fun _=>rfl)) Z (A2 (F21 Z Z) Z (A2 (A5 Z Z) Z (A6 ?_)))))))
  refine k1 (k2 ?_)
  refine A3 (A2 (A4 Z Z) Z (A2 (A4 Z Z) Z (A2 (A35 Z Z (by omega)) Z (A2 (T7 Z Z Z (fun _=>rfl)) Z (A2 (A35 Z Z (by omega)) Z (A2 (J4 Z) Z (A2 (A5 Z Z) Z (A6 ?_))))))))
  refine k1 (k10 ?_)
  exact B5 (F2 rfl rfl rfl) rfl
def lineTab:List Str:=[[97],[98],[99],[97,98],[98,97],[],[97,97],[98,32,97],[120,43,121],[92]]
def o8 (k:Int):Str:=lineTab.getD (O3 k 10).toNat []
theorem F97:∀s∈lineTab,s.length≤3:=by decide
theorem A64 (k:Int):(o8 k).length≤3:=by
 unfold o8
 rw [J06]
 cases h:lineTab[(O3 k 10).toNat]? with
 | none=>simp
 | some s=>exact F97 s (J22 h)
theorem F98 (k:Int):FnOk Tryz.prog 21 [E6 k] (fun rs=>rs=[F3 (o8 k)]):=by
 refine FnOk.intro Tryz.func21 (by decide) Z Z Z Z ?_
 refine k2 ?_
 refine A3 (A2 (A5 Z Z) Z (A6 ?_))
 refine k1 (k2 ?_)
 have hm:=Z0 k (n:=10) (by decide)
 have hv:lineTab[(O3 k 10).toNat]?=some (o8 k):=by
  unfold o8
  rw [J06,J03 (show (O3 k 10).toNat < lineTab.length by simp [lineTab];omega)];rfl
 refine A3 (A2 (C9 (c:=K1) (ys:=lineTab) (E1 Z Z Z Z (E1 Z Z Z Z (E1 Z Z Z Z (E1 Z Z Z Z (E1 Z Z Z Z (E1 Z Z Z Z (E1 Z Z Z Z (E1 Z Z Z Z (E1 Z Z Z Z (E1 Z Z Z Z F4)))))))))) Z Z Z) Z (A2 (A4 Z Z) Z (B9 (B21 k 10 (by decide) (by decide)) Z Z Z ?_)));rintro _ rfl;refine A2 (B3 Z (.pure _ _ _ _) Z (by omega) hv) Z (A2 (B6 Z Z) Z (A2 (A5 Z Z) Z (A6 ?_)))
 refine k1 (k10 ?_)
 exact B5 (F2 rfl rfl rfl) rfl
theorem ids_ok (fs:List (List Str)) (hfs:fs.flatten.length≤536870912) (hf1:fs.length≤536870912):FnOk Tryz.prog 105 [pStrss fs] (fun rs=>rs=[pIntss (fs.map (S7 (G2 fs)))]):=by
 refine FnOk.intro Tryz.func105 (by decide) Z Z Z Z ?_
 refine k2 ?_
 refine A3 (A2 (A5 Z Z) Z (A6 ?_))
 refine k1 (k2 ?_)
 refine A3 (A2 (A4 Z Z) Z (B9 (F95 fs hfs) Z Z Z ?_));rintro _ rfl;refine A2 (A5 Z Z) Z (A6 ?_)
 refine k1 (k2 ?_)
 refine A3 (C3 (V4 4 _ intsC Z) Z (A6 ?_))
 refine k1 (k2 (k2 ?_))
 refine A3 (A2 (A5 Z Z) Z (A6 ?_))
 refine k1 (k3 ?_)
 refine D3 (X:=Nat) (fun f=>([(0,D1 (List Str) 1 strsC fs),(3,D1 Str 1 K1 (G2 fs)),(4,.s (.one (.buf 4 (List Int) 1 intsC ((fs.take f).map (S7 (G2 fs)))))),(5,C2 f)],[(4,.spare ((fs.take f).map (S7 (G2 fs))).length 1 25)])) (fun f=>f≤fs.length) (fun f=>fs.length - f) 0 (by simp) (I72 ⟨le1 rfl,le1 rfl,le1 rfl,le1 rfl,trivial⟩ ⟨rfl,trivial⟩) ?_
 intro f hf
 dsimp only at hf ⊢
 refine k2 (k2 ?_)
 refine A3 (A2 (A4 Z Z) Z (A2 (A4 Z Z) Z (A2 (F1 Z (.pure _ _ _ _)) Z (A2 (D6 Z Z) Z (A6 ?_)))))
 refine k1 ?_
 have hfl:((fs.take f).map (S7 (G2 fs))).length=f:=by simp;omega
 refine B1 rfl (fun ht=>?_) (fun ht=>?_)
 ·have hlt:f < fs.length:=by have:=A0 ht;omega
  have hv:fs[f]?=some fs[f]:=by simp [hlt]
  have hle:=U4 fs (f+1)
  rw [V7 fs f hlt,J01] at hle
  refine k5 (k1 (k2 (k3 (k2 ?_))))
  refine A3 (C3 (A57 16 (c:=L1) (ys:=[]) F4 Z Z Z (by first | rfl | (simp [G3,I7,Ob.free,SV.free,S1.free,TC.free]<;>rfl))) Z ?_);refine A2 (A5 Z Z) Z (A6 ?_)
  refine k1 (k2 (k2 ?_))
  refine A3 (A2 (A5 Z Z) Z (A6 ?_))
  refine k1 (k3 ?_)
  refine D3 (X:=Nat) (fun i=>([(0,D1 (List Str) 1 strsC fs),(3,D1 Str 1 K1 (G2 fs)),(4,.s (.one (.buf 4 (List Int) 1 intsC ((fs.take f).map (S7 (G2 fs)))))),(5,C2 f),(6,.s (.one (.buf 16 Int 1 L1 (S7 (G2 fs) (fs[f].take i))))),(7,C2 i)],[(4,.spare ((fs.take f).map (S7 (G2 fs))).length 1 25),(16,.spare (S7 (G2 fs) (fs[f].take i)).length 1 3)])) (fun i=>i≤fs[f].length) (fun i=>fs[f].length - i) 0 (by simp) (I72 ⟨le1 rfl,le1 rfl,le1 rfl,le1 rfl,le1 rfl,le1 rfl,trivial⟩ ⟨rfl,rfl,trivial⟩) ?_
  intro i hi
  dsimp only at hi ⊢
  have hil:(S7 (G2 fs) (fs[f].take i)).length=i:=by simp [S7];omega
  refine k2 (k2 ?_)
  refine A3 (A2 (A4 Z Z) Z (A2 (A4 Z Z) Z (A2 (A4 Z Z) Z (A2 (B3 Z (.pure _ _ _ _) Z (by omega) hv) Z (A2 (B6 Z Z) Z (A2 (F1 Z (.pure _ _ _ _)) Z (A2 (D6 Z Z) Z (A6 ?_))))))))
  refine k1 ?_
  refine B1 rfl (fun ht=>?_) (fun ht=>?_)
  ·have hlt2:i < fs[f].length:=by have:=A0 ht;omega
   have hvi:fs[f][i]?=some fs[f][i]:=by simp [hlt2]
   have hst:S7 (G2 fs) (fs[f].take (i+1))=S7 (G2 fs) (fs[f].take i)++[S3 (G2 fs) fs[f][i] 0]:=by
    unfold S7;rw [List.take_add_one,hvi,Option.toList_some,J17];rfl
   refine k5 (k1 (k2 (k3 ?_)))
   refine A3 (A2 (A4 Z Z) Z (A2 (A4 Z Z) Z (A2 (A4 Z Z) Z (A2 (A4 Z Z) Z (A2 (B3 Z (.pure _ _ _ _) Z (by omega) hv) Z (A2 (B6 Z Z) Z (A2 (A4 Z Z) Z (A2 (B3 Z (.pure _ _ _ _) Z (by omega) hvi) Z (A2 (B6 Z Z) Z (B9 (F94 _ _) Z Z Z ?_))))))))));rintro _ rfl;refine A2 (C9 (c:=L1) (ys:=[_]) (E1 Z Z Z Z F4) Z Z Z) Z (C3 (G7 Z Z Z (.pure _ _ _ _) (by (simp only [J02,J05];omega)) Z) Z (A2 (A5 Z Z) Z (A6 ?_)))
   refine k4 (k1 ?_)
   refine A3 (A2 (A4 Z Z) Z (A2 (C1 Z Z (by omega)) Z (A2 (A5 Z Z) Z (A6 ?_))))
   refine k1 ?_
   refine ⟨i+1,by omega,by omega,?_⟩
   rw [hst]
   exact I72 ⟨le1 rfl,le1 rfl,le1 rfl,le1 rfl,le1 rfl,le1 rfl,trivial⟩ ⟨rfl,rfl,trivial⟩
  ·have hi':i=fs[f].length:=by have:=A1 ht;omega
   have hst:(fs.take (f+1)).map (S7 (G2 fs))=(fs.take f).map (S7 (G2 fs))++[S7 (G2 fs) (fs[f].take i)]:=by
    rw [List.take_add_one,hv,Option.toList_some,J17,hi',J23];rfl
   refine k6 (k7 (k7 (k8 Z (k1 ?_))))
   refine A3 (A2 (A4 Z Z) Z (A2 (A4 Z Z) Z (A2 (C9 (c:=intsC) (ys:=[_]) (E1 Z Z Z Z F4) Z Z Z) Z (C3 (G7 Z Z Z (.pure _ _ _ _) (by (simp only [J02,J05];omega)) Z) Z (A2 (A5 Z Z) Z (A6 ?_))))))
   refine k4 (k1 ?_)
   refine A3 (A2 (A4 Z Z) Z (A2 (C1 Z Z (by omega)) Z (A2 (A5 Z Z) Z (A6 ?_))))
   refine k1 ?_
   refine ⟨f+1,by omega,by omega,?_⟩
   rw [hst]
   exact I72 ⟨le1 rfl,le1 rfl,le1 rfl,le1 rfl,trivial⟩ ⟨rfl,trivial⟩
 ·have hk':f=fs.length:=by have:=A1 ht;omega
  subst hk'
  refine k6 (k2 ?_)
  refine A3 (A2 (A4 Z Z) Z (A2 (A5 Z Z) Z (A6 ?_)))
  refine k1 (k10 ?_)
  exact B5 (F2 rfl rfl rfl) (by rw [J23])
def R2 (raw:List Int) (from':Int) (kinds:Int) (m:Nat):Str:=((List.range m).map fun (i:Nat)=>o8 (O3 (j7 raw (from'+1+(i:Int))) kinds)++[10]).flatten
def U8 (raw:List Int) (from' n kinds:Int):Str :=
 let s:=R2 raw from' kinds (O3 (j7 raw from') (n+1)).toNat
 if ((j7 raw (from'+90)).tmod 4=0∧(1:Int) < s.length)∧((s.getD (s.length - 2) 0).toNat:Int)≠10 then s.take (s.length - 1) else s
theorem A03 (raw:List Int) (from' kinds:Int) (m:Nat):R2 raw from' kinds (m+1)=R2 raw from' kinds m++o8 (O3 (j7 raw (from'+1+(m:Int))) kinds)++[10]:=by
 unfold R2;rw [J43,J17,J27];simp
theorem B65 (raw:List Int) (from' kinds:Int) (m:Nat):(R2 raw from' kinds m).length≤4*m:=by
 induction m with
 | zero=>simp [R2]
 | succ m ih=>have:=A64 (O3 (j7 raw (from'+1+(m:Int))) kinds);rw [A03];simp only [J01,J02,J05];omega
theorem H33 (raw:List Int) (from' n kinds:Int) (h0:0≤from'∧from'≤1073741824) (h1:0≤n∧n≤1048576) (h2:1≤kinds∧kinds≤1048576) :
  FnOk Tryz.prog 55 [S6 raw,E6 from',E6 n,E6 kinds] (fun rs=>rs=[F3 (U8 raw from' n kinds)]):=by
 obtain ⟨m,hm⟩:∃m:Nat,O3 (j7 raw from') (n+1)=m:=⟨(O3 (j7 raw from') (n+1)).toNat,by have:=Z0 (j7 raw from') (n:=n+1) (by omega);omega⟩
 have hmi:=Z0 (j7 raw from') (n:=n+1) (by omega)
 have hml:m≤1048576:=by omega
 refine FnOk.intro Tryz.func55 (by decide) Z Z Z Z ?_
 refine k2 ?_
 refine A3 (A2 (A5 Z Z) Z (A6 ?_))
 refine k1 (k2 ?_)
 refine A3 (A2 (A4 Z Z) Z (A2 (A4 Z Z) Z (B9 (E82 raw from' (by omega) (by omega)) Z Z Z ?_)));rintro _ rfl;refine A2 (A4 Z Z) Z (A2 (C1 Z Z (by omega)) Z (B9 (B21 _ (n+1) (by omega) (by omega)) Z Z Z ?_));rintro _ rfl;refine A2 (A5 Z Z) Z (A6 ?_)
 refine k1 (k2 ?_)
 rw [hm]
 refine A3 (A2 (A5 Z Z) Z (A6 ?_))
 refine k1 (k2 (k2 ?_))
 refine A3 (A2 (A5 Z Z) Z (A6 ?_))
 refine k1 (k3 ?_)
 refine D3 (X:=Nat) (fun i=>([(0,D1 Int 1 L1 raw),(1,C2 from'),(2,C2 m),(3,C2 kinds),(9,H5 (R2 raw from' kinds i)),(10,C2 i)],[])) (fun i=>i≤m) (fun i=>m - i) 0 (Nat.zero_le _) (I72 ⟨le1 rfl,le1 rfl,le1 rfl,le1 rfl,le1 rfl,le1 rfl,trivial⟩ trivial) ?_
 intro i hi
 dsimp only at hi ⊢
 have hbl:=B65 raw from' kinds i
 refine k2 (k2 ?_)
 refine A3 (A2 (A4 Z Z) Z (A2 (A4 Z Z) Z (A2 (D6 Z Z) Z (A6 ?_))))
 refine k1 ?_
 refine B1 rfl (fun ht=>?_) (fun ht=>?_)
 ·have hlt:i < m:=by have:=A0 ht;omega
  have hll:=A64 (O3 (j7 raw (from'+1+(i:Int))) kinds)
  refine k5 (k1 (k2 (k3 ?_)))
  refine A3 (A2 (A4 Z Z) Z (A2 (A4 Z Z) Z (A2 (A4 Z Z) Z (A2 (C1 Z Z (by omega)) Z (A2 (A4 Z Z) Z (A2 (C1 Z Z (by omega)) Z (B9 (E82 raw _ (by omega) (by omega)) Z Z Z ?_)))))));rintro _ rfl;refine A2 (A4 Z Z) Z (B9 (B21 _ kinds (by omega) (by omega)) Z Z Z ?_);rintro _ rfl;refine B9 (F98 _) Z Z Z ?_;rintro _ rfl;refine A2 (D9 Z Z (by omega)) Z (A2 (D9 Z Z (by (simp only [J01,J02,J05];omega))) Z (A2 (A5 Z Z) Z (A6 ?_)))
  refine k4 (k1 ?_)
  refine A3 (A2 (A4 Z Z) Z (A2 (C1 Z Z (by omega)) Z (A2 (A5 Z Z) Z (A6 ?_))))
  refine k1 ?_
  refine ⟨i+1,by omega,by omega,?_⟩
  rw [A03]
  exact I72 ⟨le1 rfl,le1 rfl,le1 rfl,le1 rfl,le1 rfl,le1 rfl,trivial⟩ trivial
 ·have hi':i=m:=by have:=A1 ht;omega
  subst hi'
  obtain ⟨s,hs⟩:∃s,s=R2 raw from' kinds i:=⟨_,rfl⟩
  have hv:(1:Int) < s.length→s[((s.length:Int) - 2).toNat]?=some (s.getD (s.length - 2) 0):=fun h=>by
   rw [show ((s.length:Int) - 2).toNat=s.length - 2 by omega,J06,J03 (by omega)];rfl
  have hbo:U8 raw from' n kinds=if ((j7 raw (from'+90)).tmod 4=0∧(1:Int) < s.length)∧((s.getD (s.length - 2) 0).toNat:Int)≠10 then s.take (s.length - 1) else s:=by
   simp only [U8,hm,J09,←hs]
  rw [←hs] at hbl
  refine k6 (k2 (k2 ?_))
  rw [←hs]
  refine A3 (A2 (A4 Z Z) Z (A2 (A4 Z Z) Z (A2 (C1 Z Z (by omega)) Z (B9 (E82 raw _ (by omega) (by omega)) Z Z Z ?_))));rintro _ rfl;refine A2 (B01 Z Z (by omega)) Z (A2 (F6 Z Z) Z (A2 (A4 Z Z) Z (A9 Z Z Z Z (fun hg=>by rw [hg];exact A4 Z Z) ?_)));refine A9 Z Z Z Z (fun hg=>by rw [hg];exact E4 Z) ?_;refine A9 Z Z Z Z (fun hg=>by rw [hg];exact N2 Z Z) ?_;refine A2 (B4 Z (fun h=>by first | rfl | (rw [h];rfl)) (fun h=>by first | rfl | (rw [h];rfl))) Z ?_;refine A2 (A4 Z Z) Z (A9 Z Z Z Z (fun hg=>by rw [hg];exact A4 Z Z) ?_);refine A9 Z Z Z Z (fun hg=>by rw [hg];exact A4 Z Z) ?_;refine A9 Z Z Z Z (fun hg=>by rw [hg];exact E4 Z) ?_;refine A9 Z Z Z Z (fun hg=>by have hq:=hg;(try simp at hq);rw [hg];exact Q7 Z Z (by omega)) ?_;refine A9 Z Z Z Z (fun hg=>by have hq:=hg;(try simp at hq);rw [hg];exact I6 Z Z (by omega) (hv (by omega))) ?_;refine A9 Z Z Z Z (fun hg=>by rw [hg];exact M5 Z Z) ?_;refine A2 (B4 Z (fun h=>by first | rfl | (rw [h];rfl)) (fun h=>by first | rfl | (rw [h];rfl))) Z ?_;refine A6 ?_
  refine k1 ?_
  refine B1 rfl (fun ht=>?_) (fun ht=>?_)
  ·simp only [L2] at ht
   have h:=A0 ht
   skip
   refine A3 (A2 (A4 Z Z) Z (A2 (A4 Z Z) Z (A2 (E4 Z) Z (A2 (Q7 Z Z (by omega)) Z (A2 (y2 Z Z (by omega) (by omega)) Z (A2 (A5 Z Z) Z (A6 ?_)))))))
   refine k1 (k2 ?_)
   refine A3 (A2 (A4 Z Z) Z (A2 (A5 Z Z) Z (A6 ?_)))
   refine k1 (k10 ?_)
   exact B5 (F2 rfl rfl rfl) (by rw [hbo,if_pos h,show ((s.length:Int) - 1).toNat=s.length - 1 by omega])
  ·simp only [L2] at ht
   have h:=A1 ht
   refine k5 (k1 (k2 ?_))
   refine A3 (A2 (A4 Z Z) Z (A2 (A5 Z Z) Z (A6 ?_)))
   refine k1 (k10 ?_)
   exact B5 (F2 rfl rfl rfl) (by rw [hbo,if_neg h])
theorem B87 (raw:List Int) (from' n kinds:Int) (h1:0≤n):((U8 raw from' n kinds).length:Int)≤4*n:=by
 have h:=Z0 (j7 raw from') (n:=n+1) (by omega)
 have h2:=B65 raw from' kinds (O3 (j7 raw from') (n+1)).toNat
 unfold U8
 simp only
 split
 ·simp only [J15];omega
 ·omega
def j8 (raw:List Int) (from':Int) (i:Nat) (s:Str):List Str→Str
 | []=>s
 | x::r=>if (j7 raw (from'+(i:Int))).tmod 6=0 then j8 raw from' (i+1) s r
  else if (j7 raw (from'+(i:Int))).tmod 6=1 then j8 raw from' (i+1) (s++o8 (j7 raw (from'+40+(i:Int)))++[10]++x) r
  else j8 raw from' (i+1) (s++x) r
def B88 (blob:Str) (raw:List Int) (from':Int):Str:=j8 raw from' 0 [] (C8 blob)
theorem A65 (raw:List Int) (from':Int):∀(l:List Str) (i:Nat) (s:Str),(j8 raw from' i s l).length≤s.length+l.flatten.length+4*l.length
 | [],i,s=>by simp [j8]
 | x::r,i,s=>by
  have h1:=A65 raw from' r (i+1) s
  have h2:=A65 raw from' r (i+1) (s++o8 (j7 raw (from'+40+(i:Int)))++[10]++x)
  have h3:=A65 raw from' r (i+1) (s++x)
  have h4:=A64 (j7 raw (from'+40+(i:Int)))
  simp only [J01,J02,J05,J14] at *
  unfold j8
  split
  ·omega
  ·split<;>omega
theorem C67 (s cur:Str):(G1 cur s).flatten=cur++s:=by
 induction s generalizing cur with
 | nil=>unfold G1;split<;>simp [*]
 | cons c r ih=>unfold G1;split<;>simp [ih]
theorem U3 (s:Str):(C8 s).flatten=s:=C67 s []
theorem near_ok (blob:Str) (raw:List Int) (from':Int) (hb:blob.length≤16777216) (h0:0≤from'∧from'≤1073741824) :
  FnOk Tryz.prog 23 [F3 blob,S6 raw,E6 from'] (fun rs=>rs=[F3 (B88 blob raw from')]):=by
 have hll:=Q1 blob
 have hlf:=U3 blob
 have hlf':(C8 blob).flatten.length=blob.length:=by rw [hlf]
 refine FnOk.intro Tryz.func23 (by decide) Z Z Z Z ?_
 refine k2 ?_
 refine A3 (A2 (A5 Z Z) Z (A6 ?_))
 refine k1 (k2 ?_)
 refine A3 (A2 (A4 Z Z) Z (B9 (C22 blob (by omega)) Z Z Z ?_));rintro _ rfl;refine A2 (A5 Z Z) Z (A6 ?_)
 refine k1 (k2 ?_)
 obtain ⟨l,hl⟩:∃l,l=C8 blob:=⟨_,rfl⟩
 have hno:B88 blob raw from'=j8 raw from' 0 [] l:=by rw [B88,hl]
 rw [←hl] at hll hlf' ⊢
 refine A3 (A2 (A5 Z Z) Z (A6 ?_))
 refine k1 (k2 (k2 ?_))
 refine A3 (A2 (A5 Z Z) Z (A6 ?_))
 refine k1 (k3 ?_)
 refine D3 (X:=Nat × Str) (fun x=>([(1,D1 Int 1 L1 raw),(2,C2 from'),(7,D1 Str 1 K1 l),(8,H5 x.2),(9,C2 x.1)],[])) (fun x=>x.1≤l.length∧x.2.length≤(l.take x.1).flatten.length+4*x.1∧j8 raw from' x.1 x.2 (l.drop x.1)=j8 raw from' 0 [] l) (fun x=>l.length - x.1) (0,[]) (by simp) (I72 ⟨le1 rfl,le1 rfl,le1 rfl,le1 rfl,le1 rfl,trivial⟩ trivial) ?_
 rintro ⟨i,s⟩ ⟨hi,hs,hp⟩
 dsimp only at hi hs hp ⊢
 have hle:=U4 l i
 refine k2 (k2 ?_)
 refine A3 (A2 (A4 Z Z) Z (A2 (A4 Z Z) Z (A2 (F1 Z (.pure _ _ _ _)) Z (A2 (D6 Z Z) Z (A6 ?_)))))
 refine k1 ?_
 refine B1 rfl (fun ht=>?_) (fun ht=>?_)
 ·have hlt:i < l.length:=by have:=A0 ht;omega
  have hv:l[i]?=some l[i]:=by simp [hlt]
  have hle2:=U4 l (i+1)
  have hst:=V7 l i hlt
  rw [hst,J01] at hle2
  rw [J07 hlt,j8] at hp
  refine k5 (k1 (k2 (k3 (k2 (k2 ?_)))))
  refine A3 (A2 (A4 Z Z) Z (A2 (A4 Z Z) Z (A2 (A4 Z Z) Z (A2 (C1 Z Z (by omega)) Z (B9 (E82 raw _ (by omega) (by omega)) Z Z Z ?_)))));rintro _ rfl;refine A2 (B01 Z Z (by omega)) Z (A6 ?_)
  refine k1 (k3 (k2 ?_))
  refine A3 (A2 (F6 Z Z) Z (A2 (A5 Z Z) Z (A6 ?_)))
  refine k1 ?_
  refine B1 rfl (fun ht=>?_) (fun ht=>?_)
  ·rw [if_pos (A0 ht)] at hp
   refine k6 (k9 Z (k7 (k8 Z (k1 ?_))))
   refine A3 (A2 (A4 Z Z) Z (A2 (C1 Z Z (by omega)) Z (A2 (A5 Z Z) Z (A6 ?_))))
   refine k1 ?_
   exact ⟨(i+1,s),⟨by dsimp only;omega,by dsimp only;rw [hst,J01];omega,hp⟩,by dsimp only;omega,I72 ⟨le1 rfl,le1 rfl,le1 rfl,le1 rfl,le1 rfl,trivial⟩ trivial⟩
  ·rw [if_neg (A1 ht)] at hp
   refine k2 ?_
   refine A3 (A2 (F6 Z Z) Z (A2 (A5 Z Z) Z (A6 ?_)))
   refine k1 ?_
   refine B1 rfl (fun ht=>?_) (fun ht=>?_)
   ·rw [if_pos (A0 ht)] at hp
    have h4:=A64 (j7 raw (from'+40+(i:Int)))
    skip
    refine A3 (A2 (A4 Z Z) Z (A2 (A4 Z Z) Z (A2 (A4 Z Z) Z (A2 (C1 Z Z (by omega)) Z (A2 (A4 Z Z) Z (A2 (C1 Z Z (by omega)) Z (B9 (E82 raw _ (by omega) (by omega)) Z Z Z ?_)))))));rintro _ rfl;refine B9 (F98 _) Z Z Z ?_;rintro _ rfl;refine A2 (D9 Z Z (by omega)) Z (A2 (D9 Z Z (by (simp only [J01,J02,J05];omega))) Z (A2 (A5 Z Z) Z (A6 ?_)))
    refine k4 (k1 ?_)
    refine A3 (A2 (A4 Z Z) Z (A2 (A4 Z Z) Z (A2 (A4 Z Z) Z (A2 (B3 Z (.pure _ _ _ _) Z (by omega) hv) Z (A2 (B6 Z Z) Z (A2 (D9 Z Z (by (simp only [J01,J02,J05];omega))) Z (A2 (A5 Z Z) Z (A6 ?_))))))))
    refine k4 (k1 ?_)
    refine A3 (A2 (A4 Z Z) Z (A2 (C1 Z Z (by omega)) Z (A2 (A5 Z Z) Z (A6 ?_))))
    refine k1 ?_
    exact ⟨(i+1,s++o8 (j7 raw (from'+40+(i:Int)))++[10]++l[i]),⟨by dsimp only;omega,by dsimp only;rw [hst];simp only [J01,J02,J05];omega,hp⟩,by dsimp only;omega,I72 ⟨le1 rfl,le1 rfl,le1 rfl,le1 rfl,le1 rfl,trivial⟩ trivial⟩
   ·rw [if_neg (A1 ht)] at hp
    refine k5 (k4 (k1 ?_))
    refine A3 (A2 (A4 Z Z) Z (A2 (A4 Z Z) Z (A2 (A4 Z Z) Z (A2 (B3 Z (.pure _ _ _ _) Z (by omega) hv) Z (A2 (B6 Z Z) Z (A2 (D9 Z Z (by omega)) Z (A2 (A5 Z Z) Z (A6 ?_))))))))
    refine k4 (k1 ?_)
    refine A3 (A2 (A4 Z Z) Z (A2 (C1 Z Z (by omega)) Z (A2 (A5 Z Z) Z (A6 ?_))))
    refine k1 ?_
    exact ⟨(i+1,s++l[i]),⟨by dsimp only;omega,by dsimp only;rw [hst,J01,J01];omega,hp⟩,by dsimp only;omega,I72 ⟨le1 rfl,le1 rfl,le1 rfl,le1 rfl,le1 rfl,trivial⟩ trivial⟩
 ·have hi':i=l.length:=by have:=A1 ht;omega
  rw [hi',J11 (Nat.le_refl _)] at hp
  refine k6 (k2 ?_)
  refine A3 (A2 (A4 Z Z) Z (A2 (A5 Z Z) Z (A6 ?_)))
  refine k1 (k10 ?_)
  exact B5 (F2 rfl rfl rfl) (by rw [hno,←hp];rfl)
def o9 (raw:List Int) (lines:Int) (p:Nat):Str :=
 if (j7 raw (500+(p:Int))).tmod 5=0 then U8 raw (600+50*(p:Int)) lines 4 else if (j7 raw (500+(p:Int))).tmod 5=1 then U8 raw 0 lines 5 else B88 (U8 raw 0 lines 5) raw (600+50*(p:Int))
def X9 (raw:List Int) (n:Nat) (lines:Int):List Str:=(List.range n).map (o9 raw lines)
theorem D80 (raw:List Int) (lines:Int) (p:Nat) (h:0≤lines):((o9 raw lines p).length:Int)≤20*lines:=by
 have h1:=B87 raw (600+50*(p:Int)) lines 4 h
 have h2:=B87 raw 0 lines 5 h
 have h3:=A65 raw (600+50*(p:Int)) (C8 (U8 raw 0 lines 5)) 0 []
 have h4:=Q1 (U8 raw 0 lines 5)
 rw [U3] at h3
 simp only [J05] at h3
 unfold o9 B88
 split
 ·omega
 ·split<;>omega
theorem I34 (raw:List Int) (n:Nat) (lines:Int) (h1:n≤1024) (h2:0≤lines∧lines≤524288):FnOk Tryz.prog 44 [S6 raw,E6 n,E6 lines] (fun rs=>rs=[j2 (X9 raw n lines)]):=by
 have hfl:=B87 raw 0 lines 5 h2.1
 refine FnOk.intro Tryz.func44 (by decide) Z Z Z Z ?_
 refine k2 ?_
 refine A3 (A2 (A5 Z Z) Z (A6 ?_))
 refine k1 (k2 ?_)
 refine A3 (A2 (A4 Z Z) Z (A2 (A4 Z Z) Z (B9 (H33 raw 0 lines 5 (by omega) (by omega) (by omega)) Z Z Z ?_)));rintro _ rfl;refine A2 (A5 Z Z) Z (A6 ?_)
 refine k1 (k2 ?_)
 refine A3 (C3 (A57 13 (c:=K1) (ys:=[]) F4 Z Z Z (by first | rfl | (simp [G3,I7,Ob.free,SV.free,S1.free,TC.free]<;>rfl))) Z ?_);refine A2 (A5 Z Z) Z (A6 ?_)
 refine k1 (k2 (k2 ?_))
 refine A3 (A2 (A5 Z Z) Z (A6 ?_))
 refine k1 (k3 ?_)
 refine D3 (X:=Nat) (fun p=>([(0,D1 Int 1 L1 raw),(1,C2 n),(2,C2 lines),(7,H5 (U8 raw 0 lines 5)),(8,.s (.one (.buf 13 Str 1 K1 (X9 raw p lines)))),(9,C2 p)],[(13,.spare (X9 raw p lines).length 1 9)])) (fun p=>p≤n) (fun p=>n - p) 0 (Nat.zero_le _) (I72 ⟨le1 rfl,le1 rfl,le1 rfl,le1 rfl,le1 rfl,le1 rfl,trivial⟩ ⟨rfl,trivial⟩) ?_
 intro p hp
 dsimp only at hp ⊢
 have hst:X9 raw (p+1) lines=X9 raw p lines++[o9 raw lines p]:=by unfold X9;rw [J43,J17];rfl
 have hbl:(X9 raw p lines).length=p:=by simp [X9]
 refine k2 (k2 ?_)
 refine A3 (A2 (A4 Z Z) Z (A2 (A4 Z Z) Z (A2 (D6 Z Z) Z (A6 ?_))))
 refine k1 ?_
 refine B1 rfl (fun ht=>?_) (fun ht=>?_)
 ·have hlt:p < n:=by have:=A0 ht;omega
  refine k5 (k1 (k2 (k3 (k2 ?_))))
  refine A3 (A2 (A4 Z Z) Z (A2 (A4 Z Z) Z (A2 (C1 Z Z (by omega)) Z (B9 (E82 raw _ (by omega) (by omega)) Z Z Z ?_))));rintro _ rfl;refine A2 (B01 Z Z (by omega)) Z (A6 ?_)
  refine k1 (k3 (k2 ?_))
  refine A3 (A2 (F6 Z Z) Z (A2 (A5 Z Z) Z (A6 ?_)))
  refine k1 ?_
  refine B1 rfl (fun ht=>?_) (fun ht=>?_)
  ·have hb:o9 raw lines p=U8 raw (600+50*(p:Int)) lines 4:=by rw [o9,if_pos (A0 ht)]
   skip
   refine A3 (A2 (A4 Z Z) Z (A2 (A4 Z Z) Z (A2 (A4 Z Z) Z (A2 (H23 Z Z (by omega)) Z (A2 (C1 Z Z (by omega)) Z (A2 (A4 Z Z) Z (B9 (H33 raw _ lines 4 (by omega) (by omega) (by omega)) Z Z Z ?_)))))));rintro _ rfl;refine A2 (C9 (c:=K1) (ys:=[_]) (E1 Z Z Z Z F4) Z Z Z) Z (C3 (G7 Z Z Z (.pure _ _ _ _) (by (simp only [J02,J05];omega)) Z) Z (A2 (A5 Z Z) Z (A6 ?_)))
   refine k4 (k4 (k1 ?_))
   refine A3 (A2 (A4 Z Z) Z (A2 (C1 Z Z (by omega)) Z (A2 (A5 Z Z) Z (A6 ?_))))
   refine k1 ?_
   refine ⟨p+1,by omega,by omega,?_⟩
   rw [hst,hb]
   exact I72 ⟨le1 rfl,le1 rfl,le1 rfl,le1 rfl,le1 rfl,le1 rfl,trivial⟩ ⟨rfl,trivial⟩
  ·have h5:=A1 ht
   refine k2 ?_
   refine A3 (A2 (F6 Z Z) Z (A2 (A5 Z Z) Z (A6 ?_)))
   refine k1 ?_
   refine B1 rfl (fun ht=>?_) (fun ht=>?_)
   ·have hb:o9 raw lines p=U8 raw 0 lines 5:=by rw [o9,if_neg h5,if_pos (A0 ht)]
    skip
    refine A3 (A2 (A4 Z Z) Z (A2 (A4 Z Z) Z (A2 (C9 (c:=K1) (ys:=[_]) (E1 Z Z Z Z F4) Z Z Z) Z (C3 (G7 Z Z Z (.pure _ _ _ _) (by (simp only [J02,J05];omega)) Z) Z (A2 (A5 Z Z) Z (A6 ?_))))))
    refine k4 (k4 (k1 ?_))
    refine A3 (A2 (A4 Z Z) Z (A2 (C1 Z Z (by omega)) Z (A2 (A5 Z Z) Z (A6 ?_))))
    refine k1 ?_
    refine ⟨p+1,by omega,by omega,?_⟩
    rw [hst,hb]
    exact I72 ⟨le1 rfl,le1 rfl,le1 rfl,le1 rfl,le1 rfl,le1 rfl,trivial⟩ ⟨rfl,trivial⟩
   ·have hb:o9 raw lines p=B88 (U8 raw 0 lines 5) raw (600+50*(p:Int)):=by rw [o9,if_neg h5,if_neg (A1 ht)]
    skip
    refine A3 (A2 (A4 Z Z) Z (A2 (A4 Z Z) Z (A2 (A4 Z Z) Z (A2 (A4 Z Z) Z (A2 (H23 Z Z (by omega)) Z (A2 (C1 Z Z (by omega)) Z (B9 (near_ok _ raw _ (by omega) (by omega)) Z Z Z ?_)))))));rintro _ rfl;refine A2 (C9 (c:=K1) (ys:=[_]) (E1 Z Z Z Z F4) Z Z Z) Z (C3 (G7 Z Z Z (.pure _ _ _ _) (by (simp only [J02,J05];omega)) Z) Z (A2 (A5 Z Z) Z (A6 ?_)))
    refine k4 (k4 (k1 ?_))
    refine A3 (A2 (A4 Z Z) Z (A2 (C1 Z Z (by omega)) Z (A2 (A5 Z Z) Z (A6 ?_))))
    refine k1 ?_
    refine ⟨p+1,by omega,by omega,?_⟩
    rw [hst,hb]
    exact I72 ⟨le1 rfl,le1 rfl,le1 rfl,le1 rfl,le1 rfl,le1 rfl,trivial⟩ ⟨rfl,trivial⟩
 ·have hp':p=n:=by have:=A1 ht;omega
  refine k6 (k2 ?_)
  refine A3 (A2 (A4 Z Z) Z (A2 (A5 Z Z) Z (A6 ?_)))
  refine k1 (k10 ?_)
  exact B5 (F2 rfl rfl rfl) (by rw [hp'])
theorem F34 (r:Row) (c:Int) (hr:0≤r.Marks∧r.Marks < 4294967296):FnOk Tryz.prog 189 [pRow r,E6 c] (fun rs=>rs=[E0 (Z9 r c)]):=by
 refine FnOk.intro Tryz.func189 (by decide) Z Z Z Z ?_
 refine k2 ?_
 refine A3 (C3 (P5 2 Z Z Z) Z (A2 (A5 Z Z) Z (A6 ?_)))
 refine k1 (k2 (k3 (k2 ?_)))
 refine A3 (A2 (A4 Z Z) Z (A2 (F6 Z Z) Z (A2 (A5 Z Z) Z (A6 ?_))))
 refine k1 ?_
 refine B1 rfl (fun ht=>?_) (fun ht=>?_)
 ·have h:=A0 ht
  refine k2 ?_
  refine A3 (A2 (A7 Z) Z (A2 (B0 Z Z Z) Z (A2 (F0 Z) Z (A2 (A5 Z Z) Z (A6 ?_)))))
  refine k1 (k10 (k12 (k11 ?_)))
  exact B5 (F2 rfl rfl rfl) (by rw [Z9,if_pos h])
 ·have h:=A1 ht
  refine k2 ?_
  refine A3 (A2 (A4 Z Z) Z (A2 (D6 Z Z) Z (A2 (A4 Z Z) Z (A9 Z Z Z Z (fun hg=>by rw [hg];exact A4 Z Z) ?_))));refine A9 Z Z Z Z (fun hg=>by rw [hg];exact s9 Z Z) ?_;refine A2 (B4 Z (fun h=>by first | rfl | (rw [h];rfl)) (fun h=>by first | rfl | (rw [h];rfl))) Z ?_;refine A2 (A5 Z Z) Z (A6 ?_)
  refine k1 ?_
  refine B1 rfl (fun ht=>?_) (fun ht=>?_)
  ·have h2:=A0 (or_pick.symm.trans ht)
   refine k2 ?_
   refine A3 (A2 (A5 Z Z) Z (A6 ?_))
   refine k1 (k10 (k12 (k11 ?_)))
   exact B5 (F2 rfl rfl rfl) (by rw [Z9,if_neg h,if_pos h2])
  ·have h2:=A1 (or_pick.symm.trans ht)
   have hc:0≤c∧c < 32:=by omega
   refine k5 (k2 ?_)
   refine A3 (A2 (A7 Z) Z (A2 (B0 Z Z Z) Z (A2 (A4 Z Z) Z (A2 (J4 Z) Z (A2 (A35 Z Z (by (rw [B92 (by omega)];omega))) Z ?_)))));refine A2 (T7 Z Z Z (fun _=>rfl)) Z (A2 (F6 Z Z) Z (A2 (A7 Z) Z (A2 (B0 Z Z Z) Z (A2 (H24 Z Z TyBool.out) Z (A2 (A5 Z Z) Z (A6 ?_))))))
   refine k1 (k10 ?_)
   refine B5 (F2 Z Z Z) ?_
   have h3:0≤r.Marks / 2 ^ c.toNat:=Int.ediv_nonneg hr.1 (Int.pow_nonneg (by decide))
   have h4:r.Marks / 2 ^ c.toNat≤r.Marks:=Int.ediv_le_self _ hr.1
   rw [Z9,if_neg h,if_neg h2,B92 (by omega),E05 r.Marks c (by omega),B27 _ (by omega)]
   rfl
theorem A17 (rows:List Row) (c:Int) (hr:I8 rows) (hl:rows.length≤536870911):FnOk Tryz.prog 116 [pRows rows,E6 c] (fun rs=>rs=[j2 (N8 rows c)]):=by
 refine FnOk.intro Tryz.func116 (by decide) Z Z Z Z ?_
 refine k2 ?_
 refine A3 (A2 (A5 Z Z) Z (A6 ?_))
 refine k1 (k2 ?_)
 refine A3 (C3 (V4 5 _ K1 Z) Z (A6 ?_))
 refine k1 (k2 (k2 ?_))
 refine A3 (A2 (A5 Z Z) Z (A6 ?_))
 refine k1 (k3 ?_)
 refine D3 (X:=Nat) (fun i=>([(0,D1 Row 3 rowC rows),(1,C2 c),(5,.s (.one (.buf 5 Str 1 K1 (N8 (rows.take i) c)))),(6,C2 i)],[(5,.spare (N8 (rows.take i) c).length 1 9)])) (fun i=>i≤rows.length) (fun i=>rows.length - i) 0 (Nat.zero_le _) (I72 ⟨le1 rfl,le1 rfl,le1 rfl,le1 rfl,trivial⟩ ⟨rfl,trivial⟩) ?_
 intro i hi
 dsimp only at hi ⊢
 have hcl:=C83 (rows.take i) c
 rw [J15] at hcl
 refine k2 (k2 ?_)
 refine A3 (A2 (A4 Z Z) Z (A2 (A4 Z Z) Z (A2 (F1 Z (.pure _ _ _ _)) Z (A2 (D6 Z Z) Z (A6 ?_)))))
 refine k1 ?_
 refine B1 rfl (fun ht=>?_) (fun ht=>?_)
 ·have hlt:i < rows.length:=by have:=A0 ht;omega
  have hv:rows[i]?=some rows[i]:=by simp [hlt]
  have hst:N8 (rows.take (i+1)) c=N8 (rows.take i) c++(if Z9 rows[i] c=true then [rows[i].Text] else []):=by
   unfold N8
   rw [List.take_add_one,hv,Option.toList_some,J51,J17]
   congr 1
   by_cases h:Z9 rows[i] c=true<;>simp [h]
  refine k5 (k1 (k2 (k3 (k2 ?_))))
  refine A3 (A2 (A4 Z Z) Z (A2 (A4 Z Z) Z (A2 (B3 Z (.pure _ _ _ _) Z (by omega) hv) Z (A2 (G8 Z Z) Z (A2 (A4 Z Z) Z (B9 (F34 rows[i] c (hr _ (J19 hlt))) Z Z Z ?_))))));rintro _ rfl;refine A6 ?_
  refine k1 ?_
  refine B1 rfl (fun ht=>?_) (fun ht=>?_)
  ·rw [ht,if_pos rfl] at hst
   skip
   refine A3 (A2 (A4 Z Z) Z (A2 (A4 Z Z) Z (A2 (A4 Z Z) Z (A2 (B3 Z (.pure _ _ _ _) Z (by omega) hv) Z (A2 (D7 Z) Z (A2 (B6 Z Z) Z (A2 (C9 (c:=K1) (ys:=[_]) (E1 Z Z Z Z F4) Z Z Z) Z (C3 (G7 Z Z Z (.pure _ _ _ _) (by (simp only [J02,J05];omega)) Z) Z (A2 (A5 Z Z) Z (A6 ?_))))))))))
   refine k4 (k1 ?_)
   refine A3 (A2 (A4 Z Z) Z (A2 (C1 Z Z (by omega)) Z (A2 (A5 Z Z) Z (A6 ?_))))
   refine k1 ?_
   refine ⟨i+1,by omega,by omega,?_⟩
   rw [hst]
   exact I72 ⟨le1 rfl,le1 rfl,le1 rfl,le1 rfl,trivial⟩ ⟨rfl,trivial⟩
  ·rw [ht,if_neg (by decide),J25] at hst
   refine k5 (k4 (k1 ?_))
   refine A3 (A2 (A4 Z Z) Z (A2 (C1 Z Z (by omega)) Z (A2 (A5 Z Z) Z (A6 ?_))))
   refine k1 ?_
   refine ⟨i+1,by omega,by omega,?_⟩
   rw [hst]
   exact I72 ⟨le1 rfl,le1 rfl,le1 rfl,le1 rfl,trivial⟩ ⟨rfl,trivial⟩
 ·have hi':i=rows.length:=by have:=A1 ht;omega
  refine k6 (k2 ?_)
  refine A3 (A2 (A4 Z Z) Z (A2 (A5 Z Z) Z (A6 ?_)))
  refine k1 (k10 ?_)
  exact B5 (F2 rfl rfl rfl) (by rw [hi',J23])
theorem D81 (rows:List Row) (n:Int) (hn:0≤n∧n≤32) (hr:I8 rows):FnOk Tryz.prog 182 [pRows rows,E6 n] (fun rs=>rs=[E0 (M4 rows n.toNat)]):=by
 refine FnOk.intro Tryz.func182 (by decide) Z Z Z Z ?_
 refine A14 (t:=0) rfl (.pure _ _ _ _) fun hlen=>?_
 refine k2 ?_
 refine A3 (A2 (A5 Z Z) Z (A6 ?_))
 refine k1 (k2 (k2 ?_))
 refine A3 (A2 (A5 Z Z) Z (A6 ?_))
 refine k1 (k3 ?_)
 refine D3 (X:=Nat) (fun i=>([(0,D1 Row 3 rowC rows),(1,C2 n),(5,C2 i)],[])) (fun i=>i≤rows.length∧M4 rows n.toNat=M4 (rows.drop i) n.toNat) (fun i=>rows.length - i) 0 (by simp) (I72 ⟨le1 rfl,le1 rfl,le1 rfl,trivial⟩ trivial) ?_
 rintro i ⟨hi,hp⟩
 dsimp only at hi hp ⊢
 refine k2 (k2 ?_)
 refine A3 (A2 (A4 Z Z) Z (A2 (A4 Z Z) Z (A2 (F1 Z (.pure _ _ _ _)) Z (A2 (D6 Z Z) Z (A6 ?_)))))
 refine k1 ?_
 refine B1 rfl (fun ht=>?_) (fun ht=>?_)
 ·have hlt:i < rows.length:=by have:=A0 ht;omega
  have hv:rows[i]?=some rows[i]:=by simp [hlt]
  have hm:=hr _ (J19 hlt)
  rw [J07 hlt,C34] at hp
  have hmk:X0 n.toNat rows[i]=!(if decide ((IntKind.u64.wrap rows[i].Marks).fdiv (2 ^ min (IntKind.u64.wrap n).toNat IntKind.u64.bits)≠0)=true then true else if rows[i].Lost=true then decide (rows[i].Marks=0) else false):=by
   rw [B92 (by omega),B92 (n:=n) (by omega),shr64' _ _ (by omega),X0]
   by_cases h1:rows[i].Marks / 2 ^ n.toNat=0
   ·cases h2:rows[i].Lost<;>simp [h1]
    by_cases h3:rows[i].Marks=0<;>simp [h3]
   ·simp [h1]
  refine k5 (k1 (k2 (k3 (k2 ?_))))
  refine A3 (A2 (A4 Z Z) Z (A2 (A4 Z Z) Z (A2 (B3 Z (.pure _ _ _ _) Z (by omega) hv) Z (A2 (D7 Z) Z (A2 (B6 Z Z) Z (A2 (J4 Z) Z (A2 (A4 Z Z) Z (A2 (J4 Z) Z (A2 (A35 Z Z (by (rw [B92 (by omega)];omega))) Z ?_)))))))));refine A2 (M5 Z Z) Z (A2 (A4 Z Z) Z (A9 Z Z Z Z (fun hg=>by rw [hg];exact A4 Z Z) ?_));refine A9 Z Z Z Z (fun hg=>by rw [hg];exact A4 Z Z) ?_;refine A9 Z Z Z Z (fun hg=>by have hq:=hg;(try simp at hq);rw [hg];exact B3 Z (.pure _ _ _ _) Z (by omega) hv) ?_;refine A9 Z Z Z Z (fun hg=>by rw [hg];exact D7 Z) ?_;refine A9 Z Z Z Z (fun hg=>by rw [hg];exact B6 Z Z) ?_;refine A9 Z Z Z Z (fun hg=>by rw [hg];exact A4 Z Z) ?_;refine F7 Z Z Z (.gd (.val _)) Z (fun hg=>by obtain ⟨hg1,hg2⟩:=K6 hg;(try rw [hg1]);(try rw [hg2]);exact A4 Z Z) ?_;refine F7 Z Z Z (.gd (.val _)) Z (fun hg=>by obtain ⟨hg1,hg2⟩:=K6 hg;(try rw [hg1]);(try rw [hg2]);exact A4 Z Z) ?_;refine F7 Z Z Z (.gd (.val _)) Z (fun hg=>by have hq:=hg;(try simp at hq);obtain ⟨hg1,hg2⟩:=K6 hg;(try rw [hg1]);(try rw [hg2]);exact B3 Z (.pure _ _ _ _) Z (by omega) hv) ?_;refine F7 Z Z Z (.gd (.val _)) Z (fun hg=>by obtain ⟨hg1,hg2⟩:=K6 hg;(try rw [hg1]);(try rw [hg2]);exact D7 Z) ?_;refine F7 Z Z Z (.gd (.val _)) Z (fun hg=>by obtain ⟨hg1,hg2⟩:=K6 hg;(try rw [hg1]);(try rw [hg2]);exact B6 Z Z) ?_;refine F7 Z Z Z (.gd (.val _)) Z (fun hg=>by obtain ⟨hg1,hg2⟩:=K6 hg;(try rw [hg1]);(try rw [hg2]);exact F6 Z Z) ?_;refine A9 Z Z Z Z (fun hg=>by rw [hg];exact B4 Z (fun h=>by first | rfl | (rw [h];rfl)) (fun h=>by first | rfl | (rw [h];rfl))) ?_;refine A2 (B4 Z (fun h=>by first | rfl | (rw [h];rfl)) (fun h=>by first | rfl | (rw [h];rfl))) Z ?_;refine A6 ?_
  refine k1 ?_
  refine B1 rfl (fun ht=>?_) (fun ht=>?_)
  ·rw [hmk,ht] at hp
   refine k2 ?_
   refine A3 (A2 (A5 Z Z) Z (A6 ?_))
   refine k1 (k10 (k12 (k11 (k11 (k12 (k11 ?_))))))
   exact B5 (F2 rfl rfl rfl) (by rw [hp];rfl)
  ·rw [hmk,ht] at hp
   refine k5 (k4 (k1 ?_))
   refine A3 (A2 (A4 Z Z) Z (A2 (C1 Z Z (by omega)) Z (A2 (A5 Z Z) Z (A6 ?_))))
   refine k1 ?_
   exact ⟨i+1,⟨by omega,by rw [hp];rfl⟩,by omega,I72 ⟨le1 rfl,le1 rfl,le1 rfl,trivial⟩ trivial⟩
 ·have hi':i=rows.length:=by have:=A1 ht;omega
  subst hi'
  refine k6 (k2 ?_)
  refine A3 (A2 (A5 Z Z) Z (A6 ?_))
  refine k1 (k10 ?_)
  exact B5 (F2 rfl rfl rfl) (by rw [hp];simp [M4])
theorem D82 (rows:List Row) (n:Int) (hn:0≤n∧n≤32) (hr:I8 rows) (hl:rows.length≤536870911) (hx:N9 rows≤536870912):FnOk Tryz.prog 183 [pRows rows,E6 n] (fun rs=>rs=[E0 (l7 rows n.toNat)]):=by
 obtain ⟨n,rfl⟩:∃m:Nat,n=m:=⟨n.toNat,by omega⟩
 rw [J09]
 refine FnOk.intro Tryz.func183 (by decide) Z Z Z Z ?_
 refine k2 ?_
 refine A3 (A2 (A5 Z Z) Z (A6 ?_))
 refine k1 (k2 (k2 ?_))
 refine A3 (A2 (A5 Z Z) Z (A6 ?_))
 refine k1 (k3 ?_)
 refine D3 (X:=Nat) (fun i=>([(0,D1 Row 3 rowC rows),(1,C2 n),(5,C2 i)],[])) (fun i=>i≤rows.length∧rows.all (fun r=>I0 r.Text)=(rows.drop i).all (fun r=>I0 r.Text)) (fun i=>rows.length - i) 0 (by simp) (I72 ⟨le1 rfl,le1 rfl,le1 rfl,trivial⟩ trivial) ?_
 rintro i ⟨hi,hp⟩
 dsimp only at hi hp ⊢
 refine k2 (k2 ?_)
 refine A3 (A2 (A4 Z Z) Z (A2 (A4 Z Z) Z (A2 (F1 Z (.pure _ _ _ _)) Z (A2 (D6 Z Z) Z (A6 ?_)))))
 refine k1 ?_
 refine B1 rfl (fun ht=>?_) (fun ht=>?_)
 ·have hlt:i < rows.length:=by have:=A0 ht;omega
  have hv:rows[i]?=some rows[i]:=by simp [hlt]
  have htl:=E04 rows _ (J19 hlt)
  rw [J07 hlt,List.all_cons] at hp
  refine k5 (k1 (k2 (k3 (k2 ?_))))
  refine A3 (A2 (A4 Z Z) Z (A2 (A4 Z Z) Z (A2 (B3 Z (.pure _ _ _ _) Z (by omega) hv) Z (A2 (D7 Z) Z (A2 (B6 Z Z) Z (B9 (line_ok rows[i].Text (by omega)) Z Z Z ?_))))));rintro _ rfl;refine A2 (F0 Z) Z (A6 ?_)
  refine k1 ?_
  refine B1 rfl (fun ht=>?_) (fun ht=>?_)
  ·have h:I0 rows[i].Text=false:=by simpa using ht
   rw [h] at hp
   refine k2 ?_
   refine A3 (A2 (A5 Z Z) Z (A6 ?_))
   refine k1 (k10 (k12 (k11 (k11 (k12 (k11 ?_))))))
   exact B5 (F2 rfl rfl rfl) (by rw [l7,hp];rfl)
  ·have h:I0 rows[i].Text=true:=by simpa using ht
   rw [h] at hp
   refine k5 (k4 (k1 ?_))
   refine A3 (A2 (A4 Z Z) Z (A2 (C1 Z Z (by omega)) Z (A2 (A5 Z Z) Z (A6 ?_))))
   refine k1 ?_
   exact ⟨i+1,⟨by omega,by rw [hp];rfl⟩,by omega,I72 ⟨le1 rfl,le1 rfl,le1 rfl,trivial⟩ trivial⟩
 ·have hi':i=rows.length:=by have:=A1 ht;omega
  rw [hi',J11 (Nat.le_refl _),List.all_nil] at hp
  refine k6 (k2 (k2 ?_))
  refine A3 (A2 (A5 Z Z) Z (A6 ?_))
  refine k1 (k3 ?_)
  refine D3 (X:=Nat) (fun k=>([(0,D1 Row 3 rowC rows),(1,C2 n),(6,C2 ((k:Int) - 1))],[])) (fun k=>k≤n+1∧(List.range (n+1)).all (fun k=>Y4 (N8 rows ((k:Int) - 1)))=((List.range (n+1)).drop k).all (fun k=>Y4 (N8 rows ((k:Int) - 1)))) (fun k=>n+1 - k) 0 (by simp) (I72 ⟨le1 rfl,le1 rfl,le1 rfl,trivial⟩ trivial) ?_
  rintro k ⟨hk,hq⟩
  dsimp only at hk hq ⊢
  refine k2 (k2 ?_)
  refine A3 (A2 (A4 Z Z) Z (A2 (A4 Z Z) Z (A2 (D6 Z Z) Z (A6 ?_))))
  refine k1 ?_
  refine B1 rfl (fun ht=>?_) (fun ht=>?_)
  ·have hlt:k < n+1:=by have:=A0 ht;omega
   have hfl:=G95 rows ((k:Int) - 1)
   rw [J07 (by simpa using hlt),List.all_cons,List.getElem_range] at hq
   refine k5 (k1 (k2 (k3 (k2 ?_))))
   refine A3 (A2 (A4 Z Z) Z (A2 (A4 Z Z) Z (B9 (A17 rows _ hr hl) Z Z Z ?_)));rintro _ rfl;refine B9 (list_ok _ (fun s hs=>by obtain ⟨r,hr1,rfl⟩:=H96 rows _ s hs;have:=E04 rows r hr1;omega)) Z Z Z ?_;rintro _ rfl;refine A2 (F0 Z) Z (A6 ?_)
   refine k1 ?_
   refine B1 rfl (fun ht=>?_) (fun ht=>?_)
   ·have h:Y4 (N8 rows ((k:Int) - 1))=false:=by simpa using ht
    rw [h] at hq
    refine k2 ?_
    refine A3 (A2 (A5 Z Z) Z (A6 ?_))
    refine k1 (k10 (k12 (k11 (k11 (k12 (k11 ?_))))))
    exact B5 (F2 rfl rfl rfl) (by rw [l7,hp,hq];rfl)
   ·have h:Y4 (N8 rows ((k:Int) - 1))=true:=by simpa using ht
    rw [h] at hq
    refine k5 (k4 (k1 ?_))
    refine A3 (A2 (A4 Z Z) Z (A2 (C1 Z Z (by omega)) Z (A2 (A5 Z Z) Z (A6 ?_))))
    refine k1 ?_
    exact ⟨k+1,⟨by omega,by rw [hq];rfl⟩,by omega,I72 ⟨le1 rfl,le1 rfl,leE rfl (by first | (simp;done) | (simp;omega)),trivial⟩ trivial⟩
  ·have hk':k=n+1:=by have:=A1 ht;omega
   rw [hk',J11 (by simp),List.all_nil] at hq
   refine k6 (k2 ?_)
   refine A3 (A2 (A5 Z Z) Z (A6 ?_))
   refine k1 (k10 ?_)
   exact B5 (F2 rfl rfl rfl) (by rw [l7,hp,hq];rfl)
theorem D83 (t:Table) (hr:I8 t.Rows) (hl:t.Rows.length≤536870911) (hx:N9 t.Rows≤536870912):FnOk Tryz.prog 115 [pTable t] (fun rs=>rs=[E6 (R7 t)]):=by
 refine FnOk.intro Tryz.func115 (by decide) Z Z Z Z ?_
 refine k2 ?_
 refine A3 (C3 (P5 1 Z Z Z) Z (A2 (A5 Z Z) Z (A6 ?_)))
 refine k1 (k2 (k3 (k2 ?_)))
 refine A3 (A2 (A7 Z) Z (A2 (B0 Z Z Z) Z (A2 (D6 Z Z) Z (A2 (A4 Z Z) Z (A9 Z Z Z Z (fun hg=>by rw [hg];exact A7 Z) ?_)))));refine A9 Z Z Z Z (fun hg=>by rw [hg];exact B0 Z Z Z) ?_;refine A9 Z Z Z Z (fun hg=>by rw [hg];exact N2 Z Z) ?_;refine A2 (B4 Z (fun h=>by first | rfl | (rw [h];rfl)) (fun h=>by first | rfl | (rw [h];rfl))) Z ?_;refine A2 (A5 Z Z) Z (A6 ?_)
 refine k1 ?_
 refine B1 rfl (fun ht=>?_) (fun ht=>?_)
 ·have h:=A0 (or_pick.symm.trans ht)
  refine k2 ?_
  refine A3 (A2 (A5 Z Z) Z (A6 ?_))
  refine k1 (k10 (k12 (k11 ?_)))
  exact B5 (F2 rfl rfl rfl) (by rw [R7,if_pos h])
 ·have h:=A1 (or_pick.symm.trans ht)
  refine k2 ?_
  refine A3 (A2 (A7 Z) Z (A2 (B0 Z Z Z) Z (A2 (A7 Z) Z (A2 (B0 Z Z Z) Z (B9 (D81 t.Rows t.Parents (by omega) hr) Z Z Z ?_)))));rintro _ rfl;refine A2 (F0 Z) Z (A2 (A5 Z Z) Z (A6 ?_))
  refine k1 ?_
  refine B1 rfl (fun ht=>?_) (fun ht=>?_)
  ·have h2:M4 t.Rows t.Parents.toNat=false:=by simpa using ht
   refine k2 ?_
   refine A3 (A2 (A5 Z Z) Z (A6 ?_))
   refine k1 (k10 (k12 (k11 ?_)))
   exact B5 (F2 rfl rfl rfl) (by rw [R7,if_neg h,if_pos h2])
  ·have h2:M4 t.Rows t.Parents.toNat=true:=by simpa using ht
   refine k2 ?_
   refine A3 (A2 (A7 Z) Z (A2 (B0 Z Z Z) Z (A2 (A7 Z) Z (A2 (B0 Z Z Z) Z (B9 (D82 t.Rows t.Parents (by omega) hr hl hx) Z Z Z ?_)))));rintro _ rfl;refine A2 (F0 Z) Z (A2 (A5 Z Z) Z (A6 ?_))
   refine k1 ?_
   refine B1 rfl (fun ht=>?_) (fun ht=>?_)
   ·have h3:l7 t.Rows t.Parents.toNat=false:=by simpa using ht
    refine k2 ?_
    refine A3 (A2 (A5 Z Z) Z (A6 ?_))
    refine k1 (k10 (k12 (k11 ?_)))
    exact B5 (F2 rfl rfl rfl) (by rw [R7,if_neg h,if_neg (by simp [h2]),if_pos h3])
   ·have h3:l7 t.Rows t.Parents.toNat=true:=by simpa using ht
    refine k5 (k2 ?_)
    refine A3 (A2 (A5 Z Z) Z (A6 ?_))
    refine k1 (k10 ?_)
    exact B5 (F2 rfl rfl rfl) (by rw [R7,if_neg h,if_neg (by simp [h2]),if_neg (by simp [h3])])
theorem E83 (s:Str):(ByteArray.mk s.toArray).size=s.length:=by simp [ByteArray.size]
theorem F35 (s p:Str) (hs:s.length≤1099511627776):FnOk Tryz.prog 209 [F3 s,F3 p] (fun rs=>rs=[E0 (Lib.hasSuffix s p)]) :=
 I78 (xs:=[.string ⟨s.toArray⟩,.string ⟨p.toArray⟩]) ⟨_,rfl,rfl,rfl⟩ rfl fun w=>by simpa using Tryz.strings_HasSuffix ⟨s.toArray⟩ ⟨p.toArray⟩ w (by rw [E83];omega)
theorem B66 (s p:Str) (hs:s.length≤1099511627776):FnOk Tryz.prog 224 [F3 s,F3 p] (fun rs=>rs=[F3 (Lib.trimSuffix s p)]) :=
 I78 (xs:=[.string ⟨s.toArray⟩,.string ⟨p.toArray⟩]) ⟨_,rfl,rfl,rfl⟩ rfl fun w=>by simpa using Tryz.strings_TrimSuffix ⟨s.toArray⟩ ⟨p.toArray⟩ w (by rw [E83];omega)
theorem F36 (s:Str) (c:UInt8):FnOk Tryz.prog 231 [F3 s,F3 [c]] (fun rs=>rs=[E0 (decide (0≤Lib.indexByte s c))]) :=
 I78 (xs:=[.string ⟨s.toArray⟩,.string ⟨#[c]⟩]) ⟨_,rfl,rfl,rfl⟩ rfl fun w=>by simpa using Tryz.strings_Contains_one ⟨s.toArray⟩ c w
theorem C68 (s:Str) (hs:s.length≤1099511627776):FnOk Tryz.prog 142 [F3 s] (fun rs=>rs=[E0 (ended s)]):=by
 refine FnOk.intro Tryz.func142 (by decide) Z Z Z Z ?_
 refine k2 ?_
 refine A3 (A2 (A5 Z Z) Z (A6 ?_))
 refine k1 (k2 ?_)
 refine A3 (A2 (A4 Z Z) Z (B9 (F35 s [10] hs) Z Z Z ?_));rintro _ rfl;refine A2 (A5 Z Z) Z (A6 ?_)
 rw [C35]
 refine k1 (k10 ?_)
 exact B5 (F2 rfl rfl rfl) rfl
theorem I35 (s:Str) (hs:s.length≤1099511627776):FnOk Tryz.prog 232 [F3 s] (fun rs=>rs=[F3 (A72 s)]):=by
 refine FnOk.intro Tryz.func232 (by decide) Z Z Z Z ?_
 refine k2 ?_
 refine A3 (A2 (A5 Z Z) Z (A6 ?_))
 refine k1 (k2 ?_)
 refine A3 (A2 (A4 Z Z) Z (B9 (B66 s [10] hs) Z Z Z ?_));rintro _ rfl;refine A2 (A5 Z Z) Z (A6 ?_)
 rw [B75]
 refine k1 (k10 ?_)
 exact B5 (F2 rfl rfl rfl) rfl
theorem F99 (r:Row) (c:Int) (hr:0≤r.Marks∧r.Marks < 4294967296):FnOk Tryz.prog 188 [pRow r,E6 c] (fun rs=>rs=[E0 (Z9 r c)]):=by
 refine FnOk.intro Tryz.func188 (by decide) Z Z Z Z ?_
 refine k2 ?_
 refine A3 (C3 (P5 2 Z Z Z) Z (A2 (A5 Z Z) Z (A6 ?_)))
 refine k1 (k2 (k2 ?_))
 refine A3 (A2 (A4 Z Z) Z (A2 (D6 Z Z) Z (A2 (A4 Z Z) Z (A9 Z Z Z Z (fun hg=>by rw [hg];exact A4 Z Z) ?_))));refine A9 Z Z Z Z (fun hg=>by rw [hg];exact s9 Z Z) ?_;refine A2 (B4 Z (fun h=>by first | rfl | (rw [h];rfl)) (fun h=>by first | rfl | (rw [h];rfl))) Z ?_;refine A6 ?_
 refine k1 ?_
 refine B1 rfl (fun ht=>?_) (fun ht=>?_)
 ·have h:=A0 (or_pick.symm.trans ht)
  refine k2 ?_
  refine A3 (A2 (A5 Z Z) Z (A6 ?_))
  refine k1 (k10 (k11 ?_))
  exact B5 (F2 rfl rfl rfl) (by rw [Z9,if_neg (by omega),if_pos (by omega)])
 ·have h:=A1 (or_pick.symm.trans ht)
  refine k5 (k1 (k2 (k2 ?_)))
  refine A3 (A2 (A4 Z Z) Z (A2 (D6 Z Z) Z (A6 ?_)))
  refine k1 ?_
  refine B1 rfl (fun ht=>?_) (fun ht=>?_)
  ·have h2:=A0 ht
   refine k2 ?_
   refine A3 (A2 (A7 Z) Z (A2 (B0 Z Z Z) Z (A2 (F0 Z) Z (A2 (A5 Z Z) Z (A6 ?_)))))
   refine k1 (k10 (k11 ?_))
   exact B5 (F2 rfl rfl rfl) (by rw [Z9,if_pos (by omega)])
  ·have h2:=A1 ht
   refine k5 (k1 (k2 ?_))
   refine C4 (by kernel_rfl) (by kernel_rfl) (A8 (A7 Z) Z Z (A8 (B0 Z Z Z) Z Z (A8 (A7 Z) Z Z (A8 (B0 Z Z Z) Z Z (A8 (A4 Z Z) Z Z (A8 (A35 Z Z (by omega)) Z Z (A8 (T7 Z Z Z (fun _=>rfl)) Z Z (A8 (F6 Z Z) Z Z (A8 (H24 Z Z TyBool.out) Z Z (A8 (A5 Z Z) Z Z (H9 ?_)))))))))))
   refine k1 (k10 ?_)
   refine B5 (F2 Z Z Z) ?_
   have h3:0≤r.Marks / 2 ^ c.toNat:=Int.ediv_nonneg hr.1 (Int.pow_nonneg (by decide))
   have h4:r.Marks / 2 ^ c.toNat≤r.Marks:=Int.ediv_le_self _ hr.1
   rw [Z9,if_neg (by omega),if_neg (by omega),E05 r.Marks c (by omega),B27 _ (by omega),Bool.beq_comm]
   rfl
theorem G71 (r:Row) (n:Int) (hn:1≤n∧n≤32) (hr:0≤r.Marks∧r.Marks < 4294967296):FnOk Tryz.prog 169 [pRow r,E6 n] (fun rs=>rs=[E0 (X0 n.toNat r)]):=by
 refine FnOk.intro Tryz.func169 (by decide) Z Z Z Z ?_
 refine k2 ?_
 refine A3 (C3 (P5 2 Z Z Z) Z (A2 (A5 Z Z) Z (A6 ?_)))
 refine k1 (k2 ?_)
 refine A3 (A2 (A7 Z) Z (A2 (B0 Z Z Z) Z (A2 (A35 Z Z (by omega)) Z (A2 (A4 Z Z) Z (A2 (Q7 Z Z (by omega)) Z (A2 (A35 Z Z (by omega)) Z (A2 (F6 Z Z) Z (A2 (A4 Z Z) Z (A9 Z Z Z Z (fun hg=>by rw [hg];exact A7 Z) ?_)))))))));refine A9 Z Z Z Z (fun hg=>by rw [hg];exact B0 Z Z Z) ?_;refine A9 Z Z Z Z (fun hg=>by rw [hg];exact F0 Z) ?_;refine A9 Z Z Z Z (fun hg=>by rw [hg];exact A4 Z Z) ?_;refine F7 Z Z Z (.gd (.val _)) Z (fun hg=>by obtain ⟨hg1,hg2⟩:=K6 hg;(try rw [hg1]);(try rw [hg2]);exact A7 Z) ?_;refine F7 Z Z Z (.gd (.val _)) Z (fun hg=>by obtain ⟨hg1,hg2⟩:=K6 hg;(try rw [hg1]);(try rw [hg2]);exact B0 Z Z Z) ?_;refine F7 Z Z Z (.gd (.val _)) Z (fun hg=>by obtain ⟨hg1,hg2⟩:=K6 hg;(try rw [hg1]);(try rw [hg2]);exact M5 Z Z) ?_;refine A9 Z Z Z Z (fun hg=>by rw [hg];exact B4 Z (fun h=>by first | rfl | (rw [h];rfl)) (fun h=>by first | rfl | (rw [h];rfl))) ?_;refine A2 (B4 Z (fun h=>by first | rfl | (rw [h];rfl)) (fun h=>by first | rfl | (rw [h];rfl))) Z ?_;refine A2 (A5 Z Z) Z (A6 ?_)
 refine k1 (k10 ?_)
 refine B5 (F2 Z Z Z) ?_
 have h0:0≤r.Marks / 2 ^ n.toNat:=Int.ediv_nonneg hr.1 (Int.pow_nonneg (by decide))
 have e1:r.Marks.fdiv (2 ^ (min (1:Int).toNat IntKind.u32.bits))=r.Marks / 2:=by
  rw [E05 r.Marks 1 (by omega)];rfl
 have e2:(r.Marks / 2).fdiv (2 ^ (min (n - 1).toNat IntKind.u32.bits))=r.Marks / 2 ^ n.toNat:=by
  rw [E05 (r.Marks / 2) (n - 1) (by omega),Int.ediv_ediv_of_nonneg (by decide)]
  have:n.toNat=(n - 1).toNat+1:=by omega
  rw [this,Int.pow_succ,Int.mul_comm]
 have e3:(if decide ((r.Marks.fdiv (2 ^ (min (1:Int).toNat IntKind.u32.bits))).fdiv (2 ^ (min (n - 1).toNat IntKind.u32.bits))=0)=true then (if (!r.Lost)=true then true else decide (r.Marks≠0)) else false)=X0 n.toNat r:=by
  rw [e1,e2,X0]
  cases r.Lost<;>by_cases hz:r.Marks / 2 ^ n.toNat=0<;>by_cases hy:r.Marks=0<;>simp [hz,hy]
 rw [←e3]
theorem D84 (r:Row) (hs:r.Text.length≤1099511627776):FnOk Tryz.prog 171 [pRow r] (fun rs=>rs=[E0 (I0 r.Text)]):=by
 refine FnOk.intro Tryz.func171 (by decide) Z Z Z Z ?_
 refine k2 ?_
 refine A3 (C3 (P5 1 Z Z Z) Z (A2 (A5 Z Z) Z (A6 ?_)))
 refine k1 (k2 ?_)
 refine A3 (A2 (A7 Z) Z (A2 (B0 Z Z Z) Z (A2 (x9 Z Z) Z (A2 (A4 Z Z) Z (A9 Z Z Z Z (fun hg=>by rw [hg];exact A7 Z) ?_)))));refine A9 Z Z Z Z (fun hg=>by rw [hg];exact B0 Z Z Z) ?_;refine A9 Z Z Z Z (fun hg=>by have hq:=hg;(try simp at hq);rw [hg];exact G9 (I35 r.Text hs) Z Z) ?_;refine A9 Z Z Z Z (fun hg=>by have hq:=hg;(try simp at hq);rw [hg];exact G9 (F36 (A72 r.Text) 10) Z Z) ?_;refine A9 Z Z Z Z (fun hg=>by rw [hg];exact F0 Z) ?_;refine A2 (B4 Z (fun h=>by first | rfl | (rw [h];rfl)) (fun h=>by first | rfl | (rw [h];rfl))) Z ?_;refine A2 (A5 Z Z) Z (A6 ?_)
 refine k1 (k10 ?_)
 refine B5 (F2 Z Z Z) ?_
 rw [←H98]
theorem wadd_ok (r:Row) (res:Bool) (par:Int) (hs:r.Text.length≤1099511627776) :
  FnIo Tryz.prog 172 [pRow r] [.v (.bool res),.v (.int .u32 par)] (fun rs cs=>rs=[E0 (D16 res par r)]∧cs=[.v (.bool (B29 res r)),.v (.int .u32 (B30 par r))]):=by
 refine FnIo.intro Tryz.func172 (by decide) Z Z Z Z ?_
 refine k2 ?_
 refine A3 (C3 (P5 3 Z Z Z) Z (A2 (A5 Z Z) Z (A6 ?_)))
 refine k1 (k2 ?_)
 refine A3 (A2 (A7 Z) Z (A2 (B0 Z Z Z) Z (A2 (A5 Z Z) Z (A6 ?_))))
 refine L5 ?_
 refine j4 [(3,.s (.one (.ref 3 0))),(0,.s (.one (.ref self 0))),(5,I3 (.int .u32 (E57 r)))] [(3,.box (pRow r).s1.cells),(self,.box [.p (.v (.bool res)),.p (.v (.int .u32 par))])] ?_ ?_
 ·refine k2 ?_
  refine A3 (A2 (A7 Z) Z (A2 (B0 Z Z Z) Z (A2 (F0 Z) Z (A6 ?_))))
  refine k1 ?_
  refine B1 rfl (fun ht=>?_) (fun ht=>?_)
  ·have h:r.Lost=false:=by simpa using ht
   skip
   refine A3 (A2 (A4 Z Z) Z (A2 (n_compl Z Z (fun _=>rfl)) Z (A2 (A5 Z Z) Z (A6 ?_))))
   refine k1 ?_
   rw [E57,if_neg (by rw [h];simp)]
   exact I72 ⟨le1 rfl,le1 rfl,le1 rfl,trivial⟩ ⟨rfl,rfl,trivial⟩
  ·have h:r.Lost=true:=by simpa using ht
   refine k5 (k1 ?_)
   rw [E57,if_pos h]
   exact I72 ⟨le1 rfl,le1 rfl,le1 rfl,trivial⟩ ⟨rfl,rfl,trivial⟩
 refine k2 ?_
 refine A3 (A2 (A4 Z Z) Z (A2 (B7 Z) Z (A2 (A7 Z) Z (A2 (B0 Z Z Z) Z (A2 (A4 Z Z) Z (A2 (T7 Z Z Z (fun _=>rfl)) Z (A2 (F6 Z Z) Z (A2 (A4 Z Z) Z (A9 Z Z Z Z (fun hg=>by rw [hg];exact A7 Z) ?_)))))))));refine A9 Z Z Z Z (fun hg=>by rw [hg];exact B0 Z Z Z) ?_;refine A9 Z Z Z Z (fun hg=>by rw [hg];exact A4 Z Z) ?_;refine F7 Z Z Z (.gd (.val _)) Z (fun hg=>by obtain ⟨hg1,hg2⟩:=K6 hg;(try rw [hg1]);(try rw [hg2]);exact A4 Z Z) ?_;refine F7 Z Z Z (.gd (.val _)) Z (fun hg=>by obtain ⟨hg1,hg2⟩:=K6 hg;(try rw [hg1]);(try rw [hg2]);exact B7 Z) ?_;refine F7 Z Z Z (.gd (.val _)) Z (fun hg=>by obtain ⟨hg1,hg2⟩:=K6 hg;(try rw [hg1]);(try rw [hg2]);exact A7 Z) ?_;refine F7 Z Z Z (.gd (.val _)) Z (fun hg=>by obtain ⟨hg1,hg2⟩:=K6 hg;(try rw [hg1]);(try rw [hg2]);exact B0 Z Z Z) ?_;refine F7 Z Z Z (.gd (.val _)) Z (fun hg=>by obtain ⟨hg1,hg2⟩:=K6 hg;(try rw [hg1]);(try rw [hg2]);exact F0 Z) ?_;refine A9 Z Z Z Z (fun hg=>by rw [hg];exact B4 Z (fun h=>by first | rfl | (rw [h];rfl)) (fun h=>by first | rfl | (rw [h];rfl))) ?_;refine A2 (B4 Z (fun h=>by first | rfl | (rw [h];rfl)) (fun h=>by first | rfl | (rw [h];rfl))) Z ?_;refine A2 (A5 Z Z) Z (A6 ?_)
 refine k1 (k2 (k2 ?_))
 refine A3 (A2 (A7 Z) Z (A2 (B0 Z Z Z) Z (B9 (C68 r.Text hs) Z Z Z ?_)));rintro _ rfl;refine A2 (F0 Z) Z (A6 ?_)
 have hok:(if decide (G31 par (E57 r)=0)=true then (if r.Lost=true then true else !res) else false)=D16 res par r:=by
  rw [D16]
  cases r.Lost<;>cases res<;>by_cases h:G31 par (E57 r)=0<;>simp [h]
 refine k1 ?_
 refine B1 rfl (fun ht=>?_) (fun ht=>?_)
 ·have h:ended r.Text=false:=by simpa using ht
  refine k2 ?_
  refine A3 (A2 (A4 Z Z) Z (A2 (B7 Z) Z (A2 (A7 Z) Z (A2 (B0 Z Z Z) Z (A2 (A4 Z Z) Z (A2 (T7 Z Z Z (fun _=>rfl)) Z (A2 (B7 Z) Z (A2 (A7 Z) Z (E9 (C0 TySz.out Z Z Z Z Z Z) (A6 ?_))))))))))
  refine k1 ?_
  refine A3 (A2 (A4 Z Z) Z (A2 (A4 Z Z) Z (A2 (B7 Z) Z (A2 (A7 Z) Z (A2 (B0 Z Z Z) Z (A2 (A4 Z Z) Z (A9 Z Z Z Z (fun hg=>by rw [hg];exact A7 Z) ?_)))))));refine A9 Z Z Z Z (fun hg=>by rw [hg];exact B0 Z Z Z) ?_;refine A9 Z Z Z Z (fun hg=>by rw [hg];exact F0 Z) ?_;refine A2 (B4 Z (fun h=>by first | rfl | (rw [h];rfl)) (fun h=>by first | rfl | (rw [h];rfl))) Z ?_;refine A2 (B7 Z) Z (A2 (A7 Z) Z (E9 (C0 TySz.out Z Z Z Z Z Z) (A6 ?_)))
  refine k1 (k2 ?_)
  refine A3 (A2 (A4 Z Z) Z (A2 (A5 Z Z) Z (A6 ?_)))
  refine k1 (k10 ?_)
  refine io_ret (F2 rfl rfl rfl) rfl rfl ⟨by rw [←hok];rfl,?_⟩
  have ea:B29 res r=(res||!r.Lost):=by rw [B29,h];rfl
  have ep:B30 par r=S2 par (E57 r):=by rw [B30,h];rfl
  rw [ea,ep]
  cases res<;>rfl
 ·have h:ended r.Text=true:=by simpa using ht
  refine k5 (k1 (k2 ?_))
  refine A3 (A2 (A4 Z Z) Z (A2 (A5 Z Z) Z (A6 ?_)))
  refine k1 (k10 ?_)
  exact io_ret (F2 rfl rfl rfl) rfl rfl ⟨by rw [←hok];rfl,by rw [B29,B30,if_pos h,if_pos h]⟩
def isBld (ob:Obs) (xs:Str):Prop:=(∃a,(a=.p (.v (.pointer none))∨a=.ref 700 0)∧C7 ob 700=some (.tbx 144 [a,.buf 701 UInt8 1 u8C xs]))∧C7 ob 701=some (.spare xs.length 1 5)
abbrev bldObs (ob:Obs) (ys xs:Str):Obs:=(700,.tbx 144 [.ref 700 0,.buf 701 UInt8 1 u8C xs])::(701,.spare xs.length 1 5)::Obs.forget 701 ((700,.tbx 144 [.ref 700 0,.buf 701 UInt8 1 u8C ys])::ob)
def H34:Go.Shelf.Ren:=⟨fun | 240=>165 | 276=>227 | n=>n,fun | 72=>144 | 70=>142 | 164=>278 | 37=>133 | n=>n,fun n=>n⟩
theorem ccLays:Go.Proofs.Lays.n240 Tryz.prog H34:={
 mixed:=by kernel_rfl
 f240:=Tryz.func165.trans (congrArg some (by kernel_rfl))
 f276:=Tryz.func227.trans (congrArg some (by kernel_rfl))
 t0:=Tryz.underlying0
 a0:=Tryz.isAgg0
 z0:=Tryz.sizeOf0
 v0:=Tryz.zeroValue0
 t4:=Tryz.underlying4
 a4:=Tryz.isAgg4
 z4:=Tryz.sizeOf4
 v4:=Tryz.zeroValue4
 t9:=Tryz.underlying9
 a9:=Tryz.isAgg9
 z9:=Tryz.sizeOf9
 v9:=Tryz.zeroValue9
 t20:=Tryz.underlying20
 a20:=Tryz.isAgg20
 z20:=Tryz.sizeOf20
 v20:=Tryz.zeroValue20
 t70:=Tryz.underlying142
 a70:=Tryz.isAgg142
 z70:=Tryz.sizeOf142
 v70:=Tryz.zeroValue142
 t72:=Tryz.underlying144
 a72:=Tryz.isAgg144
 z72:=Tryz.sizeOf144
 v72:=Tryz.zeroValue144
 t164:=Tryz.underlying278
 a164:=Tryz.isAgg278
 z164:=Tryz.sizeOf278
 v164:=Tryz.zeroValue278 }
theorem ccX:Builder.X72 Tryz.prog H34:={
 sizeBuilder:=by kernel_rfl
 liesBuilder:=by kernel_rfl }
theorem B67 {gf:Fr} {ob:Obs} {a t:TC} (hk:C7 ob 700=some (.tbx 144 [a,t])) (ha:a=.p (.v (.pointer none))∨a=.ref 700 0) :
  AL.Met Tryz.prog 165 [.one (.ref 700 0)] gf ob [] (fun rs ob'=>rs=[]∧ob'=(700,.tbx 144 [.ref 700 0,t])::ob) :=
 AL.Met.copyCheck ⟨_,rfl,rfl,rfl⟩ (fun b w h1 h2 h3=>Any.Builder_copyCheck_fresh (ρ:=H34) ccLays ccX b w h1 h2 h3) (fun b w h=>Any.Builder_copyCheck_used (ρ:=H34) ccLays ccX b w h) hk ha
theorem O7 {gf:Fr} {ob:Obs} {xs s:Str} (hb:isBld ob xs) (hlen:xs.length+s.length≤1073741824) :
  AL.Met Tryz.prog 88 [.one (.ref 700 0),.one (.p (.v (.string ⟨s.toArray⟩)))] gf ob [701] (fun rs ob'=>rs=[.one (.p (.v (.int .i64 s.length))),.one (.p (.v .nilIface))]∧ob'=bldObs ob xs (xs++s)):=by
 obtain ⟨⟨a,ha,hk⟩,hk1⟩:=hb
 refine AL.Met.intro Tryz.func88 (by decide) Z Z Z ?_
 refine k2 ?_
 refine A3 (A2 (A5 Z Z) Z (A2 (A5 Z Z) Z (A6 ?_)))
 refine k1 (k2 ?_)
 refine A3 (A2 (A4 Z Z) Z (V6 (B67 hk ha) Z Z Z ?_));rintro _ _ ⟨rfl,rfl⟩;refine A6 ?_
 refine k1 (k2 ?_)
 refine A3 (A2 (A4 Z Z) Z (A2 (A4 Z Z) Z (A2 (B7 Z) Z (A2 (A7 Z) Z (A2 (C99 Z Z Z) Z (A2 (A4 Z Z) Z (C3 (A54 TyStr.out Z hk1 Z (by first | omega | (simp;omega)) Z) Z (A2 (B7 Z) Z (A2 (A7 Z) Z (E9 (C13 TySz.out Z Z Z Z Z Z) (A6 ?_)))))))))))
 refine k1 (k2 ?_)
 refine A3 (A2 (A4 Z Z) Z (A2 (E4 Z) Z (A2 (A5 Z Z) Z (A2 (A5 Z Z) Z (A6 ?_)))))
 refine k1 (k10 ?_)
 exact I5 (A41 rfl rfl rfl) (by repeat (first | exact E2 | refine tail_cons rfl ?_ | refine E3 _ ?_)) (fun _ _ h=>h) ⟨rfl,rfl⟩
theorem B68 {gf:Fr} {ob:Obs} {xs:Str} {c:UInt8} (hb:isBld ob xs) (hlen:xs.length+1≤1073741824) :
  AL.Met Tryz.prog 144 [.one (.ref 700 0),.one (.p (.v (.int .u8 c.toNat)))] gf ob [701] (fun rs ob'=>rs=[.one (.p (.v .nilIface))]∧ob'=bldObs ob xs (xs++[c])):=by
 obtain ⟨⟨a,ha,hk⟩,hk1⟩:=hb
 refine AL.Met.intro Tryz.func144 (by decide) Z Z Z ?_
 refine k2 ?_
 refine A3 (A2 (A5 Z Z) Z (A6 ?_))
 refine k1 (k2 ?_)
 refine A3 (A2 (A4 Z Z) Z (V6 (B67 hk ha) Z Z Z ?_));rintro _ _ ⟨rfl,rfl⟩;refine A6 ?_
 refine k1 (k2 ?_)
 refine A3 (A2 (A4 Z Z) Z (A2 (A4 Z Z) Z (A2 (B7 Z) Z (A2 (A7 Z) Z (A2 (C99 Z Z Z) Z (A2 (A4 Z Z) Z (A2 (C9 (c:=u8C) (ys:=[c]) (E1 Z Z Z Z F4) Z Z Z) Z (C3 (G7 Z hk1 Z (.pure _ _ _ _) (by (simp;omega)) Z) Z (A2 (B7 Z) Z (A2 (A7 Z) Z (E9 (C13 TySz.out Z Z Z Z Z Z) (A6 ?_))))))))))))
 refine k1 (k2 ?_)
 refine A3 (A2 (A5 Z Z) Z (A6 ?_))
 refine k1 (k10 ?_)
 exact I5 (c4 rfl rfl) (by repeat (first | exact E2 | refine tail_cons rfl ?_ | refine E3 _ ?_)) (fun _ _ h=>h) ⟨rfl,rfl⟩
end Go.Proofs.YtgejaedjnbjpoaaGreatDoor
