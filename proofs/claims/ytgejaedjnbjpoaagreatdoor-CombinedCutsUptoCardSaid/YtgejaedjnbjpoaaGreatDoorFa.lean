/- Walks of the program's functions. -/
import Derived.Test.YtgejaedjnbjpoaaGreatDoorTy
import Derived.Test.YtgejaedjnbjpoaaGreatDoorFs
import Derived.Test.YtgejaedjnbjpoaaGreatDoorSh
namespace Go.Proofs.YtgejaedjnbjpoaaGreatDoor
open Go Go.AL
set_option maxRecDepth 100000
theorem B58 (p:Int):0≤IntKind.u64.wrap p:=by simp [IntKind.wrap,IntKind.signed,IntKind.bits];omega
theorem F20 (s:Str) (hs:s.length≤1099511627776):FnOk Tryz.prog 127 [L4 s] (fun rs=>rs=[J5 (ended s)]):=by
 refine FnOk.intro Tryz.func127 (by decide) Z Z Z Z ?_
 refine k2 ?_
 refine A3 (A2 (A5 Z Z) Z (A6 ?_))
 refine k1 (k2 ?_)
 have hl:s≠[]→s[((s.length:Int) - 1).toNat]?=some (s.getLastD 0):=by
  intro h
  have h1:0 < s.length:=List.length_pos_iff.2 h
  have h2:((s.length:Int) - 1).toNat=s.length - 1:=by omega
  rw [h2,←List.getLast?_eq_getElem?,List.getLast?_eq_some_getLast h,List.getLastD_eq_getLast?,List.getLast?_eq_some_getLast h]
  rfl
 refine A3 (A2 (A4 Z Z) Z (A2 (A31 Z Z) Z (A2 (A4 Z Z) Z (B1 Z Z Z Z (fun hg=>by rw [hg];exact A4 Z Z) ?_))));refine B1 Z Z Z Z (fun hg=>by rw [hg];exact A4 Z Z) ?_;refine B1 Z Z Z Z (fun hg=>by rw [hg];exact L0 Z) ?_;refine B1 Z Z Z Z (fun hg=>by have hq:=hg;(try simp at hq);rw [hg];exact V8 Z Z (by omega)) ?_;refine B1 Z Z Z Z (fun hg=>by have hq:=hg;(try simp at hq);have h1:=List.length_pos_iff.2 hq;rw [hg];exact Z9 Z Z (by omega) (hl hq)) ?_;refine B1 Z Z Z Z (fun hg=>by rw [hg];exact K1 Z Z) ?_;refine A2 (B6 Z (fun h=>by first | rfl | (rw [h];rfl)) (fun h=>by first | rfl | (rw [h];rfl))) Z ?_;refine A2 (A5 Z Z) Z (A6 ?_)
 refine k1 (k10 ?_)
 refine B5 (F2 Z Z Z) ?_
 rw [H52]
theorem B92 (b:Str) (hb:b.length≤536870912):FnOk Tryz.prog 61 [L4 b] (fun rs=>rs=[t6 (C4 b)]):=by
 refine FnOk.intro Tryz.func61 (by decide) Z Z Z Z ?_
 refine k2 ?_
 refine A3 (A2 (A5 Z Z) Z (A6 ?_))
 refine k1 (k2 ?_)
 refine A3 (C1 (S8 3 _ J9 Z) Z (A6 ?_))
 refine k1 (k2 ?_)
 refine A3 (A2 (A5 Z Z) Z (A6 ?_))
 refine k1 (k2 (k2 ?_))
 refine A3 (A2 (A5 Z Z) Z (A6 ?_))
 refine k1 (k3 ?_)
 refine C9 (X:=Nat × Nat × List Str) (fun x=>([(0,R3 b),(3,.s (.one (.buf 3 Str 1 J9 x.2.2))),(4,B7 x.2.1),(5,B7 x.1)],[(3,.spare x.2.2.length 1 9)]))
  (fun x=>x.1≤b.length∧x.2.1≤x.1∧x.2.2.length≤x.1∧(x.1=b.length→x.2.1=x.1)∧x.2.2++H8 ((b.drop x.2.1).take (x.1 - x.2.1)) (b.drop x.1)=C4 b) (fun x=>b.length - x.1) (0,0,[]) (by simp [C4]) ?_ ?_
 ·exact H62 ⟨⟨_,rfl,.same _⟩,⟨_,rfl,.same _⟩,⟨_,rfl,.same _⟩,⟨_,rfl,.same _⟩,trivial⟩ ⟨rfl,trivial⟩
 ·rintro ⟨i,from',out⟩ ⟨hi,hf,ho,he,hp⟩
  dsimp only at hi hf ho he hp ⊢
  refine k2 (k2 ?_)
  refine A3 (A2 (A4 Z Z) Z (A2 (A4 Z Z) Z (A2 (L0 Z) Z (A2 (D8 Z Z) Z (A6 ?_)))))
  refine k1 ?_
  refine B4 rfl (fun ht=>?_) (fun ht=>?_)
  ·have hlt:i < b.length:=by simpa using ht
   have hv:b[i]?=some b[i]:=by simp [hlt]
   refine k5 (k1 (k2 (k3 (k2 ?_))))
   refine A3 (A2 (A4 Z Z) Z (A2 (A4 Z Z) Z (A2 (Z9 Z Z (by omega) hv) Z (A2 (K1 Z Z) Z (A2 (A4 Z Z) Z (B1 Z Z Z Z (fun hg=>by rw [hg];exact A4 Z Z) ?_))))));refine B1 Z Z Z Z (fun hg=>by have hq:=hg;(try simp at hq);rw [hg];exact B9 Z Z (by omega)) ?_;refine B1 Z Z Z Z (fun hg=>by rw [hg];exact A4 Z Z) ?_;refine B1 Z Z Z Z (fun hg=>by rw [hg];exact L0 Z) ?_;refine B1 Z Z Z Z (fun hg=>by rw [hg];exact K1 Z Z) ?_;refine A2 (B6 Z (fun h=>by first | rfl | (rw [h];rfl)) (fun h=>by first | rfl | (rw [h];rfl))) Z ?_;refine A6 ?_
   refine k1 ?_
   refine B4 rfl (fun ht2=>?_) (fun ht2=>?_)
   ·refine k2 ?_
    refine A3 (A2 (A4 Z Z) Z (A2 (A4 Z Z) Z (A2 (A4 Z Z) Z (A2 (A4 Z Z) Z (A2 (B9 Z Z (by omega)) Z (A2 (m9 Z Z Z (by omega) (by omega) (by omega)) Z (A2 (C8 (c:=J9) (ys:=[_]) (D7 Z Z Z Z E7) Z Z Z) Z (C1 (F3 Z Z Z (.pure _ _ _ _) (by simp;omega) Z) Z (A2 (A5 Z Z) Z (A6 ?_))))))))))
    refine k1 ?_
    refine A3 (A2 (A4 Z Z) Z (A2 (B9 Z Z (by omega)) Z (A2 (A5 Z Z) Z (A6 ?_))))
    refine k4 (k1 ?_)
    refine A3 (A2 (A4 Z Z) Z (A2 (B9 Z Z (by omega)) Z (A2 (A5 Z Z) Z (A6 ?_))))
    refine k1 ?_
    refine ⟨(i+1,i+1,_),⟨?_,?_,?_,?_,?_⟩,?_,H62 ⟨⟨_,rfl,.same _⟩,⟨_,rfl,.same _⟩,⟨_,rfl,.same _⟩,⟨_,rfl,.same _⟩,trivial⟩ ⟨rfl,trivial⟩⟩
    all_goals dsimp only
    ·omega
    ·omega
    ·simp;omega
    ·omega
    ·have hc:b[i]=10∨i+1=b.length:=by
      simp only [E25] at ht2
      by_cases h:b[i]=10
      ·exact .inl h
      ·simp [h] at ht2;exact .inr (by omega)
     rw [G20,I03,Nat.sub_self,List.take_zero,←E26 b from' i hf hlt,I06,←hp,I01 hlt,A13]
     rcases hc with h | h
     ·rw [if_pos h];rfl
     ·have hd:b.drop (i+1)=[]:=I02 (by omega)
      rw [hd]
      split
      ·rfl
      ·rw [show H8 ([]:Str) []=[] from rfl,E77 _ (by simp)];simp
    ·omega
   ·refine k5 (k4 (k1 ?_))
    refine A3 (A2 (A4 Z Z) Z (A2 (B9 Z Z (by omega)) Z (A2 (A5 Z Z) Z (A6 ?_))))
    refine k1 ?_
    refine ⟨(i+1,from',out),⟨?_,?_,?_,?_,?_⟩,?_,H62 ⟨⟨_,rfl,.same _⟩,⟨_,rfl,.same _⟩,⟨_,rfl,.same _⟩,⟨_,rfl,.same _⟩,trivial⟩ ⟨rfl,trivial⟩⟩
    all_goals dsimp only
    ·omega
    ·omega
    ·omega
    ·intro h
     simp [show (i:Int)+1=(b.length:Int) by omega] at ht2
    ·have hc:b[i]≠10:=fun h=>by simp [h] at ht2
     rw [←E26 b from' i hf hlt,←hp,I01 hlt,A13,if_neg hc]
    ·omega
  ·refine k6 (k2 ?_)
   refine A3 (A2 (A4 Z Z) Z (A2 (A5 Z Z) Z (A6 ?_)))
   refine k1 (k10 ?_)
   refine B5 (F2 Z Z Z) ?_
   have hi':i=b.length:=by simp at ht;omega
   subst hi'
   have:=he rfl
   subst this
   rw [Nat.sub_self,List.take_zero,I02 (Nat.le_refl _)] at hp
   rw [←hp];simp [H8]
theorem F21 (b:Str) (hb:b.length≤1099511627776):FnOk Tryz.prog 103 [L4 b] (fun rs=>rs=[G8 (W9 b)]):=by
 refine FnOk.intro Tryz.func103 (by decide) Z Z Z Z ?_
 refine k2 ?_
 refine A3 (A2 (A5 Z Z) Z (A6 ?_))
 refine k1 (k2 (k2 ?_))
 refine A3 (A2 (A4 Z Z) Z (A2 (L0 Z) Z (A2 (M7 Z Z) Z (A2 (A4 Z Z) Z (B1 Z Z Z Z (fun hg=>by rw [hg];exact A4 Z Z) ?_)))));refine B1 Z Z Z Z (fun hg=>by have hq:=hg;(try simp at hq);rw [hg];exact H6 (B92 b (by omega)) Z Z) ?_;refine B1 Z Z Z Z (fun hg=>by rw [hg];exact D4 Z (.pure _ _ _ _)) ?_;refine B1 Z Z Z Z (fun hg=>by rw [hg];exact M7 Z Z) ?_;refine A2 (B6 Z (fun h=>by first | rfl | (rw [h];rfl)) (fun h=>by first | rfl | (rw [h];rfl))) Z ?_;refine A6 ?_
 refine k1 ?_
 refine B4 rfl (fun ht=>?_) (fun ht=>?_)
 ·have h:=A0 (or_pick.symm.trans ht)
  refine k2 ?_
  refine A3 (A2 (A5 Z Z) Z (A6 ?_))
  refine k1 (k10 (k11 ?_))
  exact B5 (F2 rfl rfl rfl) (by rw [W9,if_pos (by omega)])
 ·have h:=A1 (or_pick.symm.trans ht)
  refine k5 (k1 (k2 ?_))
  refine A3 (A2 (A5 Z Z) Z (A6 ?_))
  refine k1 (k10 ?_)
  exact B5 (F2 rfl rfl rfl) (by rw [W9,if_neg (by omega)])
theorem list_ok (l:List Str) (hl:∀s∈l,s.length≤1099511627776):FnOk Tryz.prog 63 [t6 l] (fun rs=>rs=[J5 (X7 l)]):=by
 refine FnOk.intro Tryz.func63 (by decide) Z Z Z Z ?_
 refine y4 (t:=0) rfl (.pure _ _ _ _) fun hlen=>?_
 refine k2 ?_
 refine A3 (A2 (A5 Z Z) Z (A6 ?_))
 refine k1 (k2 (k2 ?_))
 refine A3 (A2 (A5 Z Z) Z (A6 ?_))
 refine k1 (k3 ?_)
 refine C9 (X:=Nat) (fun i=>([(0,C0 Str 1 J9 l),(3,B7 i)],[])) (fun i=>i≤l.length∧X7 l=X7 (l.drop i)) (fun i=>l.length - i) 0 (by simp) (H62 ⟨le1 rfl,le1 rfl,trivial⟩ trivial) ?_
 rintro i ⟨hi,hp⟩
 dsimp only at hi hp ⊢
 refine k2 (k2 ?_)
 refine A3 (A2 (A4 Z Z) Z (A2 (A4 Z Z) Z (A2 (D4 Z (.pure _ _ _ _)) Z (A2 (D8 Z Z) Z (A6 ?_)))))
 refine k1 ?_
 refine B4 rfl (fun ht=>?_) (fun ht=>?_)
 ·have hlt:i < l.length:=by simpa using ht
  have hv:l[i]?=some l[i]:=by simp [hlt]
  have hs:=hl l[i] (I07 hlt)
  rw [I01 hlt] at hp
  refine k5 (k1 (k2 (k3 (k2 (k2 ?_)))))
  refine A3 (A2 (A5 Z Z) Z (A6 ?_))
  refine k1 (k3 ?_)
  refine C9 (X:=Nat) (fun k=>([(0,C0 Str 1 J9 l),(3,B7 i),(4,B7 k)],[])) (fun k=>k≤l[i].length∧J3 l[i]=((l[i].dropLast.drop k).all (·≠10)&&l[i] != [])) (fun k=>l[i].length - k) 0 (by simp [J3]) (H62 ⟨le1 rfl,le1 rfl,le1 rfl,trivial⟩ trivial) ?_
  intro k hk
  dsimp only at hk ⊢
  refine k2 (k2 ?_)
  refine A3 (A2 (A4 Z Z) Z (A2 (B9 Z Z (by omega)) Z (A2 (A4 Z Z) Z (A2 (A4 Z Z) Z (A2 (B0 Z (.pure _ _ _ _) Z (by omega) hv) Z (A2 (B2 Z Z) Z (A2 (L0 Z) Z (A2 (D8 Z Z) Z (A6 ?_)))))))))
  refine k1 ?_
  refine B4 rfl (fun ht=>?_) (fun ht=>?_)
  ·have hk2:k+1 < l[i].length:=by have:=A0 ht;omega
   have hvk:l[i][k]?=some (l[i][k]'(by omega)):=H97 (by omega)
   have hd:l[i].dropLast.drop k=l[i][k]'(by omega)::l[i].dropLast.drop (k+1):=by
    rw [I01 (by simp;omega)];simp
   rw [hd,List.all_cons] at hk
   refine k5 (k1 (k2 (k3 (k2 ?_))))
   refine A3 (A2 (A4 Z Z) Z (A2 (A4 Z Z) Z (A2 (B0 Z (.pure _ _ _ _) Z (by omega) hv) Z (A2 (B2 Z Z) Z (A2 (A4 Z Z) Z (A2 (Z9 Z Z (by omega) hvk) Z (A2 (K1 Z Z) Z (A6 ?_))))))))
   refine k1 ?_
   refine B4 rfl (fun ht=>?_) (fun ht=>?_)
   ·have h10:=(E25 _).1 (A0 ht)
    refine k2 ?_
    refine A3 (A2 (A5 Z Z) Z (A6 ?_))
    refine k1 (k10 (k12 (k11 (k11 (k12 (k11 (k12 (k11 (k11 (k12 (k11 ?_)))))))))))
    exact B5 (F2 rfl rfl rfl) (by rw [hp,X7,hk.2];simp [h10])
   ·have h10:l[i][k]'(by omega)≠10:=fun h=>A1 ht ((E25 _).2 h)
    refine k5 (k4 (k1 ?_))
    refine A3 (A2 (A4 Z Z) Z (A2 (B9 Z Z (by omega)) Z (A2 (A5 Z Z) Z (A6 ?_))))
    refine k1 ?_
    exact ⟨k+1,⟨by omega,by rw [hk.2];simp [h10]⟩,by omega,H62 ⟨le1 rfl,le1 rfl,le1 rfl,trivial⟩ trivial⟩
  ·have hk2:l[i].length≤k+1:=by have:=A1 ht;omega
   have hlo:J3 l[i]=(l[i] != []):=by rw [hk.2,I02 (by simp;omega)];rfl
   refine k6 (k2 ?_)
   refine A3 (A2 (A4 Z Z) Z (A2 (A4 Z Z) Z (A2 (B0 Z (.pure _ _ _ _) Z (by omega) hv) Z (A2 (B2 Z Z) Z (A2 (B74 Z Z) Z (A2 (A4 Z Z) Z (B1 Z Z Z Z (fun hg=>by rw [hg];exact A4 Z Z) ?_)))))));refine B1 Z Z Z Z (fun hg=>by have hq:=hg;(try simp at hq);rw [hg];exact B9 Z Z (by omega)) ?_;refine B1 Z Z Z Z (fun hg=>by rw [hg];exact A4 Z Z) ?_;refine B1 Z Z Z Z (fun hg=>by rw [hg];exact D4 Z (.pure _ _ _ _)) ?_;refine B1 Z Z Z Z (fun hg=>by rw [hg];exact D8 Z Z) ?_;refine B1 Z Z Z Z (fun hg=>by rw [hg];exact A4 Z Z) ?_;refine J7 Z Z Z (.gd (.val _)) Z (fun hg=>by obtain ⟨hg1,hg2⟩:=P3 hg;(try rw [hg1]);(try rw [hg2]);exact A4 Z Z) ?_;refine J7 Z Z Z (.gd (.val _)) Z (fun hg=>by obtain ⟨hg1,hg2⟩:=P3 hg;(try rw [hg1]);(try rw [hg2]);exact A4 Z Z) ?_;refine J7 Z Z Z (.gd (.val _)) Z (fun hg=>by have hq:=hg;(try simp at hq);obtain ⟨hg1,hg2⟩:=P3 hg;(try rw [hg1]);(try rw [hg2]);exact B0 Z (.pure _ _ _ _) Z (by omega) hv) ?_;refine J7 Z Z Z (.gd (.val _)) Z (fun hg=>by obtain ⟨hg1,hg2⟩:=P3 hg;(try rw [hg1]);(try rw [hg2]);exact B2 Z Z) ?_;refine J7 Z Z Z (.gd (.val _)) Z (fun hg=>by have hq:=hg;(try simp at hq);obtain ⟨hg1,hg2⟩:=P3 hg;(try rw [hg1]);(try rw [hg2]);exact H6 (F20 l[i] hs) Z Z) ?_;refine J7 Z Z Z (.gd (.val _)) Z (fun hg=>by obtain ⟨hg1,hg2⟩:=P3 hg;(try rw [hg1]);(try rw [hg2]);exact K9 Z) ?_;refine B1 Z Z Z Z (fun hg=>by rw [hg];exact B6 Z (fun h=>by first | rfl | (rw [h];rfl)) (fun h=>by first | rfl | (rw [h];rfl))) ?_;refine A2 (B6 Z (fun h=>by first | rfl | (rw [h];rfl)) (fun h=>by first | rfl | (rw [h];rfl))) Z ?_;refine A6 ?_
   refine k1 ?_
   have he:(l.drop (i+1)).isEmpty=decide (l.length≤i+1):=by
    rw [Bool.eq_iff_iff];simp
   rw [X7,hlo,he] at hp
   refine B4 rfl (fun ht=>?_) (fun ht=>?_)
   ·refine k2 ?_
    refine A3 (A2 (A5 Z Z) Z (A6 ?_))
    refine k1 (k10 (k12 (k11 (k11 (k12 (k11 ?_))))))
    refine B5 (F2 Z Z Z) ?_
    have:X7 l=false:=by
     rw [hp]
     by_cases h:l[i]=[]
     ·simp [h]
     ·rw [if_neg (by simpa using h)] at ht
      by_cases h2:(i:Int)+1 < l.length
      ·rw [if_pos (by simpa using h2)] at ht
       have h3:¬(l.length≤i+1):=by omega
       simp only [Bool.not_eq_true'] at ht
       simp [ht,h3]
      ·rw [if_neg (by simpa using h2)] at ht;cases ht
    rw [this]
   ·refine k5 (k4 (k1 ?_))
    refine A3 (A2 (A4 Z Z) Z (A2 (B9 Z Z (by omega)) Z (A2 (A5 Z Z) Z (A6 ?_))))
    refine k1 ?_
    refine ⟨i+1,⟨by omega,?_⟩,by omega,H62 ⟨le1 rfl,le1 rfl,trivial⟩ trivial⟩
    rw [hp]
    by_cases h:l[i]=[]
    ·rw [if_pos (by simpa using h)] at ht;cases ht
    ·rw [if_neg (by simpa using h)] at ht
     by_cases h2:(i:Int)+1 < l.length
     ·rw [if_pos (by simpa using h2)] at ht
      simp only [Bool.not_eq_false'] at ht
      simp [ht,h]
     ·have h3:l.length≤i+1:=by omega
      simp [h,h3]
 ·have:i=l.length:=by have:=A1 ht;omega
  subst this
  refine k6 (k2 ?_)
  refine A3 (A2 (A5 Z Z) Z (A6 ?_))
  refine k1 (k10 ?_)
  exact B5 (F2 rfl rfl rfl) (by rw [hp];simp [X7])
theorem all_ok (l:List Str) (hl:l.flatten.length≤536870912):FnOk Tryz.prog 128 [t6 l] (fun rs=>rs=[L4 l.flatten]):=by
 refine FnOk.intro Tryz.func128 (by decide) Z Z Z Z ?_
 refine y4 (t:=0) rfl (.pure _ _ _ _) fun hlen=>?_
 refine k2 ?_
 refine A3 (A2 (A5 Z Z) Z (A6 ?_))
 refine k1 (k2 ?_)
 refine A3 (C1 (S8 3 _ u8C Z) Z (A6 ?_))
 refine k1 (k2 (k2 ?_))
 refine A3 (A2 (A5 Z Z) Z (A6 ?_))
 refine k1 (k3 ?_)
 refine C9 (X:=Nat) (fun i=>([(0,C0 Str 1 J9 l),(3,.s (.one (.buf 3 UInt8 1 u8C (l.take i).flatten))),(4,B7 i)],[(3,.spare (l.take i).flatten.length 1 5)])) (fun i=>i≤l.length) (fun i=>l.length - i) 0 (by simp) (H62 ⟨le1 rfl,le1 rfl,le1 rfl,trivial⟩ ⟨rfl,trivial⟩) ?_
 intro i hi
 dsimp only at hi ⊢
 refine k2 (k2 ?_)
 refine A3 (A2 (A4 Z Z) Z (A2 (A4 Z Z) Z (A2 (D4 Z (.pure _ _ _ _)) Z (A2 (D8 Z Z) Z (A6 ?_)))))
 refine k1 ?_
 refine B4 rfl (fun ht=>?_) (fun ht=>?_)
 ·have hlt:i < l.length:=by simpa using ht
  have hv:l[i]?=some l[i]:=by simp [hlt]
  have hf:=S3 l i hlt
  have hle:=U3 l (i+1)
  rw [hf,H95] at hle
  refine k5 (k1 (k2 (k3 ?_)))
  refine A3 (A2 (A4 Z Z) Z (A2 (A4 Z Z) Z (A2 (A4 Z Z) Z (A2 (B0 Z (.pure _ _ _ _) Z (by omega) hv) Z (A2 (B2 Z Z) Z (C1 (A32 TyStr.out Z Z Z (by omega) Z) Z (A2 (A5 Z Z) Z (A6 ?_))))))))
  refine k4 (k1 ?_)
  refine A3 (A2 (A4 Z Z) Z (A2 (B9 Z Z (by omega)) Z (A2 (A5 Z Z) Z (A6 ?_))))
  refine k1 ?_
  refine ⟨i+1,by omega,by omega,?_⟩
  dsimp only
  rw [hf]
  exact H62 ⟨le1 rfl,le1 rfl,le1 rfl,trivial⟩ ⟨rfl,trivial⟩
 ·have:i=l.length:=by simp at ht;omega
  subst this
  refine k6 (k2 ?_)
  refine A3 (A2 (A4 Z Z) Z (A2 (W0 TyStr.out Z (.buf _ _ _ _ _)) Z (A2 (A5 Z Z) Z (A6 ?_))))
  refine k1 (k10 ?_)
  exact B5 (F2 rfl rfl rfl) (by simp)
theorem line_ok (s:Str) (hs:s.length≤1099511627776):FnOk Tryz.prog 153 [L4 s] (fun rs=>rs=[J5 (J3 s)]):=by
 refine FnOk.intro Tryz.func153 (by decide) Z Z Z Z ?_
 refine k2 ?_
 refine A3 (A2 (A5 Z Z) Z (A6 ?_))
 refine k1 (k2 (k2 ?_))
 refine A3 (A2 (A5 Z Z) Z (A6 ?_))
 refine k1 (k3 ?_)
 refine C9 (X:=Nat) (fun k=>([(0,R3 s),(3,B7 k)],[])) (fun k=>k≤s.length∧J3 s=((s.dropLast.drop k).all (·≠10)&&s != [])) (fun k=>s.length - k) 0 (by simp [J3]) (H62 ⟨le1 rfl,le1 rfl,trivial⟩ trivial) ?_
 intro k hk
 dsimp only at hk ⊢
 refine k2 (k2 ?_)
 refine A3 (A2 (A4 Z Z) Z (A2 (B9 Z Z (by omega)) Z (A2 (A4 Z Z) Z (A2 (L0 Z) Z (A2 (D8 Z Z) Z (A6 ?_))))))
 refine k1 ?_
 refine B4 rfl (fun ht=>?_) (fun ht=>?_)
 ·have hk2:k+1 < s.length:=by have:=A0 ht;omega
  have hvk:s[k]?=some (s[k]'(by omega)):=H97 (by omega)
  have hd:s.dropLast.drop k=s[k]'(by omega)::s.dropLast.drop (k+1):=by
   rw [I01 (by simp;omega)];simp
  rw [hd,List.all_cons] at hk
  refine k5 (k1 (k2 (k3 (k2 ?_))))
  refine A3 (A2 (A4 Z Z) Z (A2 (A4 Z Z) Z (A2 (Z9 Z Z (by omega) hvk) Z (A2 (K1 Z Z) Z (A6 ?_)))))
  refine k1 ?_
  refine B4 rfl (fun ht=>?_) (fun ht=>?_)
  ·have h10:=(E25 _).1 (A0 ht)
   refine k2 ?_
   refine A3 (A2 (A5 Z Z) Z (A6 ?_))
   refine k1 (k10 (k12 (k11 (k11 (k12 (k11 ?_))))))
   exact B5 (F2 rfl rfl rfl) (by rw [hk.2];simp [h10])
  ·have h10:s[k]'(by omega)≠10:=fun h=>A1 ht ((E25 _).2 h)
   refine k5 (k4 (k1 ?_))
   refine A3 (A2 (A4 Z Z) Z (A2 (B9 Z Z (by omega)) Z (A2 (A5 Z Z) Z (A6 ?_))))
   refine k1 ?_
   exact ⟨k+1,⟨by omega,by rw [hk.2];simp [h10]⟩,by omega,H62 ⟨le1 rfl,le1 rfl,trivial⟩ trivial⟩
 ·have hk2:s.length≤k+1:=by have:=A1 ht;omega
  have hlo:J3 s=(s != []):=by rw [hk.2,I02 (by simp;omega)];rfl
  refine k6 (k2 ?_)
  refine A3 (A2 (A4 Z Z) Z (A2 (A31 Z Z) Z (A2 (A5 Z Z) Z (A6 ?_))))
  refine k1 (k10 ?_)
  exact B5 (F2 rfl rfl rfl) (by rw [hlo];by_cases h:s=[]<;>simp [h])
theorem F22 (l:List Str) (s:Str):FnOk Tryz.prog 184 [t6 l,L4 s] (fun rs=>rs=[G8 (H7 l s 0)]):=by
 refine FnOk.intro Tryz.func184 (by decide) Z Z Z Z ?_
 refine y4 (t:=0) rfl (.pure _ _ _ _) fun hlen=>?_
 refine k2 ?_
 refine A3 (A2 (A5 Z Z) Z (A6 ?_))
 refine k1 (k2 (k2 ?_))
 refine A3 (A2 (A5 Z Z) Z (A6 ?_))
 refine k1 (k3 ?_)
 refine C9 (X:=Nat) (fun i=>([(0,C0 Str 1 J9 l),(1,R3 s),(5,B7 i)],[])) (fun i=>i≤l.length∧H7 l s 0=H7 (l.drop i) s i) (fun i=>l.length - i) 0 (by simp) (H62 ⟨le1 rfl,le1 rfl,le1 rfl,trivial⟩ trivial) ?_
 rintro i ⟨hi,hp⟩
 dsimp only at hi hp ⊢
 refine k2 (k2 ?_)
 refine A3 (A2 (A4 Z Z) Z (A2 (A4 Z Z) Z (A2 (D4 Z (.pure _ _ _ _)) Z (A2 (D8 Z Z) Z (A6 ?_)))))
 refine k1 ?_
 refine B4 rfl (fun ht=>?_) (fun ht=>?_)
 ·have hlt:i < l.length:=by simpa using ht
  have hv:l[i]?=some l[i]:=by simp [hlt]
  rw [E78 l s i hlt] at hp
  refine k5 (k1 (k2 (k3 (k2 ?_))))
  refine A3 (A2 (A4 Z Z) Z (A2 (A4 Z Z) Z (A2 (B0 Z (.pure _ _ _ _) Z (by omega) hv) Z (A2 (B2 Z Z) Z (A2 (A4 Z Z) Z (A2 (B74 Z Z) Z (A6 ?_)))))))
  refine k1 ?_
  refine B4 rfl (fun ht=>?_) (fun ht=>?_)
  ·rw [if_pos (by simpa using ht)] at hp
   refine k2 ?_
   refine A3 (A2 (A4 Z Z) Z (A2 (A5 Z Z) Z (A6 ?_)))
   refine k1 (k10 (k12 (k11 (k11 (k12 (k11 ?_))))))
   exact B5 (F2 rfl rfl rfl) (by rw [hp])
  ·rw [if_neg (by simpa using ht)] at hp
   refine k5 (k4 (k1 ?_))
   refine A3 (A2 (A4 Z Z) Z (A2 (B9 Z Z (by omega)) Z (A2 (A5 Z Z) Z (A6 ?_))))
   refine k1 ?_
   exact ⟨i+1,⟨by omega,by simpa using hp⟩,by omega,H62 ⟨le1 rfl,le1 rfl,le1 rfl,trivial⟩ trivial⟩
 ·have:i=l.length:=by simp at ht;omega
  subst this
  refine k6 (k2 ?_)
  refine A3 (A2 (A5 Z Z) Z (A6 ?_))
  refine k1 (k10 ?_)
  exact B5 (F2 rfl rfl rfl) (by rw [hp];simp [H7])
theorem F23 (fs:List (List Str)) (hfs:fs.flatten.length≤536870912):FnOk Tryz.prog 104 [pStrss fs] (fun rs=>rs=[t6 (E1 fs)]):=by
 refine FnOk.intro Tryz.func104 (by decide) Z Z Z Z ?_
 refine y4 (t:=0) rfl (.pure _ _ _ _) fun hlen=>?_
 refine k2 ?_
 refine A3 (A2 (A5 Z Z) Z (A6 ?_))
 refine k1 (k2 ?_)
 refine A3 (C1 (S8 3 _ J9 Z) Z (A6 ?_))
 refine k1 (k2 (k2 ?_))
 refine A3 (A2 (A5 Z Z) Z (A6 ?_))
 refine k1 (k3 ?_)
 refine C9 (X:=Nat) (fun f=>([(0,C0 (List Str) 1 strsC fs),(3,.s (.one (.buf 3 Str 1 J9 (E1 (fs.take f))))),(4,B7 f)],[(3,.spare (E1 (fs.take f)).length 1 9)])) (fun f=>f≤fs.length) (fun f=>fs.length - f) 0 (by simp) (H62 ⟨le1 rfl,le1 rfl,le1 rfl,trivial⟩ ⟨rfl,trivial⟩) ?_
 intro f hf
 dsimp only at hf ⊢
 refine k2 (k2 ?_)
 refine A3 (A2 (A4 Z Z) Z (A2 (A4 Z Z) Z (A2 (D4 Z (.pure _ _ _ _)) Z (A2 (D8 Z Z) Z (A6 ?_)))))
 refine k1 ?_
 refine B4 rfl (fun ht=>?_) (fun ht=>?_)
 ·have hlt:f < fs.length:=by have:=A0 ht;omega
  have hv:fs[f]?=some fs[f]:=by simp [hlt]
  have hfl:=S3 fs f hlt
  have hle:=U3 fs (f+1)
  rw [hfl,H95] at hle
  have hn0:=B07 (fs.take f)
  refine k5 (k1 (k2 (k3 (k2 ?_))))
  refine A3 (A2 (A5 Z Z) Z (A6 ?_))
  refine k1 (k3 ?_)
  refine C9 (X:=Nat) (fun i=>([(0,C0 (List Str) 1 strsC fs),(3,.s (.one (.buf 3 Str 1 J9 ((fs[f].take i).foldl G7 (E1 (fs.take f)))))),(4,B7 f),(5,B7 i)],[(3,.spare ((fs[f].take i).foldl G7 (E1 (fs.take f))).length 1 9)])) (fun i=>i≤fs[f].length) (fun i=>fs[f].length - i) 0 (by simp) (H62 ⟨le1 rfl,le1 rfl,le1 rfl,le1 rfl,trivial⟩ ⟨rfl,trivial⟩) ?_
  intro i hi
  dsimp only at hi ⊢
  have hni:=x2 (fs[f].take i) (E1 (fs.take f))
  rw [I13] at hni
  refine k2 (k2 ?_)
  refine A3 (A2 (A4 Z Z) Z (A2 (A4 Z Z) Z (A2 (A4 Z Z) Z (A2 (B0 Z (.pure _ _ _ _) Z (by omega) hv) Z (A2 (B2 Z Z) Z (A2 (D4 Z (.pure _ _ _ _)) Z (A2 (D8 Z Z) Z (A6 ?_))))))))
  refine k1 ?_
  refine B4 rfl (fun ht=>?_) (fun ht=>?_)
  ·have hlt2:i < fs[f].length:=by have:=A0 ht;omega
   have hvi:fs[f][i]?=some fs[f][i]:=by simp [hlt2]
   have hst:(fs[f].take (i+1)).foldl G7 (E1 (fs.take f))=G7 ((fs[f].take i).foldl G7 (E1 (fs.take f))) fs[f][i]:=by
    rw [List.take_add_one,hvi,Option.toList_some,I29];rfl
   refine k5 (k1 (k2 (k3 (k2 ?_))))
   refine A3 (A2 (A4 Z Z) Z (A2 (A4 Z Z) Z (A2 (A4 Z Z) Z (A2 (B0 Z (.pure _ _ _ _) Z (by omega) hv) Z (A2 (B2 Z Z) Z (A2 (A4 Z Z) Z (A2 (B0 Z (.pure _ _ _ _) Z (by omega) hvi) Z (A2 (B2 Z Z) Z (C3 (F22 _ _) Z Z Z ?_)))))))));rintro _ rfl;refine A2 (D8 Z Z) Z (A6 ?_)
   refine k1 ?_
   have hpl:=F50 ((fs[f].take i).foldl G7 (E1 (fs.take f))) fs[f][i] 0 (Int.le_refl _)
   refine B4 rfl (fun ht=>?_) (fun ht=>?_)
   ·have hnot:=hpl.1 (A0 ht)
    skip
    refine A3 (A2 (A4 Z Z) Z (A2 (A4 Z Z) Z (A2 (A4 Z Z) Z (A2 (B0 Z (.pure _ _ _ _) Z (by omega) hv) Z (A2 (B2 Z Z) Z (A2 (A4 Z Z) Z (A2 (B0 Z (.pure _ _ _ _) Z (by omega) hvi) Z (A2 (B2 Z Z) Z (A2 (C8 (c:=J9) (ys:=[_]) (D7 Z Z Z Z E7) Z Z Z) Z (C1 (F3 Z Z Z (.pure _ _ _ _) (by simp;omega) Z) Z (A2 (A5 Z Z) Z (A6 ?_))))))))))))
    refine k4 (k1 ?_)
    refine A3 (A2 (A4 Z Z) Z (A2 (B9 Z Z (by omega)) Z (A2 (A5 Z Z) Z (A6 ?_))))
    refine k1 ?_
    refine ⟨i+1,by omega,by omega,?_⟩
    rw [hst,G7,if_neg hnot]
    exact H62 ⟨le1 rfl,le1 rfl,le1 rfl,le1 rfl,trivial⟩ ⟨rfl,trivial⟩
   ·have hin:fs[f][i]∈(fs[f].take i).foldl G7 (E1 (fs.take f)):=Classical.byContradiction fun h=>A1 ht (hpl.2 h)
    refine k5 (k4 (k1 ?_))
    refine A3 (A2 (A4 Z Z) Z (A2 (B9 Z Z (by omega)) Z (A2 (A5 Z Z) Z (A6 ?_))))
    refine k1 ?_
    refine ⟨i+1,by omega,by omega,?_⟩
    rw [hst,G7,if_pos hin]
    exact H62 ⟨le1 rfl,le1 rfl,le1 rfl,le1 rfl,trivial⟩ ⟨rfl,trivial⟩
  ·have hi':i=fs[f].length:=by have:=A1 ht;omega
   subst hi'
   refine k6 (k7 (k7 (k8 Z (k4 (k1 ?_)))))
   have:E1 (fs.take (f+1))=(fs[f].take fs[f].length).foldl G7 (E1 (fs.take f)):=by
    rw [E1,hfl,I29,I16];rfl
   refine A3 (A2 (A4 Z Z) Z (A2 (B9 Z Z (by omega)) Z (A2 (A5 Z Z) Z (A6 ?_))))
   refine k1 ?_
   refine ⟨f+1,by omega,by omega,?_⟩
   rw [this]
   exact H62 ⟨le1 rfl,le1 rfl,le1 rfl,trivial⟩ ⟨rfl,trivial⟩
 ·have:f=fs.length:=by have:=A1 ht;omega
  subst this
  refine k6 (k2 ?_)
  refine A3 (A2 (A4 Z Z) Z (A2 (A5 Z Z) Z (A6 ?_)))
  refine k1 (k10 ?_)
  exact B5 (F2 rfl rfl rfl) (by simp)
theorem made_ok (p:List Span) (m n:Int) (hp:p.length≤536870912) (hb:∀s∈p,-1099511627776≤s.From∧s.From≤1099511627776 ∧ -1099511627776≤s.To∧s.To≤1099511627776)
  (hm:-1099511627776≤m∧m≤1099511627776 ∧ -1099511627776≤n∧n≤1099511627776) :
  FnOk Tryz.prog 186 [pSpans p,G8 m,G8 n] (fun rs=>rs=[pChanges (X8 p m n)]):=by
 refine FnOk.intro Tryz.func186 (by decide) Z Z Z Z ?_
 refine k2 ?_
 refine A3 (A2 (A5 Z Z) Z (A6 ?_))
 refine k1 (k2 ?_)
 refine A3 (C1 (S8 7 _ changeC Z) Z (A6 ?_))
 refine k1 (k2 ?_)
 refine A3 (A2 (A5 Z Z) Z (A2 (A5 Z Z) Z (A6 ?_)))
 refine k1 (k2 (k2 ?_))
 refine A3 (A2 (A5 Z Z) Z (A6 ?_))
 refine k1 (k3 ?_)
 refine C9 (X:=Nat × Int × Int × List Change) (fun x=>([(0,C0 Span 2 spanC p),(1,B7 m),(2,B7 n),(7,.s (.one (.buf 7 Change 4 changeC x.2.2.2))),(8,B7 x.2.1),(9,B7 x.2.2.1),(10,B7 x.1)],[(7,.spare x.2.2.2.length 4 164)]))
  (fun x=>x.1≤p.length+1∧x.2.2.2.length≤x.1∧(-1099511627776≤x.2.1∧x.2.1≤1099511627777 ∧ -1099511627776≤x.2.2.1∧x.2.2.1≤1099511627777)∧(x.1≤p.length→x.2.2.2++N2 x.2.1 x.2.2.1 (p.drop x.1) m n=X8 p m n)∧(x.1=p.length+1→x.2.2.2=X8 p m n))
  (fun x=>p.length+1 - x.1) (0,0,0,[]) (by simp [X8]) (H62 ⟨le1 rfl,le1 rfl,le1 rfl,le1 rfl,le1 rfl,le1 rfl,le1 rfl,trivial⟩ ⟨rfl,trivial⟩) ?_
 rintro ⟨k,i,j,out⟩ ⟨hk,ho,hij,h1,h2⟩
 dsimp only at hk ho hij h1 h2 ⊢
 refine k2 (k2 ?_)
 refine A3 (A2 (A4 Z Z) Z (A2 (A4 Z Z) Z (A2 (D4 Z (.pure _ _ _ _)) Z (A2 (c6 Z Z) Z (A6 ?_)))))
 refine k1 ?_
 refine B4 rfl (fun ht=>?_) (fun ht=>?_)
 ·have hk':k≤p.length:=by have:=A0 ht;omega
  have hpp:=h1 hk'
  refine k5 (k1 (k2 (k3 (k2 ?_))))
  refine A3 (A2 (A4 Z Z) Z (A2 (A4 Z Z) Z (A2 (G6 Z) Z (C1 (G3 11 Z) Z (F6 (B8 TySz.out Z Z Z Z Z Z) (A6 ?_))))))
  refine J4 ?_
  obtain ⟨x,hx⟩:∃x,x=p.getD k ⟨m,n⟩:=⟨_,rfl⟩
  have hxb:-1099511627776≤x.From∧x.From≤1099511627776 ∧ -1099511627776≤x.To∧x.To≤1099511627776:=by
   rw [hx,I00]
   by_cases h:k < p.length
   ·rw [H97 h];exact hb _ (I07 h)
   ·rw [I24 (by omega)];exact hm
  have hmade:N2 i j (p.drop k) m n=(if x.From > i∨x.To > j then [⟨i,x.From - i,j,x.To - j⟩] else [])++(if k < p.length then N2 (x.From+1) (x.To+1) (p.drop (k+1)) m n else []):=by
   by_cases h:k < p.length
   ·rw [I01 h,if_pos h,hx,I00,H97 h];rfl
   ·rw [I02 (by omega),if_neg h,hx,I00,I24 (by omega)];simp [N2]
  refine r7 [(0,C0 Span 2 spanC p),(1,B7 m),(2,B7 n),(7,.s (.one (.buf 7 Change 4 changeC out))),(8,B7 i),(9,B7 j),(10,B7 k),(11,.s (.one (.ref 11 0)))] [(11,.box [.p (.v (.int .i64 x.From)),.p (.v (.int .i64 x.To))]),(7,.spare out.length 4 164)] ?_ ?_
  ·refine k2 ?_
   refine A3 (A2 (A4 Z Z) Z (A2 (A4 Z Z) Z (A2 (D4 Z (.pure _ _ _ _)) Z (A2 (D8 Z Z) Z (A6 ?_)))))
   refine k1 ?_
   refine B4 rfl (fun ht=>?_) (fun ht=>?_)
   ·have hlt:k < p.length:=by have:=A0 ht;omega
    have hv:p[k]?=some p[k]:=by simp [hlt]
    have:x=p[k]:=by rw [hx,I00,hv];rfl
    subst this
    skip
    refine A3 (A2 (A4 Z Z) Z (A2 (A4 Z Z) Z (A2 (B0 Z (.pure _ _ _ _) Z (by omega) hv) Z (A2 (E8 Z Z) Z (F6 (B8 TySz.out Z Z Z Z Z Z) (A6 ?_))))))
    refine k1 ?_
    exact H62 ⟨le1 rfl,le1 rfl,le1 rfl,le1 rfl,le1 rfl,le1 rfl,le1 rfl,le1 rfl,trivial⟩ ⟨rfl,rfl,trivial⟩
   ·have hlt:¬k < p.length:=by have:=A1 ht;omega
    have:x=⟨m,n⟩:=by rw [hx,I00,I24 (by omega)];rfl
    subst this
    refine k5 (k1 ?_)
    exact H62 ⟨le1 rfl,le1 rfl,le1 rfl,le1 rfl,le1 rfl,le1 rfl,le1 rfl,le1 rfl,trivial⟩ ⟨rfl,rfl,trivial⟩
  ·obtain ⟨out',hout'⟩:∃o,o=out++(if x.From > i∨x.To > j then [⟨i,x.From - i,j,x.To - j⟩] else []):=⟨_,rfl⟩
   have hol:out'.length≤k+1:=by rw [hout',H95];split<;>simp<;>omega
   refine r7 [(0,C0 Span 2 spanC p),(1,B7 m),(2,B7 n),(7,.s (.one (.buf 7 Change 4 changeC out'))),(10,B7 k),(11,.s (.one (.ref 11 0)))] [(11,.box [.p (.v (.int .i64 x.From)),.p (.v (.int .i64 x.To))]),(7,.spare out'.length 4 164)] ?_ ?_
   ·refine k2 ?_
    refine A3 (A2 (A7 Z) Z (A2 (A8 Z Z Z) Z (A2 (A4 Z Z) Z (A2 (M7 Z Z) Z (A2 (A4 Z Z) Z (B1 Z Z Z Z (fun hg=>by rw [hg];exact A7 Z) ?_))))));refine B1 Z Z Z Z (fun hg=>by rw [hg];exact A8 Z Z Z) ?_;refine B1 Z Z Z Z (fun hg=>by rw [hg];exact A4 Z Z) ?_;refine B1 Z Z Z Z (fun hg=>by rw [hg];exact M7 Z Z) ?_;refine A2 (B6 Z (fun h=>by first | rfl | (rw [h];rfl)) (fun h=>by first | rfl | (rw [h];rfl))) Z ?_;refine A6 ?_
    refine k1 ?_
    refine B4 rfl (fun ht=>?_) (fun ht=>?_)
    ·have h:=A0 (or_pick.symm.trans ht)
     rw [if_pos h] at hout'
     subst hout'
     skip
     refine A3 (A2 (A4 Z Z) Z (A2 (A4 Z Z) Z (A2 (A7 Z) Z (A2 (A8 Z Z Z) Z (A2 (A4 Z Z) Z (A2 (V8 Z Z (by omega)) Z (A2 (A4 Z Z) Z (A2 (A7 Z) Z (A2 (A8 Z Z Z) Z (A2 (A4 Z Z) Z (A2 (V8 Z Z (by omega)) Z (A2 (G6 Z) Z (A2 (C8 (c:=changeC) (ys:=[⟨_,_,_,_⟩]) (D7 Z Z Z Z E7) Z Z Z) Z (C1 (F3 Z Z Z (.pure _ _ _ _) (by simp;omega) Z) Z (A2 (A5 Z Z) Z (A6 ?_))))))))))))))))
     refine k1 ?_
     exact H62 ⟨le1 rfl,le1 rfl,le1 rfl,le1 rfl,le1 rfl,le1 rfl,trivial⟩ ⟨rfl,rfl,trivial⟩
    ·have h:=A1 (or_pick.symm.trans ht)
     rw [if_neg h,I14] at hout'
     subst hout'
     refine k5 (k1 ?_)
     exact H62 ⟨le1 rfl,le1 rfl,le1 rfl,le1 rfl,le1 rfl,le1 rfl,trivial⟩ ⟨rfl,rfl,trivial⟩
   ·skip
    refine C6 (by kernel_rfl) (by kernel_rfl) (A9 (A7 Z) Z Z (A9 (A8 Z Z Z) Z Z (A9 (B9 Z Z (by omega)) Z Z (A9 (A7 Z) Z Z (A9 (A8 Z Z Z) Z Z (A9 (B9 Z Z (by omega)) Z Z (A9 (A5 Z Z) Z Z (A9 (A5 Z Z) Z Z (K0 ?_)))))))))
    refine k4 (k1 ?_)
    refine A3 (A2 (A4 Z Z) Z (A2 (B9 Z Z (by omega)) Z (A2 (A5 Z Z) Z (A6 ?_))))
    refine k1 ?_
    refine ⟨(k+1,x.From+1,x.To+1,out'),⟨by dsimp only;omega,hol,by dsimp only;omega,?_,?_⟩,by dsimp only;omega,H62 ⟨le1 rfl,le1 rfl,le1 rfl,le1 rfl,le1 rfl,le1 rfl,le1 rfl,trivial⟩ ⟨rfl,trivial⟩⟩
    ·intro hk2
     dsimp only at hk2 ⊢
     rw [←hpp,hmade,if_pos (show k < p.length by omega),hout'];simp
    ·intro hk2
     dsimp only at hk2 ⊢
     rw [←hpp,hmade,if_neg (show ¬k < p.length by omega),hout'];simp
 ·have hk':k=p.length+1:=by have:=A1 ht;omega
  refine k6 (k2 ?_)
  refine A3 (A2 (A4 Z Z) Z (A2 (A5 Z Z) Z (A6 ?_)))
  refine k1 (k10 ?_)
  exact B5 (F2 rfl rfl rfl) (by rw [h2 hk'])
theorem long_ok (a b:List Int):FnOk Tryz.prog 267 [L8 a,L8 b] (fun rs=>rs=[J5 (decide (4096 < a.length∨4096 < b.length))]):=by
 refine FnOk.intro Tryz.func267 (by decide) Z Z Z Z ?_
 refine k2 ?_
 refine A3 (A2 (A5 Z Z) Z (A6 ?_))
 refine k1 (k2 ?_)
 refine A3 (A2 (A4 Z Z) Z (A2 (D4 Z (.pure _ _ _ _)) Z (A2 (M7 Z Z) Z (A2 (A4 Z Z) Z (B1 Z Z Z Z (fun hg=>by rw [hg];exact A4 Z Z) ?_)))));refine B1 Z Z Z Z (fun hg=>by rw [hg];exact D4 Z (.pure _ _ _ _)) ?_;refine B1 Z Z Z Z (fun hg=>by rw [hg];exact M7 Z Z) ?_;refine A2 (B6 Z (fun h=>by first | rfl | (rw [h];rfl)) (fun h=>by first | rfl | (rw [h];rfl))) Z ?_;refine A2 (A5 Z Z) Z (A6 ?_)
 refine k1 (k10 ?_)
 refine B5 (F2 Z Z Z) ?_
 rw [or_pick]
 simp only [List.cons.injEq,and_true,PV.one.injEq,Cell.v.injEq,Value.bool.injEq,decide_eq_decide]
 omega
theorem E14 (l:List Merged) (hl:l.length≤536870912):FnOk Tryz.prog 239 [pMerged l] (fun rs=>rs=[L8 (F4 l)]):=by
 refine FnOk.intro Tryz.func239 (by decide) Z Z Z Z ?_
 refine k2 ?_
 refine A3 (A2 (A5 Z Z) Z (A6 ?_))
 refine k1 (k2 ?_)
 refine A3 (C1 (S8 3 _ F5 Z) Z (A6 ?_))
 refine k1 (k2 (k2 ?_))
 refine A3 (A2 (A5 Z Z) Z (A6 ?_))
 refine k1 (k3 ?_)
 refine C9 (X:=Nat) (fun i=>([(0,C0 Merged 2 mergedC l),(3,.s (.one (.buf 3 Int 1 F5 (F4 (l.take i))))),(4,B7 i)],[(3,.spare (F4 (l.take i)).length 1 3)])) (fun i=>i≤l.length) (fun i=>l.length - i) 0 (by simp) (H62 ⟨le1 rfl,le1 rfl,le1 rfl,trivial⟩ ⟨rfl,trivial⟩) ?_
 intro i hi
 dsimp only at hi ⊢
 refine k2 (k2 ?_)
 refine A3 (A2 (A4 Z Z) Z (A2 (A4 Z Z) Z (A2 (D4 Z (.pure _ _ _ _)) Z (A2 (D8 Z Z) Z (A6 ?_)))))
 refine k1 ?_
 have hlen:(F4 (l.take i)).length=i:=by simp [F4];omega
 refine B4 rfl (fun ht=>?_) (fun ht=>?_)
 ·have hlt:i < l.length:=by have:=A0 ht;omega
  have hv:l[i]?=some l[i]:=by simp [hlt]
  have hst:F4 (l.take (i+1))=F4 (l.take i)++[l[i].Line]:=by
   unfold F4;rw [List.take_add_one,hv,Option.toList_some,I09];rfl
  refine k5 (k1 (k2 (k3 ?_)))
  refine A3 (A2 (A4 Z Z) Z (A2 (A4 Z Z) Z (A2 (A4 Z Z) Z (A2 (B0 Z (.pure _ _ _ _) Z (by omega) hv) Z (A2 (D6 Z) Z (A2 (B2 Z Z) Z (A2 (C8 (c:=F5) (ys:=[_]) (D7 Z Z Z Z E7) Z Z Z) Z (C1 (F3 Z Z Z (.pure _ _ _ _) (by simp;omega) Z) Z (A2 (A5 Z Z) Z (A6 ?_))))))))))
  refine k4 (k1 ?_)
  refine A3 (A2 (A4 Z Z) Z (A2 (B9 Z Z (by omega)) Z (A2 (A5 Z Z) Z (A6 ?_))))
  refine k1 ?_
  refine ⟨i+1,by omega,by omega,?_⟩
  rw [hst]
  exact H62 ⟨le1 rfl,le1 rfl,le1 rfl,trivial⟩ ⟨rfl,trivial⟩
 ·have:i=l.length:=by have:=A1 ht;omega
  subst this
  refine k6 (k2 ?_)
  refine A3 (A2 (A4 Z Z) Z (A2 (A5 Z Z) Z (A6 ?_)))
  refine k1 (k10 ?_)
  exact B5 (F2 rfl rfl rfl) (by simp)
theorem H38 (a b:List Int) (ha:a.length≤536870912) (hb:b.length≤536870912):FnOk Tryz.prog 185 [L8 a,L8 b] (fun rs=>rs=[pIntss (B27 a b)]):=by
 refine FnOk.intro Tryz.func185 (by decide) Z Z Z Z ?_
 refine k2 ?_
 refine A3 (A2 (A5 Z Z) Z (A6 ?_))
 refine k1 (k2 ?_)
 refine A3 (A2 (A4 Z Z) Z (A2 (D4 Z (.pure _ _ _ _)) Z (A2 (B9 Z Z (by omega)) Z (C1 (V3 5 (List Int) intsC [] Z Z (by omega) (by omega) (fun _=>by first | exact ⟨⟨rfl,rfl⟩,trivial⟩ | exact ⟨M9 _ _ _,trivial⟩) (by first | rfl | (simp [F9,H0,Ob.free,SV.free,S1.free,TC.free]<;>rfl))) Z ?_))));refine A2 (A5 Z Z) Z (A6 ?_)
 refine k1 (k2 (k2 ?_))
 refine A3 (A2 (A4 Z Z) Z (A2 (D4 Z (.pure _ _ _ _)) Z (A2 (A5 Z Z) Z (A6 ?_))))
 refine k1 (k3 ?_)
 refine C9 (X:=Nat) (fun i=>([(0,C0 Int 1 F5 a),(1,C0 Int 1 F5 b),(5,.s (.one (.mut 5))),(6,B7 ((i:Int) - 1))],[(5,.arr (List Int) 1 intsC (N3 a b i))])) (fun i=>i≤a.length+1) (fun i=>i) (a.length+1) (Nat.le_refl _) ?_ ?_
 ·refine H62 ⟨⟨_,rfl,.same _⟩,⟨_,rfl,.same _⟩,⟨_,rfl,.same _⟩,⟨_,rfl,.eq (by simp)⟩,trivial⟩ ⟨?_,trivial⟩
  rw [←D89];rfl
 intro i hi
 dsimp only at hi ⊢
 refine k2 (k2 ?_)
 refine A3 (A2 (A4 Z Z) Z (A2 (A18 Z Z) Z (A6 ?_)))
 refine k1 ?_
 refine B4 rfl (fun ht=>?_) (fun ht=>?_)
 ·obtain ⟨i,rfl⟩:∃r,i=r+1:=⟨i - 1,by have:=A0 ht;omega⟩
  refine L1 [(0,C0 Int 1 F5 a),(1,C0 Int 1 F5 b),(5,.s (.one (.mut 5))),(6,B7 i)] [(5,.arr (List Int) 1 intsC (N3 a b (i+1)))] (H62 ⟨le1 rfl,le1 rfl,le1 rfl,leE Z (by first | (simp;done) | (simp;omega)),trivial⟩ ⟨rfl,trivial⟩) ?_
  refine G4 (H77 5 Z) ?_
  have hTl:((N3 a b (i+1)).map fun x=>TC.p (intsC x 0)).length=a.length+1:=by simp [s5]
  have hRs:=s5 a b (i+1)
  refine k5 (k1 (k2 (k3 (k2 ?_))))
  refine A3 (A2 (A4 Z Z) Z (A2 (A4 Z Z) Z (A2 (A4 Z Z) Z (A2 (D4 Z (.pure _ _ _ _)) Z (A2 (B9 Z Z (by omega)) Z (C1 (V3 23 Int F5 0 Z Z (by omega) (by omega) (fun _=>by first | exact ⟨⟨rfl,rfl⟩,trivial⟩ | exact ⟨M9 _ _ _,trivial⟩) (by first | rfl | (simp [F9,H0,Ob.free,SV.free,S1.free,TC.free]<;>rfl))) Z ?_))))));refine A2 (F8 Z Z Z (by omega) (by omega)) Z (F6 (d7 TySz.out Z Z (by (rw [hTl];simp;omega)) Z Z) ?_);refine A6 ?_
  refine k1 (k2 ?_)
  refine A3 (A2 (A4 Z Z) Z (A2 (D4 Z (.pure _ _ _ _)) Z (A2 (A5 Z Z) Z (A6 ?_))))
  refine k1 (k3 ?_)
  obtain ⟨T,hT⟩:∃T,T=((N3 a b (i+1)).map fun x=>TC.p (intsC x 0)).set i (.mut 23):=⟨_,rfl⟩
  have hTi:T[i]?=some (.mut 23):=by rw [hT,I42 (by rw [hTl];omega)]
  have hTn:i+1≤a.length→T[i+1]?=some (.p (intsC (P0 a b (i+1) 0) 0)):=fun h=>by
   rw [hT,List.getElem?_set_ne (by omega),I20,A46 a b (i+1) (i+1) (Nat.le_refl _) h];rfl
  refine C9 (X:=Nat) (fun j=>([(0,C0 Int 1 F5 a),(1,C0 Int 1 F5 b),(5,.s (.one (.mut 5))),(6,B7 i),(7,B7 ((j:Int) - 1))],[(5,.tarr (N3 a b (i+1)).length 1 T),(23,.arr Int 1 F5 (P0 a b i j))])) (fun j=>j≤b.length+1) (fun j=>j) (b.length+1) (Nat.le_refl _) ?_ ?_
  ·refine H62 ⟨⟨_,rfl,.same _⟩,⟨_,rfl,.same _⟩,⟨_,rfl,.same _⟩,⟨_,rfl,.same _⟩,⟨_,rfl,.eq (by simp)⟩,trivial⟩ ⟨by rw [hT];rfl,?_,trivial⟩
   rw [←E79];rfl
  intro j hj
  dsimp only at hj ⊢
  refine k2 (k2 ?_)
  refine A3 (A2 (A4 Z Z) Z (A2 (A18 Z Z) Z (A6 ?_)))
  refine k1 ?_
  refine B4 rfl (fun ht=>?_) (fun ht=>?_)
  ·obtain ⟨j,rfl⟩:∃r,j=r+1:=⟨j - 1,by have:=A0 ht;omega⟩
   refine L1 [(0,C0 Int 1 F5 a),(1,C0 Int 1 F5 b),(5,.s (.one (.mut 5))),(6,B7 i),(7,B7 j)] [(5,.tarr (N3 a b (i+1)).length 1 T),(23,.arr Int 1 F5 (P0 a b i (j+1)))] (H62 ⟨le1 rfl,le1 rfl,le1 rfl,le1 rfl,leE Z (by first | (simp;done) | (simp;omega)),trivial⟩ ⟨rfl,rfl,trivial⟩) ?_
   have hRl:=D40 a b i (j+1)
   have hst:=F51 a b i j
   refine E45 ?_
   refine J4 ?_
   refine r7 [(0,C0 Int 1 F5 a),(1,C0 Int 1 F5 b),(5,.s (.one (.mut 5))),(6,B7 i),(7,B7 j)] [(5,.tarr (N3 a b (i+1)).length 1 T),(23,.arr Int 1 F5 (P0 a b i j))] ?_ ?_
   ·refine k3 (k3 (k2 ?_))
    refine A3 (A2 (A4 Z Z) Z (A2 (A4 Z Z) Z (A2 (D4 Z (.pure _ _ _ _)) Z (A2 (K1 Z Z) Z (A2 (A5 Z Z) Z (A6 ?_))))))
    refine k1 ?_
    refine B4 rfl (fun ht=>?_) (fun ht=>?_)
    ·have hia:i=a.length:=by have:=A0 ht;omega
     have hd:(dist (a.drop i) (b.drop j):Int)=b.length - j:=by rw [hia,I02 (Nat.le_refl _),dist,I10];omega
     rw [hd] at hst
     skip
     refine A3 (A2 (A4 Z Z) Z (A2 (A4 Z Z) Z (A2 (F8 Z Z Z (by omega) (by omega)) Z (A2 (K8 Z Z hTi) Z (A2 (A4 Z Z) Z (A2 (A4 Z Z) Z (A2 (D4 Z (.pure _ _ _ _)) Z (A2 (A4 Z Z) Z (A2 (V8 Z Z (by omega)) Z (A2 (E0 Z Z Z (by omega) (by omega)) Z (F6 (G1 TySz.out Z Z (by (rw [hRl];simp;omega)) Z Z) ?_)))))))))));refine A6 ?_
     refine k4 (k4 (k1 ?_))
     rw [←hst]
     exact H62 ⟨le1 rfl,le1 rfl,le1 rfl,le1 rfl,le1 rfl,trivial⟩ ⟨rfl,rfl,trivial⟩
    ·have hia:i < a.length:=by have:=A1 ht;omega
     refine k2 ?_
     refine A3 (A2 (A4 Z Z) Z (A2 (A4 Z Z) Z (A2 (D4 Z (.pure _ _ _ _)) Z (A2 (K1 Z Z) Z (A2 (A5 Z Z) Z (A6 ?_))))))
     refine k1 ?_
     refine B4 rfl (fun ht=>?_) (fun ht=>?_)
     ·have hjb:j=b.length:=by have:=A0 ht;omega
      have hd:(dist (a.drop i) (b.drop j):Int)=a.length - i:=by rw [hjb,I02 (Nat.le_refl b.length),x4,I10];omega
      rw [hd] at hst
      skip
      refine A3 (A2 (A4 Z Z) Z (A2 (A4 Z Z) Z (A2 (F8 Z Z Z (by omega) (by omega)) Z (A2 (K8 Z Z hTi) Z (A2 (A4 Z Z) Z (A2 (A4 Z Z) Z (A2 (D4 Z (.pure _ _ _ _)) Z (A2 (A4 Z Z) Z (A2 (V8 Z Z (by omega)) Z (A2 (E0 Z Z Z (by omega) (by omega)) Z (F6 (G1 TySz.out Z Z (by (rw [hRl];simp;omega)) Z Z) ?_)))))))))));refine A6 ?_
      refine k4 (k4 (k1 ?_))
      rw [←hst]
      exact H62 ⟨le1 rfl,le1 rfl,le1 rfl,le1 rfl,le1 rfl,trivial⟩ ⟨rfl,rfl,trivial⟩
     ·have hjb:j < b.length:=by have:=A1 ht;omega
      have hva:a[i]?=some a[i]:=by simp [hia]
      have hvb:b[j]?=some b[j]:=by simp [hjb]
      have hdd:=E27 a b i j hia hjb
      have hTn':=hTn hia
      refine k2 ?_
      refine C6 (by kernel_rfl) (by kernel_rfl) (A9 (A4 Z Z) Z Z (A9 (A4 Z Z) Z Z (A9 (B0 Z (.pure _ _ _ _) Z (by omega) hva) Z Z (A9 (B2 Z Z) Z Z (A9 (A4 Z Z) Z Z (A9 (A4 Z Z) Z Z (A9 (B0 Z (.pure _ _ _ _) Z (by omega) hvb) Z Z (A9 (B2 Z Z) Z Z (A9 (K1 Z Z) Z Z (A9 (A5 Z Z) Z Z (K0 ?_)))))))))))
      refine k1 ?_
      refine B4 rfl (fun ht=>?_) (fun ht=>?_)
      ·rw [if_pos (A0 ht)] at hdd
       have hg:=p7 a b (i+1) 0 (j+1) (Nat.zero_le _) hjb
       rw [hdd] at hst
       skip
       refine C6 (by kernel_rfl) (by kernel_rfl) (A9 (A4 Z Z) Z Z (A9 (A4 Z Z) Z Z (A9 (F8 Z Z Z (by omega) (by omega)) Z Z (A9 (K8 Z Z hTi) Z Z (A9 (A4 Z Z) Z Z (A9 (A4 Z Z) Z Z (A9 (A4 Z Z) Z Z (A9 (B9 Z Z (by omega)) Z Z (A9 (F8 Z Z Z (by omega) (by omega)) Z Z (A9 (K8 Z Z hTn') Z Z (A9 (A4 Z Z) Z Z (A9 (B9 Z Z (by omega)) Z Z (A9 (B0 Z (.pure _ _ _ _) Z (by omega) hg) Z Z (A9 (B2 Z Z) Z Z (A9 (E0 Z Z Z (by omega) (by omega)) Z Z (v8 (G1 TySz.out Z Z (by (rw [hRl];simp;omega)) Z Z) Z ?_))))))))))))))));refine K0 ?_
       refine k4 (k4 (k1 ?_))
       rw [←hst]
       exact H62 ⟨le1 rfl,le1 rfl,le1 rfl,le1 rfl,le1 rfl,trivial⟩ ⟨rfl,rfl,trivial⟩
      ·rw [if_neg (A1 ht)] at hdd
       have hg1:=p7 a b (i+1) 0 j (Nat.zero_le _) (by omega)
       have hg2:=p7 a b i (j+1) (j+1) (Nat.le_refl _) (by omega)
       have hl1:=B26 (a.drop (i+1)) (b.drop j)
       have hl2:=B26 (a.drop i) (b.drop (j+1))
       simp only [I10] at hl1 hl2
       have hval:(1:Int)+(if (dist (a.drop i) (b.drop (j+1)):Int) < (dist (a.drop (i+1)) (b.drop j):Int) then (dist (a.drop i) (b.drop (j+1)):Int) else (dist (a.drop (i+1)) (b.drop j):Int))=(dist (a.drop i) (b.drop j):Int):=by
        rw [hdd];split<;>omega
       rw [←hval] at hst
       skip
       refine C6 (by kernel_rfl) (by kernel_rfl) (A9 (A4 Z Z) Z Z (A9 (A4 Z Z) Z Z (A9 (F8 Z Z Z (by omega) (by omega)) Z Z (A9 (K8 Z Z hTi) Z Z (A9 (A4 Z Z) Z Z (A9 (A4 Z Z) Z Z (A9 (A4 Z Z) Z Z (A9 (B9 Z Z (by omega)) Z Z (A9 (F8 Z Z Z (by omega) (by omega)) Z Z (A9 (K8 Z Z hTn') Z Z (A9 (A4 Z Z) Z Z (A9 (B0 Z (.pure _ _ _ _) Z (by omega) hg1) Z Z (A9 (B2 Z Z) Z Z (A9 (A4 Z Z) Z Z (A9 (A4 Z Z) Z Z (A9 (F8 Z Z Z (by omega) (by omega)) Z Z (A9 (K8 Z Z hTi) Z Z (A9 (A4 Z Z) Z Z (A9 (B9 Z Z (by omega)) Z Z (A9 (E0 Z Z Z (by omega) (by omega)) Z Z (A9 (L9 Z Z hg2 Z) Z Z (A9 (n_min Z Z) Z Z (A9 (B9 Z Z (by (constructor<;>split<;>omega))) Z Z ?_)))))))))))))))))))))));refine A9 (E0 Z Z Z (by omega) (by omega)) Z Z (v8 (G1 TySz.out Z Z (by (rw [hRl];simp;omega)) Z Z) Z ?_);refine K0 ?_
       refine k4 (k4 (k1 ?_))
       rw [←hst]
       exact H62 ⟨le1 rfl,le1 rfl,le1 rfl,le1 rfl,le1 rfl,trivial⟩ ⟨rfl,rfl,trivial⟩
   ·skip
    refine A3 (A2 (A4 Z Z) Z (A2 (V8 Z Z (by omega)) Z (A2 (A5 Z Z) Z (A6 ?_))))
    refine k1 ?_
    exact ⟨j,by omega,by omega,H62 ⟨le1 rfl,le1 rfl,le1 rfl,le1 rfl,le1 rfl,trivial⟩ ⟨rfl,rfl,trivial⟩⟩
  ·obtain rfl:j=0:=by have:=A1 ht;omega
   refine G4 (Sees.freeze (k:=23) Z) ?_
   refine G4 (H78 5 (N3 a b i) Z (by simp [s5]) (by rw [hT,F86 (y:=P0 a b i 0) rfl,E80])) ?_
   refine k6 (k7 (k7 (k8 Z (k4 (k1 ?_)))))
   refine A3 (A2 (A4 Z Z) Z (A2 (V8 Z Z (by omega)) Z (A2 (A5 Z Z) Z (A6 ?_))))
   refine k1 ?_
   exact ⟨i,by omega,by omega,H62 ⟨le1 rfl,le1 rfl,le1 rfl,le1 rfl,trivial⟩ ⟨rfl,trivial⟩⟩
 ·obtain rfl:i=0:=by have:=A1 ht;omega
  refine G4 (Sees.freeze (k:=5) Z) ?_
  refine k6 (k2 ?_)
  refine A3 (A2 (A4 Z Z) Z (A2 (A5 Z Z) Z (A6 ?_)))
  refine k1 (k10 ?_)
  exact B5 (F2 rfl rfl rfl) rfl
theorem B93 (a b:List Int):∀(p q:Int),∀s∈F1 p q a b,p≤s.From∧s.From < p+a.length∧q≤s.To∧s.To < q+b.length:=by
 induction a generalizing b with
 | nil=>intro p q s hs;simp [F1] at hs
 | cons x a iha =>
  induction b with
  | nil=>intro p q s hs;simp [F1] at hs
  | cons y b ihb =>
   intro p q s hs
   rw [F1] at hs
   simp only [H96]
   split at hs
   ·rcases List.mem_cons.1 hs with rfl | hs
    ·simp only;omega
    ·have:=iha b (p+1) (q+1) s hs;omega
   ·split at hs
    ·have:=iha (y::b) (p+1) q s hs;simp only [H96] at this;omega
    ·have:=ihb p (q+1) s hs;simp only [H96] at this;omega
theorem G56 (a b:List Int) (ha:a.length≤536870911) (hb:b.length≤536870911):FnOk Tryz.prog 106 [L8 a,L8 b] (fun rs=>rs=[pChanges (K5 a b)]):=by
 refine FnOk.intro Tryz.func106 (by decide) Z Z Z Z ?_
 refine k2 ?_
 refine A3 (A2 (A5 Z Z) Z (A6 ?_))
 refine k1 (k2 ?_)
 refine A3 (A2 (A4 Z Z) Z (A2 (A4 Z Z) Z (C3 (H38 a b (by omega) (by omega)) Z Z Z ?_)));rintro _ rfl;refine A2 (A5 Z Z) Z (A6 ?_)
 refine k1 (k2 ?_)
 refine A3 (C1 (S8 6 _ spanC Z) Z (A6 ?_))
 refine k1 (k2 ?_)
 refine A3 (A2 (A5 Z Z) Z (A2 (A5 Z Z) Z (A6 ?_)))
 refine k1 (k2 (k3 ?_))
 refine C9 (X:=Nat × Nat × List Span) (fun x=>([(0,C0 Int 1 F5 a),(1,C0 Int 1 F5 b),(5,C0 (List Int) 1 intsC (B27 a b)),(6,.s (.one (.buf 6 Span 2 spanC x.2.2))),(7,B7 x.1),(8,B7 x.2.1)],[(6,.spare x.2.2.length 2 95)]))
  (fun x=>x.1≤a.length∧x.2.1≤b.length∧x.2.2.length≤x.1∧x.2.2++F1 x.1 x.2.1 (a.drop x.1) (b.drop x.2.1)=F1 0 0 a b) (fun x=>a.length+b.length - x.1 - x.2.1) (0,0,[]) (by simp) (H62 ⟨le1 rfl,le1 rfl,le1 rfl,le1 rfl,le1 rfl,le1 rfl,trivial⟩ ⟨rfl,trivial⟩) ?_
 rintro ⟨i,j,out⟩ ⟨hi,hj,ho,hp⟩
 dsimp only at hi hj ho hp ⊢
 refine k2 (k2 ?_)
 refine A3 (A2 (A4 Z Z) Z (A2 (A4 Z Z) Z (A2 (D4 Z (.pure _ _ _ _)) Z (A2 (D8 Z Z) Z (A2 (A4 Z Z) Z (B1 Z Z Z Z (fun hg=>by rw [hg];exact A4 Z Z) ?_))))));refine B1 Z Z Z Z (fun hg=>by rw [hg];exact A4 Z Z) ?_;refine B1 Z Z Z Z (fun hg=>by rw [hg];exact D4 Z (.pure _ _ _ _)) ?_;refine B1 Z Z Z Z (fun hg=>by rw [hg];exact D8 Z Z) ?_;refine A2 (B6 Z (fun h=>by first | rfl | (rw [h];rfl)) (fun h=>by first | rfl | (rw [h];rfl))) Z ?_;refine A6 ?_
 refine k1 ?_
 refine B4 rfl (fun ht=>?_) (fun ht=>?_)
 ·have hor:=A0 (or_pick.symm.trans ht)
  refine E45 ?_
  refine J4 ?_
  refine k3 (k3 (k2 ?_))
  have hTi:i < a.length→(B27 a b)[i]?=some (P0 a b i 0):=fun h=>A46 a b 0 i (Nat.zero_le _) (by omega)
  have hTn:i < a.length→(B27 a b)[i+1]?=some (P0 a b (i+1) 0):=fun h=>A46 a b 0 (i+1) (Nat.zero_le _) (by omega)
  have hva:i < a.length→a[i]?=some (a.getD i 0):=fun h=>by simp [I00,h]
  have hvb:j < b.length→b[j]?=some (b.getD j 0):=fun h=>by simp [I00,h]
  have hga:∀h:i < a.length,a.getD i 0=a[i]:=fun h=>by simp [I00,h]
  have hgb:∀h:j < b.length,b.getD j 0=b[j]:=fun h=>by simp [I00,h]
  refine C6 (by kernel_rfl) (by kernel_rfl) (A9 (A4 Z Z) Z Z (A9 (A4 Z Z) Z Z (A9 (D4 Z (.pure _ _ _ _)) Z Z (A9 (D8 Z Z) Z Z (A9 (A4 Z Z) Z Z (D1 Z Z (fun hg=>by rw [hg];exact A4 Z Z) Z Z ?_))))));refine D1 Z Z (fun hg=>by rw [hg];exact A4 Z Z) Z Z ?_;refine D1 Z Z (fun hg=>by rw [hg];exact D4 Z (.pure _ _ _ _)) Z Z ?_;refine D1 Z Z (fun hg=>by rw [hg];exact D8 Z Z) Z Z ?_;refine A9 (B6 Z (fun h=>by first | rfl | (rw [h];rfl)) (fun h=>by first | rfl | (rw [h];rfl))) Z Z ?_;refine A9 (A4 Z Z) Z Z (D1 Z Z (fun hg=>by rw [hg];exact A4 Z Z) Z Z ?_);refine D1 Z Z (fun hg=>by rw [hg];exact A4 Z Z) Z Z ?_;refine D1 Z Z (fun hg=>by have hq:=hg;(try simp at hq);rw [hg];exact B0 Z (.pure _ _ _ _) Z (by omega) (hva (by omega))) Z Z ?_;refine D1 Z Z (fun hg=>by rw [hg];exact B2 Z Z) Z Z ?_;refine D1 Z Z (fun hg=>by rw [hg];exact A4 Z Z) Z Z ?_;refine D1 Z Z (fun hg=>by rw [hg];exact A4 Z Z) Z Z ?_;refine D1 Z Z (fun hg=>by have hq:=hg;(try simp at hq);rw [hg];exact B0 Z (.pure _ _ _ _) Z (by omega) (hvb (by omega))) Z Z ?_;refine D1 Z Z (fun hg=>by rw [hg];exact B2 Z Z) Z Z ?_;refine D1 Z Z (fun hg=>by rw [hg];exact K1 Z Z) Z Z ?_;refine A9 (B6 Z (fun h=>by first | rfl | (rw [h];rfl)) (fun h=>by first | rfl | (rw [h];rfl))) Z Z ?_;refine A9 (A5 Z Z) Z Z (K0 ?_)
  refine k1 ?_
  refine B4 rfl (fun ht=>?_) (fun ht=>?_)
  ·simp only [O0] at ht
   obtain ⟨⟨hia,hjb⟩,heq⟩:=A0 ht
   have hia':i < a.length:=by omega
   have hjb':j < b.length:=by omega
   rw [hga hia',hgb hjb'] at heq
   rw [p6 a b i j hia' hjb',if_pos heq] at hp
   refine k2 ?_
   refine A3 (A2 (A4 Z Z) Z (A2 (A4 Z Z) Z (A2 (A4 Z Z) Z (A2 (G6 Z) Z (A2 (C8 (c:=spanC) (ys:=[⟨_,_⟩]) (D7 Z Z Z Z E7) Z Z Z) Z (C1 (F3 Z Z Z (.pure _ _ _ _) (by simp;omega) Z) Z (A2 (A5 Z Z) Z (A6 ?_))))))))
   refine k1 ?_
   refine A3 (A2 (A4 Z Z) Z (A2 (B9 Z Z (by omega)) Z (A2 (A4 Z Z) Z (A2 (B9 Z Z (by omega)) Z (A2 (A5 Z Z) Z (A2 (A5 Z Z) Z (A6 ?_)))))))
   refine k4 (k4 (k1 ?_))
   exact ⟨(i+1,j+1,out++[⟨i,j⟩]),⟨by dsimp only;omega,by dsimp only;omega,by dsimp only;simp;omega,by dsimp only;rw [I06];exact hp⟩,by dsimp only;omega,H62 ⟨le1 rfl,le1 rfl,le1 rfl,le1 rfl,le1 rfl,le1 rfl,trivial⟩ ⟨rfl,trivial⟩⟩
  ·have hne:∀(h1:i < a.length) (h2:j < b.length),a[i]≠b[j]:=fun h1 h2 h=>by
    simp only [O0] at ht
    exact A1 ht ⟨⟨by omega,by omega⟩,by rw [hga h1,hgb h2];exact h⟩
   refine k2 ?_
   refine C6 (by kernel_rfl) (by kernel_rfl) (A9 (A4 Z Z) Z Z (A9 (A4 Z Z) Z Z (A9 (D4 Z (.pure _ _ _ _)) Z Z (A9 (D8 Z Z) Z Z (A9 (A4 Z Z) Z Z (D1 Z Z (fun hg=>by rw [hg];exact A4 Z Z) Z Z ?_))))));refine D1 Z Z (fun hg=>by rw [hg];exact A4 Z Z) Z Z ?_;refine D1 Z Z (fun hg=>by have hq:=hg;(try simp at hq);rw [hg];exact B9 Z Z (by omega)) Z Z ?_;refine D1 Z Z (fun hg=>by have hq:=hg;(try simp at hq);rw [hg];exact B0 Z (.pure _ _ _ _) Z (by omega) (hTn (by omega))) Z Z ?_;refine D1 Z Z (fun hg=>by rw [hg];exact B2 Z Z) Z Z ?_;refine D1 Z Z (fun hg=>by rw [hg];exact A4 Z Z) Z Z ?_;refine D1 Z Z (fun hg=>by have hq:=hg;(try simp at hq);rw [hg];exact B0 Z (.pure _ _ _ _) Z (by omega) (p7 a b (i+1) 0 j (Nat.zero_le _) hj)) Z Z ?_;refine D1 Z Z (fun hg=>by rw [hg];exact B2 Z Z) Z Z ?_;refine D1 Z Z (fun hg=>by have hq:=hg;(try simp at hq);have h1:=B26 (a.drop (i+1)) (b.drop j);simp only [I10] at h1;rw [hg];exact B9 Z Z (by omega)) Z Z ?_;refine D1 Z Z (fun hg=>by rw [hg];exact A4 Z Z) Z Z ?_;refine D1 Z Z (fun hg=>by rw [hg];exact A4 Z Z) Z Z ?_;refine D1 Z Z (fun hg=>by have hq:=hg;(try simp at hq);rw [hg];exact B0 Z (.pure _ _ _ _) Z (by omega) (hTi (by omega))) Z Z ?_;refine D1 Z Z (fun hg=>by rw [hg];exact B2 Z Z) Z Z ?_;refine D1 Z Z (fun hg=>by rw [hg];exact A4 Z Z) Z Z ?_;refine D1 Z Z (fun hg=>by have hq:=hg;(try simp at hq);rw [hg];exact B0 Z (.pure _ _ _ _) Z (by omega) (p7 a b i 0 j (Nat.zero_le _) hj)) Z Z ?_;refine D1 Z Z (fun hg=>by rw [hg];exact B2 Z Z) Z Z ?_;refine D1 Z Z (fun hg=>by rw [hg];exact K1 Z Z) Z Z ?_;refine A9 (B6 Z (fun h=>by first | rfl | (rw [h];rfl)) (fun h=>by first | rfl | (rw [h];rfl))) Z Z ?_;refine A9 (A5 Z Z) Z Z (K0 ?_)
   refine k1 ?_
   refine B4 rfl (fun ht=>?_) (fun ht=>?_)
   ·rw [O0] at ht
    obtain ⟨hia,hd⟩:=A0 ht
    have hia':i < a.length:=by omega
    have hp':out++F1 (i+1:Nat) j (a.drop (i+1)) (b.drop j)=F1 0 0 a b:=by
     by_cases hjb:j < b.length
     ·rw [p6 a b i j hia' hjb,if_neg (hne hia' hjb),if_pos (by omega)] at hp
      exact hp
     ·rw [I02 (show b.length≤j by omega),X0] at hp ⊢
      exact hp
    skip
    refine A3 (A2 (A4 Z Z) Z (A2 (B9 Z Z (by omega)) Z (A2 (A5 Z Z) Z (A6 ?_))))
    refine k4 (k4 (k1 ?_))
    exact ⟨(i+1,j,out),⟨by dsimp only;omega,by dsimp only;omega,by dsimp only;omega,hp'⟩,by dsimp only;omega,H62 ⟨le1 rfl,le1 rfl,le1 rfl,le1 rfl,le1 rfl,le1 rfl,trivial⟩ ⟨rfl,trivial⟩⟩
   ·rw [O0] at ht
    have hd:=A1 ht
    have hjb:j < b.length:=by
     refine Classical.byContradiction fun h=>?_
     have hjb:j=b.length:=by omega
     have hia:i < a.length:=by omega
     apply hd
     refine ⟨by omega,?_⟩
     rw [I02 (show b.length≤j by omega),x4,x4,I10,I10]
     omega
    have hp':out++F1 i (j+1:Nat) (a.drop i) (b.drop (j+1))=F1 0 0 a b:=by
     by_cases hia:i < a.length
     ·rw [p6 a b i j hia hjb,if_neg (hne hia hjb),if_neg (fun h=>hd ⟨by omega,by omega⟩)] at hp
      exact hp
     ·rw [I02 (show a.length≤i by omega),U4] at hp ⊢
      exact hp
    skip
    refine A3 (A2 (A4 Z Z) Z (A2 (B9 Z Z (by omega)) Z (A2 (A5 Z Z) Z (A6 ?_))))
    refine k4 (k4 (k1 ?_))
    exact ⟨(i,j+1,out),⟨by dsimp only;omega,by dsimp only;omega,by dsimp only;omega,hp'⟩,by dsimp only;omega,H62 ⟨le1 rfl,le1 rfl,le1 rfl,le1 rfl,le1 rfl,le1 rfl,trivial⟩ ⟨rfl,trivial⟩⟩
 ·have hor:=A1 (or_pick.symm.trans ht)
  have hi':i=a.length:=by omega
  have hj':j=b.length:=by omega
  rw [hi',I02 (Nat.le_refl a.length)] at hp
  have hout:out=F1 0 0 a b:=by rw [←hp];simp [F1]
  refine k6 (k2 ?_)
  refine A3 (A2 (A4 Z Z) Z (A2 (A4 Z Z) Z (A2 (D4 Z (.pure _ _ _ _)) Z (A2 (A4 Z Z) Z (A2 (D4 Z (.pure _ _ _ _)) Z (C3 (made_ok out a.length b.length (by omega) (fun s hs=>by have:=B93 a b 0 0 s (hout ▸ hs);omega) (by omega)) Z Z Z ?_))))));rintro _ rfl;refine A2 (A5 Z Z) Z (A6 ?_)
  refine k1 (k10 ?_)
  exact B5 (F2 rfl rfl rfl) (by rw [hout];rfl)
theorem E15 (a b:List Int):FnOk Tryz.prog 238 [L8 a,L8 b] (fun rs=>rs=if 4096 < a.length∨4096 < b.length then [pChanges [],G8 1] else [pChanges (K5 a b),G8 0]):=by
 refine FnOk.intro Tryz.func238 (by decide) Z Z Z Z ?_
 refine k2 ?_
 refine A3 (A2 (A5 Z Z) Z (A2 (A5 Z Z) Z (A6 ?_)))
 refine k1 (k2 (k2 ?_))
 refine A3 (A2 (A4 Z Z) Z (A2 (A4 Z Z) Z (C3 (long_ok a b) Z Z Z ?_)));rintro _ rfl;refine A6 ?_
 refine k1 ?_
 refine B4 rfl (fun ht=>?_) (fun ht=>?_)
 ·have h:=A0 ht
  refine k2 ?_
  refine A3 (A2 (O4 _ 4 changeC) Z (A2 (A5 Z Z) Z (A6 ?_)))
  refine k1 (k10 (k11 ?_))
  exact B5 (A20 rfl rfl rfl rfl rfl) (by rw [if_pos h])
 ·have h:=A1 ht
  refine k5 (k1 (k2 ?_))
  refine A3 (A2 (A4 Z Z) Z (A2 (A4 Z Z) Z (C3 (G56 a b (by omega) (by omega)) Z Z Z ?_)));rintro _ rfl;refine A2 (A5 Z Z) Z (A2 (A5 Z Z) Z (A6 ?_))
  refine k1 (k10 ?_)
  exact B5 (A20 rfl rfl rfl rfl rfl) (by rw [if_neg h])
theorem D24 (l:List Change) (m:Int) (hl:l.length≤1048576) (hm:m≤536870911) (hb:∀c∈l,c.Old≤536870911∧0≤c.OldLen∧c.OldLen≤1048576∧0≤c.NewLen∧c.NewLen≤1048576) :
  FnOk Tryz.prog 107 [pChanges l,G8 m] (fun rs=>rs=[pSpans (O2 l m)]):=by
 refine FnOk.intro Tryz.func107 (by decide) Z Z Z Z ?_
 refine k2 ?_
 refine A3 (A2 (A5 Z Z) Z (A6 ?_))
 refine k1 (k2 ?_)
 refine A3 (C1 (S8 5 _ spanC Z) Z (A6 ?_))
 refine k1 (k2 ?_)
 refine A3 (A2 (A5 Z Z) Z (A2 (A5 Z Z) Z (A6 ?_)))
 refine k1 (k2 (k2 ?_))
 refine A3 (A2 (A5 Z Z) Z (A6 ?_))
 refine k1 (k3 ?_)
 refine C9 (X:=Nat × Int × Int × List Span) (fun x=>([(0,C0 Change 4 changeC l),(1,B7 m),(5,.s (.one (.buf 5 Span 2 spanC x.2.2.2))),(6,B7 x.2.1),(7,B7 x.2.2.1),(8,B7 x.1)],[(5,.spare x.2.2.2.length 2 95)]))
  (fun x=>x.1≤l.length∧0≤x.2.1∧(x.2.2.2.length:Int)≤x.2.1∧x.2.1≤536870911+x.1*1048576∧0≤x.2.2.1∧x.2.2.1≤536870911*(x.1+1)+x.1*1048576∧x.2.2.2.length≤536870911∧x.2.2.2++J0 x.2.1 x.2.2.1 (l.drop x.1) m=O2 l m)
  (fun x=>l.length - x.1) (0,0,0,[]) (by simp [O2]) (H62 ⟨le1 rfl,le1 rfl,le1 rfl,le1 rfl,le1 rfl,le1 rfl,trivial⟩ ⟨rfl,trivial⟩) ?_
 rintro ⟨k,i,j,out⟩ ⟨hk,hi,ho,hi2,hj,hj2,ho2,hp⟩
 dsimp only at hk hi ho hi2 hj hj2 ho2 hp ⊢
 refine k2 (k2 ?_)
 refine A3 (A2 (A4 Z Z) Z (A2 (A4 Z Z) Z (A2 (D4 Z (.pure _ _ _ _)) Z (A2 (D8 Z Z) Z (A6 ?_)))))
 refine k1 ?_
 refine B4 rfl (fun ht=>?_) (fun ht=>?_)
 ·have hlt:k < l.length:=by have:=A0 ht;omega
  have hv:l[k]?=some l[k]:=by simp [hlt]
  have hc:=hb l[k] (I07 hlt)
  rw [I01 hlt,J0] at hp
  refine k5 (k1 (k2 (k3 (k2 (k3 ?_)))))
  refine C9 (X:=Nat) (fun t=>([(0,C0 Change 4 changeC l),(1,B7 m),(5,.s (.one (.buf 5 Span 2 spanC (out++M3 i j t)))),(6,B7 (i+t)),(7,B7 (j+t)),(8,B7 k)],[(5,.spare (out++M3 i j t).length 2 95)]))
   (fun t=>t≤(l[k].Old - i).toNat) (fun t=>(l[k].Old - i).toNat - t) 0 (Nat.zero_le _) (by rw [j2,I14];exact H62 ⟨le1 rfl,le1 rfl,le1 rfl,leE rfl (by first | (simp;done) | (simp;omega)),leE rfl (by first | (simp;done) | (simp;omega)),le1 rfl,trivial⟩ ⟨rfl,trivial⟩) ?_
  intro t htl
  dsimp only at htl ⊢
  have hsl:=x3 i j t
  refine k2 (k2 ?_)
  have hol:out.length+t≤536870911:=by omega
  refine A3 (A2 (A4 Z Z) Z (A2 (A4 Z Z) Z (A2 (A4 Z Z) Z (A2 (B0 Z (.pure _ _ _ _) Z (by omega) hv) Z (A2 (D6 Z) Z (A2 (B2 Z Z) Z (A2 (D8 Z Z) Z (A6 ?_))))))))
  refine k1 ?_
  refine B4 rfl (fun ht=>?_) (fun ht=>?_)
  ·have h1:=A0 ht
   refine k5 (k1 (k3 (k2 ?_)))
   refine A3 (A2 (A4 Z Z) Z (A2 (A4 Z Z) Z (A2 (A4 Z Z) Z (A2 (G6 Z) Z (A2 (C8 (c:=spanC) (ys:=[⟨_,_⟩]) (D7 Z Z Z Z E7) Z Z Z) Z (C1 (F3 Z Z Z (.pure _ _ _ _) (by (simp;omega)) Z) Z (A2 (A5 Z Z) Z (A6 ?_))))))))
   refine k1 ?_
   refine A3 (A2 (A4 Z Z) Z (A2 (B9 Z Z (by omega)) Z (A2 (A4 Z Z) Z (A2 (B9 Z Z (by omega)) Z (A2 (A5 Z Z) Z (A2 (A5 Z Z) Z (A6 ?_)))))))
   refine k4 (k1 ?_)
   refine ⟨t+1,by omega,by omega,?_⟩
   rw [A47,←I06]
   exact H62 ⟨le1 rfl,le1 rfl,le1 rfl,leE rfl (by first | (simp;done) | (simp;omega)),leE rfl (by first | (simp;done) | (simp;omega)),le1 rfl,trivial⟩ ⟨rfl,trivial⟩
  ·have h1:=A1 ht
   have h2:t=(l[k].Old - i).toNat:=by omega
   rw [←h2] at hp
   have h3:max i l[k].Old=i+t:=by omega
   rw [h3] at hp
   refine k6 (k7 (k7 (k8 Z (k1 ?_))))
   refine C6 (by kernel_rfl) (by kernel_rfl) (A9 (A4 Z Z) Z Z (A9 (A4 Z Z) Z Z (A9 (A4 Z Z) Z Z (A9 (B0 Z (.pure _ _ _ _) Z (by omega) hv) Z Z (A9 (D6 Z) Z Z (A9 (B2 Z Z) Z Z (A9 (B9 Z Z (by omega)) Z Z (A9 (A4 Z Z) Z Z (A9 (A4 Z Z) Z Z (A9 (A4 Z Z) Z Z (A9 (B0 Z (.pure _ _ _ _) Z (by omega) hv) Z Z (A9 (D6 Z) Z Z (A9 (B2 Z Z) Z Z (A9 (B9 Z Z (by omega)) Z Z (A9 (A5 Z Z) Z Z (A9 (A5 Z Z) Z Z (K0 ?_)))))))))))))))))
   refine k4 (k1 ?_)
   refine A3 (A2 (A4 Z Z) Z (A2 (B9 Z Z (by omega)) Z (A2 (A5 Z Z) Z (A6 ?_))))
   refine k1 ?_
   exact ⟨(k+1,i+t+l[k].OldLen,j+t+l[k].NewLen,out++M3 i j t),⟨by dsimp only;omega,by dsimp only;omega,by dsimp only;rw [H95,hsl];omega,by dsimp only;omega,by dsimp only;omega,by dsimp only;omega,by dsimp only;rw [H95,hsl];omega,by dsimp only;rw [I06];exact hp⟩,by dsimp only;omega,H62 ⟨le1 rfl,le1 rfl,le1 rfl,le1 rfl,le1 rfl,le1 rfl,trivial⟩ ⟨rfl,trivial⟩⟩
 ·have hk':k=l.length:=by have:=A1 ht;omega
  rw [hk',I02 (Nat.le_refl _),J0] at hp
  refine k6 (k2 (k3 ?_))
  refine C9 (X:=Nat) (fun t=>([(1,B7 m),(5,.s (.one (.buf 5 Span 2 spanC (out++M3 i j t)))),(6,B7 (i+t)),(7,B7 (j+t))],[(5,.spare (out++M3 i j t).length 2 95)]))
   (fun t=>t≤(m - i).toNat) (fun t=>(m - i).toNat - t) 0 (Nat.zero_le _) (by rw [j2,I14];exact H62 ⟨le1 rfl,le1 rfl,leE rfl (by first | (simp;done) | (simp;omega)),leE rfl (by first | (simp;done) | (simp;omega)),trivial⟩ ⟨rfl,trivial⟩) ?_
  intro t htl
  dsimp only at htl ⊢
  have hsl:=x3 i j t
  have hol:out.length+t≤536870911:=by omega
  refine k2 (k2 ?_)
  refine A3 (A2 (A4 Z Z) Z (A2 (A4 Z Z) Z (A2 (D8 Z Z) Z (A6 ?_))))
  refine k1 ?_
  refine B4 rfl (fun ht=>?_) (fun ht=>?_)
  ·have h1:=A0 ht
   refine k5 (k1 (k3 (k2 ?_)))
   refine A3 (A2 (A4 Z Z) Z (A2 (A4 Z Z) Z (A2 (A4 Z Z) Z (A2 (G6 Z) Z (A2 (C8 (c:=spanC) (ys:=[⟨_,_⟩]) (D7 Z Z Z Z E7) Z Z Z) Z (C1 (F3 Z Z Z (.pure _ _ _ _) (by (simp;omega)) Z) Z (A2 (A5 Z Z) Z (A6 ?_))))))))
   refine k1 ?_
   refine A3 (A2 (A4 Z Z) Z (A2 (B9 Z Z (by omega)) Z (A2 (A4 Z Z) Z (A2 (B9 Z Z (by omega)) Z (A2 (A5 Z Z) Z (A2 (A5 Z Z) Z (A6 ?_)))))))
   refine k4 (k1 ?_)
   refine ⟨t+1,by omega,by omega,?_⟩
   rw [A47,←I06]
   exact H62 ⟨le1 rfl,le1 rfl,leE rfl (by first | (simp;done) | (simp;omega)),leE rfl (by first | (simp;done) | (simp;omega)),trivial⟩ ⟨rfl,trivial⟩
  ·have h1:=A1 ht
   have h2:t=(m - i).toNat:=by omega
   refine k6 (k2 ?_)
   refine A3 (A2 (A4 Z Z) Z (A2 (A5 Z Z) Z (A6 ?_)))
   refine k1 (k10 ?_)
   exact B5 (F2 rfl rfl rfl) (by rw [h2,hp])
theorem E16 (l:List Merged) (list:List Int) (p:Int) (hl:l.length≤536870912):FnOk Tryz.prog 187 [pMerged l,L8 list,G8 p] (fun rs=>rs=if 4096 < l.length∨4096 < list.length then [pMerged [],G8 1] else [pMerged (S9 l list p),G8 0]):=by
 refine FnOk.intro Tryz.func187 (by decide) Z Z Z Z ?_
 refine k2 ?_
 refine A3 (A2 (A5 Z Z) Z (A2 (A5 Z Z) Z (A6 ?_)))
 refine k1 (k2 ?_)
 have hlm:(F4 l).length=l.length:=by simp [F4]
 by_cases hbig:4096 < l.length∨4096 < list.length
 ·rw [if_pos hbig]
  refine A3 (A2 (A4 Z Z) Z (C3 (E14 l hl) Z Z Z ?_));rintro _ rfl;refine A2 (A4 Z Z) Z (C3 ((E15 (F4 l) list).mono (post':=fun rs=>rs=[pChanges [],G8 1]) (fun rs h=>by rw [if_pos (by rw [hlm];exact hbig)] at h;exact h)) Z Z Z ?_);rintro _ rfl;refine A2 (A4 Z Z) Z (A2 (D5 Z Z) Z (A2 (D5 Z Z) Z (A2 (A5 Z Z) Z (A2 (A5 Z Z) Z (A6 ?_)))))
  refine k1 (k2 (k2 ?_))
  refine A3 (A2 (A4 Z Z) Z (A2 (O3 Z Z) Z (A6 ?_)))
  refine k1 ?_
  refine B4 rfl (fun ht=>?_) (fun ht=>?_)
  ·refine k2 ?_
   refine A3 (A2 (O4 _ 2 mergedC) Z (A2 (A5 Z Z) Z (A6 ?_)))
   refine k1 (k10 (k11 ?_))
   exact B5 (A20 rfl rfl rfl rfl rfl) rfl
  ·cases A1 ht (by decide)
 ·rw [if_neg hbig]
  refine A3 (A2 (A4 Z Z) Z (C3 (E14 l hl) Z Z Z ?_));rintro _ rfl;refine A2 (A4 Z Z) Z (C3 ((E15 (F4 l) list).mono (post':=fun rs=>rs=[pChanges (K5 (F4 l) list),G8 0]) (fun rs h=>by rw [if_neg (by rw [hlm];exact hbig)] at h;exact h)) Z Z Z ?_);rintro _ rfl;refine A2 (A4 Z Z) Z (A2 (D5 Z Z) Z (A2 (D5 Z Z) Z (A2 (A5 Z Z) Z (A2 (A5 Z Z) Z (A6 ?_)))))
  refine k1 (k2 (k2 ?_))
  refine A3 (A2 (A4 Z Z) Z (A2 (O3 Z Z) Z (A6 ?_)))
  refine k1 ?_
  refine B4 rfl (fun ht=>?_) (fun ht=>?_)
  ·cases A0 ht rfl
  ·have hwb:=A49 (F4 l) list
   have hwl:(K5 (F4 l) list).length≤4097:=by
    have h1:=m7 (F1 0 0 (F4 l) list) 0 0 (F4 l).length list.length
    have h2:=S6 0 0 (F4 l) list
    unfold K5 X8;omega
   have hmw:=A48 (F4 l) list
   have hasc:=W2 (F4 l) list 0 0
   rw [Int.zero_add,Int.zero_add] at hasc
   have hpl:=S6 0 0 (F4 l) list
   rw [hlm] at hmw hasc hpl
   obtain ⟨ps,hps⟩:∃ps,ps=F1 0 0 (F4 l) list:=⟨_,rfl⟩
   refine k5 (k1 (k2 ?_))
   refine A3 (A2 (A4 Z Z) Z (A2 (A4 Z Z) Z (A2 (D4 Z (.pure _ _ _ _)) Z (C3 (D24 (K5 (F4 l) list) l.length (by omega) (by omega) (fun c hc=>by have:=hwb c hc;rw [hlm] at this;omega)) Z Z Z ?_))));rintro _ rfl;refine A2 (A5 Z Z) Z (A6 ?_)
   refine k1 (k2 ?_)
   rw [hmw,←hps]
   rw [←hps] at hasc hpl
   refine A3 (C1 (S8 11 _ mergedC Z) Z (A6 ?_))
   refine k1 (k2 ?_)
   refine A3 (A2 (A5 Z Z) Z (A2 (A5 Z Z) Z (A6 ?_)))
   refine k1 (k2 (k2 ?_))
   refine A3 (A2 (A5 Z Z) Z (A6 ?_))
   refine k1 (k3 ?_)
   have hlb:l.length≤4096∧list.length≤4096:=by omega
   have hwp:=B58 p
   refine C9 (X:=Nat × Nat × Nat × List Merged) (fun x=>([(0,C0 Merged 2 mergedC l),(1,C0 Int 1 F5 list),(2,B7 p),(10,C0 Span 2 spanC ps),(11,.s (.one (.buf 11 Merged 2 mergedC x.2.2.2))),(12,B7 x.2.1),(13,B7 x.2.2.1),(14,B7 x.1)],[(11,.spare x.2.2.2.length 2 169)]))
    (fun x=>x.1≤ps.length+1∧x.2.2.2.length≤x.2.1+x.2.2.1∧x.2.1≤l.length∧x.2.2.1≤list.length∧(x.1≤ps.length→Asc l.length list.length x.2.1 x.2.2.1 (ps.drop x.1)∧x.2.2.2++P5 l list (H3 p) x.2.1 x.2.2.1 (ps.drop x.1)=P5 l list (H3 p) 0 0 ps)∧(x.1=ps.length+1→x.2.2.2=P5 l list (H3 p) 0 0 ps))
    (fun x=>ps.length+1 - x.1) (0,0,0,[]) (by simpa using hasc) (H62 ⟨le1 rfl,le1 rfl,le1 rfl,le1 rfl,le1 rfl,le1 rfl,le1 rfl,le1 rfl,trivial⟩ ⟨rfl,trivial⟩) ?_
   rintro ⟨k,i,j,out⟩ ⟨hk,ho,hi,hj,h1,h2⟩
   dsimp only at hk ho hi hj h1 h2 ⊢
   refine k2 (k2 ?_)
   refine A3 (A2 (A4 Z Z) Z (A2 (A4 Z Z) Z (A2 (D4 Z (.pure _ _ _ _)) Z (A2 (c6 Z Z) Z (A6 ?_)))))
   refine k1 ?_
   refine B4 rfl (fun ht=>?_) (fun ht=>?_)
   ·have hk':k≤ps.length:=by have:=A0 ht;omega
    obtain ⟨ha,hp⟩:=h1 hk'
    refine k5 (k1 (k2 (k3 (k2 ?_))))
    refine A3 (A2 (A4 Z Z) Z (A2 (D4 Z (.pure _ _ _ _)) Z (A2 (A4 Z Z) Z (A2 (D4 Z (.pure _ _ _ _)) Z (A2 (G6 Z) Z (C1 (G3 15 Z) Z (F6 (B8 TySz.out Z Z Z Z Z Z) (A6 ?_))))))))
    refine J4 ?_
    obtain ⟨x,hx⟩:∃x,x=ps.getD k ⟨l.length,list.length⟩:=⟨_,rfl⟩
    have hstep:(i:Int)≤x.From∧(j:Int)≤x.To∧x.From≤l.length∧x.To≤list.length∧(k < ps.length→x.From < l.length∧x.To < list.length∧Asc l.length list.length (x.From+1) (x.To+1) (ps.drop (k+1))) ∧
      P5 l list (H3 p) i j (ps.drop k)=(l.drop i).take (x.From.toNat - i)++(((list.drop j).take (x.To.toNat - j)).map fun v=>⟨v,H3 p⟩)++(if k < ps.length then (l[x.From.toNat]?.map fun y=>(⟨y.Line,K6 y.Parents (H3 p)⟩:Merged)).toList++P5 l list (H3 p) (x.From.toNat+1) (x.To.toNat+1) (ps.drop (k+1)) else []):=by
     by_cases h:k < ps.length
     ·have hxk:x=ps[k]:=by rw [hx,I00,H97 h];rfl
      rw [I01 h,←hxk] at ha
      obtain ⟨a1,a2,a3⟩:=ha
      have a4:=a3.le
      refine ⟨a1,a2,by omega,by omega,fun _=>⟨by omega,by omega,a3⟩,?_⟩
      rw [I01 h,←hxk,if_pos h];rfl
     ·have hxk:x=⟨l.length,list.length⟩:=by rw [hx,I00,I24 (by omega)];rfl
      rw [hxk,if_neg h,I02 (show ps.length≤k by omega)]
      refine ⟨by simp only;omega,by simp only;omega,Int.le_refl _,Int.le_refl _,fun h'=>absurd h' h,?_⟩
      simp [P5]
    obtain ⟨hx1,hx2,hx3,hx4,hx5,hjg⟩:=hstep
    refine r7 [(0,C0 Merged 2 mergedC l),(1,C0 Int 1 F5 list),(2,B7 p),(10,C0 Span 2 spanC ps),(11,.s (.one (.buf 11 Merged 2 mergedC out))),(12,B7 i),(13,B7 j),(14,B7 k),(15,.s (.one (.ref 15 0)))] [(15,.box [.p (.v (.int .i64 x.From)),.p (.v (.int .i64 x.To))]),(11,.spare out.length 2 169)] ?_ ?_
    ·refine k2 ?_
     refine A3 (A2 (A4 Z Z) Z (A2 (A4 Z Z) Z (A2 (D4 Z (.pure _ _ _ _)) Z (A2 (D8 Z Z) Z (A6 ?_)))))
     refine k1 ?_
     refine B4 rfl (fun ht=>?_) (fun ht=>?_)
     ·have hlt:k < ps.length:=by have:=A0 ht;omega
      have hv:ps[k]?=some ps[k]:=by simp [hlt]
      have:x=ps[k]:=by rw [hx,I00,hv];rfl
      subst this
      skip
      refine A3 (A2 (A4 Z Z) Z (A2 (A4 Z Z) Z (A2 (B0 Z (.pure _ _ _ _) Z (by omega) hv) Z (A2 (E8 Z Z) Z (F6 (B8 TySz.out Z Z Z Z Z Z) (A6 ?_))))))
      refine k1 ?_
      exact H62 ⟨le1 rfl,le1 rfl,le1 rfl,le1 rfl,le1 rfl,le1 rfl,le1 rfl,le1 rfl,le1 rfl,trivial⟩ ⟨rfl,rfl,trivial⟩
     ·have hlt:¬k < ps.length:=by have:=A1 ht;omega
      have:x=⟨l.length,list.length⟩:=by rw [hx,I00,I24 (by omega)];rfl
      subst this
      refine k5 (k1 ?_)
      exact H62 ⟨le1 rfl,le1 rfl,le1 rfl,le1 rfl,le1 rfl,le1 rfl,le1 rfl,le1 rfl,le1 rfl,trivial⟩ ⟨rfl,rfl,trivial⟩
    ·obtain ⟨f,hf⟩:∃f:Nat,x.From=f:=⟨x.From.toNat,by omega⟩
     obtain ⟨g,hg⟩:∃g:Nat,x.To=g:=⟨x.To.toNat,by omega⟩
     rw [hf] at hx1 hx3 hx5 hjg
     rw [hg] at hx2 hx4 hx5 hjg
     simp only [I03] at hjg
     rw [hf,hg]
     refine k2 (k3 ?_)
     refine C9 (X:=Nat) (fun t=>([(0,C0 Merged 2 mergedC l),(1,C0 Int 1 F5 list),(2,B7 p),(10,C0 Span 2 spanC ps),(11,.s (.one (.buf 11 Merged 2 mergedC (out++(l.drop i).take t)))),(12,B7 ((i+t:Nat):Int)),(13,B7 j),(14,B7 k),(15,.s (.one (.ref 15 0)))],[(15,.box [.p (.v (.int .i64 f)),.p (.v (.int .i64 g))]),(11,.spare (out++(l.drop i).take t).length 2 169)]))
      (fun t=>t≤f - i) (fun t=>f - i - t) 0 (Nat.zero_le _) (by rw [List.take_zero,I14];exact H62 ⟨le1 rfl,le1 rfl,le1 rfl,le1 rfl,le1 rfl,le1 rfl,le1 rfl,le1 rfl,le1 rfl,trivial⟩ ⟨rfl,rfl,trivial⟩) ?_
     intro t htl
     dsimp only at htl ⊢
     have hb1:(out++(l.drop i).take t).length≤i+j+t:=by simp;omega
     refine k2 (k2 ?_)
     refine A3 (A2 (A4 Z Z) Z (A2 (A7 Z) Z (A2 (A8 Z Z Z) Z (A2 (D8 Z Z) Z (A6 ?_)))))
     refine k1 ?_
     refine B4 rfl (fun ht=>?_) (fun ht=>?_)
     ·have hlt:i+t < f:=by have:=A0 ht;omega
      have hv:l[i+t]?=some (l[i+t]'(by omega)):=H97 (by omega)
      refine k5 (k1 (k3 (k2 ?_)))
      refine A3 (A2 (A4 Z Z) Z (A2 (A4 Z Z) Z (A2 (A4 Z Z) Z (A2 (B0 Z (.pure _ _ _ _) Z (by omega) hv) Z (A2 (E8 Z Z) Z (A2 (C8 (c:=mergedC) (ys:=[⟨_,_⟩]) (D7 Z Z Z Z E7) Z Z Z) Z (C1 (F3 Z Z Z (.pure _ _ _ _) (by (simp only [H96,H98];omega)) Z) Z (A2 (A5 Z Z) Z (A6 ?_)))))))))
      refine k1 ?_
      refine A3 (A2 (A4 Z Z) Z (A2 (B9 Z Z (by omega)) Z (A2 (A5 Z Z) Z (A6 ?_))))
      refine k4 (k1 ?_)
      refine ⟨t+1,by omega,by omega,?_⟩
      rw [x5 l i t (by omega),←I06]
      exact H62 ⟨le1 rfl,le1 rfl,le1 rfl,le1 rfl,le1 rfl,le1 rfl,le1 rfl,le1 rfl,le1 rfl,trivial⟩ ⟨rfl,rfl,trivial⟩
     ·have hte:i+t=f:=by have:=A1 ht;omega
      rw [hte]
      rw [show t=f - i by omega]
      rw [show t=f - i by omega] at hb1
      obtain ⟨o1,ho1⟩:∃o1,o1=out++(l.drop i).take (f - i):=⟨_,rfl⟩
      rw [←ho1] at hb1 ⊢
      refine k6 (k2 (k3 ?_))
      refine C9 (X:=Nat) (fun t=>([(0,C0 Merged 2 mergedC l),(1,C0 Int 1 F5 list),(2,B7 p),(10,C0 Span 2 spanC ps),(11,.s (.one (.buf 11 Merged 2 mergedC (o1++((list.drop j).take t).map fun v=>⟨v,H3 p⟩)))),(12,B7 f),(13,B7 ((j+t:Nat):Int)),(14,B7 k),(15,.s (.one (.ref 15 0)))],[(15,.box [.p (.v (.int .i64 f)),.p (.v (.int .i64 g))]),(11,.spare (o1++((list.drop j).take t).map fun v=>(⟨v,H3 p⟩:Merged)).length 2 169)]))
       (fun t=>t≤g - j) (fun t=>g - j - t) 0 (Nat.zero_le _) (by rw [List.take_zero,I25,I14];exact H62 ⟨le1 rfl,le1 rfl,le1 rfl,le1 rfl,le1 rfl,le1 rfl,le1 rfl,le1 rfl,le1 rfl,trivial⟩ ⟨rfl,rfl,trivial⟩) ?_
      intro t htl
      dsimp only at htl ⊢
      have hb2:(o1++((list.drop j).take t).map fun v=>(⟨v,H3 p⟩:Merged)).length≤i+j+(f - i)+t:=by simp;omega
      refine k2 (k2 ?_)
      refine A3 (A2 (A4 Z Z) Z (A2 (A7 Z) Z (A2 (A8 Z Z Z) Z (A2 (D8 Z Z) Z (A6 ?_)))))
      refine k1 ?_
      refine B4 rfl (fun ht=>?_) (fun ht=>?_)
      ·have hlt:j+t < g:=by have:=A0 ht;omega
       have hv:list[j+t]?=some (list[j+t]'(by omega)):=H97 (by omega)
       refine k5 (k1 (k3 (k2 ?_)))
       refine A3 (A2 (A4 Z Z) Z (A2 (A4 Z Z) Z (A2 (A4 Z Z) Z (A2 (B0 Z (.pure _ _ _ _) Z (by omega) hv) Z (A2 (B2 Z Z) Z (A2 (A4 Z Z) Z (A2 (M1 Z) Z (A2 (D99 Z Z (by omega)) Z (A2 (G6 Z) Z (A2 (C8 (c:=mergedC) (ys:=[⟨_,_⟩]) (D7 Z Z Z Z E7) Z Z Z) Z (C1 (F3 Z Z Z (.pure _ _ _ _) (by (simp only [H96,H98];omega)) Z) Z (A2 (A5 Z Z) Z (A6 ?_)))))))))))))
       refine k1 ?_
       refine A3 (A2 (A4 Z Z) Z (A2 (B9 Z Z (by omega)) Z (A2 (A5 Z Z) Z (A6 ?_))))
       refine k4 (k1 ?_)
       refine ⟨t+1,by omega,by omega,?_⟩
       rw [x5 list j t (by omega),I09,←I06]
       simp only [I05,I25]
       exact H62 ⟨le1 rfl,le1 rfl,le1 rfl,le1 rfl,le1 rfl,le1 rfl,le1 rfl,le1 rfl,le1 rfl,trivial⟩ ⟨rfl,rfl,trivial⟩
      ·have hte:j+t=g:=by have:=A1 ht;omega
       rw [hte]
       rw [show t=g - j by omega]
       rw [show t=g - j by omega] at hb2
       obtain ⟨o2,ho2⟩:∃o2,o2=o1++((list.drop j).take (g - j)).map fun v=>(⟨v,H3 p⟩:Merged):=⟨_,rfl⟩
       rw [←ho2] at hb2 ⊢
       have hout:out++P5 l list (H3 p) i j (ps.drop k)=o2++(if k < ps.length then (l[f]?.map fun y=>(⟨y.Line,K6 y.Parents (H3 p)⟩:Merged)).toList++P5 l list (H3 p) (f+1) (g+1) (ps.drop (k+1)) else []):=by
        rw [hjg,ho2,ho1];simp only [I06]
       rw [hout] at hp
       refine k6 (k2 ?_)
       refine A3 (A2 (A4 Z Z) Z (A2 (A4 Z Z) Z (A2 (D4 Z (.pure _ _ _ _)) Z (A2 (D8 Z Z) Z (A6 ?_)))))
       refine k1 ?_
       refine B4 rfl (fun ht=>?_) (fun ht=>?_)
       ·have hlt:k < ps.length:=by have:=A0 ht;omega
        obtain ⟨hf1,hg1,hasc'⟩:=hx5 hlt
        have hfl:f < l.length:=by omega
        have hv:l[f]?=some l[f]:=H97 hfl
        rw [if_pos hlt,hv] at hp
        refine k2 ?_
        refine C6 (by kernel_rfl) (by kernel_rfl) (A9 (A4 Z Z) Z Z (A9 (A4 Z Z) Z Z (A9 (A4 Z Z) Z Z (A9 (B0 Z (.pure _ _ _ _) Z (by omega) hv) Z Z (A9 (D6 Z) Z Z (A9 (B2 Z Z) Z Z (A9 (A4 Z Z) Z Z (A9 (A4 Z Z) Z Z (A9 (B0 Z (.pure _ _ _ _) Z (by omega) hv) Z Z (A9 (D6 Z) Z Z (A9 (B2 Z Z) Z Z (A9 (A4 Z Z) Z Z (A9 (M1 Z) Z Z (A9 (D99 Z Z (by omega)) Z Z (A9 (X6 Z Z Z (fun _=>rfl)) Z Z (A9 (G6 Z) Z Z (A9 (C8 (c:=mergedC) (ys:=[⟨l[f].Line,K6 l[f].Parents (H3 p)⟩]) (D7 Z Z Z Z E7) Z Z Z) Z Z (B51 (F3 Z Z Z (.pure _ _ _ _) (by (simp only [H96,H98];omega)) Z) Z Z (A9 (A5 Z Z) Z Z (K0 ?_))))))))))))))))))))
        refine k1 ?_
        refine A3 (A2 (A4 Z Z) Z (A2 (B9 Z Z (by omega)) Z (A2 (A4 Z Z) Z (A2 (B9 Z Z (by omega)) Z (A2 (A5 Z Z) Z (A2 (A5 Z Z) Z (A6 ?_)))))))
        refine k4 (k1 ?_)
        refine A3 (A2 (A4 Z Z) Z (A2 (B9 Z Z (by omega)) Z (A2 (A5 Z Z) Z (A6 ?_))))
        refine k1 ?_
        refine ⟨(k+1,f+1,g+1,o2++[⟨l[f].Line,K6 l[f].Parents (H3 p)⟩]),⟨by dsimp only;omega,by dsimp only;simp only [H95,H96,H98];omega,by dsimp only;omega,by dsimp only;omega,fun _=>⟨hasc',?_⟩,fun h=>?_⟩,by dsimp only;omega,H62 ⟨le1 rfl,le1 rfl,le1 rfl,le1 rfl,le1 rfl,le1 rfl,le1 rfl,le1 rfl,trivial⟩ ⟨rfl,trivial⟩⟩
        ·rw [←hp];simp
        ·dsimp only at h ⊢
         omega
       ·have hlt:¬k < ps.length:=by have:=A1 ht;omega
        rw [if_neg hlt,I14] at hp
        refine k5 (k4 (k1 ?_))
        refine A3 (A2 (A4 Z Z) Z (A2 (B9 Z Z (by omega)) Z (A2 (A5 Z Z) Z (A6 ?_))))
        refine k1 ?_
        exact ⟨(k+1,f,g,o2),⟨by dsimp only;omega,by dsimp only;omega,by dsimp only;omega,by dsimp only;omega,fun h=>by dsimp only at h;omega,fun _=>hp⟩,by dsimp only;omega,H62 ⟨le1 rfl,le1 rfl,le1 rfl,le1 rfl,le1 rfl,le1 rfl,le1 rfl,le1 rfl,trivial⟩ ⟨rfl,trivial⟩⟩
   ·have hk':k=ps.length+1:=by have:=A1 ht;omega
    refine k6 (k2 ?_)
    refine A3 (A2 (A4 Z Z) Z (A2 (A5 Z Z) Z (A2 (A5 Z Z) Z (A6 ?_))))
    refine k1 (k10 ?_)
    exact B5 (A20 rfl rfl rfl rfl rfl) (by rw [h2 hk',hps];rfl)
theorem D81 (l:List Merged) (list:List Int) (p:Int) (h1:l.length≤4096) (h2:list.length≤4096):(S9 l list p).length≤536870912:=by
 have h3:=B46 l list (H3 p) (F1 0 0 (F4 l) list) 0 0
 have h4:=S6 0 0 (F4 l) list
 have h5:(F4 l).length=l.length:=by simp [F4]
 unfold S9
 have h6:l.length*((F1 0 0 (F4 l) list).length+1)≤4096*4097:=Nat.mul_le_mul h1 (by omega)
 have h7:list.length*((F1 0 0 (F4 l) list).length+1)≤4096*4097:=Nat.mul_le_mul h2 (by omega)
 omega
theorem F24 (ls:List (List Int)):FnOk Tryz.prog 108 [pIntss ls] (fun rs=>rs=[pMerged (E9 ls).1,G8 (E9 ls).2]):=by
 refine FnOk.intro Tryz.func108 (by decide) Z Z Z Z ?_
 refine k2 ?_
 refine A3 (A2 (A5 Z Z) Z (A2 (A5 Z Z) Z (A6 ?_)))
 refine k1 (k2 (k2 ?_))
 refine A3 (A2 (A4 Z Z) Z (A2 (D4 Z (.pure _ _ _ _)) Z (A2 (M7 Z Z) Z (A6 ?_))))
 refine k1 ?_
 refine B4 rfl (fun ht=>?_) (fun ht=>?_)
 ·have h:=A0 ht
  refine k2 ?_
  refine A3 (A2 (O4 _ 2 mergedC) Z (A2 (A5 Z Z) Z (A6 ?_)))
  refine k1 (k10 (k11 ?_))
  exact B5 (A20 rfl rfl rfl rfl rfl) (by rw [E9,if_pos (by omega)])
 ·have h:=A1 ht
  have hco:E9 ls=I4 [] 0 ls:=by rw [E9,if_neg (by omega)]
  rw [hco]
  refine k5 (k1 (k2 ?_))
  refine A3 (A2 (O4 _ 2 mergedC) Z (A6 ?_))
  refine k1 (k2 (k2 ?_))
  refine A3 (A2 (A5 Z Z) Z (A6 ?_))
  refine k1 (k3 ?_)
  refine C9 (X:=Nat × List Merged) (fun x=>([(0,C0 (List Int) 1 intsC ls),(4,C0 Merged 2 mergedC x.2),(5,B7 x.1)],[])) (fun x=>x.1≤ls.length∧x.2.length≤536870912∧I4 [] 0 ls=I4 x.2 x.1 (ls.drop x.1)) (fun x=>ls.length - x.1) (0,[]) (by simp) (H62 ⟨le1 rfl,le1 rfl,le1 rfl,trivial⟩ trivial) ?_
  rintro ⟨k,acc⟩ ⟨hk,hacc,hp⟩
  dsimp only at hk hacc hp ⊢
  refine k2 (k2 ?_)
  refine A3 (A2 (A4 Z Z) Z (A2 (A4 Z Z) Z (A2 (D4 Z (.pure _ _ _ _)) Z (A2 (D8 Z Z) Z (A6 ?_)))))
  refine k1 ?_
  refine B4 rfl (fun ht=>?_) (fun ht=>?_)
  ·have hlt:k < ls.length:=by have:=A0 ht;omega
   have hv:ls[k]?=some ls[k]:=by simp [hlt]
   rw [I01 hlt,I4] at hp
   by_cases hbig:4096 < acc.length∨4096 < ls[k].length
   ·rw [if_pos hbig] at hp
    refine k5 (k1 (k2 (k3 (k2 ?_))))
    refine A3 (A2 (A4 Z Z) Z (A2 (A4 Z Z) Z (A2 (A4 Z Z) Z (A2 (B0 Z (.pure _ _ _ _) Z (by omega) hv) Z (A2 (B2 Z Z) Z (A2 (A4 Z Z) Z (C3 ((E16 acc ls[k] k hacc).mono (post':=fun rs=>rs=[pMerged [],G8 1]) (fun rs h=>by rw [if_pos hbig] at h;exact h)) Z Z Z ?_)))))));rintro _ rfl;refine A2 (A4 Z Z) Z (A2 (D5 Z Z) Z (A2 (D5 Z Z) Z (A2 (A5 Z Z) Z (A2 (A5 Z Z) Z (A6 ?_)))))
    refine k1 (k2 (k2 ?_))
    refine A3 (A2 (A4 Z Z) Z (A2 (O3 Z Z) Z (A6 ?_)))
    refine k1 ?_
    refine B4 rfl (fun ht=>?_) (fun ht=>?_)
    ·refine k2 ?_
     refine A3 (A2 (A4 Z Z) Z (A2 (O4 _ 2 mergedC) Z (A2 (A5 Z Z) Z (A6 ?_))))
     refine k1 (k10 (k11 (k12 (k11 (k11 (k12 (k11 ?_)))))))
     exact B5 (A20 rfl rfl rfl rfl rfl) (by rw [hp])
    ·cases A1 ht (by decide)
   ·rw [if_neg hbig] at hp
    have hjl:=D81 acc ls[k] k (by omega) (by omega)
    refine k5 (k1 (k2 (k3 (k2 ?_))))
    refine A3 (A2 (A4 Z Z) Z (A2 (A4 Z Z) Z (A2 (A4 Z Z) Z (A2 (B0 Z (.pure _ _ _ _) Z (by omega) hv) Z (A2 (B2 Z Z) Z (A2 (A4 Z Z) Z (C3 ((E16 acc ls[k] k hacc).mono (post':=fun rs=>rs=[pMerged (S9 acc ls[k] k),G8 0]) (fun rs h=>by rw [if_neg hbig] at h;exact h)) Z Z Z ?_)))))));rintro _ rfl;refine A2 (A4 Z Z) Z (A2 (D5 Z Z) Z (A2 (D5 Z Z) Z (A2 (A5 Z Z) Z (A2 (A5 Z Z) Z (A6 ?_)))))
    refine k1 (k2 (k2 ?_))
    refine A3 (A2 (A4 Z Z) Z (A2 (O3 Z Z) Z (A6 ?_)))
    refine k1 ?_
    refine B4 rfl (fun ht=>?_) (fun ht=>?_)
    ·cases A0 ht rfl
    ·refine k5 (k1 ?_)
     refine A3 (A2 (A4 Z Z) Z (A2 (A5 Z Z) Z (A6 ?_)))
     refine k4 (k1 ?_)
     refine A3 (A2 (A4 Z Z) Z (A2 (B9 Z Z (by omega)) Z (A2 (A5 Z Z) Z (A6 ?_))))
     refine k1 ?_
     exact ⟨(k+1,S9 acc ls[k] k),⟨by dsimp only;omega,hjl,hp⟩,by dsimp only;omega,H62 ⟨le1 rfl,le1 rfl,le1 rfl,trivial⟩ trivial⟩
  ·have hk':k=ls.length:=by have:=A1 ht;omega
   rw [hk',I02 (Nat.le_refl _)] at hp
   refine k6 (k2 ?_)
   refine A3 (A2 (A4 Z Z) Z (A2 (A5 Z Z) Z (A2 (A5 Z Z) Z (A6 ?_))))
   refine k1 (k10 ?_)
   exact B5 (A20 rfl rfl rfl rfl rfl) (by rw [hp];rfl)
theorem u64_in {n:Int} (h:0≤n∧n < 18446744073709551616):IntKind.u64.wrap n=n:=by simp [IntKind.wrap,IntKind.signed,IntKind.bits];omega
def N1 (a n:Int):Int:=IntKind.u64.wrap a % n
theorem Y3 (a:Int) {n:Int} (h:1≤n):0≤N1 a n∧N1 a n < n:=⟨Int.emod_nonneg _ (by omega),Int.emod_lt_of_pos _ (by omega)⟩
theorem C26 (a n:Int) (hn:1≤n) (hn':n≤9223372036854775807):FnOk Tryz.prog 15 [G8 a,G8 n] (fun rs=>rs=[G8 (N1 a n)]):=by
 refine FnOk.intro Tryz.func15 (by decide) Z Z Z Z ?_
 refine k2 ?_
 refine A3 (A2 (A5 Z Z) Z (A6 ?_))
 refine k1 (k2 ?_)
 have h1:IntKind.u64.wrap n=n:=u64_in (by omega)
 refine A3 (A2 (A4 Z Z) Z (A2 (M1 Z) Z (A2 (A4 Z Z) Z (A2 (M1 Z) Z (A2 (A90 Z Z (by (rw [h1];omega))) Z ?_)))));refine A2 (M1 Z) Z (A2 (A5 Z Z) Z (A6 ?_))
 refine k1 (k10 ?_)
 refine B5 (F2 Z Z Z) ?_
 have h2:=B58 a
 have h3:(IntKind.u64.wrap a).tmod n=IntKind.u64.wrap a % n:=Int.tmod_eq_emod_of_nonneg h2
 have h4:=Y3 a hn
 unfold N1 at *
 rw [h1,h3,C47 ⟨by omega,by omega⟩]
def xor64 (a b:Int):Int:=IntKind.u64.wrap ((BitVec.ofInt IntKind.u64.bits a ^^^ BitVec.ofInt IntKind.u64.bits b).toNat:Int)
def shr64 (a n:Int):Int:=a.fdiv (2 ^ (min n.toNat IntKind.u64.bits))
def at0 (k:Int):Int:=IntKind.u64.wrap (IntKind.u64.wrap (k+1)*11400714819323198485)
def at1 (raw:List Int) (k:Int):Int:=if 0 < raw.length then xor64 (at0 k) (IntKind.u64.wrap (raw.getD (k.tmod raw.length).toNat 0)) else at0 k
def at2 (x:Int):Int:=IntKind.u64.wrap (xor64 x (shr64 x 31)*13787848793156543929)
def i6 (raw:List Int) (k:Int):Int:=IntKind.i64.wrap (shr64 (xor64 (at2 (at1 raw k)) (shr64 (at2 (at1 raw k)) 29)) 1)
theorem E17 (raw:List Int) (k:Int) (h0:0≤k) (h1:k≤1099511627776):FnOk Tryz.prog 22 [L8 raw,G8 k] (fun rs=>rs=[G8 (i6 raw k)]):=by
 refine FnOk.intro Tryz.func22 (by decide) Z Z Z Z ?_
 refine y4 (t:=0) rfl (.pure _ _ _ _) fun hlen=>?_
 refine k2 ?_
 refine A3 (A2 (A5 Z Z) Z (A6 ?_))
 refine k1 (k2 ?_)
 refine A3 (A2 (A4 Z Z) Z (A2 (B9 Z Z (by omega)) Z (A2 (M1 Z) Z (A2 (E47 Z Z) Z (A2 (A5 Z Z) Z (A6 ?_))))))
 refine J4 ?_
 refine r7 [(0,C0 Int 1 F5 raw),(1,B7 k),(5,I6 (.int .u64 (at1 raw k)))] [] ?_ ?_
 ·refine k2 ?_
  refine A3 (A2 (A4 Z Z) Z (A2 (D4 Z (.pure _ _ _ _)) Z (A2 (M7 Z Z) Z (A6 ?_))))
  refine k1 ?_
  refine B4 rfl (fun ht=>?_) (fun ht=>?_)
  ·have hpos:0 < raw.length:=by have:=A0 ht;omega
   have hm0:0≤k.tmod raw.length:=Int.tmod_nonneg _ h0
   have hm1:k.tmod raw.length < raw.length:=Int.tmod_lt_of_pos _ (by omega)
   have hv:raw[(k.tmod raw.length).toNat]?=some (raw.getD (k.tmod raw.length).toNat 0):=by
    rw [I00,H97 (by omega)];rfl
   skip
   refine A3 (A2 (A4 Z Z) Z (A2 (A4 Z Z) Z (A2 (A4 Z Z) Z (A2 (A4 Z Z) Z (A2 (D4 Z (.pure _ _ _ _)) Z (A2 (A90 Z Z (by omega)) Z (A2 (B0 Z (.pure _ _ _ _) Z (by omega) hv) Z (A2 (B2 Z Z) Z (A2 (M1 Z) Z (A2 (X6 Z Z Z (fun _=>rfl)) Z (A2 (A5 Z Z) Z (A6 ?_))))))))))))
   refine k1 ?_
   rw [at1,if_pos hpos]
   exact H62 ⟨le1 rfl,le1 rfl,le1 rfl,trivial⟩ trivial
  ·have hpos:¬0 < raw.length:=by have:=A1 ht;omega
   refine k5 (k1 ?_)
   rw [at1,if_neg hpos]
   exact H62 ⟨le1 rfl,le1 rfl,le1 rfl,trivial⟩ trivial
 ·refine k2 ?_
  refine A3 (A2 (A4 Z Z) Z (A2 (A4 Z Z) Z (A2 (A72 Z Z (by omega)) Z (A2 (X6 Z Z Z (fun _=>rfl)) Z (A2 (E47 Z Z) Z (A2 (A5 Z Z) Z (A6 ?_)))))))
  refine k1 (k2 ?_)
  refine A3 (A2 (A4 Z Z) Z (A2 (A4 Z Z) Z (A2 (A72 Z Z (by omega)) Z (A2 (X6 Z Z Z (fun _=>rfl)) Z (A2 (A72 Z Z (by omega)) Z (A2 (M1 Z) Z (A2 (A5 Z Z) Z (A6 ?_))))))))
  refine k1 (k10 ?_)
  exact B5 (F2 rfl rfl rfl) rfl
def lineTab:List Str:=[[97],[98],[99],[97,98],[98,97],[],[97,97],[98,32,97],[120,43,121],[92]]
def l5 (k:Int):Str:=lineTab.getD (N1 k 10).toNat []
theorem F25:∀s∈lineTab,s.length≤3:=by decide
theorem A41 (k:Int):(l5 k).length≤3:=by
 unfold l5
 rw [I00]
 cases h:lineTab[(N1 k 10).toNat]? with
 | none=>simp
 | some s=>exact F25 s (I12 h)
theorem F26 (k:Int):FnOk Tryz.prog 21 [G8 k] (fun rs=>rs=[L4 (l5 k)]):=by
 refine FnOk.intro Tryz.func21 (by decide) Z Z Z Z ?_
 refine k2 ?_
 refine A3 (A2 (A5 Z Z) Z (A6 ?_))
 refine k1 (k2 ?_)
 have hm:=Y3 k (n:=10) (by decide)
 have hv:lineTab[(N1 k 10).toNat]?=some (l5 k):=by
  unfold l5
  rw [I00,H97 (show (N1 k 10).toNat < lineTab.length by simp [lineTab];omega)];rfl
 refine A3 (A2 (C8 (c:=J9) (ys:=lineTab) (D7 Z Z Z Z (D7 Z Z Z Z (D7 Z Z Z Z (D7 Z Z Z Z (D7 Z Z Z Z (D7 Z Z Z Z (D7 Z Z Z Z (D7 Z Z Z Z (D7 Z Z Z Z (D7 Z Z Z Z E7)))))))))) Z Z Z) Z (A2 (A4 Z Z) Z (C3 (C26 k 10 (by decide) (by decide)) Z Z Z ?_)));rintro _ rfl;refine A2 (B0 Z (.pure _ _ _ _) Z (by omega) hv) Z (A2 (B2 Z Z) Z (A2 (A5 Z Z) Z (A6 ?_)))
 refine k1 (k10 ?_)
 exact B5 (F2 rfl rfl rfl) rfl
theorem ids_ok (fs:List (List Str)) (hfs:fs.flatten.length≤536870912) (hf1:fs.length≤536870912):FnOk Tryz.prog 105 [pStrss fs] (fun rs=>rs=[pIntss (fs.map (K3 (E1 fs)))]):=by
 refine FnOk.intro Tryz.func105 (by decide) Z Z Z Z ?_
 refine k2 ?_
 refine A3 (A2 (A5 Z Z) Z (A6 ?_))
 refine k1 (k2 ?_)
 refine A3 (A2 (A4 Z Z) Z (C3 (F23 fs hfs) Z Z Z ?_));rintro _ rfl;refine A2 (A5 Z Z) Z (A6 ?_)
 refine k1 (k2 ?_)
 refine A3 (C1 (S8 4 _ intsC Z) Z (A6 ?_))
 refine k1 (k2 (k2 ?_))
 refine A3 (A2 (A5 Z Z) Z (A6 ?_))
 refine k1 (k3 ?_)
 refine C9 (X:=Nat) (fun f=>([(0,C0 (List Str) 1 strsC fs),(3,C0 Str 1 J9 (E1 fs)),(4,.s (.one (.buf 4 (List Int) 1 intsC ((fs.take f).map (K3 (E1 fs)))))),(5,B7 f)],[(4,.spare ((fs.take f).map (K3 (E1 fs))).length 1 25)])) (fun f=>f≤fs.length) (fun f=>fs.length - f) 0 (by simp) (H62 ⟨le1 rfl,le1 rfl,le1 rfl,le1 rfl,trivial⟩ ⟨rfl,trivial⟩) ?_
 intro f hf
 dsimp only at hf ⊢
 refine k2 (k2 ?_)
 refine A3 (A2 (A4 Z Z) Z (A2 (A4 Z Z) Z (A2 (D4 Z (.pure _ _ _ _)) Z (A2 (D8 Z Z) Z (A6 ?_)))))
 refine k1 ?_
 have hfl:((fs.take f).map (K3 (E1 fs))).length=f:=by simp;omega
 refine B4 rfl (fun ht=>?_) (fun ht=>?_)
 ·have hlt:f < fs.length:=by have:=A0 ht;omega
  have hv:fs[f]?=some fs[f]:=by simp [hlt]
  have hle:=U3 fs (f+1)
  rw [S3 fs f hlt,H95] at hle
  refine k5 (k1 (k2 (k3 (k2 ?_))))
  refine A3 (C1 (w7 16 (c:=F5) (ys:=[]) E7 Z Z Z (by first | rfl | (simp [F9,H0,Ob.free,SV.free,S1.free,TC.free]<;>rfl))) Z ?_);refine A2 (A5 Z Z) Z (A6 ?_)
  refine k1 (k2 (k2 ?_))
  refine A3 (A2 (A5 Z Z) Z (A6 ?_))
  refine k1 (k3 ?_)
  refine C9 (X:=Nat) (fun i=>([(0,C0 (List Str) 1 strsC fs),(3,C0 Str 1 J9 (E1 fs)),(4,.s (.one (.buf 4 (List Int) 1 intsC ((fs.take f).map (K3 (E1 fs)))))),(5,B7 f),(6,.s (.one (.buf 16 Int 1 F5 (K3 (E1 fs) (fs[f].take i))))),(7,B7 i)],[(4,.spare ((fs.take f).map (K3 (E1 fs))).length 1 25),(16,.spare (K3 (E1 fs) (fs[f].take i)).length 1 3)])) (fun i=>i≤fs[f].length) (fun i=>fs[f].length - i) 0 (by simp) (H62 ⟨le1 rfl,le1 rfl,le1 rfl,le1 rfl,le1 rfl,le1 rfl,trivial⟩ ⟨rfl,rfl,trivial⟩) ?_
  intro i hi
  dsimp only at hi ⊢
  have hil:(K3 (E1 fs) (fs[f].take i)).length=i:=by simp [K3];omega
  refine k2 (k2 ?_)
  refine A3 (A2 (A4 Z Z) Z (A2 (A4 Z Z) Z (A2 (A4 Z Z) Z (A2 (B0 Z (.pure _ _ _ _) Z (by omega) hv) Z (A2 (B2 Z Z) Z (A2 (D4 Z (.pure _ _ _ _)) Z (A2 (D8 Z Z) Z (A6 ?_))))))))
  refine k1 ?_
  refine B4 rfl (fun ht=>?_) (fun ht=>?_)
  ·have hlt2:i < fs[f].length:=by have:=A0 ht;omega
   have hvi:fs[f][i]?=some fs[f][i]:=by simp [hlt2]
   have hst:K3 (E1 fs) (fs[f].take (i+1))=K3 (E1 fs) (fs[f].take i)++[H7 (E1 fs) fs[f][i] 0]:=by
    unfold K3;rw [List.take_add_one,hvi,Option.toList_some,I09];rfl
   refine k5 (k1 (k2 (k3 ?_)))
   refine A3 (A2 (A4 Z Z) Z (A2 (A4 Z Z) Z (A2 (A4 Z Z) Z (A2 (A4 Z Z) Z (A2 (B0 Z (.pure _ _ _ _) Z (by omega) hv) Z (A2 (B2 Z Z) Z (A2 (A4 Z Z) Z (A2 (B0 Z (.pure _ _ _ _) Z (by omega) hvi) Z (A2 (B2 Z Z) Z (C3 (F22 _ _) Z Z Z ?_))))))))));rintro _ rfl;refine A2 (C8 (c:=F5) (ys:=[_]) (D7 Z Z Z Z E7) Z Z Z) Z (C1 (F3 Z Z Z (.pure _ _ _ _) (by (simp only [H96,H98];omega)) Z) Z (A2 (A5 Z Z) Z (A6 ?_)))
   refine k4 (k1 ?_)
   refine A3 (A2 (A4 Z Z) Z (A2 (B9 Z Z (by omega)) Z (A2 (A5 Z Z) Z (A6 ?_))))
   refine k1 ?_
   refine ⟨i+1,by omega,by omega,?_⟩
   rw [hst]
   exact H62 ⟨le1 rfl,le1 rfl,le1 rfl,le1 rfl,le1 rfl,le1 rfl,trivial⟩ ⟨rfl,rfl,trivial⟩
  ·have hi':i=fs[f].length:=by have:=A1 ht;omega
   have hst:(fs.take (f+1)).map (K3 (E1 fs))=(fs.take f).map (K3 (E1 fs))++[K3 (E1 fs) (fs[f].take i)]:=by
    rw [List.take_add_one,hv,Option.toList_some,I09,hi',I16];rfl
   refine k6 (k7 (k7 (k8 Z (k1 ?_))))
   refine A3 (A2 (A4 Z Z) Z (A2 (A4 Z Z) Z (A2 (C8 (c:=intsC) (ys:=[_]) (D7 Z Z Z Z E7) Z Z Z) Z (C1 (F3 Z Z Z (.pure _ _ _ _) (by (simp only [H96,H98];omega)) Z) Z (A2 (A5 Z Z) Z (A6 ?_))))))
   refine k4 (k1 ?_)
   refine A3 (A2 (A4 Z Z) Z (A2 (B9 Z Z (by omega)) Z (A2 (A5 Z Z) Z (A6 ?_))))
   refine k1 ?_
   refine ⟨f+1,by omega,by omega,?_⟩
   rw [hst]
   exact H62 ⟨le1 rfl,le1 rfl,le1 rfl,le1 rfl,trivial⟩ ⟨rfl,trivial⟩
 ·have hk':f=fs.length:=by have:=A1 ht;omega
  subst hk'
  refine k6 (k2 ?_)
  refine A3 (A2 (A4 Z Z) Z (A2 (A5 Z Z) Z (A6 ?_)))
  refine k1 (k10 ?_)
  exact B5 (F2 rfl rfl rfl) (by rw [I16])
def R6 (raw:List Int) (from':Int) (kinds:Int) (m:Nat):Str:=((List.range m).map fun (i:Nat)=>l5 (N1 (i6 raw (from'+1+(i:Int))) kinds)++[10]).flatten
def V1 (raw:List Int) (from' n kinds:Int):Str :=
 let s:=R6 raw from' kinds (N1 (i6 raw from') (n+1)).toNat
 if ((i6 raw (from'+90)).tmod 4=0∧(1:Int) < s.length)∧((s.getD (s.length - 2) 0).toNat:Int)≠10 then s.take (s.length - 1) else s
theorem w8 (raw:List Int) (from' kinds:Int) (m:Nat):R6 raw from' kinds (m+1)=R6 raw from' kinds m++l5 (N1 (i6 raw (from'+1+(m:Int))) kinds)++[10]:=by
 unfold R6;rw [I31,I09,I21];simp
theorem B42 (raw:List Int) (from' kinds:Int) (m:Nat):(R6 raw from' kinds m).length≤4*m:=by
 induction m with
 | zero=>simp [R6]
 | succ m ih=>have:=A41 (N1 (i6 raw (from'+1+(m:Int))) kinds);rw [w8];simp only [H95,H96,H98];omega
theorem G57 (raw:List Int) (from' n kinds:Int) (h0:0≤from'∧from'≤1073741824) (h1:0≤n∧n≤1048576) (h2:1≤kinds∧kinds≤1048576) :
  FnOk Tryz.prog 55 [L8 raw,G8 from',G8 n,G8 kinds] (fun rs=>rs=[L4 (V1 raw from' n kinds)]):=by
 obtain ⟨m,hm⟩:∃m:Nat,N1 (i6 raw from') (n+1)=m:=⟨(N1 (i6 raw from') (n+1)).toNat,by have:=Y3 (i6 raw from') (n:=n+1) (by omega);omega⟩
 have hmi:=Y3 (i6 raw from') (n:=n+1) (by omega)
 have hml:m≤1048576:=by omega
 refine FnOk.intro Tryz.func55 (by decide) Z Z Z Z ?_
 refine k2 ?_
 refine A3 (A2 (A5 Z Z) Z (A6 ?_))
 refine k1 (k2 ?_)
 refine A3 (A2 (A4 Z Z) Z (A2 (A4 Z Z) Z (C3 (E17 raw from' (by omega) (by omega)) Z Z Z ?_)));rintro _ rfl;refine A2 (A4 Z Z) Z (A2 (B9 Z Z (by omega)) Z (C3 (C26 _ (n+1) (by omega) (by omega)) Z Z Z ?_));rintro _ rfl;refine A2 (A5 Z Z) Z (A6 ?_)
 refine k1 (k2 ?_)
 rw [hm]
 refine A3 (A2 (A5 Z Z) Z (A6 ?_))
 refine k1 (k2 (k2 ?_))
 refine A3 (A2 (A5 Z Z) Z (A6 ?_))
 refine k1 (k3 ?_)
 refine C9 (X:=Nat) (fun i=>([(0,C0 Int 1 F5 raw),(1,B7 from'),(2,B7 m),(3,B7 kinds),(9,R3 (R6 raw from' kinds i)),(10,B7 i)],[])) (fun i=>i≤m) (fun i=>m - i) 0 (Nat.zero_le _) (H62 ⟨le1 rfl,le1 rfl,le1 rfl,le1 rfl,le1 rfl,le1 rfl,trivial⟩ trivial) ?_
 intro i hi
 dsimp only at hi ⊢
 have hbl:=B42 raw from' kinds i
 refine k2 (k2 ?_)
 refine A3 (A2 (A4 Z Z) Z (A2 (A4 Z Z) Z (A2 (D8 Z Z) Z (A6 ?_))))
 refine k1 ?_
 refine B4 rfl (fun ht=>?_) (fun ht=>?_)
 ·have hlt:i < m:=by have:=A0 ht;omega
  have hll:=A41 (N1 (i6 raw (from'+1+(i:Int))) kinds)
  refine k5 (k1 (k2 (k3 ?_)))
  refine A3 (A2 (A4 Z Z) Z (A2 (A4 Z Z) Z (A2 (A4 Z Z) Z (A2 (B9 Z Z (by omega)) Z (A2 (A4 Z Z) Z (A2 (B9 Z Z (by omega)) Z (C3 (E17 raw _ (by omega) (by omega)) Z Z Z ?_)))))));rintro _ rfl;refine A2 (A4 Z Z) Z (C3 (C26 _ kinds (by omega) (by omega)) Z Z Z ?_);rintro _ rfl;refine C3 (F26 _) Z Z Z ?_;rintro _ rfl;refine A2 (F0 Z Z (by omega)) Z (A2 (F0 Z Z (by (simp only [H95,H96,H98];omega))) Z (A2 (A5 Z Z) Z (A6 ?_)))
  refine k4 (k1 ?_)
  refine A3 (A2 (A4 Z Z) Z (A2 (B9 Z Z (by omega)) Z (A2 (A5 Z Z) Z (A6 ?_))))
  refine k1 ?_
  refine ⟨i+1,by omega,by omega,?_⟩
  rw [w8]
  exact H62 ⟨le1 rfl,le1 rfl,le1 rfl,le1 rfl,le1 rfl,le1 rfl,trivial⟩ trivial
 ·have hi':i=m:=by have:=A1 ht;omega
  subst hi'
  obtain ⟨s,hs⟩:∃s,s=R6 raw from' kinds i:=⟨_,rfl⟩
  have hv:(1:Int) < s.length→s[((s.length:Int) - 2).toNat]?=some (s.getD (s.length - 2) 0):=fun h=>by
   rw [show ((s.length:Int) - 2).toNat=s.length - 2 by omega,I00,H97 (by omega)];rfl
  have hbo:V1 raw from' n kinds=if ((i6 raw (from'+90)).tmod 4=0∧(1:Int) < s.length)∧((s.getD (s.length - 2) 0).toNat:Int)≠10 then s.take (s.length - 1) else s:=by
   simp only [V1,hm,I03,←hs]
  rw [←hs] at hbl
  refine k6 (k2 (k2 ?_))
  rw [←hs]
  refine A3 (A2 (A4 Z Z) Z (A2 (A4 Z Z) Z (A2 (B9 Z Z (by omega)) Z (C3 (E17 raw _ (by omega) (by omega)) Z Z Z ?_))));rintro _ rfl;refine A2 (A90 Z Z (by omega)) Z (A2 (K1 Z Z) Z (A2 (A4 Z Z) Z (B1 Z Z Z Z (fun hg=>by rw [hg];exact A4 Z Z) ?_)));refine B1 Z Z Z Z (fun hg=>by rw [hg];exact L0 Z) ?_;refine B1 Z Z Z Z (fun hg=>by rw [hg];exact M7 Z Z) ?_;refine A2 (B6 Z (fun h=>by first | rfl | (rw [h];rfl)) (fun h=>by first | rfl | (rw [h];rfl))) Z ?_;refine A2 (A4 Z Z) Z (B1 Z Z Z Z (fun hg=>by rw [hg];exact A4 Z Z) ?_);refine B1 Z Z Z Z (fun hg=>by rw [hg];exact A4 Z Z) ?_;refine B1 Z Z Z Z (fun hg=>by rw [hg];exact L0 Z) ?_;refine B1 Z Z Z Z (fun hg=>by have hq:=hg;(try simp at hq);rw [hg];exact V8 Z Z (by omega)) ?_;refine B1 Z Z Z Z (fun hg=>by have hq:=hg;(try simp at hq);rw [hg];exact Z9 Z Z (by omega) (hv (by omega))) ?_;refine B1 Z Z Z Z (fun hg=>by rw [hg];exact O3 Z Z) ?_;refine A2 (B6 Z (fun h=>by first | rfl | (rw [h];rfl)) (fun h=>by first | rfl | (rw [h];rfl))) Z ?_;refine A6 ?_
  refine k1 ?_
  refine B4 rfl (fun ht=>?_) (fun ht=>?_)
  ·simp only [O0] at ht
   have h:=A0 ht
   skip
   refine A3 (A2 (A4 Z Z) Z (A2 (A4 Z Z) Z (A2 (L0 Z) Z (A2 (V8 Z Z (by omega)) Z (A2 (G49 Z Z (by omega) (by omega)) Z (A2 (A5 Z Z) Z (A6 ?_)))))))
   refine k1 (k2 ?_)
   refine A3 (A2 (A4 Z Z) Z (A2 (A5 Z Z) Z (A6 ?_)))
   refine k1 (k10 ?_)
   exact B5 (F2 rfl rfl rfl) (by rw [hbo,if_pos h,show ((s.length:Int) - 1).toNat=s.length - 1 by omega])
  ·simp only [O0] at ht
   have h:=A1 ht
   refine k5 (k1 (k2 ?_))
   refine A3 (A2 (A4 Z Z) Z (A2 (A5 Z Z) Z (A6 ?_)))
   refine k1 (k10 ?_)
   exact B5 (F2 rfl rfl rfl) (by rw [hbo,if_neg h])
theorem B59 (raw:List Int) (from' n kinds:Int) (h1:0≤n):((V1 raw from' n kinds).length:Int)≤4*n:=by
 have h:=Y3 (i6 raw from') (n:=n+1) (by omega)
 have h2:=B42 raw from' kinds (N1 (i6 raw from') (n+1)).toNat
 unfold V1
 simp only
 split
 ·simp only [I13];omega
 ·omega
def i7 (raw:List Int) (from':Int) (i:Nat) (s:Str):List Str→Str
 | []=>s
 | x::r=>if (i6 raw (from'+(i:Int))).tmod 6=0 then i7 raw from' (i+1) s r
  else if (i6 raw (from'+(i:Int))).tmod 6=1 then i7 raw from' (i+1) (s++l5 (i6 raw (from'+40+(i:Int)))++[10]++x) r
  else i7 raw from' (i+1) (s++x) r
def B60 (blob:Str) (raw:List Int) (from':Int):Str:=i7 raw from' 0 [] (C4 blob)
theorem A42 (raw:List Int) (from':Int):∀(l:List Str) (i:Nat) (s:Str),(i7 raw from' i s l).length≤s.length+l.flatten.length+4*l.length
 | [],i,s=>by simp [i7]
 | x::r,i,s=>by
  have h1:=A42 raw from' r (i+1) s
  have h2:=A42 raw from' r (i+1) (s++l5 (i6 raw (from'+40+(i:Int)))++[10]++x)
  have h3:=A42 raw from' r (i+1) (s++x)
  have h4:=A41 (i6 raw (from'+40+(i:Int)))
  simp only [H95,H96,H98,I11] at *
  unfold i7
  split
  ·omega
  ·split<;>omega
theorem C27 (s cur:Str):(H8 cur s).flatten=cur++s:=by
 induction s generalizing cur with
 | nil=>unfold H8;split<;>simp [*]
 | cons c r ih=>unfold H8;split<;>simp [ih]
theorem U2 (s:Str):(C4 s).flatten=s:=C27 s []
theorem near_ok (blob:Str) (raw:List Int) (from':Int) (hb:blob.length≤16777216) (h0:0≤from'∧from'≤1073741824) :
  FnOk Tryz.prog 23 [L4 blob,L8 raw,G8 from'] (fun rs=>rs=[L4 (B60 blob raw from')]):=by
 have hll:=Q5 blob
 have hlf:=U2 blob
 have hlf':(C4 blob).flatten.length=blob.length:=by rw [hlf]
 refine FnOk.intro Tryz.func23 (by decide) Z Z Z Z ?_
 refine k2 ?_
 refine A3 (A2 (A5 Z Z) Z (A6 ?_))
 refine k1 (k2 ?_)
 refine A3 (A2 (A4 Z Z) Z (C3 (B92 blob (by omega)) Z Z Z ?_));rintro _ rfl;refine A2 (A5 Z Z) Z (A6 ?_)
 refine k1 (k2 ?_)
 obtain ⟨l,hl⟩:∃l,l=C4 blob:=⟨_,rfl⟩
 have hno:B60 blob raw from'=i7 raw from' 0 [] l:=by rw [B60,hl]
 rw [←hl] at hll hlf' ⊢
 refine A3 (A2 (A5 Z Z) Z (A6 ?_))
 refine k1 (k2 (k2 ?_))
 refine A3 (A2 (A5 Z Z) Z (A6 ?_))
 refine k1 (k3 ?_)
 refine C9 (X:=Nat × Str) (fun x=>([(1,C0 Int 1 F5 raw),(2,B7 from'),(7,C0 Str 1 J9 l),(8,R3 x.2),(9,B7 x.1)],[])) (fun x=>x.1≤l.length∧x.2.length≤(l.take x.1).flatten.length+4*x.1∧i7 raw from' x.1 x.2 (l.drop x.1)=i7 raw from' 0 [] l) (fun x=>l.length - x.1) (0,[]) (by simp) (H62 ⟨le1 rfl,le1 rfl,le1 rfl,le1 rfl,le1 rfl,trivial⟩ trivial) ?_
 rintro ⟨i,s⟩ ⟨hi,hs,hp⟩
 dsimp only at hi hs hp ⊢
 have hle:=U3 l i
 refine k2 (k2 ?_)
 refine A3 (A2 (A4 Z Z) Z (A2 (A4 Z Z) Z (A2 (D4 Z (.pure _ _ _ _)) Z (A2 (D8 Z Z) Z (A6 ?_)))))
 refine k1 ?_
 refine B4 rfl (fun ht=>?_) (fun ht=>?_)
 ·have hlt:i < l.length:=by have:=A0 ht;omega
  have hv:l[i]?=some l[i]:=by simp [hlt]
  have hle2:=U3 l (i+1)
  have hst:=S3 l i hlt
  rw [hst,H95] at hle2
  rw [I01 hlt,i7] at hp
  refine k5 (k1 (k2 (k3 (k2 (k2 ?_)))))
  refine A3 (A2 (A4 Z Z) Z (A2 (A4 Z Z) Z (A2 (A4 Z Z) Z (A2 (B9 Z Z (by omega)) Z (C3 (E17 raw _ (by omega) (by omega)) Z Z Z ?_)))));rintro _ rfl;refine A2 (A90 Z Z (by omega)) Z (A6 ?_)
  refine k1 (k3 (k2 ?_))
  refine A3 (A2 (K1 Z Z) Z (A2 (A5 Z Z) Z (A6 ?_)))
  refine k1 ?_
  refine B4 rfl (fun ht=>?_) (fun ht=>?_)
  ·rw [if_pos (A0 ht)] at hp
   refine k6 (k9 Z (k7 (k8 Z (k1 ?_))))
   refine A3 (A2 (A4 Z Z) Z (A2 (B9 Z Z (by omega)) Z (A2 (A5 Z Z) Z (A6 ?_))))
   refine k1 ?_
   exact ⟨(i+1,s),⟨by dsimp only;omega,by dsimp only;rw [hst,H95];omega,hp⟩,by dsimp only;omega,H62 ⟨le1 rfl,le1 rfl,le1 rfl,le1 rfl,le1 rfl,trivial⟩ trivial⟩
  ·rw [if_neg (A1 ht)] at hp
   refine k2 ?_
   refine A3 (A2 (K1 Z Z) Z (A2 (A5 Z Z) Z (A6 ?_)))
   refine k1 ?_
   refine B4 rfl (fun ht=>?_) (fun ht=>?_)
   ·rw [if_pos (A0 ht)] at hp
    have h4:=A41 (i6 raw (from'+40+(i:Int)))
    skip
    refine A3 (A2 (A4 Z Z) Z (A2 (A4 Z Z) Z (A2 (A4 Z Z) Z (A2 (B9 Z Z (by omega)) Z (A2 (A4 Z Z) Z (A2 (B9 Z Z (by omega)) Z (C3 (E17 raw _ (by omega) (by omega)) Z Z Z ?_)))))));rintro _ rfl;refine C3 (F26 _) Z Z Z ?_;rintro _ rfl;refine A2 (F0 Z Z (by omega)) Z (A2 (F0 Z Z (by (simp only [H95,H96,H98];omega))) Z (A2 (A5 Z Z) Z (A6 ?_)))
    refine k4 (k1 ?_)
    refine A3 (A2 (A4 Z Z) Z (A2 (A4 Z Z) Z (A2 (A4 Z Z) Z (A2 (B0 Z (.pure _ _ _ _) Z (by omega) hv) Z (A2 (B2 Z Z) Z (A2 (F0 Z Z (by (simp only [H95,H96,H98];omega))) Z (A2 (A5 Z Z) Z (A6 ?_))))))))
    refine k4 (k1 ?_)
    refine A3 (A2 (A4 Z Z) Z (A2 (B9 Z Z (by omega)) Z (A2 (A5 Z Z) Z (A6 ?_))))
    refine k1 ?_
    exact ⟨(i+1,s++l5 (i6 raw (from'+40+(i:Int)))++[10]++l[i]),⟨by dsimp only;omega,by dsimp only;rw [hst];simp only [H95,H96,H98];omega,hp⟩,by dsimp only;omega,H62 ⟨le1 rfl,le1 rfl,le1 rfl,le1 rfl,le1 rfl,trivial⟩ trivial⟩
   ·rw [if_neg (A1 ht)] at hp
    refine k5 (k4 (k1 ?_))
    refine A3 (A2 (A4 Z Z) Z (A2 (A4 Z Z) Z (A2 (A4 Z Z) Z (A2 (B0 Z (.pure _ _ _ _) Z (by omega) hv) Z (A2 (B2 Z Z) Z (A2 (F0 Z Z (by omega)) Z (A2 (A5 Z Z) Z (A6 ?_))))))))
    refine k4 (k1 ?_)
    refine A3 (A2 (A4 Z Z) Z (A2 (B9 Z Z (by omega)) Z (A2 (A5 Z Z) Z (A6 ?_))))
    refine k1 ?_
    exact ⟨(i+1,s++l[i]),⟨by dsimp only;omega,by dsimp only;rw [hst,H95,H95];omega,hp⟩,by dsimp only;omega,H62 ⟨le1 rfl,le1 rfl,le1 rfl,le1 rfl,le1 rfl,trivial⟩ trivial⟩
 ·have hi':i=l.length:=by have:=A1 ht;omega
  rw [hi',I02 (Nat.le_refl _)] at hp
  refine k6 (k2 ?_)
  refine A3 (A2 (A4 Z Z) Z (A2 (A5 Z Z) Z (A6 ?_)))
  refine k1 (k10 ?_)
  exact B5 (F2 rfl rfl rfl) (by rw [hno,←hp];rfl)
def l6 (raw:List Int) (lines:Int) (p:Nat):Str :=
 if (i6 raw (500+(p:Int))).tmod 5=0 then V1 raw (600+50*(p:Int)) lines 4 else if (i6 raw (500+(p:Int))).tmod 5=1 then V1 raw 0 lines 5 else B60 (V1 raw 0 lines 5) raw (600+50*(p:Int))
def W7 (raw:List Int) (n:Nat) (lines:Int):List Str:=(List.range n).map (l6 raw lines)
theorem D25 (raw:List Int) (lines:Int) (p:Nat) (h:0≤lines):((l6 raw lines p).length:Int)≤20*lines:=by
 have h1:=B59 raw (600+50*(p:Int)) lines 4 h
 have h2:=B59 raw 0 lines 5 h
 have h3:=A42 raw (600+50*(p:Int)) (C4 (V1 raw 0 lines 5)) 0 []
 have h4:=Q5 (V1 raw 0 lines 5)
 rw [U2] at h3
 simp only [H98] at h3
 unfold l6 B60
 split
 ·omega
 ·split<;>omega
theorem H39 (raw:List Int) (n:Nat) (lines:Int) (h1:n≤1024) (h2:0≤lines∧lines≤524288):FnOk Tryz.prog 44 [L8 raw,G8 n,G8 lines] (fun rs=>rs=[t6 (W7 raw n lines)]):=by
 have hfl:=B59 raw 0 lines 5 h2.1
 refine FnOk.intro Tryz.func44 (by decide) Z Z Z Z ?_
 refine k2 ?_
 refine A3 (A2 (A5 Z Z) Z (A6 ?_))
 refine k1 (k2 ?_)
 refine A3 (A2 (A4 Z Z) Z (A2 (A4 Z Z) Z (C3 (G57 raw 0 lines 5 (by omega) (by omega) (by omega)) Z Z Z ?_)));rintro _ rfl;refine A2 (A5 Z Z) Z (A6 ?_)
 refine k1 (k2 ?_)
 refine A3 (C1 (w7 13 (c:=J9) (ys:=[]) E7 Z Z Z (by first | rfl | (simp [F9,H0,Ob.free,SV.free,S1.free,TC.free]<;>rfl))) Z ?_);refine A2 (A5 Z Z) Z (A6 ?_)
 refine k1 (k2 (k2 ?_))
 refine A3 (A2 (A5 Z Z) Z (A6 ?_))
 refine k1 (k3 ?_)
 refine C9 (X:=Nat) (fun p=>([(0,C0 Int 1 F5 raw),(1,B7 n),(2,B7 lines),(7,R3 (V1 raw 0 lines 5)),(8,.s (.one (.buf 13 Str 1 J9 (W7 raw p lines)))),(9,B7 p)],[(13,.spare (W7 raw p lines).length 1 9)])) (fun p=>p≤n) (fun p=>n - p) 0 (Nat.zero_le _) (H62 ⟨le1 rfl,le1 rfl,le1 rfl,le1 rfl,le1 rfl,le1 rfl,trivial⟩ ⟨rfl,trivial⟩) ?_
 intro p hp
 dsimp only at hp ⊢
 have hst:W7 raw (p+1) lines=W7 raw p lines++[l6 raw lines p]:=by unfold W7;rw [I31,I09];rfl
 have hbl:(W7 raw p lines).length=p:=by simp [W7]
 refine k2 (k2 ?_)
 refine A3 (A2 (A4 Z Z) Z (A2 (A4 Z Z) Z (A2 (D8 Z Z) Z (A6 ?_))))
 refine k1 ?_
 refine B4 rfl (fun ht=>?_) (fun ht=>?_)
 ·have hlt:p < n:=by have:=A0 ht;omega
  refine k5 (k1 (k2 (k3 (k2 ?_))))
  refine A3 (A2 (A4 Z Z) Z (A2 (A4 Z Z) Z (A2 (B9 Z Z (by omega)) Z (C3 (E17 raw _ (by omega) (by omega)) Z Z Z ?_))));rintro _ rfl;refine A2 (A90 Z Z (by omega)) Z (A6 ?_)
  refine k1 (k3 (k2 ?_))
  refine A3 (A2 (K1 Z Z) Z (A2 (A5 Z Z) Z (A6 ?_)))
  refine k1 ?_
  refine B4 rfl (fun ht=>?_) (fun ht=>?_)
  ·have hb:l6 raw lines p=V1 raw (600+50*(p:Int)) lines 4:=by rw [l6,if_pos (A0 ht)]
   skip
   refine A3 (A2 (A4 Z Z) Z (A2 (A4 Z Z) Z (A2 (A4 Z Z) Z (A2 (B72 Z Z (by omega)) Z (A2 (B9 Z Z (by omega)) Z (A2 (A4 Z Z) Z (C3 (G57 raw _ lines 4 (by omega) (by omega) (by omega)) Z Z Z ?_)))))));rintro _ rfl;refine A2 (C8 (c:=J9) (ys:=[_]) (D7 Z Z Z Z E7) Z Z Z) Z (C1 (F3 Z Z Z (.pure _ _ _ _) (by (simp only [H96,H98];omega)) Z) Z (A2 (A5 Z Z) Z (A6 ?_)))
   refine k4 (k4 (k1 ?_))
   refine A3 (A2 (A4 Z Z) Z (A2 (B9 Z Z (by omega)) Z (A2 (A5 Z Z) Z (A6 ?_))))
   refine k1 ?_
   refine ⟨p+1,by omega,by omega,?_⟩
   rw [hst,hb]
   exact H62 ⟨le1 rfl,le1 rfl,le1 rfl,le1 rfl,le1 rfl,le1 rfl,trivial⟩ ⟨rfl,trivial⟩
  ·have h5:=A1 ht
   refine k2 ?_
   refine A3 (A2 (K1 Z Z) Z (A2 (A5 Z Z) Z (A6 ?_)))
   refine k1 ?_
   refine B4 rfl (fun ht=>?_) (fun ht=>?_)
   ·have hb:l6 raw lines p=V1 raw 0 lines 5:=by rw [l6,if_neg h5,if_pos (A0 ht)]
    skip
    refine A3 (A2 (A4 Z Z) Z (A2 (A4 Z Z) Z (A2 (C8 (c:=J9) (ys:=[_]) (D7 Z Z Z Z E7) Z Z Z) Z (C1 (F3 Z Z Z (.pure _ _ _ _) (by (simp only [H96,H98];omega)) Z) Z (A2 (A5 Z Z) Z (A6 ?_))))))
    refine k4 (k4 (k1 ?_))
    refine A3 (A2 (A4 Z Z) Z (A2 (B9 Z Z (by omega)) Z (A2 (A5 Z Z) Z (A6 ?_))))
    refine k1 ?_
    refine ⟨p+1,by omega,by omega,?_⟩
    rw [hst,hb]
    exact H62 ⟨le1 rfl,le1 rfl,le1 rfl,le1 rfl,le1 rfl,le1 rfl,trivial⟩ ⟨rfl,trivial⟩
   ·have hb:l6 raw lines p=B60 (V1 raw 0 lines 5) raw (600+50*(p:Int)):=by rw [l6,if_neg h5,if_neg (A1 ht)]
    skip
    refine A3 (A2 (A4 Z Z) Z (A2 (A4 Z Z) Z (A2 (A4 Z Z) Z (A2 (A4 Z Z) Z (A2 (B72 Z Z (by omega)) Z (A2 (B9 Z Z (by omega)) Z (C3 (near_ok _ raw _ (by omega) (by omega)) Z Z Z ?_)))))));rintro _ rfl;refine A2 (C8 (c:=J9) (ys:=[_]) (D7 Z Z Z Z E7) Z Z Z) Z (C1 (F3 Z Z Z (.pure _ _ _ _) (by (simp only [H96,H98];omega)) Z) Z (A2 (A5 Z Z) Z (A6 ?_)))
    refine k4 (k4 (k1 ?_))
    refine A3 (A2 (A4 Z Z) Z (A2 (B9 Z Z (by omega)) Z (A2 (A5 Z Z) Z (A6 ?_))))
    refine k1 ?_
    refine ⟨p+1,by omega,by omega,?_⟩
    rw [hst,hb]
    exact H62 ⟨le1 rfl,le1 rfl,le1 rfl,le1 rfl,le1 rfl,le1 rfl,trivial⟩ ⟨rfl,trivial⟩
 ·have hp':p=n:=by have:=A1 ht;omega
  refine k6 (k2 ?_)
  refine A3 (A2 (A4 Z Z) Z (A2 (A5 Z Z) Z (A6 ?_)))
  refine k1 (k10 ?_)
  exact B5 (F2 rfl rfl rfl) (by rw [hp'])
theorem E62 (r:Row) (c:Int) (hr:0≤r.Marks∧r.Marks < 4294967296):FnOk Tryz.prog 189 [pRow r,G8 c] (fun rs=>rs=[J5 (Z4 r c)]):=by
 refine FnOk.intro Tryz.func189 (by decide) Z Z Z Z ?_
 refine k2 ?_
 refine A3 (C1 (Q4 2 Z Z Z) Z (A2 (A5 Z Z) Z (A6 ?_)))
 refine k1 (k2 (k3 (k2 ?_)))
 refine A3 (A2 (A4 Z Z) Z (A2 (K1 Z Z) Z (A2 (A5 Z Z) Z (A6 ?_))))
 refine k1 ?_
 refine B4 rfl (fun ht=>?_) (fun ht=>?_)
 ·have h:=A0 ht
  refine k2 ?_
  refine A3 (A2 (A7 Z) Z (A2 (A8 Z Z Z) Z (A2 (K9 Z) Z (A2 (A5 Z Z) Z (A6 ?_)))))
  refine k1 (k10 (k12 (k11 ?_)))
  exact B5 (F2 rfl rfl rfl) (by rw [Z4,if_pos h])
 ·have h:=A1 ht
  refine k2 ?_
  refine A3 (A2 (A4 Z Z) Z (A2 (D8 Z Z) Z (A2 (A4 Z Z) Z (B1 Z Z Z Z (fun hg=>by rw [hg];exact A4 Z Z) ?_))));refine B1 Z Z Z Z (fun hg=>by rw [hg];exact A18 Z Z) ?_;refine A2 (B6 Z (fun h=>by first | rfl | (rw [h];rfl)) (fun h=>by first | rfl | (rw [h];rfl))) Z ?_;refine A2 (A5 Z Z) Z (A6 ?_)
  refine k1 ?_
  refine B4 rfl (fun ht=>?_) (fun ht=>?_)
  ·have h2:=A0 (or_pick.symm.trans ht)
   refine k2 ?_
   refine A3 (A2 (A5 Z Z) Z (A6 ?_))
   refine k1 (k10 (k12 (k11 ?_)))
   exact B5 (F2 rfl rfl rfl) (by rw [Z4,if_neg h,if_pos h2])
  ·have h2:=A1 (or_pick.symm.trans ht)
   have hc:0≤c∧c < 32:=by omega
   refine k5 (k2 ?_)
   refine A3 (A2 (A7 Z) Z (A2 (A8 Z Z Z) Z (A2 (A4 Z Z) Z (A2 (M1 Z) Z (A2 (A72 Z Z (by (rw [A51 (by omega)];omega))) Z ?_)))));refine A2 (X6 Z Z Z (fun _=>rfl)) Z (A2 (K1 Z Z) Z (A2 (A7 Z) Z (A2 (A8 Z Z Z) Z (A2 (G48 Z Z TyBool.out) Z (A2 (A5 Z Z) Z (A6 ?_))))))
   refine k1 (k10 ?_)
   refine B5 (F2 Z Z Z) ?_
   have h3:0≤r.Marks / 2 ^ c.toNat:=Int.ediv_nonneg hr.1 (Int.pow_nonneg (by decide))
   have h4:r.Marks / 2 ^ c.toNat≤r.Marks:=Int.ediv_le_self _ hr.1
   rw [Z4,if_neg h,if_neg h2,A51 (by omega),E28 r.Marks c (by omega),C00 _ (by omega)]
   rfl
theorem y9 (rows:List Row) (c:Int) (hr:I7 rows) (hl:rows.length≤536870911):FnOk Tryz.prog 116 [pRows rows,G8 c] (fun rs=>rs=[t6 (O1 rows c)]):=by
 refine FnOk.intro Tryz.func116 (by decide) Z Z Z Z ?_
 refine k2 ?_
 refine A3 (A2 (A5 Z Z) Z (A6 ?_))
 refine k1 (k2 ?_)
 refine A3 (C1 (S8 5 _ J9 Z) Z (A6 ?_))
 refine k1 (k2 (k2 ?_))
 refine A3 (A2 (A5 Z Z) Z (A6 ?_))
 refine k1 (k3 ?_)
 refine C9 (X:=Nat) (fun i=>([(0,C0 Row 3 rowC rows),(1,B7 c),(5,.s (.one (.buf 5 Str 1 J9 (O1 (rows.take i) c)))),(6,B7 i)],[(5,.spare (O1 (rows.take i) c).length 1 9)])) (fun i=>i≤rows.length) (fun i=>rows.length - i) 0 (Nat.zero_le _) (H62 ⟨le1 rfl,le1 rfl,le1 rfl,le1 rfl,trivial⟩ ⟨rfl,trivial⟩) ?_
 intro i hi
 dsimp only at hi ⊢
 have hcl:=B28 (rows.take i) c
 rw [I13] at hcl
 refine k2 (k2 ?_)
 refine A3 (A2 (A4 Z Z) Z (A2 (A4 Z Z) Z (A2 (D4 Z (.pure _ _ _ _)) Z (A2 (D8 Z Z) Z (A6 ?_)))))
 refine k1 ?_
 refine B4 rfl (fun ht=>?_) (fun ht=>?_)
 ·have hlt:i < rows.length:=by have:=A0 ht;omega
  have hv:rows[i]?=some rows[i]:=by simp [hlt]
  have hst:O1 (rows.take (i+1)) c=O1 (rows.take i) c++(if Z4 rows[i] c=true then [rows[i].Text] else []):=by
   unfold O1
   rw [List.take_add_one,hv,Option.toList_some,List.filter_append,I09]
   congr 1
   by_cases h:Z4 rows[i] c=true<;>simp [h]
  refine k5 (k1 (k2 (k3 (k2 ?_))))
  refine A3 (A2 (A4 Z Z) Z (A2 (A4 Z Z) Z (A2 (B0 Z (.pure _ _ _ _) Z (by omega) hv) Z (A2 (E8 Z Z) Z (A2 (A4 Z Z) Z (C3 (E62 rows[i] c (hr _ (I07 hlt))) Z Z Z ?_))))));rintro _ rfl;refine A6 ?_
  refine k1 ?_
  refine B4 rfl (fun ht=>?_) (fun ht=>?_)
  ·rw [ht,if_pos rfl] at hst
   skip
   refine A3 (A2 (A4 Z Z) Z (A2 (A4 Z Z) Z (A2 (A4 Z Z) Z (A2 (B0 Z (.pure _ _ _ _) Z (by omega) hv) Z (A2 (D6 Z) Z (A2 (B2 Z Z) Z (A2 (C8 (c:=J9) (ys:=[_]) (D7 Z Z Z Z E7) Z Z Z) Z (C1 (F3 Z Z Z (.pure _ _ _ _) (by (simp only [H96,H98];omega)) Z) Z (A2 (A5 Z Z) Z (A6 ?_))))))))))
   refine k4 (k1 ?_)
   refine A3 (A2 (A4 Z Z) Z (A2 (B9 Z Z (by omega)) Z (A2 (A5 Z Z) Z (A6 ?_))))
   refine k1 ?_
   refine ⟨i+1,by omega,by omega,?_⟩
   rw [hst]
   exact H62 ⟨le1 rfl,le1 rfl,le1 rfl,le1 rfl,trivial⟩ ⟨rfl,trivial⟩
  ·rw [ht,if_neg (by decide),I14] at hst
   refine k5 (k4 (k1 ?_))
   refine A3 (A2 (A4 Z Z) Z (A2 (B9 Z Z (by omega)) Z (A2 (A5 Z Z) Z (A6 ?_))))
   refine k1 ?_
   refine ⟨i+1,by omega,by omega,?_⟩
   rw [hst]
   exact H62 ⟨le1 rfl,le1 rfl,le1 rfl,le1 rfl,trivial⟩ ⟨rfl,trivial⟩
 ·have hi':i=rows.length:=by have:=A1 ht;omega
  refine k6 (k2 ?_)
  refine A3 (A2 (A4 Z Z) Z (A2 (A5 Z Z) Z (A6 ?_)))
  refine k1 (k10 ?_)
  exact B5 (F2 rfl rfl rfl) (by rw [hi',I16])
theorem D26 (rows:List Row) (n:Int) (hn:0≤n∧n≤32) (hr:I7 rows):FnOk Tryz.prog 182 [pRows rows,G8 n] (fun rs=>rs=[J5 (L6 rows n.toNat)]):=by
 refine FnOk.intro Tryz.func182 (by decide) Z Z Z Z ?_
 refine y4 (t:=0) rfl (.pure _ _ _ _) fun hlen=>?_
 refine k2 ?_
 refine A3 (A2 (A5 Z Z) Z (A6 ?_))
 refine k1 (k2 (k2 ?_))
 refine A3 (A2 (A5 Z Z) Z (A6 ?_))
 refine k1 (k3 ?_)
 refine C9 (X:=Nat) (fun i=>([(0,C0 Row 3 rowC rows),(1,B7 n),(5,B7 i)],[])) (fun i=>i≤rows.length∧L6 rows n.toNat=L6 (rows.drop i) n.toNat) (fun i=>rows.length - i) 0 (by simp) (H62 ⟨le1 rfl,le1 rfl,le1 rfl,trivial⟩ trivial) ?_
 rintro i ⟨hi,hp⟩
 dsimp only at hi hp ⊢
 refine k2 (k2 ?_)
 refine A3 (A2 (A4 Z Z) Z (A2 (A4 Z Z) Z (A2 (D4 Z (.pure _ _ _ _)) Z (A2 (D8 Z Z) Z (A6 ?_)))))
 refine k1 ?_
 refine B4 rfl (fun ht=>?_) (fun ht=>?_)
 ·have hlt:i < rows.length:=by have:=A0 ht;omega
  have hv:rows[i]?=some rows[i]:=by simp [hlt]
  have hm:=hr _ (I07 hlt)
  rw [I01 hlt,A50] at hp
  have hmk:X9 n.toNat rows[i]=!(if decide ((IntKind.u64.wrap rows[i].Marks).fdiv (2 ^ min (IntKind.u64.wrap n).toNat IntKind.u64.bits)≠0)=true then true else if rows[i].Lost=true then decide (rows[i].Marks=0) else false):=by
   rw [A51 (by omega),A51 (n:=n) (by omega),shr64' _ _ (by omega),X9]
   by_cases h1:rows[i].Marks / 2 ^ n.toNat=0
   ·cases h2:rows[i].Lost<;>simp [h1]
    by_cases h3:rows[i].Marks=0<;>simp [h3]
   ·simp [h1]
  refine k5 (k1 (k2 (k3 (k2 ?_))))
  refine A3 (A2 (A4 Z Z) Z (A2 (A4 Z Z) Z (A2 (B0 Z (.pure _ _ _ _) Z (by omega) hv) Z (A2 (D6 Z) Z (A2 (B2 Z Z) Z (A2 (M1 Z) Z (A2 (A4 Z Z) Z (A2 (M1 Z) Z (A2 (A72 Z Z (by (rw [A51 (by omega)];omega))) Z ?_)))))))));refine A2 (O3 Z Z) Z (A2 (A4 Z Z) Z (B1 Z Z Z Z (fun hg=>by rw [hg];exact A4 Z Z) ?_));refine B1 Z Z Z Z (fun hg=>by rw [hg];exact A4 Z Z) ?_;refine B1 Z Z Z Z (fun hg=>by have hq:=hg;(try simp at hq);rw [hg];exact B0 Z (.pure _ _ _ _) Z (by omega) hv) ?_;refine B1 Z Z Z Z (fun hg=>by rw [hg];exact D6 Z) ?_;refine B1 Z Z Z Z (fun hg=>by rw [hg];exact B2 Z Z) ?_;refine B1 Z Z Z Z (fun hg=>by rw [hg];exact A4 Z Z) ?_;refine J7 Z Z Z (.gd (.val _)) Z (fun hg=>by obtain ⟨hg1,hg2⟩:=P3 hg;(try rw [hg1]);(try rw [hg2]);exact A4 Z Z) ?_;refine J7 Z Z Z (.gd (.val _)) Z (fun hg=>by obtain ⟨hg1,hg2⟩:=P3 hg;(try rw [hg1]);(try rw [hg2]);exact A4 Z Z) ?_;refine J7 Z Z Z (.gd (.val _)) Z (fun hg=>by have hq:=hg;(try simp at hq);obtain ⟨hg1,hg2⟩:=P3 hg;(try rw [hg1]);(try rw [hg2]);exact B0 Z (.pure _ _ _ _) Z (by omega) hv) ?_;refine J7 Z Z Z (.gd (.val _)) Z (fun hg=>by obtain ⟨hg1,hg2⟩:=P3 hg;(try rw [hg1]);(try rw [hg2]);exact D6 Z) ?_;refine J7 Z Z Z (.gd (.val _)) Z (fun hg=>by obtain ⟨hg1,hg2⟩:=P3 hg;(try rw [hg1]);(try rw [hg2]);exact B2 Z Z) ?_;refine J7 Z Z Z (.gd (.val _)) Z (fun hg=>by obtain ⟨hg1,hg2⟩:=P3 hg;(try rw [hg1]);(try rw [hg2]);exact K1 Z Z) ?_;refine B1 Z Z Z Z (fun hg=>by rw [hg];exact B6 Z (fun h=>by first | rfl | (rw [h];rfl)) (fun h=>by first | rfl | (rw [h];rfl))) ?_;refine A2 (B6 Z (fun h=>by first | rfl | (rw [h];rfl)) (fun h=>by first | rfl | (rw [h];rfl))) Z ?_;refine A6 ?_
  refine k1 ?_
  refine B4 rfl (fun ht=>?_) (fun ht=>?_)
  ·rw [hmk,ht] at hp
   refine k2 ?_
   refine A3 (A2 (A5 Z Z) Z (A6 ?_))
   refine k1 (k10 (k12 (k11 (k11 (k12 (k11 ?_))))))
   exact B5 (F2 rfl rfl rfl) (by rw [hp];rfl)
  ·rw [hmk,ht] at hp
   refine k5 (k4 (k1 ?_))
   refine A3 (A2 (A4 Z Z) Z (A2 (B9 Z Z (by omega)) Z (A2 (A5 Z Z) Z (A6 ?_))))
   refine k1 ?_
   exact ⟨i+1,⟨by omega,by rw [hp];rfl⟩,by omega,H62 ⟨le1 rfl,le1 rfl,le1 rfl,trivial⟩ trivial⟩
 ·have hi':i=rows.length:=by have:=A1 ht;omega
  subst hi'
  refine k6 (k2 ?_)
  refine A3 (A2 (A5 Z Z) Z (A6 ?_))
  refine k1 (k10 ?_)
  exact B5 (F2 rfl rfl rfl) (by rw [hp];simp [L6])
theorem D27 (rows:List Row) (n:Int) (hn:0≤n∧n≤32) (hr:I7 rows) (hl:rows.length≤536870911) (hx:P6 rows≤536870912):FnOk Tryz.prog 183 [pRows rows,G8 n] (fun rs=>rs=[J5 (j3 rows n.toNat)]):=by
 obtain ⟨n,rfl⟩:∃m:Nat,n=m:=⟨n.toNat,by omega⟩
 rw [I03]
 refine FnOk.intro Tryz.func183 (by decide) Z Z Z Z ?_
 refine k2 ?_
 refine A3 (A2 (A5 Z Z) Z (A6 ?_))
 refine k1 (k2 (k2 ?_))
 refine A3 (A2 (A5 Z Z) Z (A6 ?_))
 refine k1 (k3 ?_)
 refine C9 (X:=Nat) (fun i=>([(0,C0 Row 3 rowC rows),(1,B7 n),(5,B7 i)],[])) (fun i=>i≤rows.length∧rows.all (fun r=>J3 r.Text)=(rows.drop i).all (fun r=>J3 r.Text)) (fun i=>rows.length - i) 0 (by simp) (H62 ⟨le1 rfl,le1 rfl,le1 rfl,trivial⟩ trivial) ?_
 rintro i ⟨hi,hp⟩
 dsimp only at hi hp ⊢
 refine k2 (k2 ?_)
 refine A3 (A2 (A4 Z Z) Z (A2 (A4 Z Z) Z (A2 (D4 Z (.pure _ _ _ _)) Z (A2 (D8 Z Z) Z (A6 ?_)))))
 refine k1 ?_
 refine B4 rfl (fun ht=>?_) (fun ht=>?_)
 ·have hlt:i < rows.length:=by have:=A0 ht;omega
  have hv:rows[i]?=some rows[i]:=by simp [hlt]
  have htl:=B99 rows _ (I07 hlt)
  rw [I01 hlt,List.all_cons] at hp
  refine k5 (k1 (k2 (k3 (k2 ?_))))
  refine A3 (A2 (A4 Z Z) Z (A2 (A4 Z Z) Z (A2 (B0 Z (.pure _ _ _ _) Z (by omega) hv) Z (A2 (D6 Z) Z (A2 (B2 Z Z) Z (C3 (line_ok rows[i].Text (by omega)) Z Z Z ?_))))));rintro _ rfl;refine A2 (K9 Z) Z (A6 ?_)
  refine k1 ?_
  refine B4 rfl (fun ht=>?_) (fun ht=>?_)
  ·have h:J3 rows[i].Text=false:=by simpa using ht
   rw [h] at hp
   refine k2 ?_
   refine A3 (A2 (A5 Z Z) Z (A6 ?_))
   refine k1 (k10 (k12 (k11 (k11 (k12 (k11 ?_))))))
   exact B5 (F2 rfl rfl rfl) (by rw [j3,hp];rfl)
  ·have h:J3 rows[i].Text=true:=by simpa using ht
   rw [h] at hp
   refine k5 (k4 (k1 ?_))
   refine A3 (A2 (A4 Z Z) Z (A2 (B9 Z Z (by omega)) Z (A2 (A5 Z Z) Z (A6 ?_))))
   refine k1 ?_
   exact ⟨i+1,⟨by omega,by rw [hp];rfl⟩,by omega,H62 ⟨le1 rfl,le1 rfl,le1 rfl,trivial⟩ trivial⟩
 ·have hi':i=rows.length:=by have:=A1 ht;omega
  rw [hi',I02 (Nat.le_refl _),List.all_nil] at hp
  refine k6 (k2 (k2 ?_))
  refine A3 (A2 (A5 Z Z) Z (A6 ?_))
  refine k1 (k3 ?_)
  refine C9 (X:=Nat) (fun k=>([(0,C0 Row 3 rowC rows),(1,B7 n),(6,B7 ((k:Int) - 1))],[])) (fun k=>k≤n+1∧(List.range (n+1)).all (fun k=>X7 (O1 rows ((k:Int) - 1)))=((List.range (n+1)).drop k).all (fun k=>X7 (O1 rows ((k:Int) - 1)))) (fun k=>n+1 - k) 0 (by simp) (H62 ⟨le1 rfl,le1 rfl,le1 rfl,trivial⟩ trivial) ?_
  rintro k ⟨hk,hq⟩
  dsimp only at hk hq ⊢
  refine k2 (k2 ?_)
  refine A3 (A2 (A4 Z Z) Z (A2 (A4 Z Z) Z (A2 (D8 Z Z) Z (A6 ?_))))
  refine k1 ?_
  refine B4 rfl (fun ht=>?_) (fun ht=>?_)
  ·have hlt:k < n+1:=by have:=A0 ht;omega
   have hfl:=G21 rows ((k:Int) - 1)
   rw [I01 (by simpa using hlt),List.all_cons,List.getElem_range] at hq
   refine k5 (k1 (k2 (k3 (k2 ?_))))
   refine A3 (A2 (A4 Z Z) Z (A2 (A4 Z Z) Z (C3 (y9 rows _ hr hl) Z Z Z ?_)));rintro _ rfl;refine C3 (list_ok _ (fun s hs=>by obtain ⟨r,hr1,rfl⟩:=H09 rows _ s hs;have:=B99 rows r hr1;omega)) Z Z Z ?_;rintro _ rfl;refine A2 (K9 Z) Z (A6 ?_)
   refine k1 ?_
   refine B4 rfl (fun ht=>?_) (fun ht=>?_)
   ·have h:X7 (O1 rows ((k:Int) - 1))=false:=by simpa using ht
    rw [h] at hq
    refine k2 ?_
    refine A3 (A2 (A5 Z Z) Z (A6 ?_))
    refine k1 (k10 (k12 (k11 (k11 (k12 (k11 ?_))))))
    exact B5 (F2 rfl rfl rfl) (by rw [j3,hp,hq];rfl)
   ·have h:X7 (O1 rows ((k:Int) - 1))=true:=by simpa using ht
    rw [h] at hq
    refine k5 (k4 (k1 ?_))
    refine A3 (A2 (A4 Z Z) Z (A2 (B9 Z Z (by omega)) Z (A2 (A5 Z Z) Z (A6 ?_))))
    refine k1 ?_
    exact ⟨k+1,⟨by omega,by rw [hq];rfl⟩,by omega,H62 ⟨le1 rfl,le1 rfl,leE rfl (by first | (simp;done) | (simp;omega)),trivial⟩ trivial⟩
  ·have hk':k=n+1:=by have:=A1 ht;omega
   rw [hk',I02 (by simp),List.all_nil] at hq
   refine k6 (k2 ?_)
   refine A3 (A2 (A5 Z Z) Z (A6 ?_))
   refine k1 (k10 ?_)
   exact B5 (F2 rfl rfl rfl) (by rw [j3,hp,hq];rfl)
theorem F95 (t:Table) (hr:I7 t.Rows) (hl:t.Rows.length≤536870911) (hx:P6 t.Rows≤536870912):FnOk Tryz.prog 115 [pTable t] (fun rs=>rs=[G8 (N4 t)]):=by
 refine FnOk.intro Tryz.func115 (by decide) Z Z Z Z ?_
 refine k2 ?_
 refine A3 (C1 (Q4 1 Z Z Z) Z (A2 (A5 Z Z) Z (A6 ?_)))
 refine k1 (k2 (k3 (k2 ?_)))
 refine A3 (A2 (A7 Z) Z (A2 (A8 Z Z Z) Z (A2 (D8 Z Z) Z (A2 (A4 Z Z) Z (B1 Z Z Z Z (fun hg=>by rw [hg];exact A7 Z) ?_)))));refine B1 Z Z Z Z (fun hg=>by rw [hg];exact A8 Z Z Z) ?_;refine B1 Z Z Z Z (fun hg=>by rw [hg];exact M7 Z Z) ?_;refine A2 (B6 Z (fun h=>by first | rfl | (rw [h];rfl)) (fun h=>by first | rfl | (rw [h];rfl))) Z ?_;refine A2 (A5 Z Z) Z (A6 ?_)
 refine k1 ?_
 refine B4 rfl (fun ht=>?_) (fun ht=>?_)
 ·have h:=A0 (or_pick.symm.trans ht)
  refine k2 ?_
  refine A3 (A2 (A5 Z Z) Z (A6 ?_))
  refine k1 (k10 (k12 (k11 ?_)))
  exact B5 (F2 rfl rfl rfl) (by rw [N4,if_pos h])
 ·have h:=A1 (or_pick.symm.trans ht)
  refine k2 ?_
  refine A3 (A2 (A7 Z) Z (A2 (A8 Z Z Z) Z (A2 (A7 Z) Z (A2 (A8 Z Z Z) Z (C3 (D26 t.Rows t.Parents (by omega) hr) Z Z Z ?_)))));rintro _ rfl;refine A2 (K9 Z) Z (A2 (A5 Z Z) Z (A6 ?_))
  refine k1 ?_
  refine B4 rfl (fun ht=>?_) (fun ht=>?_)
  ·have h2:L6 t.Rows t.Parents.toNat=false:=by simpa using ht
   refine k2 ?_
   refine A3 (A2 (A5 Z Z) Z (A6 ?_))
   refine k1 (k10 (k12 (k11 ?_)))
   exact B5 (F2 rfl rfl rfl) (by rw [N4,if_neg h,if_pos h2])
  ·have h2:L6 t.Rows t.Parents.toNat=true:=by simpa using ht
   refine k2 ?_
   refine A3 (A2 (A7 Z) Z (A2 (A8 Z Z Z) Z (A2 (A7 Z) Z (A2 (A8 Z Z Z) Z (C3 (D27 t.Rows t.Parents (by omega) hr hl hx) Z Z Z ?_)))));rintro _ rfl;refine A2 (K9 Z) Z (A2 (A5 Z Z) Z (A6 ?_))
   refine k1 ?_
   refine B4 rfl (fun ht=>?_) (fun ht=>?_)
   ·have h3:j3 t.Rows t.Parents.toNat=false:=by simpa using ht
    refine k2 ?_
    refine A3 (A2 (A5 Z Z) Z (A6 ?_))
    refine k1 (k10 (k12 (k11 ?_)))
    exact B5 (F2 rfl rfl rfl) (by rw [N4,if_neg h,if_neg (by simp [h2]),if_pos h3])
   ·have h3:j3 t.Rows t.Parents.toNat=true:=by simpa using ht
    refine k5 (k2 ?_)
    refine A3 (A2 (A5 Z Z) Z (A6 ?_))
    refine k1 (k10 ?_)
    exact B5 (F2 rfl rfl rfl) (by rw [N4,if_neg h,if_neg (by simp [h2]),if_neg (by simp [h3])])
theorem E18 (s:Str):(ByteArray.mk s.toArray).size=s.length:=by simp [ByteArray.size]
theorem E63 (s p:Str) (hs:s.length≤1099511627776):FnOk Tryz.prog 209 [L4 s,L4 p] (fun rs=>rs=[J5 (Lib.hasSuffix s p)]) :=
 H69 (xs:=[.string ⟨s.toArray⟩,.string ⟨p.toArray⟩]) ⟨_,rfl,rfl,rfl⟩ rfl fun w=>by simpa using Tryz.strings_HasSuffix ⟨s.toArray⟩ ⟨p.toArray⟩ w (by rw [E18];omega)
theorem D82 (s p:Str) (hs:s.length≤1099511627776):FnOk Tryz.prog 224 [L4 s,L4 p] (fun rs=>rs=[L4 (Lib.trimSuffix s p)]) :=
 H69 (xs:=[.string ⟨s.toArray⟩,.string ⟨p.toArray⟩]) ⟨_,rfl,rfl,rfl⟩ rfl fun w=>by simpa using Tryz.strings_TrimSuffix ⟨s.toArray⟩ ⟨p.toArray⟩ w (by rw [E18];omega)
theorem E64 (s:Str) (c:UInt8):FnOk Tryz.prog 231 [L4 s,L4 [c]] (fun rs=>rs=[J5 (decide (0≤Lib.indexByte s c))]) :=
 H69 (xs:=[.string ⟨s.toArray⟩,.string ⟨#[c]⟩]) ⟨_,rfl,rfl,rfl⟩ rfl fun w=>by simpa using Tryz.strings_Contains_one ⟨s.toArray⟩ c w
theorem B25 (s:Str) (hs:s.length≤1099511627776):FnOk Tryz.prog 142 [L4 s] (fun rs=>rs=[J5 (ended s)]):=by
 refine FnOk.intro Tryz.func142 (by decide) Z Z Z Z ?_
 refine k2 ?_
 refine A3 (A2 (A5 Z Z) Z (A6 ?_))
 refine k1 (k2 ?_)
 refine A3 (A2 (A4 Z Z) Z (C3 (E63 s [10] hs) Z Z Z ?_));rintro _ rfl;refine A2 (A5 Z Z) Z (A6 ?_)
 rw [C01]
 refine k1 (k10 ?_)
 exact B5 (F2 rfl rfl rfl) rfl
theorem H40 (s:Str) (hs:s.length≤1099511627776):FnOk Tryz.prog 232 [L4 s] (fun rs=>rs=[L4 (B11 s)]):=by
 refine FnOk.intro Tryz.func232 (by decide) Z Z Z Z ?_
 refine k2 ?_
 refine A3 (A2 (A5 Z Z) Z (A6 ?_))
 refine k1 (k2 ?_)
 refine A3 (A2 (A4 Z Z) Z (C3 (D82 s [10] hs) Z Z Z ?_));rintro _ rfl;refine A2 (A5 Z Z) Z (A6 ?_)
 rw [D91]
 refine k1 (k10 ?_)
 exact B5 (F2 rfl rfl rfl) rfl
theorem F27 (r:Row) (c:Int) (hr:0≤r.Marks∧r.Marks < 4294967296):FnOk Tryz.prog 188 [pRow r,G8 c] (fun rs=>rs=[J5 (Z4 r c)]):=by
 refine FnOk.intro Tryz.func188 (by decide) Z Z Z Z ?_
 refine k2 ?_
 refine A3 (C1 (Q4 2 Z Z Z) Z (A2 (A5 Z Z) Z (A6 ?_)))
 refine k1 (k2 (k2 ?_))
 refine A3 (A2 (A4 Z Z) Z (A2 (D8 Z Z) Z (A2 (A4 Z Z) Z (B1 Z Z Z Z (fun hg=>by rw [hg];exact A4 Z Z) ?_))));refine B1 Z Z Z Z (fun hg=>by rw [hg];exact A18 Z Z) ?_;refine A2 (B6 Z (fun h=>by first | rfl | (rw [h];rfl)) (fun h=>by first | rfl | (rw [h];rfl))) Z ?_;refine A6 ?_
 refine k1 ?_
 refine B4 rfl (fun ht=>?_) (fun ht=>?_)
 ·have h:=A0 (or_pick.symm.trans ht)
  refine k2 ?_
  refine A3 (A2 (A5 Z Z) Z (A6 ?_))
  refine k1 (k10 (k11 ?_))
  exact B5 (F2 rfl rfl rfl) (by rw [Z4,if_neg (by omega),if_pos (by omega)])
 ·have h:=A1 (or_pick.symm.trans ht)
  refine k5 (k1 (k2 (k2 ?_)))
  refine A3 (A2 (A4 Z Z) Z (A2 (D8 Z Z) Z (A6 ?_)))
  refine k1 ?_
  refine B4 rfl (fun ht=>?_) (fun ht=>?_)
  ·have h2:=A0 ht
   refine k2 ?_
   refine A3 (A2 (A7 Z) Z (A2 (A8 Z Z Z) Z (A2 (K9 Z) Z (A2 (A5 Z Z) Z (A6 ?_)))))
   refine k1 (k10 (k11 ?_))
   exact B5 (F2 rfl rfl rfl) (by rw [Z4,if_pos (by omega)])
  ·have h2:=A1 ht
   refine k5 (k1 (k2 ?_))
   refine C6 (by kernel_rfl) (by kernel_rfl) (A9 (A7 Z) Z Z (A9 (A8 Z Z Z) Z Z (A9 (A7 Z) Z Z (A9 (A8 Z Z Z) Z Z (A9 (A4 Z Z) Z Z (A9 (A72 Z Z (by omega)) Z Z (A9 (X6 Z Z Z (fun _=>rfl)) Z Z (A9 (K1 Z Z) Z Z (A9 (G48 Z Z TyBool.out) Z Z (A9 (A5 Z Z) Z Z (K0 ?_)))))))))))
   refine k1 (k10 ?_)
   refine B5 (F2 Z Z Z) ?_
   have h3:0≤r.Marks / 2 ^ c.toNat:=Int.ediv_nonneg hr.1 (Int.pow_nonneg (by decide))
   have h4:r.Marks / 2 ^ c.toNat≤r.Marks:=Int.ediv_le_self _ hr.1
   rw [Z4,if_neg (by omega),if_neg (by omega),E28 r.Marks c (by omega),C00 _ (by omega),Bool.beq_comm]
   rfl
theorem D28 (r:Row) (n:Int) (hn:1≤n∧n≤32) (hr:0≤r.Marks∧r.Marks < 4294967296):FnOk Tryz.prog 169 [pRow r,G8 n] (fun rs=>rs=[J5 (X9 n.toNat r)]):=by
 refine FnOk.intro Tryz.func169 (by decide) Z Z Z Z ?_
 refine k2 ?_
 refine A3 (C1 (Q4 2 Z Z Z) Z (A2 (A5 Z Z) Z (A6 ?_)))
 refine k1 (k2 ?_)
 refine A3 (A2 (A7 Z) Z (A2 (A8 Z Z Z) Z (A2 (A72 Z Z (by omega)) Z (A2 (A4 Z Z) Z (A2 (V8 Z Z (by omega)) Z (A2 (A72 Z Z (by omega)) Z (A2 (K1 Z Z) Z (A2 (A4 Z Z) Z (B1 Z Z Z Z (fun hg=>by rw [hg];exact A7 Z) ?_)))))))));refine B1 Z Z Z Z (fun hg=>by rw [hg];exact A8 Z Z Z) ?_;refine B1 Z Z Z Z (fun hg=>by rw [hg];exact K9 Z) ?_;refine B1 Z Z Z Z (fun hg=>by rw [hg];exact A4 Z Z) ?_;refine J7 Z Z Z (.gd (.val _)) Z (fun hg=>by obtain ⟨hg1,hg2⟩:=P3 hg;(try rw [hg1]);(try rw [hg2]);exact A7 Z) ?_;refine J7 Z Z Z (.gd (.val _)) Z (fun hg=>by obtain ⟨hg1,hg2⟩:=P3 hg;(try rw [hg1]);(try rw [hg2]);exact A8 Z Z Z) ?_;refine J7 Z Z Z (.gd (.val _)) Z (fun hg=>by obtain ⟨hg1,hg2⟩:=P3 hg;(try rw [hg1]);(try rw [hg2]);exact O3 Z Z) ?_;refine B1 Z Z Z Z (fun hg=>by rw [hg];exact B6 Z (fun h=>by first | rfl | (rw [h];rfl)) (fun h=>by first | rfl | (rw [h];rfl))) ?_;refine A2 (B6 Z (fun h=>by first | rfl | (rw [h];rfl)) (fun h=>by first | rfl | (rw [h];rfl))) Z ?_;refine A2 (A5 Z Z) Z (A6 ?_)
 refine k1 (k10 ?_)
 refine B5 (F2 Z Z Z) ?_
 have h0:0≤r.Marks / 2 ^ n.toNat:=Int.ediv_nonneg hr.1 (Int.pow_nonneg (by decide))
 have e1:r.Marks.fdiv (2 ^ (min (1:Int).toNat IntKind.u32.bits))=r.Marks / 2:=by
  rw [E28 r.Marks 1 (by omega)];rfl
 have e2:(r.Marks / 2).fdiv (2 ^ (min (n - 1).toNat IntKind.u32.bits))=r.Marks / 2 ^ n.toNat:=by
  rw [E28 (r.Marks / 2) (n - 1) (by omega),Int.ediv_ediv_of_nonneg (by decide)]
  have:n.toNat=(n - 1).toNat+1:=by omega
  rw [this,Int.pow_succ,Int.mul_comm]
 have e3:(if decide ((r.Marks.fdiv (2 ^ (min (1:Int).toNat IntKind.u32.bits))).fdiv (2 ^ (min (n - 1).toNat IntKind.u32.bits))=0)=true then (if (!r.Lost)=true then true else decide (r.Marks≠0)) else false)=X9 n.toNat r:=by
  rw [e1,e2,X9]
  cases r.Lost<;>by_cases hz:r.Marks / 2 ^ n.toNat=0<;>by_cases hy:r.Marks=0<;>simp [hz,hy]
 rw [←e3]
theorem A43 (r:Row) (hs:r.Text.length≤1099511627776):FnOk Tryz.prog 171 [pRow r] (fun rs=>rs=[J5 (J3 r.Text)]):=by
 refine FnOk.intro Tryz.func171 (by decide) Z Z Z Z ?_
 refine k2 ?_
 refine A3 (C1 (Q4 1 Z Z Z) Z (A2 (A5 Z Z) Z (A6 ?_)))
 refine k1 (k2 ?_)
 refine A3 (A2 (A7 Z) Z (A2 (A8 Z Z Z) Z (A2 (A31 Z Z) Z (A2 (A4 Z Z) Z (B1 Z Z Z Z (fun hg=>by rw [hg];exact A7 Z) ?_)))));refine B1 Z Z Z Z (fun hg=>by rw [hg];exact A8 Z Z Z) ?_;refine B1 Z Z Z Z (fun hg=>by have hq:=hg;(try simp at hq);rw [hg];exact H6 (H40 r.Text hs) Z Z) ?_;refine B1 Z Z Z Z (fun hg=>by have hq:=hg;(try simp at hq);rw [hg];exact H6 (E64 (B11 r.Text) 10) Z Z) ?_;refine B1 Z Z Z Z (fun hg=>by rw [hg];exact K9 Z) ?_;refine A2 (B6 Z (fun h=>by first | rfl | (rw [h];rfl)) (fun h=>by first | rfl | (rw [h];rfl))) Z ?_;refine A2 (A5 Z Z) Z (A6 ?_)
 refine k1 (k10 ?_)
 refine B5 (F2 Z Z Z) ?_
 rw [←H11]
theorem G58 (r:Row) (res:Bool) (par:Int) (hs:r.Text.length≤1099511627776) :
  FnIo Tryz.prog 172 [pRow r] [.v (.bool res),.v (.int .u32 par)] (fun rs cs=>rs=[J5 (B47 res par r)]∧cs=[.v (.bool (B12 res r)),.v (.int .u32 (B13 par r))]):=by
 refine FnIo.intro Tryz.func172 (by decide) Z Z Z Z ?_
 refine k2 ?_
 refine A3 (C1 (Q4 3 Z Z Z) Z (A2 (A5 Z Z) Z (A6 ?_)))
 refine k1 (k2 ?_)
 refine A3 (A2 (A7 Z) Z (A2 (A8 Z Z Z) Z (A2 (A5 Z Z) Z (A6 ?_))))
 refine J4 ?_
 refine r7 [(3,.s (.one (.ref 3 0))),(0,.s (.one (.ref self 0))),(5,I6 (.int .u32 (D93 r)))] [(3,.box (pRow r).s1.cells),(self,.box [.p (.v (.bool res)),.p (.v (.int .u32 par))])] ?_ ?_
 ·refine k2 ?_
  refine A3 (A2 (A7 Z) Z (A2 (A8 Z Z Z) Z (A2 (K9 Z) Z (A6 ?_))))
  refine k1 ?_
  refine B4 rfl (fun ht=>?_) (fun ht=>?_)
  ·have h:r.Lost=false:=by simpa using ht
   skip
   refine A3 (A2 (A4 Z Z) Z (A2 (n_compl Z Z (fun _=>rfl)) Z (A2 (A5 Z Z) Z (A6 ?_))))
   refine k1 ?_
   rw [D93,if_neg (by rw [h];simp)]
   exact H62 ⟨le1 rfl,le1 rfl,le1 rfl,trivial⟩ ⟨rfl,rfl,trivial⟩
  ·have h:r.Lost=true:=by simpa using ht
   refine k5 (k1 ?_)
   rw [D93,if_pos h]
   exact H62 ⟨le1 rfl,le1 rfl,le1 rfl,trivial⟩ ⟨rfl,rfl,trivial⟩
 refine k2 ?_
 refine A3 (A2 (A4 Z Z) Z (A2 (D3 Z) Z (A2 (A7 Z) Z (A2 (A8 Z Z Z) Z (A2 (A4 Z Z) Z (A2 (X6 Z Z Z (fun _=>rfl)) Z (A2 (K1 Z Z) Z (A2 (A4 Z Z) Z (B1 Z Z Z Z (fun hg=>by rw [hg];exact A7 Z) ?_)))))))));refine B1 Z Z Z Z (fun hg=>by rw [hg];exact A8 Z Z Z) ?_;refine B1 Z Z Z Z (fun hg=>by rw [hg];exact A4 Z Z) ?_;refine J7 Z Z Z (.gd (.val _)) Z (fun hg=>by obtain ⟨hg1,hg2⟩:=P3 hg;(try rw [hg1]);(try rw [hg2]);exact A4 Z Z) ?_;refine J7 Z Z Z (.gd (.val _)) Z (fun hg=>by obtain ⟨hg1,hg2⟩:=P3 hg;(try rw [hg1]);(try rw [hg2]);exact D3 Z) ?_;refine J7 Z Z Z (.gd (.val _)) Z (fun hg=>by obtain ⟨hg1,hg2⟩:=P3 hg;(try rw [hg1]);(try rw [hg2]);exact A7 Z) ?_;refine J7 Z Z Z (.gd (.val _)) Z (fun hg=>by obtain ⟨hg1,hg2⟩:=P3 hg;(try rw [hg1]);(try rw [hg2]);exact A8 Z Z Z) ?_;refine J7 Z Z Z (.gd (.val _)) Z (fun hg=>by obtain ⟨hg1,hg2⟩:=P3 hg;(try rw [hg1]);(try rw [hg2]);exact K9 Z) ?_;refine B1 Z Z Z Z (fun hg=>by rw [hg];exact B6 Z (fun h=>by first | rfl | (rw [h];rfl)) (fun h=>by first | rfl | (rw [h];rfl))) ?_;refine A2 (B6 Z (fun h=>by first | rfl | (rw [h];rfl)) (fun h=>by first | rfl | (rw [h];rfl))) Z ?_;refine A2 (A5 Z Z) Z (A6 ?_)
 refine k1 (k2 (k2 ?_))
 refine A3 (A2 (A7 Z) Z (A2 (A8 Z Z Z) Z (C3 (B25 r.Text hs) Z Z Z ?_)));rintro _ rfl;refine A2 (K9 Z) Z (A6 ?_)
 have hok:(if decide (F55 par (D93 r)=0)=true then (if r.Lost=true then true else !res) else false)=B47 res par r:=by
  rw [B47]
  cases r.Lost<;>cases res<;>by_cases h:F55 par (D93 r)=0<;>simp [h]
 refine k1 ?_
 refine B4 rfl (fun ht=>?_) (fun ht=>?_)
 ·have h:ended r.Text=false:=by simpa using ht
  refine k2 ?_
  refine A3 (A2 (A4 Z Z) Z (A2 (D3 Z) Z (A2 (A7 Z) Z (A2 (A8 Z Z Z) Z (A2 (A4 Z Z) Z (A2 (X6 Z Z Z (fun _=>rfl)) Z (A2 (D3 Z) Z (A2 (A7 Z) Z (F6 (B8 TySz.out Z Z Z Z Z Z) (A6 ?_))))))))))
  refine k1 ?_
  refine A3 (A2 (A4 Z Z) Z (A2 (A4 Z Z) Z (A2 (D3 Z) Z (A2 (A7 Z) Z (A2 (A8 Z Z Z) Z (A2 (A4 Z Z) Z (B1 Z Z Z Z (fun hg=>by rw [hg];exact A7 Z) ?_)))))));refine B1 Z Z Z Z (fun hg=>by rw [hg];exact A8 Z Z Z) ?_;refine B1 Z Z Z Z (fun hg=>by rw [hg];exact K9 Z) ?_;refine A2 (B6 Z (fun h=>by first | rfl | (rw [h];rfl)) (fun h=>by first | rfl | (rw [h];rfl))) Z ?_;refine A2 (D3 Z) Z (A2 (A7 Z) Z (F6 (B8 TySz.out Z Z Z Z Z Z) (A6 ?_)))
  refine k1 (k2 ?_)
  refine A3 (A2 (A4 Z Z) Z (A2 (A5 Z Z) Z (A6 ?_)))
  refine k1 (k10 ?_)
  refine io_ret (F2 rfl rfl rfl) rfl rfl ⟨by rw [←hok];rfl,?_⟩
  have ea:B12 res r=(res||!r.Lost):=by rw [B12,h];rfl
  have ep:B13 par r=K6 par (D93 r):=by rw [B13,h];rfl
  rw [ea,ep]
  cases res<;>rfl
 ·have h:ended r.Text=true:=by simpa using ht
  refine k5 (k1 (k2 ?_))
  refine A3 (A2 (A4 Z Z) Z (A2 (A5 Z Z) Z (A6 ?_)))
  refine k1 (k10 ?_)
  exact io_ret (F2 rfl rfl rfl) rfl rfl ⟨by rw [←hok];rfl,by rw [B12,B13,if_pos h,if_pos h]⟩
theorem G85 (t:Table) (hr:I7 t.Rows) (hl:t.Rows.length≤536870911) (hx:P6 t.Rows≤536870912):FnOk Tryz.prog 109 [pTable t] (fun rs=>rs=[G8 (N4 t)]):=by
 refine FnOk.intro Tryz.func109 (by decide) Z Z Z Z ?_
 refine k2 ?_
 refine A3 (C1 (Q4 1 Z Z Z) Z (A2 (A5 Z Z) Z (A6 ?_)))
 refine k1 (k2 (k2 ?_))
 refine A3 (A2 (A7 Z) Z (A2 (A8 Z Z Z) Z (A2 (D8 Z Z) Z (A2 (A4 Z Z) Z (B1 Z Z Z Z (fun hg=>by rw [hg];exact A7 Z) ?_)))));refine B1 Z Z Z Z (fun hg=>by rw [hg];exact A8 Z Z Z) ?_;refine B1 Z Z Z Z (fun hg=>by rw [hg];exact M7 Z Z) ?_;refine A2 (B6 Z (fun h=>by first | rfl | (rw [h];rfl)) (fun h=>by first | rfl | (rw [h];rfl))) Z ?_;refine A6 ?_
 refine k1 ?_
 refine B4 rfl (fun ht=>?_) (fun ht=>?_)
 ·have h:=A0 (or_pick.symm.trans ht)
  refine k2 ?_
  refine A3 (A2 (A5 Z Z) Z (A6 ?_))
  refine k1 (k10 (k11 ?_))
  exact B5 (F2 rfl rfl rfl) (by rw [N4,if_pos h])
 ·have h:=A1 (or_pick.symm.trans ht)
  refine L1 [(1,.s (.one (.ref 1 0)))] [(1,.box [.p (.v (.int .i64 t.Parents)),.p (.list Row 3 rowC t.Rows)])] (H62 ⟨le1 rfl,trivial⟩ ⟨rfl,trivial⟩) ?_
  refine k5 (k1 (k2 (k2 ?_)))
  refine A3 (A2 (A7 Z) Z (A2 (A8 Z Z Z) Z (A2 (D4 Z (.pure _ _ _ _)) Z (A2 (A4 Z Z) Z (A6 ?_)))))
  refine k1 (k3 ?_)
  refine C9 (X:=Nat) (fun i=>([(1,.s (.one (.ref 1 0))),(17,C0 Row 3 rowC t.Rows),(18,B7 t.Rows.length),(19,B7 i)],[(1,.box [.p (.v (.int .i64 t.Parents)),.p (.list Row 3 rowC t.Rows)])])) (fun i=>i≤t.Rows.length∧L6 t.Rows t.Parents.toNat=L6 (t.Rows.drop i) t.Parents.toNat) (fun i=>t.Rows.length - i) 0 ⟨Nat.zero_le _,rfl⟩ (H62 ⟨le1 rfl,le1 rfl,le1 rfl,le1 rfl,trivial⟩ ⟨rfl,trivial⟩) ?_
  rintro i ⟨hi,hp⟩
  dsimp only at hi hp ⊢
  refine k2 ?_
  refine A3 (A2 (D8 Z Z) Z (A6 ?_))
  refine k1 (k2 ?_)
  refine B4 rfl (fun ht=>?_) (fun ht=>?_)
  ·have hlt:i < t.Rows.length:=by have:=A0 ht;omega
   have hv:t.Rows[i]?=some t.Rows[i]:=by simp [hlt]
   rw [I01 hlt,A50] at hp
   refine k5 (k1 (k2 (k3 (k2 ?_))))
   refine A3 (A2 (B0 Z (.pure _ _ _ _) Z (by omega) hv) Z (A2 (E8 Z Z) Z (C1 (G3 4 Z) Z (F6 (B8 TySz.out Z Z Z Z Z Z) (A6 ?_)))))
   refine k1 (k2 ?_)
   refine A3 (A2 (D2 Z Z Z) Z (A2 (A7 Z) Z (A2 (A8 Z Z Z) Z (C3 (D28 t.Rows[i] t.Parents (by omega) (hr _ (I07 hlt))) Z Z Z ?_))));rintro _ rfl;refine A2 (K9 Z) Z (A6 ?_)
   refine k1 ?_
   refine B4 rfl (fun ht=>?_) (fun ht=>?_)
   ·have h2:X9 t.Parents.toNat t.Rows[i]=false:=by simpa using ht
    rw [h2,Bool.false_and] at hp
    refine k2 ?_
    refine A3 (A2 (A5 Z Z) Z (A6 ?_))
    refine k1 (k10 (k12 (k11 (k11 (k12 (k11 ?_))))))
    exact B5 (F2 rfl rfl rfl) (by rw [N4,if_neg h,if_pos hp])
   ·have h2:X9 t.Parents.toNat t.Rows[i]=true:=by simpa using ht
    rw [h2,Bool.true_and] at hp
    refine k5 (k4 (k1 ?_))
    refine A3 (A2 (B9 Z Z (by omega)) Z (A2 (A4 Z Z) Z (A6 ?_)))
    refine k1 ?_
    exact ⟨i+1,⟨by omega,hp⟩,by omega,H62 ⟨le1 rfl,le1 rfl,le1 rfl,le1 rfl,trivial⟩ ⟨rfl,trivial⟩⟩
  ·have hil:i=t.Rows.length:=by have:=A1 ht;omega
   rw [hil,I02 (Nat.le_refl _)] at hp
   have hm:L6 t.Rows t.Parents.toNat=true:=hp
   refine L1 [(1,.s (.one (.ref 1 0)))] [(1,.box [.p (.v (.int .i64 t.Parents)),.p (.list Row 3 rowC t.Rows)])] (H62 ⟨le1 rfl,trivial⟩ ⟨rfl,trivial⟩) ?_
   clear hil ht hp hi
   have hat:=D45 t.Rows t.Parents.toNat (by omega) hm hr
   refine k6 (k2 ?_)
   refine A3 (C1 (G3 5 Z) Z (A6 ?_))
   refine k1 (k2 (k2 ?_))
   refine A3 (A2 (A7 Z) Z (A2 (A8 Z Z Z) Z (A2 (D4 Z (.pure _ _ _ _)) Z (A2 (A4 Z Z) Z (A6 ?_)))))
   refine k1 (k3 ?_)
   refine C9 (X:=Nat × Bool × Int) (fun x=>([(1,.s (.one (.ref 1 0))),(5,.s (.one (.ref 5 0))),(30,C0 Row 3 rowC t.Rows),(31,B7 t.Rows.length),(32,B7 x.1)],[(1,.box [.p (.v (.int .i64 t.Parents)),.p (.list Row 3 rowC t.Rows)]),(5,.box [.p (.v (.bool x.2.1)),.p (.v (.int .u32 x.2.2))])])) (fun x=>x.1≤t.Rows.length∧Q0 false 0 t.Rows=Q0 x.2.1 x.2.2 (t.Rows.drop x.1)) (fun x=>t.Rows.length - x.1) (0,false,0) ⟨Nat.zero_le _,rfl⟩ (H62 ⟨le1 rfl,le1 rfl,le1 rfl,le1 rfl,le1 rfl,trivial⟩ ⟨rfl,rfl,trivial⟩) ?_
   rintro ⟨i,res,par⟩ ⟨hi,hp⟩
   dsimp only at hi hp ⊢
   refine k2 ?_
   refine A3 (A2 (D8 Z Z) Z (A6 ?_))
   refine k1 (k2 ?_)
   refine B4 rfl (fun ht=>?_) (fun ht=>?_)
   ·have hlt:i < t.Rows.length:=by have:=A0 ht;omega
    have hv:t.Rows[i]?=some t.Rows[i]:=by simp [hlt]
    have htl:=B99 t.Rows _ (I07 hlt)
    rw [I01 hlt,Q0] at hp
    refine k5 (k1 (k2 (k3 (k2 ?_))))
    refine A3 (A2 (B0 Z (.pure _ _ _ _) Z (by omega) hv) Z (A2 (E8 Z Z) Z (C1 (G3 7 Z) Z (F6 (B8 TySz.out Z Z Z Z Z Z) (A6 ?_)))))
    refine k1 (k2 ?_)
    by_cases hs:J3 t.Rows[i].Text=true
    ·refine A3 (A2 (D2 Z Z Z) Z (C3 (A43 t.Rows[i] (by omega)) Z Z Z ?_));rintro _ rfl;refine A2 (K9 Z) Z (A2 (A4 Z Z) Z (s9 Z Z Z (by rw [hs];rfl) ?_));refine A2 (D2 Z Z Z) Z (s9 Z Z Z (by rw [hs];rfl) ?_);refine F06 (G58 t.Rows[i] res par (by omega)) Z Z Z Z Z Z ?_;rintro _ _ ⟨rfl,rfl⟩;refine B1 Z Z Z Z (fun hg=>by rw [hg];exact K9 Z) ?_;refine A2 (B6 Z (fun h=>by first | rfl | (rw [h];rfl)) (fun h=>by first | rfl | (rw [h];rfl))) Z ?_;refine A6 ?_
     refine k1 ?_
     refine B4 rfl (fun ht=>?_) (fun ht=>?_)
     ·have h2:B47 res par t.Rows[i]=false:=by rw [hs] at ht;simpa using ht
      rw [hs,h2,Bool.true_and,Bool.false_and] at hp
      refine k2 ?_
      refine A3 (A2 (A5 Z Z) Z (A6 ?_))
      refine k1 (k10 (k12 (k11 (k11 (k12 (k11 ?_))))))
      exact B5 (F2 rfl rfl rfl) (by rw [N4,if_neg h,if_neg (by simp [hm]),if_pos (by rw [←hat];exact hp)])
     ·have h2:B47 res par t.Rows[i]=true:=by rw [hs] at ht;simpa using ht
      rw [hs,h2,Bool.true_and,Bool.true_and] at hp
      refine k5 (k4 (k1 ?_))
      refine A3 (A2 (B9 Z Z (by omega)) Z (A2 (A4 Z Z) Z (A6 ?_)))
      refine k1 ?_
      exact ⟨(i+1,_,_),⟨by dsimp only;omega,hp⟩,by dsimp only;omega,H62 ⟨le1 rfl,le1 rfl,le1 rfl,le1 rfl,le1 rfl,trivial⟩ ⟨rfl,rfl,trivial⟩⟩
    ·have hs':J3 t.Rows[i].Text=false:=by simpa using hs
     refine A3 (A2 (D2 Z Z Z) Z (C3 (A43 t.Rows[i] (by omega)) Z Z Z ?_));rintro _ rfl;refine A2 (K9 Z) Z (A2 (A4 Z Z) Z (B1 Z Z Z Z (fun hg=>by rw [hg];exact D2 Z Z Z) ?_));refine X5 Z Z Z (by rw [hs'];decide) Z ?_;refine X5 Z Z Z (by rw [hs'];decide) Z ?_;refine A2 (B6 (q:=true) Z (fun h=>rfl) (fun h=>by rw [hs'] at h;cases h)) Z ?_;refine A6 ?_
     rw [hs',Bool.false_and,Bool.false_and] at hp
     refine k1 ?_
     refine B4 rfl (fun ht=>?_) (fun ht=>?_)
     ·refine k2 ?_
      refine A3 (A2 (A5 Z Z) Z (A6 ?_))
      refine k1 (k10 (k12 (k11 (k11 (k12 (k11 ?_))))))
      exact B5 (F2 rfl rfl rfl) (by rw [N4,if_neg h,if_neg (by simp [hm]),if_pos (by rw [←hat];exact hp)])
     ·rw [hs'] at ht;cases ht
   ·have hil:i=t.Rows.length:=by have:=A1 ht;omega
    rw [hil,I02 (Nat.le_refl _)] at hp
    have hp':Q0 false 0 t.Rows=true:=hp
    refine k6 (k2 ?_)
    refine A3 (A2 (A5 Z Z) Z (A6 ?_))
    refine k1 (k10 ?_)
    exact B5 (F2 rfl rfl rfl) (by rw [N4,if_neg h,if_neg (by simp [hm]),if_neg (by rw [←hat,hp'];simp)])
def isBld (ob:Obs) (xs:Str):Prop:=(∃a,(a=.p (.v (.pointer none))∨a=.ref 700 0)∧C2 ob 700=some (.tbx 144 [a,.buf 701 UInt8 1 u8C xs]))∧C2 ob 701=some (.spare xs.length 1 5)
abbrev bldObs (ob:Obs) (ys xs:Str):Obs:=(700,.tbx 144 [.ref 700 0,.buf 701 UInt8 1 u8C xs])::(701,.spare xs.length 1 5)::Obs.forget 701 ((700,.tbx 144 [.ref 700 0,.buf 701 UInt8 1 u8C ys])::ob)
def G59:Go.Shelf.Ren:=⟨fun | 240=>165 | 276=>227 | n=>n,fun | 72=>144 | 70=>142 | 164=>278 | 37=>133 | n=>n,fun n=>n⟩
theorem ccLays:Go.Proofs.Lays.n240 Tryz.prog G59:={
 mixed:=by kernel_rfl
 f240:=Tryz.func165.trans (congrArg some (by kernel_rfl))
 f276:=Tryz.func227.trans (congrArg some (by kernel_rfl))
 t0:=Tryz.underlying0
 a0:=Tryz.isAgg0
 z0:=Tryz.sizeOf0
 v0:=Tryz.zeroValue0
 t4:=Tryz.underlying4
 a4:=Tryz.isAgg4
 z4:=Tryz.sizeOf4
 v4:=Tryz.zeroValue4
 t9:=Tryz.underlying9
 a9:=Tryz.isAgg9
 z9:=Tryz.sizeOf9
 v9:=Tryz.zeroValue9
 t20:=Tryz.underlying20
 a20:=Tryz.isAgg20
 z20:=Tryz.sizeOf20
 v20:=Tryz.zeroValue20
 t70:=Tryz.underlying142
 a70:=Tryz.isAgg142
 z70:=Tryz.sizeOf142
 v70:=Tryz.zeroValue142
 t72:=Tryz.underlying144
 a72:=Tryz.isAgg144
 z72:=Tryz.sizeOf144
 v72:=Tryz.zeroValue144
 t164:=Tryz.underlying278
 a164:=Tryz.isAgg278
 z164:=Tryz.sizeOf278
 v164:=Tryz.zeroValue278 }
theorem ccX:Builder.X72 Tryz.prog G59:={
 sizeBuilder:=by kernel_rfl
 liesBuilder:=by kernel_rfl }
theorem B43 {gf:Fr} {ob:Obs} {a t:TC} (hk:C2 ob 700=some (.tbx 144 [a,t])) (ha:a=.p (.v (.pointer none))∨a=.ref 700 0) :
  AL.Met Tryz.prog 165 [.one (.ref 700 0)] gf ob [] (fun rs ob'=>rs=[]∧ob'=(700,.tbx 144 [.ref 700 0,t])::ob) :=
 AL.Met.copyCheck ⟨_,rfl,rfl,rfl⟩ (fun b w h1 h2 h3=>Any.Builder_copyCheck_fresh (ρ:=G59) ccLays ccX b w h1 h2 h3) (fun b w h=>Any.Builder_copyCheck_used (ρ:=G59) ccLays ccX b w h) hk ha
theorem P4 {gf:Fr} {ob:Obs} {xs s:Str} (hb:isBld ob xs) (hlen:xs.length+s.length≤1073741824) :
  AL.Met Tryz.prog 88 [.one (.ref 700 0),.one (.p (.v (.string ⟨s.toArray⟩)))] gf ob [701] (fun rs ob'=>rs=[.one (.p (.v (.int .i64 s.length))),.one (.p (.v .nilIface))]∧ob'=bldObs ob xs (xs++s)):=by
 obtain ⟨⟨a,ha,hk⟩,hk1⟩:=hb
 refine AL.Met.intro Tryz.func88 (by decide) Z Z Z ?_
 refine k2 ?_
 refine A3 (A2 (A5 Z Z) Z (A2 (A5 Z Z) Z (A6 ?_)))
 refine k1 (k2 ?_)
 refine A3 (A2 (A4 Z Z) Z (A74 (B43 hk ha) Z Z Z ?_));rintro _ _ ⟨rfl,rfl⟩;refine A6 ?_
 refine k1 (k2 ?_)
 refine A3 (A2 (A4 Z Z) Z (A2 (A4 Z Z) Z (A2 (D3 Z) Z (A2 (A7 Z) Z (A2 (C48 Z Z Z) Z (A2 (A4 Z Z) Z (C1 (A32 TyStr.out Z hk1 Z (by first | omega | (simp;omega)) Z) Z (A2 (D3 Z) Z (A2 (A7 Z) Z (F6 (B82 TySz.out Z Z Z Z Z Z) (A6 ?_)))))))))))
 refine k1 (k2 ?_)
 refine A3 (A2 (A4 Z Z) Z (A2 (L0 Z) Z (A2 (A5 Z Z) Z (A2 (A5 Z Z) Z (A6 ?_)))))
 refine k1 (k10 ?_)
 exact l9 (rets2 rfl rfl rfl) (by repeat (first | exact H4 | refine H5 rfl ?_ | refine O8 _ ?_)) (fun _ _ h=>h) ⟨rfl,rfl⟩
theorem B44 {gf:Fr} {ob:Obs} {xs:Str} {c:UInt8} (hb:isBld ob xs) (hlen:xs.length+1≤1073741824) :
  AL.Met Tryz.prog 144 [.one (.ref 700 0),.one (.p (.v (.int .u8 c.toNat)))] gf ob [701] (fun rs ob'=>rs=[.one (.p (.v .nilIface))]∧ob'=bldObs ob xs (xs++[c])):=by
 obtain ⟨⟨a,ha,hk⟩,hk1⟩:=hb
 refine AL.Met.intro Tryz.func144 (by decide) Z Z Z ?_
 refine k2 ?_
 refine A3 (A2 (A5 Z Z) Z (A6 ?_))
 refine k1 (k2 ?_)
 refine A3 (A2 (A4 Z Z) Z (A74 (B43 hk ha) Z Z Z ?_));rintro _ _ ⟨rfl,rfl⟩;refine A6 ?_
 refine k1 (k2 ?_)
 refine A3 (A2 (A4 Z Z) Z (A2 (A4 Z Z) Z (A2 (D3 Z) Z (A2 (A7 Z) Z (A2 (C48 Z Z Z) Z (A2 (A4 Z Z) Z (A2 (C8 (c:=u8C) (ys:=[c]) (D7 Z Z Z Z E7) Z Z Z) Z (C1 (F3 Z hk1 Z (.pure _ _ _ _) (by (simp;omega)) Z) Z (A2 (D3 Z) Z (A2 (A7 Z) Z (F6 (B82 TySz.out Z Z Z Z Z Z) (A6 ?_))))))))))))
 refine k1 (k2 ?_)
 refine A3 (A2 (A5 Z Z) Z (A6 ?_))
 refine k1 (k10 ?_)
 exact l9 (B83 rfl rfl) (by repeat (first | exact H4 | refine H5 rfl ?_ | refine O8 _ ?_)) (fun _ _ h=>h) ⟨rfl,rfl⟩
end Go.Proofs.YtgejaedjnbjpoaaGreatDoor
