/- Walks of the program's functions. -/
import Derived.Test.YtgejaedjnbjpoaaGreatDoorTy
import Derived.Test.YtgejaedjnbjpoaaGreatDoorFs
import Derived.Test.YtgejaedjnbjpoaaGreatDoorSh
namespace Go.Proofs.YtgejaedjnbjpoaaGreatDoor
open Go Go.AL
set_option maxRecDepth 100000
theorem C25 (p:Int):0≤IntKind.u64.wrap p:=by simp [IntKind.wrap,IntKind.signed,IntKind.bits];omega
theorem C67 (s:Str) (hs:s.length≤1099511627776):FnOk Tryz.prog 127 [F5 s] (fun rs=>rs=[D3 (ended s)]):=by
 refine FnOk.intro Tryz.func127 (by decide) Z Z Z Z ?_
 refine k2 ?_
 refine A3 (A2 (A5 Z Z) Z (A6 ?_))
 refine k1 (k2 ?_)
 have hl:s≠[]→s[((s.length:Int) - 1).toNat]?=some (s.getLastD 0):=by
  intro h
  have h1:0 < s.length:=List.length_pos_iff.2 h
  have h2:((s.length:Int) - 1).toNat=s.length - 1:=by omega
  rw [h2,←List.getLast?_eq_getElem?,List.getLast?_eq_some_getLast h,List.getLastD_eq_getLast?,List.getLast?_eq_some_getLast h]
  rfl
 refine A3 (A2 (A4 Z Z) Z (A2 (j4 Z Z) Z (A2 (A4 Z Z) Z (A9 Z Z Z Z (fun hg=>by rw [hg];exact A4 Z Z) ?_))));refine A9 Z Z Z Z (fun hg=>by rw [hg];exact A4 Z Z) ?_;refine A9 Z Z Z Z (fun hg=>by rw [hg];exact D5 Z) ?_;refine A9 Z Z Z Z (fun hg=>by have hq:=hg;(try simp at hq);rw [hg];exact P5 Z Z (by omega)) ?_;refine A9 Z Z Z Z (fun hg=>by have hq:=hg;(try simp at hq);have h1:=List.length_pos_iff.2 hq;rw [hg];exact E9 Z Z (by omega) (hl hq)) ?_;refine A9 Z Z Z Z (fun hg=>by rw [hg];exact F1 Z Z) ?_;refine A2 (B4 Z (fun h=>by first | rfl | (rw [h];rfl)) (fun h=>by first | rfl | (rw [h];rfl))) Z ?_;refine A2 (A5 Z Z) Z (A6 ?_)
 refine k1 (k10 ?_)
 refine B5 (F8 Z Z Z) ?_
 rw [J26]
theorem C68 (b:Str) (hb:b.length≤536870912):FnOk Tryz.prog 61 [F5 b] (fun rs=>rs=[c5 (D2 b)]):=by
 refine FnOk.intro Tryz.func61 (by decide) Z Z Z Z ?_
 refine k2 ?_
 refine A3 (A2 (A5 Z Z) Z (A6 ?_))
 refine k1 (k2 ?_)
 refine A3 (C2 (V3 3 _ J5 Z) Z (A6 ?_))
 refine k1 (k2 ?_)
 refine A3 (A2 (A5 Z Z) Z (A6 ?_))
 refine k1 (k2 (k2 ?_))
 refine A3 (A2 (A5 Z Z) Z (A6 ?_))
 refine k1 (k3 ?_)
 refine D1 (X:=Nat × Nat × List Str) (fun x=>([(0,H4 b),(3,.s (.one (.buf 3 Str 1 J5 x.2.2))),(4,C3 x.2.1),(5,C3 x.1)],[(3,.spare x.2.2.length 1 9)]))
  (fun x=>x.1≤b.length∧x.2.1≤x.1∧x.2.2.length≤x.1∧(x.1=b.length→x.2.1=x.1)∧x.2.2++G2 ((b.drop x.2.1).take (x.1 - x.2.1)) (b.drop x.1)=D2 b) (fun x=>b.length - x.1) (0,0,[]) (by simp [D2]) ?_ ?_
 ·exact J48 ⟨⟨_,rfl,.same _⟩,⟨_,rfl,.same _⟩,⟨_,rfl,.same _⟩,⟨_,rfl,.same _⟩,trivial⟩ ⟨rfl,trivial⟩
 ·rintro ⟨i,from',out⟩ ⟨hi,hf,ho,he,hp⟩
  dsimp only at hi hf ho he hp ⊢
  refine k2 (k2 ?_)
  refine A3 (A2 (A4 Z Z) Z (A2 (A4 Z Z) Z (A2 (D5 Z) Z (A2 (D6 Z Z) Z (A6 ?_)))))
  refine k1 ?_
  refine B2 rfl (fun ht=>?_) (fun ht=>?_)
  ·have hlt:i < b.length:=by simpa using ht
   have hv:b[i]?=some b[i]:=by simp [hlt]
   refine k5 (k1 (k2 (k3 (k2 ?_))))
   refine A3 (A2 (A4 Z Z) Z (A2 (A4 Z Z) Z (A2 (E9 Z Z (by omega) hv) Z (A2 (F1 Z Z) Z (A2 (A4 Z Z) Z (A9 Z Z Z Z (fun hg=>by rw [hg];exact A4 Z Z) ?_))))));refine A9 Z Z Z Z (fun hg=>by have hq:=hg;(try simp at hq);rw [hg];exact C1 Z Z (by omega)) ?_;refine A9 Z Z Z Z (fun hg=>by rw [hg];exact A4 Z Z) ?_;refine A9 Z Z Z Z (fun hg=>by rw [hg];exact D5 Z) ?_;refine A9 Z Z Z Z (fun hg=>by rw [hg];exact F1 Z Z) ?_;refine A2 (B4 Z (fun h=>by first | rfl | (rw [h];rfl)) (fun h=>by first | rfl | (rw [h];rfl))) Z ?_;refine A6 ?_
   refine k1 ?_
   refine B2 rfl (fun ht2=>?_) (fun ht2=>?_)
   ·refine k2 ?_
    refine A3 (A2 (A4 Z Z) Z (A2 (A4 Z Z) Z (A2 (A4 Z Z) Z (A2 (A4 Z Z) Z (A2 (C1 Z Z (by omega)) Z (A2 (S5 Z Z Z (by omega) (by omega) (by omega)) Z (A2 (C6 (c:=J5) (ys:=[_]) (D8 Z Z Z Z F0) Z Z Z) Z (C2 (F9 Z Z Z (.pure _ _ _ _) (by simp;omega) Z) Z (A2 (A5 Z Z) Z (A6 ?_))))))))))
    refine k1 ?_
    refine A3 (A2 (A4 Z Z) Z (A2 (C1 Z Z (by omega)) Z (A2 (A5 Z Z) Z (A6 ?_))))
    refine k4 (k1 ?_)
    refine A3 (A2 (A4 Z Z) Z (A2 (C1 Z Z (by omega)) Z (A2 (A5 Z Z) Z (A6 ?_))))
    refine k1 ?_
    refine ⟨(i+1,i+1,_),⟨?_,?_,?_,?_,?_⟩,?_,J48 ⟨⟨_,rfl,.same _⟩,⟨_,rfl,.same _⟩,⟨_,rfl,.same _⟩,⟨_,rfl,.same _⟩,trivial⟩ ⟨rfl,trivial⟩⟩
    all_goals dsimp only
    ·omega
    ·omega
    ·simp;omega
    ·omega
    ·have hc:b[i]=10∨i+1=b.length:=by
      simp only [E51] at ht2
      by_cases h:b[i]=10
      ·exact .inl h
      ·simp [h] at ht2;exact .inr (by omega)
     rw [E52,J83,K20,List.take_zero,←B86 b from' i hf hlt,J89,←hp,J84 hlt,R8]
     rcases hc with h | h
     ·rw [if_pos h];rfl
     ·have hd:b.drop (i+1)=[]:=J87 (by omega)
      rw [hd]
      split
      ·rfl
      ·rw [show G2 ([]:Str) []=[] from rfl,C79 _ (by simp)];simp
    ·omega
   ·refine k5 (k4 (k1 ?_))
    refine A3 (A2 (A4 Z Z) Z (A2 (C1 Z Z (by omega)) Z (A2 (A5 Z Z) Z (A6 ?_))))
    refine k1 ?_
    refine ⟨(i+1,from',out),⟨?_,?_,?_,?_,?_⟩,?_,J48 ⟨⟨_,rfl,.same _⟩,⟨_,rfl,.same _⟩,⟨_,rfl,.same _⟩,⟨_,rfl,.same _⟩,trivial⟩ ⟨rfl,trivial⟩⟩
    all_goals dsimp only
    ·omega
    ·omega
    ·omega
    ·intro h
     simp [show (i:Int)+1=(b.length:Int) by omega] at ht2
    ·have hc:b[i]≠10:=fun h=>by simp [h] at ht2
     rw [←B86 b from' i hf hlt,←hp,J84 hlt,R8,if_neg hc]
    ·omega
  ·refine k6 (k2 ?_)
   refine A3 (A2 (A4 Z Z) Z (A2 (A5 Z Z) Z (A6 ?_)))
   refine k1 (k10 ?_)
   refine B5 (F8 Z Z Z) ?_
   have hi':i=b.length:=by simp at ht;omega
   subst hi'
   have:=he rfl
   subst this
   rw [K20,List.take_zero,J87 (Nat.le_refl _)] at hp
   rw [←hp];simp [G2]
theorem G56 (b:Str) (hb:b.length≤1099511627776):FnOk Tryz.prog 103 [F5 b] (fun rs=>rs=[E2 (C80 b)]):=by
 refine FnOk.intro Tryz.func103 (by decide) Z Z Z Z ?_
 refine k2 ?_
 refine A3 (A2 (A5 Z Z) Z (A6 ?_))
 refine k1 (k2 (k2 ?_))
 refine A3 (A2 (A4 Z Z) Z (A2 (D5 Z) Z (A2 (L9 Z Z) Z (A2 (A4 Z Z) Z (A9 Z Z Z Z (fun hg=>by rw [hg];exact A4 Z Z) ?_)))));refine A9 Z Z Z Z (fun hg=>by have hq:=hg;(try simp at hq);rw [hg];exact G7 (C68 b (by omega)) Z Z) ?_;refine A9 Z Z Z Z (fun hg=>by rw [hg];exact F2 Z (.pure _ _ _ _)) ?_;refine A9 Z Z Z Z (fun hg=>by rw [hg];exact L9 Z Z) ?_;refine A2 (B4 Z (fun h=>by first | rfl | (rw [h];rfl)) (fun h=>by first | rfl | (rw [h];rfl))) Z ?_;refine A6 ?_
 refine k1 ?_
 refine B2 rfl (fun ht=>?_) (fun ht=>?_)
 ·have h:=A0 (or_pick.symm.trans ht)
  refine k2 ?_
  refine A3 (A2 (A5 Z Z) Z (A6 ?_))
  refine k1 (k10 (k11 ?_))
  exact B5 (F8 rfl rfl rfl) (by rw [C80,if_pos (by omega)])
 ·have h:=A1 (or_pick.symm.trans ht)
  refine k5 (k1 (k2 ?_))
  refine A3 (A2 (A5 Z Z) Z (A6 ?_))
  refine k1 (k10 ?_)
  exact B5 (F8 rfl rfl rfl) (by rw [C80,if_neg (by omega)])
theorem list_ok (l:List Str) (hl:∀s∈l,s.length≤1099511627776):FnOk Tryz.prog 63 [c5 l] (fun rs=>rs=[D3 (c8 l)]):=by
 refine FnOk.intro Tryz.func63 (by decide) Z Z Z Z ?_
 refine A40 (t:=0) rfl (.pure _ _ _ _) fun hlen=>?_
 refine k2 ?_
 refine A3 (A2 (A5 Z Z) Z (A6 ?_))
 refine k1 (k2 (k2 ?_))
 refine A3 (A2 (A5 Z Z) Z (A6 ?_))
 refine k1 (k3 ?_)
 refine D1 (X:=Nat) (fun i=>([(0,C8 Str 1 J5 l),(3,C3 i)],[])) (fun i=>i≤l.length∧c8 l=c8 (l.drop i)) (fun i=>l.length - i) 0 (by simp) (J48 ⟨le1 rfl,le1 rfl,trivial⟩ trivial) ?_
 rintro i ⟨hi,hp⟩
 dsimp only at hi hp ⊢
 refine k2 (k2 ?_)
 refine A3 (A2 (A4 Z Z) Z (A2 (A4 Z Z) Z (A2 (F2 Z (.pure _ _ _ _)) Z (A2 (D6 Z Z) Z (A6 ?_)))))
 refine k1 ?_
 refine B2 rfl (fun ht=>?_) (fun ht=>?_)
 ·have hlt:i < l.length:=by simpa using ht
  have hv:l[i]?=some l[i]:=by simp [hlt]
  have hs:=hl l[i] (J96 hlt)
  rw [J84 hlt] at hp
  refine k5 (k1 (k2 (k3 (k2 (k2 ?_)))))
  refine A3 (A2 (A5 Z Z) Z (A6 ?_))
  refine k1 (k3 ?_)
  refine D1 (X:=Nat) (fun k=>([(0,C8 Str 1 J5 l),(3,C3 i),(4,C3 k)],[])) (fun k=>k≤l[i].length∧J1 l[i]=((l[i].dropLast.drop k).all (·≠10)&&l[i] != [])) (fun k=>l[i].length - k) 0 (by simp [J1]) (J48 ⟨le1 rfl,le1 rfl,le1 rfl,trivial⟩ trivial) ?_
  intro k hk
  dsimp only at hk ⊢
  refine k2 (k2 ?_)
  refine A3 (A2 (A4 Z Z) Z (A2 (C1 Z Z (by omega)) Z (A2 (A4 Z Z) Z (A2 (A4 Z Z) Z (A2 (B3 Z (.pure _ _ _ _) Z (by omega) hv) Z (A2 (B6 Z Z) Z (A2 (D5 Z) Z (A2 (D6 Z Z) Z (A6 ?_)))))))))
  refine k1 ?_
  refine B2 rfl (fun ht=>?_) (fun ht=>?_)
  ·have hk2:k+1 < l[i].length:=by have:=A0 ht;omega
   have hvk:l[i][k]?=some (l[i][k]'(by omega)):=J79 (by omega)
   have hd:l[i].dropLast.drop k=l[i][k]'(by omega)::l[i].dropLast.drop (k+1):=by
    rw [J84 (by simp;omega)];simp
   rw [hd,List.all_cons] at hk
   refine k5 (k1 (k2 (k3 (k2 ?_))))
   refine A3 (A2 (A4 Z Z) Z (A2 (A4 Z Z) Z (A2 (B3 Z (.pure _ _ _ _) Z (by omega) hv) Z (A2 (B6 Z Z) Z (A2 (A4 Z Z) Z (A2 (E9 Z Z (by omega) hvk) Z (A2 (F1 Z Z) Z (A6 ?_))))))))
   refine k1 ?_
   refine B2 rfl (fun ht=>?_) (fun ht=>?_)
   ·have h10:=(E51 _).1 (A0 ht)
    refine k2 ?_
    refine A3 (A2 (A5 Z Z) Z (A6 ?_))
    refine k1 (k10 (k12 (k11 (k11 (k12 (k11 (k12 (k11 (k11 (k12 (k11 ?_)))))))))))
    exact B5 (F8 rfl rfl rfl) (by rw [hp,c8,hk.2];simp [h10])
   ·have h10:l[i][k]'(by omega)≠10:=fun h=>A1 ht ((E51 _).2 h)
    refine k5 (k4 (k1 ?_))
    refine A3 (A2 (A4 Z Z) Z (A2 (C1 Z Z (by omega)) Z (A2 (A5 Z Z) Z (A6 ?_))))
    refine k1 ?_
    exact ⟨k+1,⟨by omega,by rw [hk.2];simp [h10]⟩,by omega,J48 ⟨le1 rfl,le1 rfl,le1 rfl,trivial⟩ trivial⟩
  ·have hk2:l[i].length≤k+1:=by have:=A1 ht;omega
   have hlo:J1 l[i]=(l[i] != []):=by rw [hk.2,J87 (by simp;omega)];rfl
   refine k6 (k2 ?_)
   refine A3 (A2 (A4 Z Z) Z (A2 (A4 Z Z) Z (A2 (B3 Z (.pure _ _ _ _) Z (by omega) hv) Z (A2 (B6 Z Z) Z (A2 (V1 Z Z) Z (A2 (A4 Z Z) Z (A9 Z Z Z Z (fun hg=>by rw [hg];exact A4 Z Z) ?_)))))));refine A9 Z Z Z Z (fun hg=>by have hq:=hg;(try simp at hq);rw [hg];exact C1 Z Z (by omega)) ?_;refine A9 Z Z Z Z (fun hg=>by rw [hg];exact A4 Z Z) ?_;refine A9 Z Z Z Z (fun hg=>by rw [hg];exact F2 Z (.pure _ _ _ _)) ?_;refine A9 Z Z Z Z (fun hg=>by rw [hg];exact D6 Z Z) ?_;refine A9 Z Z Z Z (fun hg=>by rw [hg];exact A4 Z Z) ?_;refine G5 Z Z Z (.gd (.val _)) Z (fun hg=>by obtain ⟨hg1,hg2⟩:=L7 hg;(try rw [hg1]);(try rw [hg2]);exact A4 Z Z) ?_;refine G5 Z Z Z (.gd (.val _)) Z (fun hg=>by obtain ⟨hg1,hg2⟩:=L7 hg;(try rw [hg1]);(try rw [hg2]);exact A4 Z Z) ?_;refine G5 Z Z Z (.gd (.val _)) Z (fun hg=>by have hq:=hg;(try simp at hq);obtain ⟨hg1,hg2⟩:=L7 hg;(try rw [hg1]);(try rw [hg2]);exact B3 Z (.pure _ _ _ _) Z (by omega) hv) ?_;refine G5 Z Z Z (.gd (.val _)) Z (fun hg=>by obtain ⟨hg1,hg2⟩:=L7 hg;(try rw [hg1]);(try rw [hg2]);exact B6 Z Z) ?_;refine G5 Z Z Z (.gd (.val _)) Z (fun hg=>by have hq:=hg;(try simp at hq);obtain ⟨hg1,hg2⟩:=L7 hg;(try rw [hg1]);(try rw [hg2]);exact G7 (C67 l[i] hs) Z Z) ?_;refine G5 Z Z Z (.gd (.val _)) Z (fun hg=>by obtain ⟨hg1,hg2⟩:=L7 hg;(try rw [hg1]);(try rw [hg2]);exact E4 Z) ?_;refine A9 Z Z Z Z (fun hg=>by rw [hg];exact B4 Z (fun h=>by first | rfl | (rw [h];rfl)) (fun h=>by first | rfl | (rw [h];rfl))) ?_;refine A2 (B4 Z (fun h=>by first | rfl | (rw [h];rfl)) (fun h=>by first | rfl | (rw [h];rfl))) Z ?_;refine A6 ?_
   refine k1 ?_
   have he:(l.drop (i+1)).isEmpty=decide (l.length≤i+1):=by
    rw [Bool.eq_iff_iff];simp
   rw [c8,hlo,he] at hp
   refine B2 rfl (fun ht=>?_) (fun ht=>?_)
   ·refine k2 ?_
    refine A3 (A2 (A5 Z Z) Z (A6 ?_))
    refine k1 (k10 (k12 (k11 (k11 (k12 (k11 ?_))))))
    refine B5 (F8 Z Z Z) ?_
    have:c8 l=false:=by
     rw [hp]
     by_cases h:l[i]=[]
     ·simp [h]
     ·rw [if_neg (by simpa using h)] at ht
      by_cases h2:(i:Int)+1 < l.length
      ·rw [if_pos (by simpa using h2)] at ht
       have h3:¬(l.length≤i+1):=by omega
       simp only [Bool.not_eq_true'] at ht
       simp [ht,h3]
      ·rw [if_neg (by simpa using h2)] at ht;cases ht
    rw [this]
   ·refine k5 (k4 (k1 ?_))
    refine A3 (A2 (A4 Z Z) Z (A2 (C1 Z Z (by omega)) Z (A2 (A5 Z Z) Z (A6 ?_))))
    refine k1 ?_
    refine ⟨i+1,⟨by omega,?_⟩,by omega,J48 ⟨le1 rfl,le1 rfl,trivial⟩ trivial⟩
    rw [hp]
    by_cases h:l[i]=[]
    ·rw [if_pos (by simpa using h)] at ht;cases ht
    ·rw [if_neg (by simpa using h)] at ht
     by_cases h2:(i:Int)+1 < l.length
     ·rw [if_pos (by simpa using h2)] at ht
      simp only [Bool.not_eq_false'] at ht
      simp [ht,h]
     ·have h3:l.length≤i+1:=by omega
      simp [h,h3]
 ·have:i=l.length:=by have:=A1 ht;omega
  subst this
  refine k6 (k2 ?_)
  refine A3 (A2 (A5 Z Z) Z (A6 ?_))
  refine k1 (k10 ?_)
  exact B5 (F8 rfl rfl rfl) (by rw [hp];simp [c8])
theorem all_ok (l:List Str) (hl:l.flatten.length≤536870912):FnOk Tryz.prog 128 [c5 l] (fun rs=>rs=[F5 l.flatten]):=by
 refine FnOk.intro Tryz.func128 (by decide) Z Z Z Z ?_
 refine A40 (t:=0) rfl (.pure _ _ _ _) fun hlen=>?_
 refine k2 ?_
 refine A3 (A2 (A5 Z Z) Z (A6 ?_))
 refine k1 (k2 ?_)
 refine A3 (C2 (V3 3 _ u8C Z) Z (A6 ?_))
 refine k1 (k2 (k2 ?_))
 refine A3 (A2 (A5 Z Z) Z (A6 ?_))
 refine k1 (k3 ?_)
 refine D1 (X:=Nat) (fun i=>([(0,C8 Str 1 J5 l),(3,.s (.one (.buf 3 UInt8 1 u8C (l.take i).flatten))),(4,C3 i)],[(3,.spare (l.take i).flatten.length 1 5)])) (fun i=>i≤l.length) (fun i=>l.length - i) 0 (by simp) (J48 ⟨le1 rfl,le1 rfl,le1 rfl,trivial⟩ ⟨rfl,trivial⟩) ?_
 intro i hi
 dsimp only at hi ⊢
 refine k2 (k2 ?_)
 refine A3 (A2 (A4 Z Z) Z (A2 (A4 Z Z) Z (A2 (F2 Z (.pure _ _ _ _)) Z (A2 (D6 Z Z) Z (A6 ?_)))))
 refine k1 ?_
 refine B2 rfl (fun ht=>?_) (fun ht=>?_)
 ·have hlt:i < l.length:=by simpa using ht
  have hv:l[i]?=some l[i]:=by simp [hlt]
  have hf:=Y4 l i hlt
  have hle:=X5 l (i+1)
  rw [hf,J77] at hle
  refine k5 (k1 (k2 (k3 ?_)))
  refine A3 (A2 (A4 Z Z) Z (A2 (A4 Z Z) Z (A2 (A4 Z Z) Z (A2 (B3 Z (.pure _ _ _ _) Z (by omega) hv) Z (A2 (B6 Z Z) Z (C2 (A87 TyStr.out Z Z Z (by omega) Z) Z (A2 (A5 Z Z) Z (A6 ?_))))))))
  refine k4 (k1 ?_)
  refine A3 (A2 (A4 Z Z) Z (A2 (C1 Z Z (by omega)) Z (A2 (A5 Z Z) Z (A6 ?_))))
  refine k1 ?_
  refine ⟨i+1,by omega,by omega,?_⟩
  dsimp only
  rw [hf]
  exact J48 ⟨le1 rfl,le1 rfl,le1 rfl,trivial⟩ ⟨rfl,trivial⟩
 ·have:i=l.length:=by simp at ht;omega
  subst this
  refine k6 (k2 ?_)
  refine A3 (A2 (A4 Z Z) Z (A2 (M4 TyStr.out Z (.buf _ _ _ _ _)) Z (A2 (A5 Z Z) Z (A6 ?_))))
  refine k1 (k10 ?_)
  exact B5 (F8 rfl rfl rfl) (by simp)
theorem line_ok (s:Str) (hs:s.length≤1099511627776):FnOk Tryz.prog 153 [F5 s] (fun rs=>rs=[D3 (J1 s)]):=by
 refine FnOk.intro Tryz.func153 (by decide) Z Z Z Z ?_
 refine k2 ?_
 refine A3 (A2 (A5 Z Z) Z (A6 ?_))
 refine k1 (k2 (k2 ?_))
 refine A3 (A2 (A5 Z Z) Z (A6 ?_))
 refine k1 (k3 ?_)
 refine D1 (X:=Nat) (fun k=>([(0,H4 s),(3,C3 k)],[])) (fun k=>k≤s.length∧J1 s=((s.dropLast.drop k).all (·≠10)&&s != [])) (fun k=>s.length - k) 0 (by simp [J1]) (J48 ⟨le1 rfl,le1 rfl,trivial⟩ trivial) ?_
 intro k hk
 dsimp only at hk ⊢
 refine k2 (k2 ?_)
 refine A3 (A2 (A4 Z Z) Z (A2 (C1 Z Z (by omega)) Z (A2 (A4 Z Z) Z (A2 (D5 Z) Z (A2 (D6 Z Z) Z (A6 ?_))))))
 refine k1 ?_
 refine B2 rfl (fun ht=>?_) (fun ht=>?_)
 ·have hk2:k+1 < s.length:=by have:=A0 ht;omega
  have hvk:s[k]?=some (s[k]'(by omega)):=J79 (by omega)
  have hd:s.dropLast.drop k=s[k]'(by omega)::s.dropLast.drop (k+1):=by
   rw [J84 (by simp;omega)];simp
  rw [hd,List.all_cons] at hk
  refine k5 (k1 (k2 (k3 (k2 ?_))))
  refine A3 (A2 (A4 Z Z) Z (A2 (A4 Z Z) Z (A2 (E9 Z Z (by omega) hvk) Z (A2 (F1 Z Z) Z (A6 ?_)))))
  refine k1 ?_
  refine B2 rfl (fun ht=>?_) (fun ht=>?_)
  ·have h10:=(E51 _).1 (A0 ht)
   refine k2 ?_
   refine A3 (A2 (A5 Z Z) Z (A6 ?_))
   refine k1 (k10 (k12 (k11 (k11 (k12 (k11 ?_))))))
   exact B5 (F8 rfl rfl rfl) (by rw [hk.2];simp [h10])
  ·have h10:s[k]'(by omega)≠10:=fun h=>A1 ht ((E51 _).2 h)
   refine k5 (k4 (k1 ?_))
   refine A3 (A2 (A4 Z Z) Z (A2 (C1 Z Z (by omega)) Z (A2 (A5 Z Z) Z (A6 ?_))))
   refine k1 ?_
   exact ⟨k+1,⟨by omega,by rw [hk.2];simp [h10]⟩,by omega,J48 ⟨le1 rfl,le1 rfl,trivial⟩ trivial⟩
 ·have hk2:s.length≤k+1:=by have:=A1 ht;omega
  have hlo:J1 s=(s != []):=by rw [hk.2,J87 (by simp;omega)];rfl
  refine k6 (k2 ?_)
  refine A3 (A2 (A4 Z Z) Z (A2 (j4 Z Z) Z (A2 (A5 Z Z) Z (A6 ?_))))
  refine k1 (k10 ?_)
  exact B5 (F8 rfl rfl rfl) (by rw [hlo];by_cases h:s=[]<;>simp [h])
theorem G57 (l:List Str) (s:Str):FnOk Tryz.prog 184 [c5 l,F5 s] (fun rs=>rs=[E2 (V4 l s 0)]):=by
 refine FnOk.intro Tryz.func184 (by decide) Z Z Z Z ?_
 refine A40 (t:=0) rfl (.pure _ _ _ _) fun hlen=>?_
 refine k2 ?_
 refine A3 (A2 (A5 Z Z) Z (A6 ?_))
 refine k1 (k2 (k2 ?_))
 refine A3 (A2 (A5 Z Z) Z (A6 ?_))
 refine k1 (k3 ?_)
 refine D1 (X:=Nat) (fun i=>([(0,C8 Str 1 J5 l),(1,H4 s),(5,C3 i)],[])) (fun i=>i≤l.length∧V4 l s 0=V4 (l.drop i) s i) (fun i=>l.length - i) 0 (by simp) (J48 ⟨le1 rfl,le1 rfl,le1 rfl,trivial⟩ trivial) ?_
 rintro i ⟨hi,hp⟩
 dsimp only at hi hp ⊢
 refine k2 (k2 ?_)
 refine A3 (A2 (A4 Z Z) Z (A2 (A4 Z Z) Z (A2 (F2 Z (.pure _ _ _ _)) Z (A2 (D6 Z Z) Z (A6 ?_)))))
 refine k1 ?_
 refine B2 rfl (fun ht=>?_) (fun ht=>?_)
 ·have hlt:i < l.length:=by simpa using ht
  have hv:l[i]?=some l[i]:=by simp [hlt]
  rw [G15 l s i hlt] at hp
  refine k5 (k1 (k2 (k3 (k2 ?_))))
  refine A3 (A2 (A4 Z Z) Z (A2 (A4 Z Z) Z (A2 (B3 Z (.pure _ _ _ _) Z (by omega) hv) Z (A2 (B6 Z Z) Z (A2 (A4 Z Z) Z (A2 (V1 Z Z) Z (A6 ?_)))))))
  refine k1 ?_
  refine B2 rfl (fun ht=>?_) (fun ht=>?_)
  ·rw [if_pos (by simpa using ht)] at hp
   refine k2 ?_
   refine A3 (A2 (A4 Z Z) Z (A2 (A5 Z Z) Z (A6 ?_)))
   refine k1 (k10 (k12 (k11 (k11 (k12 (k11 ?_))))))
   exact B5 (F8 rfl rfl rfl) (by rw [hp])
  ·rw [if_neg (by simpa using ht)] at hp
   refine k5 (k4 (k1 ?_))
   refine A3 (A2 (A4 Z Z) Z (A2 (C1 Z Z (by omega)) Z (A2 (A5 Z Z) Z (A6 ?_))))
   refine k1 ?_
   exact ⟨i+1,⟨by omega,by simpa using hp⟩,by omega,J48 ⟨le1 rfl,le1 rfl,le1 rfl,trivial⟩ trivial⟩
 ·have:i=l.length:=by simp at ht;omega
  subst this
  refine k6 (k2 ?_)
  refine A3 (A2 (A5 Z Z) Z (A6 ?_))
  refine k1 (k10 ?_)
  exact B5 (F8 rfl rfl rfl) (by rw [hp];simp [V4])
theorem G58 (fs:List (List Str)) (hfs:fs.flatten.length≤536870912):FnOk Tryz.prog 104 [pStrss fs] (fun rs=>rs=[c5 (H0 fs)]):=by
 refine FnOk.intro Tryz.func104 (by decide) Z Z Z Z ?_
 refine A40 (t:=0) rfl (.pure _ _ _ _) fun hlen=>?_
 refine k2 ?_
 refine A3 (A2 (A5 Z Z) Z (A6 ?_))
 refine k1 (k2 ?_)
 refine A3 (C2 (V3 3 _ J5 Z) Z (A6 ?_))
 refine k1 (k2 (k2 ?_))
 refine A3 (A2 (A5 Z Z) Z (A6 ?_))
 refine k1 (k3 ?_)
 refine D1 (X:=Nat) (fun f=>([(0,C8 (List Str) 1 strsC fs),(3,.s (.one (.buf 3 Str 1 J5 (H0 (fs.take f))))),(4,C3 f)],[(3,.spare (H0 (fs.take f)).length 1 9)])) (fun f=>f≤fs.length) (fun f=>fs.length - f) 0 (by simp) (J48 ⟨le1 rfl,le1 rfl,le1 rfl,trivial⟩ ⟨rfl,trivial⟩) ?_
 intro f hf
 dsimp only at hf ⊢
 refine k2 (k2 ?_)
 refine A3 (A2 (A4 Z Z) Z (A2 (A4 Z Z) Z (A2 (F2 Z (.pure _ _ _ _)) Z (A2 (D6 Z Z) Z (A6 ?_)))))
 refine k1 ?_
 refine B2 rfl (fun ht=>?_) (fun ht=>?_)
 ·have hlt:f < fs.length:=by have:=A0 ht;omega
  have hv:fs[f]?=some fs[f]:=by simp [hlt]
  have hfl:=Y4 fs f hlt
  have hle:=X5 fs (f+1)
  rw [hfl,J77] at hle
  have hn0:=E53 (fs.take f)
  refine k5 (k1 (k2 (k3 (k2 ?_))))
  refine A3 (A2 (A5 Z Z) Z (A6 ?_))
  refine k1 (k3 ?_)
  refine D1 (X:=Nat) (fun i=>([(0,C8 (List Str) 1 strsC fs),(3,.s (.one (.buf 3 Str 1 J5 ((fs[f].take i).foldl K5 (H0 (fs.take f)))))),(4,C3 f),(5,C3 i)],[(3,.spare ((fs[f].take i).foldl K5 (H0 (fs.take f))).length 1 9)])) (fun i=>i≤fs[f].length) (fun i=>fs[f].length - i) 0 (by simp) (J48 ⟨le1 rfl,le1 rfl,le1 rfl,le1 rfl,trivial⟩ ⟨rfl,trivial⟩) ?_
  intro i hi
  dsimp only at hi ⊢
  have hni:=A30 (fs[f].take i) (H0 (fs.take f))
  rw [J90] at hni
  refine k2 (k2 ?_)
  refine A3 (A2 (A4 Z Z) Z (A2 (A4 Z Z) Z (A2 (A4 Z Z) Z (A2 (B3 Z (.pure _ _ _ _) Z (by omega) hv) Z (A2 (B6 Z Z) Z (A2 (F2 Z (.pure _ _ _ _)) Z (A2 (D6 Z Z) Z (A6 ?_))))))))
  refine k1 ?_
  refine B2 rfl (fun ht=>?_) (fun ht=>?_)
  ·have hlt2:i < fs[f].length:=by have:=A0 ht;omega
   have hvi:fs[f][i]?=some fs[f][i]:=by simp [hlt2]
   have hst:(fs[f].take (i+1)).foldl K5 (H0 (fs.take f))=K5 ((fs[f].take i).foldl K5 (H0 (fs.take f))) fs[f][i]:=by
    rw [List.take_add_one,hvi,Option.toList_some,K21];rfl
   refine k5 (k1 (k2 (k3 (k2 ?_))))
   refine A3 (A2 (A4 Z Z) Z (A2 (A4 Z Z) Z (A2 (A4 Z Z) Z (A2 (B3 Z (.pure _ _ _ _) Z (by omega) hv) Z (A2 (B6 Z Z) Z (A2 (A4 Z Z) Z (A2 (B3 Z (.pure _ _ _ _) Z (by omega) hvi) Z (A2 (B6 Z Z) Z (B9 (G57 _ _) Z Z Z ?_)))))))));rintro _ rfl;refine A2 (D6 Z Z) Z (A6 ?_)
   refine k1 ?_
   have hpl:=G91 ((fs[f].take i).foldl K5 (H0 (fs.take f))) fs[f][i] 0 (Int.le_refl _)
   refine B2 rfl (fun ht=>?_) (fun ht=>?_)
   ·have hnot:=hpl.1 (A0 ht)
    skip
    refine A3 (A2 (A4 Z Z) Z (A2 (A4 Z Z) Z (A2 (A4 Z Z) Z (A2 (B3 Z (.pure _ _ _ _) Z (by omega) hv) Z (A2 (B6 Z Z) Z (A2 (A4 Z Z) Z (A2 (B3 Z (.pure _ _ _ _) Z (by omega) hvi) Z (A2 (B6 Z Z) Z (A2 (C6 (c:=J5) (ys:=[_]) (D8 Z Z Z Z F0) Z Z Z) Z (C2 (F9 Z Z Z (.pure _ _ _ _) (by simp;omega) Z) Z (A2 (A5 Z Z) Z (A6 ?_))))))))))))
    refine k4 (k1 ?_)
    refine A3 (A2 (A4 Z Z) Z (A2 (C1 Z Z (by omega)) Z (A2 (A5 Z Z) Z (A6 ?_))))
    refine k1 ?_
    refine ⟨i+1,by omega,by omega,?_⟩
    rw [hst,K5,if_neg hnot]
    exact J48 ⟨le1 rfl,le1 rfl,le1 rfl,le1 rfl,trivial⟩ ⟨rfl,trivial⟩
   ·have hin:fs[f][i]∈(fs[f].take i).foldl K5 (H0 (fs.take f)):=Classical.byContradiction fun h=>A1 ht (hpl.2 h)
    refine k5 (k4 (k1 ?_))
    refine A3 (A2 (A4 Z Z) Z (A2 (C1 Z Z (by omega)) Z (A2 (A5 Z Z) Z (A6 ?_))))
    refine k1 ?_
    refine ⟨i+1,by omega,by omega,?_⟩
    rw [hst,K5,if_pos hin]
    exact J48 ⟨le1 rfl,le1 rfl,le1 rfl,le1 rfl,trivial⟩ ⟨rfl,trivial⟩
  ·have hi':i=fs[f].length:=by have:=A1 ht;omega
   subst hi'
   refine k6 (k7 (k7 (k8 Z (k4 (k1 ?_)))))
   have:H0 (fs.take (f+1))=(fs[f].take fs[f].length).foldl K5 (H0 (fs.take f)):=by
    rw [H0,hfl,K21,J97];rfl
   refine A3 (A2 (A4 Z Z) Z (A2 (C1 Z Z (by omega)) Z (A2 (A5 Z Z) Z (A6 ?_))))
   refine k1 ?_
   refine ⟨f+1,by omega,by omega,?_⟩
   rw [this]
   exact J48 ⟨le1 rfl,le1 rfl,le1 rfl,trivial⟩ ⟨rfl,trivial⟩
 ·have:f=fs.length:=by have:=A1 ht;omega
  subst this
  refine k6 (k2 ?_)
  refine A3 (A2 (A4 Z Z) Z (A2 (A5 Z Z) Z (A6 ?_)))
  refine k1 (k10 ?_)
  exact B5 (F8 rfl rfl rfl) (by simp)
theorem made_ok (p:List Span) (m n:Int) (hp:p.length≤536870912) (hb:∀s∈p,-1099511627776≤s.From∧s.From≤1099511627776 ∧ -1099511627776≤s.To∧s.To≤1099511627776)
  (hm:-1099511627776≤m∧m≤1099511627776 ∧ -1099511627776≤n∧n≤1099511627776) :
  FnOk Tryz.prog 186 [pSpans p,E2 m,E2 n] (fun rs=>rs=[pChanges (D33 p m n)]):=by
 refine FnOk.intro Tryz.func186 (by decide) Z Z Z Z ?_
 refine k2 ?_
 refine A3 (A2 (A5 Z Z) Z (A6 ?_))
 refine k1 (k2 ?_)
 refine A3 (C2 (V3 7 _ changeC Z) Z (A6 ?_))
 refine k1 (k2 ?_)
 refine A3 (A2 (A5 Z Z) Z (A2 (A5 Z Z) Z (A6 ?_)))
 refine k1 (k2 (k2 ?_))
 refine A3 (A2 (A5 Z Z) Z (A6 ?_))
 refine k1 (k3 ?_)
 refine D1 (X:=Nat × Int × Int × List Change) (fun x=>([(0,C8 Span 2 spanC p),(1,C3 m),(2,C3 n),(7,.s (.one (.buf 7 Change 4 changeC x.2.2.2))),(8,C3 x.2.1),(9,C3 x.2.2.1),(10,C3 x.1)],[(7,.spare x.2.2.2.length 4 164)]))
  (fun x=>x.1≤p.length+1∧x.2.2.2.length≤x.1∧(-1099511627776≤x.2.1∧x.2.1≤1099511627777 ∧ -1099511627776≤x.2.2.1∧x.2.2.1≤1099511627777)∧(x.1≤p.length→x.2.2.2++Z5 x.2.1 x.2.2.1 (p.drop x.1) m n=D33 p m n)∧(x.1=p.length+1→x.2.2.2=D33 p m n))
  (fun x=>p.length+1 - x.1) (0,0,0,[]) (by simp [D33]) (J48 ⟨le1 rfl,le1 rfl,le1 rfl,le1 rfl,le1 rfl,le1 rfl,le1 rfl,trivial⟩ ⟨rfl,trivial⟩) ?_
 rintro ⟨k,i,j,out⟩ ⟨hk,ho,hij,h1,h2⟩
 dsimp only at hk ho hij h1 h2 ⊢
 refine k2 (k2 ?_)
 refine A3 (A2 (A4 Z Z) Z (A2 (A4 Z Z) Z (A2 (F2 Z (.pure _ _ _ _)) Z (A2 (m8 Z Z) Z (A6 ?_)))))
 refine k1 ?_
 refine B2 rfl (fun ht=>?_) (fun ht=>?_)
 ·have hk':k≤p.length:=by have:=A0 ht;omega
  have hpp:=h1 hk'
  refine k5 (k1 (k2 (k3 (k2 ?_))))
  refine A3 (A2 (A4 Z Z) Z (A2 (A4 Z Z) Z (A2 (F6 Z) Z (C2 (G1 11 Z) Z (E3 (B7 TySz.out Z Z Z Z Z Z) (A6 ?_))))))
  refine H8 ?_
  obtain ⟨x,hx⟩:∃x,x=p.getD k ⟨m,n⟩:=⟨_,rfl⟩
  have hxb:-1099511627776≤x.From∧x.From≤1099511627776 ∧ -1099511627776≤x.To∧x.To≤1099511627776:=by
   rw [hx,J82]
   by_cases h:k < p.length
   ·rw [J79 h];exact hb _ (J96 h)
   ·rw [K01 (by omega)];exact hm
  have hmade:Z5 i j (p.drop k) m n=(if x.From > i∨x.To > j then [⟨i,x.From - i,j,x.To - j⟩] else [])++(if k < p.length then Z5 (x.From+1) (x.To+1) (p.drop (k+1)) m n else []):=by
   by_cases h:k < p.length
   ·rw [J84 h,if_pos h,hx,J82,J79 h];rfl
   ·rw [J87 (by omega),if_neg h,hx,J82,K01 (by omega)];simp [Z5]
  refine U6 [(0,C8 Span 2 spanC p),(1,C3 m),(2,C3 n),(7,.s (.one (.buf 7 Change 4 changeC out))),(8,C3 i),(9,C3 j),(10,C3 k),(11,.s (.one (.ref 11 0)))] [(11,.box [.p (.v (.int .i64 x.From)),.p (.v (.int .i64 x.To))]),(7,.spare out.length 4 164)] ?_ ?_
  ·refine k2 ?_
   refine A3 (A2 (A4 Z Z) Z (A2 (A4 Z Z) Z (A2 (F2 Z (.pure _ _ _ _)) Z (A2 (D6 Z Z) Z (A6 ?_)))))
   refine k1 ?_
   refine B2 rfl (fun ht=>?_) (fun ht=>?_)
   ·have hlt:k < p.length:=by have:=A0 ht;omega
    have hv:p[k]?=some p[k]:=by simp [hlt]
    have:x=p[k]:=by rw [hx,J82,hv];rfl
    subst this
    skip
    refine A3 (A2 (A4 Z Z) Z (A2 (A4 Z Z) Z (A2 (B3 Z (.pure _ _ _ _) Z (by omega) hv) Z (A2 (H2 Z Z) Z (E3 (B7 TySz.out Z Z Z Z Z Z) (A6 ?_))))))
    refine k1 ?_
    exact J48 ⟨le1 rfl,le1 rfl,le1 rfl,le1 rfl,le1 rfl,le1 rfl,le1 rfl,le1 rfl,trivial⟩ ⟨rfl,rfl,trivial⟩
   ·have hlt:¬k < p.length:=by have:=A1 ht;omega
    have:x=⟨m,n⟩:=by rw [hx,J82,K01 (by omega)];rfl
    subst this
    refine k5 (k1 ?_)
    exact J48 ⟨le1 rfl,le1 rfl,le1 rfl,le1 rfl,le1 rfl,le1 rfl,le1 rfl,le1 rfl,trivial⟩ ⟨rfl,rfl,trivial⟩
  ·obtain ⟨out',hout'⟩:∃o,o=out++(if x.From > i∨x.To > j then [⟨i,x.From - i,j,x.To - j⟩] else []):=⟨_,rfl⟩
   have hol:out'.length≤k+1:=by rw [hout',J77];split<;>simp<;>omega
   refine U6 [(0,C8 Span 2 spanC p),(1,C3 m),(2,C3 n),(7,.s (.one (.buf 7 Change 4 changeC out'))),(10,C3 k),(11,.s (.one (.ref 11 0)))] [(11,.box [.p (.v (.int .i64 x.From)),.p (.v (.int .i64 x.To))]),(7,.spare out'.length 4 164)] ?_ ?_
   ·refine k2 ?_
    refine A3 (A2 (A7 Z) Z (A2 (B0 Z Z Z) Z (A2 (A4 Z Z) Z (A2 (L9 Z Z) Z (A2 (A4 Z Z) Z (A9 Z Z Z Z (fun hg=>by rw [hg];exact A7 Z) ?_))))));refine A9 Z Z Z Z (fun hg=>by rw [hg];exact B0 Z Z Z) ?_;refine A9 Z Z Z Z (fun hg=>by rw [hg];exact A4 Z Z) ?_;refine A9 Z Z Z Z (fun hg=>by rw [hg];exact L9 Z Z) ?_;refine A2 (B4 Z (fun h=>by first | rfl | (rw [h];rfl)) (fun h=>by first | rfl | (rw [h];rfl))) Z ?_;refine A6 ?_
    refine k1 ?_
    refine B2 rfl (fun ht=>?_) (fun ht=>?_)
    ·have h:=A0 (or_pick.symm.trans ht)
     rw [if_pos h] at hout'
     subst hout'
     skip
     refine A3 (A2 (A4 Z Z) Z (A2 (A4 Z Z) Z (A2 (A7 Z) Z (A2 (B0 Z Z Z) Z (A2 (A4 Z Z) Z (A2 (P5 Z Z (by omega)) Z (A2 (A4 Z Z) Z (A2 (A7 Z) Z (A2 (B0 Z Z Z) Z (A2 (A4 Z Z) Z (A2 (P5 Z Z (by omega)) Z (A2 (F6 Z) Z (A2 (C6 (c:=changeC) (ys:=[⟨_,_,_,_⟩]) (D8 Z Z Z Z F0) Z Z Z) Z (C2 (F9 Z Z Z (.pure _ _ _ _) (by simp;omega) Z) Z (A2 (A5 Z Z) Z (A6 ?_))))))))))))))))
     refine k1 ?_
     exact J48 ⟨le1 rfl,le1 rfl,le1 rfl,le1 rfl,le1 rfl,le1 rfl,trivial⟩ ⟨rfl,rfl,trivial⟩
    ·have h:=A1 (or_pick.symm.trans ht)
     rw [if_neg h,K02] at hout'
     subst hout'
     refine k5 (k1 ?_)
     exact J48 ⟨le1 rfl,le1 rfl,le1 rfl,le1 rfl,le1 rfl,le1 rfl,trivial⟩ ⟨rfl,rfl,trivial⟩
   ·skip
    refine C4 (by kernel_rfl) (by kernel_rfl) (A8 (A7 Z) Z Z (A8 (B0 Z Z Z) Z Z (A8 (C1 Z Z (by omega)) Z Z (A8 (A7 Z) Z Z (A8 (B0 Z Z Z) Z Z (A8 (C1 Z Z (by omega)) Z Z (A8 (A5 Z Z) Z Z (A8 (A5 Z Z) Z Z (H9 ?_)))))))))
    refine k4 (k1 ?_)
    refine A3 (A2 (A4 Z Z) Z (A2 (C1 Z Z (by omega)) Z (A2 (A5 Z Z) Z (A6 ?_))))
    refine k1 ?_
    refine ⟨(k+1,x.From+1,x.To+1,out'),⟨by dsimp only;omega,hol,by dsimp only;omega,?_,?_⟩,by dsimp only;omega,J48 ⟨le1 rfl,le1 rfl,le1 rfl,le1 rfl,le1 rfl,le1 rfl,le1 rfl,trivial⟩ ⟨rfl,trivial⟩⟩
    ·intro hk2
     dsimp only at hk2 ⊢
     rw [←hpp,hmade,if_pos (show k < p.length by omega),hout'];simp
    ·intro hk2
     dsimp only at hk2 ⊢
     rw [←hpp,hmade,if_neg (show ¬k < p.length by omega),hout'];simp
 ·have hk':k=p.length+1:=by have:=A1 ht;omega
  refine k6 (k2 ?_)
  refine A3 (A2 (A4 Z Z) Z (A2 (A5 Z Z) Z (A6 ?_)))
  refine k1 (k10 ?_)
  exact B5 (F8 rfl rfl rfl) (by rw [h2 hk'])
theorem long_ok (a b:List Int):FnOk Tryz.prog 267 [T0 a,T0 b] (fun rs=>rs=[D3 (decide (4096 < a.length∨4096 < b.length))]):=by
 refine FnOk.intro Tryz.func267 (by decide) Z Z Z Z ?_
 refine k2 ?_
 refine A3 (A2 (A5 Z Z) Z (A6 ?_))
 refine k1 (k2 ?_)
 refine A3 (A2 (A4 Z Z) Z (A2 (F2 Z (.pure _ _ _ _)) Z (A2 (L9 Z Z) Z (A2 (A4 Z Z) Z (A9 Z Z Z Z (fun hg=>by rw [hg];exact A4 Z Z) ?_)))));refine A9 Z Z Z Z (fun hg=>by rw [hg];exact F2 Z (.pure _ _ _ _)) ?_;refine A9 Z Z Z Z (fun hg=>by rw [hg];exact L9 Z Z) ?_;refine A2 (B4 Z (fun h=>by first | rfl | (rw [h];rfl)) (fun h=>by first | rfl | (rw [h];rfl))) Z ?_;refine A2 (A5 Z Z) Z (A6 ?_)
 refine k1 (k10 ?_)
 refine B5 (F8 Z Z Z) ?_
 rw [or_pick]
 simp only [List.cons.injEq,and_true,PV.one.injEq,Cell.v.injEq,Value.bool.injEq,decide_eq_decide]
 omega
theorem F36 (l:List Merged) (hl:l.length≤536870912):FnOk Tryz.prog 239 [pMerged l] (fun rs=>rs=[T0 (K8 l)]):=by
 refine FnOk.intro Tryz.func239 (by decide) Z Z Z Z ?_
 refine k2 ?_
 refine A3 (A2 (A5 Z Z) Z (A6 ?_))
 refine k1 (k2 ?_)
 refine A3 (C2 (V3 3 _ H1 Z) Z (A6 ?_))
 refine k1 (k2 (k2 ?_))
 refine A3 (A2 (A5 Z Z) Z (A6 ?_))
 refine k1 (k3 ?_)
 refine D1 (X:=Nat) (fun i=>([(0,C8 Merged 2 mergedC l),(3,.s (.one (.buf 3 Int 1 H1 (K8 (l.take i))))),(4,C3 i)],[(3,.spare (K8 (l.take i)).length 1 3)])) (fun i=>i≤l.length) (fun i=>l.length - i) 0 (by simp) (J48 ⟨le1 rfl,le1 rfl,le1 rfl,trivial⟩ ⟨rfl,trivial⟩) ?_
 intro i hi
 dsimp only at hi ⊢
 refine k2 (k2 ?_)
 refine A3 (A2 (A4 Z Z) Z (A2 (A4 Z Z) Z (A2 (F2 Z (.pure _ _ _ _)) Z (A2 (D6 Z Z) Z (A6 ?_)))))
 refine k1 ?_
 have hlen:(K8 (l.take i)).length=i:=by simp [K8];omega
 refine B2 rfl (fun ht=>?_) (fun ht=>?_)
 ·have hlt:i < l.length:=by have:=A0 ht;omega
  have hv:l[i]?=some l[i]:=by simp [hlt]
  have hst:K8 (l.take (i+1))=K8 (l.take i)++[l[i].Line]:=by
   unfold K8;rw [List.take_add_one,hv,Option.toList_some,J92];rfl
  refine k5 (k1 (k2 (k3 ?_)))
  refine A3 (A2 (A4 Z Z) Z (A2 (A4 Z Z) Z (A2 (A4 Z Z) Z (A2 (B3 Z (.pure _ _ _ _) Z (by omega) hv) Z (A2 (E1 Z) Z (A2 (B6 Z Z) Z (A2 (C6 (c:=H1) (ys:=[_]) (D8 Z Z Z Z F0) Z Z Z) Z (C2 (F9 Z Z Z (.pure _ _ _ _) (by simp;omega) Z) Z (A2 (A5 Z Z) Z (A6 ?_))))))))))
  refine k4 (k1 ?_)
  refine A3 (A2 (A4 Z Z) Z (A2 (C1 Z Z (by omega)) Z (A2 (A5 Z Z) Z (A6 ?_))))
  refine k1 ?_
  refine ⟨i+1,by omega,by omega,?_⟩
  rw [hst]
  exact J48 ⟨le1 rfl,le1 rfl,le1 rfl,trivial⟩ ⟨rfl,trivial⟩
 ·have:i=l.length:=by have:=A1 ht;omega
  subst this
  refine k6 (k2 ?_)
  refine A3 (A2 (A4 Z Z) Z (A2 (A5 Z Z) Z (A6 ?_)))
  refine k1 (k10 ?_)
  exact B5 (F8 rfl rfl rfl) (by simp)
theorem J04 (a b:List Int) (ha:a.length≤536870912) (hb:b.length≤536870912):FnOk Tryz.prog 185 [T0 a,T0 b] (fun rs=>rs=[pIntss (B87 a b)]):=by
 refine FnOk.intro Tryz.func185 (by decide) Z Z Z Z ?_
 refine k2 ?_
 refine A3 (A2 (A5 Z Z) Z (A6 ?_))
 refine k1 (k2 ?_)
 refine A3 (A2 (A4 Z Z) Z (A2 (F2 Z (.pure _ _ _ _)) Z (A2 (C1 Z Z (by omega)) Z (C2 (o7 5 (List Int) intsC [] Z Z (by omega) (by omega) (fun _=>by first | exact ⟨⟨rfl,rfl⟩,trivial⟩ | exact ⟨P4 _ _ _,trivial⟩) (by first | rfl | (simp [H3,J8,Ob.free,SV.free,S1.free,TC.free]<;>rfl))) Z ?_))));refine A2 (A5 Z Z) Z (A6 ?_)
 refine k1 (k2 (k2 ?_))
 refine A3 (A2 (A4 Z Z) Z (A2 (F2 Z (.pure _ _ _ _)) Z (A2 (A5 Z Z) Z (A6 ?_))))
 refine k1 (k3 ?_)
 refine D1 (X:=Nat) (fun i=>([(0,C8 Int 1 H1 a),(1,C8 Int 1 H1 b),(5,.s (.one (.mut 5))),(6,C3 ((i:Int) - 1))],[(5,.arr (List Int) 1 intsC (N3 a b i))])) (fun i=>i≤a.length+1) (fun i=>i) (a.length+1) (Nat.le_refl _) ?_ ?_
 ·refine J48 ⟨⟨_,rfl,.same _⟩,⟨_,rfl,.same _⟩,⟨_,rfl,.same _⟩,⟨_,rfl,.eq (by simp)⟩,trivial⟩ ⟨?_,trivial⟩
  rw [←F10];rfl
 intro i hi
 dsimp only at hi ⊢
 refine k2 (k2 ?_)
 refine A3 (A2 (A4 Z Z) Z (A2 (Z1 Z Z) Z (A6 ?_)))
 refine k1 ?_
 refine B2 rfl (fun ht=>?_) (fun ht=>?_)
 ·obtain ⟨i,rfl⟩:∃r,i=r+1:=⟨i - 1,by have:=A0 ht;omega⟩
  refine R6 [(0,C8 Int 1 H1 a),(1,C8 Int 1 H1 b),(5,.s (.one (.mut 5))),(6,C3 i)] [(5,.arr (List Int) 1 intsC (N3 a b (i+1)))] (J48 ⟨le1 rfl,le1 rfl,le1 rfl,leE Z (by first | (simp;done) | (simp;omega)),trivial⟩ ⟨rfl,trivial⟩) ?_
  refine F4 (J67 5 Z) ?_
  have hTl:((N3 a b (i+1)).map fun x=>TC.p (intsC x 0)).length=a.length+1:=by simp [A03]
  have hRs:=A03 a b (i+1)
  refine k5 (k1 (k2 (k3 (k2 ?_))))
  refine A3 (A2 (A4 Z Z) Z (A2 (A4 Z Z) Z (A2 (A4 Z Z) Z (A2 (F2 Z (.pure _ _ _ _)) Z (A2 (C1 Z Z (by omega)) Z (C2 (o7 23 Int H1 0 Z Z (by omega) (by omega) (fun _=>by first | exact ⟨⟨rfl,rfl⟩,trivial⟩ | exact ⟨P4 _ _ _,trivial⟩) (by first | rfl | (simp [H3,J8,Ob.free,SV.free,S1.free,TC.free]<;>rfl))) Z ?_))))));refine A2 (K1 Z Z Z (by omega) (by omega)) Z (E3 (B43 TySz.out Z Z (by (rw [hTl];simp;omega)) Z Z) ?_);refine A6 ?_
  refine k1 (k2 ?_)
  refine A3 (A2 (A4 Z Z) Z (A2 (F2 Z (.pure _ _ _ _)) Z (A2 (A5 Z Z) Z (A6 ?_))))
  refine k1 (k3 ?_)
  obtain ⟨T,hT⟩:∃T,T=((N3 a b (i+1)).map fun x=>TC.p (intsC x 0)).set i (.mut 23):=⟨_,rfl⟩
  have hTi:T[i]?=some (.mut 23):=by rw [hT,List.getElem?_set_self (by rw [hTl];omega)]
  have hTn:i+1≤a.length→T[i+1]?=some (.p (intsC (P9 a b (i+1) 0) 0)):=fun h=>by
   rw [hT,List.getElem?_set_ne (by omega),K11,B06 a b (i+1) (i+1) (Nat.le_refl _) h];rfl
  refine D1 (X:=Nat) (fun j=>([(0,C8 Int 1 H1 a),(1,C8 Int 1 H1 b),(5,.s (.one (.mut 5))),(6,C3 i),(7,C3 ((j:Int) - 1))],[(5,.tarr (N3 a b (i+1)).length 1 T),(23,.arr Int 1 H1 (P9 a b i j))])) (fun j=>j≤b.length+1) (fun j=>j) (b.length+1) (Nat.le_refl _) ?_ ?_
  ·refine J48 ⟨⟨_,rfl,.same _⟩,⟨_,rfl,.same _⟩,⟨_,rfl,.same _⟩,⟨_,rfl,.same _⟩,⟨_,rfl,.eq (by simp)⟩,trivial⟩ ⟨by rw [hT];rfl,?_,trivial⟩
   rw [←G17];rfl
  intro j hj
  dsimp only at hj ⊢
  refine k2 (k2 ?_)
  refine A3 (A2 (A4 Z Z) Z (A2 (Z1 Z Z) Z (A6 ?_)))
  refine k1 ?_
  refine B2 rfl (fun ht=>?_) (fun ht=>?_)
  ·obtain ⟨j,rfl⟩:∃r,j=r+1:=⟨j - 1,by have:=A0 ht;omega⟩
   refine R6 [(0,C8 Int 1 H1 a),(1,C8 Int 1 H1 b),(5,.s (.one (.mut 5))),(6,C3 i),(7,C3 j)] [(5,.tarr (N3 a b (i+1)).length 1 T),(23,.arr Int 1 H1 (P9 a b i (j+1)))] (J48 ⟨le1 rfl,le1 rfl,le1 rfl,le1 rfl,leE Z (by first | (simp;done) | (simp;omega)),trivial⟩ ⟨rfl,rfl,trivial⟩) ?_
   have hRl:=E55 a b i (j+1)
   have hst:=G92 a b i j
   refine F84 ?_
   refine H8 ?_
   refine U6 [(0,C8 Int 1 H1 a),(1,C8 Int 1 H1 b),(5,.s (.one (.mut 5))),(6,C3 i),(7,C3 j)] [(5,.tarr (N3 a b (i+1)).length 1 T),(23,.arr Int 1 H1 (P9 a b i j))] ?_ ?_
   ·refine k3 (k3 (k2 ?_))
    refine A3 (A2 (A4 Z Z) Z (A2 (A4 Z Z) Z (A2 (F2 Z (.pure _ _ _ _)) Z (A2 (F1 Z Z) Z (A2 (A5 Z Z) Z (A6 ?_))))))
    refine k1 ?_
    refine B2 rfl (fun ht=>?_) (fun ht=>?_)
    ·have hia:i=a.length:=by have:=A0 ht;omega
     have hd:(dist (a.drop i) (b.drop j):Int)=b.length - j:=by rw [hia,J87 (Nat.le_refl _),dist,J88];omega
     rw [hd] at hst
     skip
     refine A3 (A2 (A4 Z Z) Z (A2 (A4 Z Z) Z (A2 (K1 Z Z Z (by omega) (by omega)) Z (A2 (R7 Z Z hTi) Z (A2 (A4 Z Z) Z (A2 (A4 Z Z) Z (A2 (F2 Z (.pure _ _ _ _)) Z (A2 (A4 Z Z) Z (A2 (P5 Z Z (by omega)) Z (A2 (E8 Z Z Z (by omega) (by omega)) Z (E3 (I2 TySz.out Z Z (by (rw [hRl];simp;omega)) Z Z) ?_)))))))))));refine A6 ?_
     refine k4 (k4 (k1 ?_))
     rw [←hst]
     exact J48 ⟨le1 rfl,le1 rfl,le1 rfl,le1 rfl,le1 rfl,trivial⟩ ⟨rfl,rfl,trivial⟩
    ·have hia:i < a.length:=by have:=A1 ht;omega
     refine k2 ?_
     refine A3 (A2 (A4 Z Z) Z (A2 (A4 Z Z) Z (A2 (F2 Z (.pure _ _ _ _)) Z (A2 (F1 Z Z) Z (A2 (A5 Z Z) Z (A6 ?_))))))
     refine k1 ?_
     refine B2 rfl (fun ht=>?_) (fun ht=>?_)
     ·have hjb:j=b.length:=by have:=A0 ht;omega
      have hd:(dist (a.drop i) (b.drop j):Int)=a.length - i:=by rw [hjb,J87 (Nat.le_refl b.length),E54,J88];omega
      rw [hd] at hst
      skip
      refine A3 (A2 (A4 Z Z) Z (A2 (A4 Z Z) Z (A2 (K1 Z Z Z (by omega) (by omega)) Z (A2 (R7 Z Z hTi) Z (A2 (A4 Z Z) Z (A2 (A4 Z Z) Z (A2 (F2 Z (.pure _ _ _ _)) Z (A2 (A4 Z Z) Z (A2 (P5 Z Z (by omega)) Z (A2 (E8 Z Z Z (by omega) (by omega)) Z (E3 (I2 TySz.out Z Z (by (rw [hRl];simp;omega)) Z Z) ?_)))))))))));refine A6 ?_
      refine k4 (k4 (k1 ?_))
      rw [←hst]
      exact J48 ⟨le1 rfl,le1 rfl,le1 rfl,le1 rfl,le1 rfl,trivial⟩ ⟨rfl,rfl,trivial⟩
     ·have hjb:j < b.length:=by have:=A1 ht;omega
      have hva:a[i]?=some a[i]:=by simp [hia]
      have hvb:b[j]?=some b[j]:=by simp [hjb]
      have hdd:=I73 a b i j hia hjb
      have hTn':=hTn hia
      refine k2 ?_
      refine C4 (by kernel_rfl) (by kernel_rfl) (A8 (A4 Z Z) Z Z (A8 (A4 Z Z) Z Z (A8 (B3 Z (.pure _ _ _ _) Z (by omega) hva) Z Z (A8 (B6 Z Z) Z Z (A8 (A4 Z Z) Z Z (A8 (A4 Z Z) Z Z (A8 (B3 Z (.pure _ _ _ _) Z (by omega) hvb) Z Z (A8 (B6 Z Z) Z Z (A8 (F1 Z Z) Z Z (A8 (A5 Z Z) Z Z (H9 ?_)))))))))))
      refine k1 ?_
      refine B2 rfl (fun ht=>?_) (fun ht=>?_)
      ·rw [if_pos (A0 ht)] at hdd
       have hg:=z6 a b (i+1) 0 (j+1) (Nat.zero_le _) hjb
       rw [hdd] at hst
       skip
       refine C4 (by kernel_rfl) (by kernel_rfl) (A8 (A4 Z Z) Z Z (A8 (A4 Z Z) Z Z (A8 (K1 Z Z Z (by omega) (by omega)) Z Z (A8 (R7 Z Z hTi) Z Z (A8 (A4 Z Z) Z Z (A8 (A4 Z Z) Z Z (A8 (A4 Z Z) Z Z (A8 (C1 Z Z (by omega)) Z Z (A8 (K1 Z Z Z (by omega) (by omega)) Z Z (A8 (R7 Z Z hTn') Z Z (A8 (A4 Z Z) Z Z (A8 (C1 Z Z (by omega)) Z Z (A8 (B3 Z (.pure _ _ _ _) Z (by omega) hg) Z Z (A8 (B6 Z Z) Z Z (A8 (E8 Z Z Z (by omega) (by omega)) Z Z (C53 (I2 TySz.out Z Z (by (rw [hRl];simp;omega)) Z Z) Z ?_))))))))))))))));refine H9 ?_
       refine k4 (k4 (k1 ?_))
       rw [←hst]
       exact J48 ⟨le1 rfl,le1 rfl,le1 rfl,le1 rfl,le1 rfl,trivial⟩ ⟨rfl,rfl,trivial⟩
      ·rw [if_neg (A1 ht)] at hdd
       have hg1:=z6 a b (i+1) 0 j (Nat.zero_le _) (by omega)
       have hg2:=z6 a b i (j+1) (j+1) (Nat.le_refl _) (by omega)
       have hl1:=G16 (a.drop (i+1)) (b.drop j)
       have hl2:=G16 (a.drop i) (b.drop (j+1))
       simp only [J88] at hl1 hl2
       have hval:(1:Int)+(if (dist (a.drop i) (b.drop (j+1)):Int) < (dist (a.drop (i+1)) (b.drop j):Int) then (dist (a.drop i) (b.drop (j+1)):Int) else (dist (a.drop (i+1)) (b.drop j):Int))=(dist (a.drop i) (b.drop j):Int):=by
        rw [hdd];split<;>omega
       rw [←hval] at hst
       skip
       refine C4 (by kernel_rfl) (by kernel_rfl) (A8 (A4 Z Z) Z Z (A8 (A4 Z Z) Z Z (A8 (K1 Z Z Z (by omega) (by omega)) Z Z (A8 (R7 Z Z hTi) Z Z (A8 (A4 Z Z) Z Z (A8 (A4 Z Z) Z Z (A8 (A4 Z Z) Z Z (A8 (C1 Z Z (by omega)) Z Z (A8 (K1 Z Z Z (by omega) (by omega)) Z Z (A8 (R7 Z Z hTn') Z Z (A8 (A4 Z Z) Z Z (A8 (B3 Z (.pure _ _ _ _) Z (by omega) hg1) Z Z (A8 (B6 Z Z) Z Z (A8 (A4 Z Z) Z Z (A8 (A4 Z Z) Z Z (A8 (K1 Z Z Z (by omega) (by omega)) Z Z (A8 (R7 Z Z hTi) Z Z (A8 (A4 Z Z) Z Z (A8 (C1 Z Z (by omega)) Z Z (A8 (E8 Z Z Z (by omega) (by omega)) Z Z (A8 (U1 Z Z hg2 Z) Z Z (A8 (F22 Z Z) Z Z (A8 (C1 Z Z (by (constructor<;>split<;>omega))) Z Z ?_)))))))))))))))))))))));refine A8 (E8 Z Z Z (by omega) (by omega)) Z Z (C53 (I2 TySz.out Z Z (by (rw [hRl];simp;omega)) Z Z) Z ?_);refine H9 ?_
       refine k4 (k4 (k1 ?_))
       rw [←hst]
       exact J48 ⟨le1 rfl,le1 rfl,le1 rfl,le1 rfl,le1 rfl,trivial⟩ ⟨rfl,rfl,trivial⟩
   ·skip
    refine A3 (A2 (A4 Z Z) Z (A2 (P5 Z Z (by omega)) Z (A2 (A5 Z Z) Z (A6 ?_))))
    refine k1 ?_
    exact ⟨j,by omega,by omega,J48 ⟨le1 rfl,le1 rfl,le1 rfl,le1 rfl,le1 rfl,trivial⟩ ⟨rfl,rfl,trivial⟩⟩
  ·obtain rfl:j=0:=by have:=A1 ht;omega
   refine F4 (Sees.freeze (k:=23) Z) ?_
   refine F4 (J68 5 (N3 a b i) Z (by simp [A03]) (by rw [hT,H32 (y:=P9 a b i 0) rfl,G18])) ?_
   refine k6 (k7 (k7 (k8 Z (k4 (k1 ?_)))))
   refine A3 (A2 (A4 Z Z) Z (A2 (P5 Z Z (by omega)) Z (A2 (A5 Z Z) Z (A6 ?_))))
   refine k1 ?_
   exact ⟨i,by omega,by omega,J48 ⟨le1 rfl,le1 rfl,le1 rfl,le1 rfl,trivial⟩ ⟨rfl,trivial⟩⟩
 ·obtain rfl:i=0:=by have:=A1 ht;omega
  refine F4 (Sees.freeze (k:=5) Z) ?_
  refine k6 (k2 ?_)
  refine A3 (A2 (A4 Z Z) Z (A2 (A5 Z Z) Z (A6 ?_)))
  refine k1 (k10 ?_)
  exact B5 (F8 rfl rfl rfl) rfl
theorem C69 (a b:List Int):∀(p q:Int),∀s∈J2 p q a b,p≤s.From∧s.From < p+a.length∧q≤s.To∧s.To < q+b.length:=by
 induction a generalizing b with
 | nil=>intro p q s hs;simp [J2] at hs
 | cons x a iha =>
  induction b with
  | nil=>intro p q s hs;simp [J2] at hs
  | cons y b ihb =>
   intro p q s hs
   rw [J2] at hs
   simp only [J78]
   split at hs
   ·rcases List.mem_cons.1 hs with rfl | hs
    ·simp only;omega
    ·have:=iha b (p+1) (q+1) s hs;omega
   ·split at hs
    ·have:=iha (y::b) (p+1) q s hs;simp only [J78] at this;omega
    ·have:=ihb p (q+1) s hs;simp only [J78] at this;omega
theorem I08 (a b:List Int) (ha:a.length≤536870911) (hb:b.length≤536870911):FnOk Tryz.prog 106 [T0 a,T0 b] (fun rs=>rs=[pChanges (r9 a b)]):=by
 refine FnOk.intro Tryz.func106 (by decide) Z Z Z Z ?_
 refine k2 ?_
 refine A3 (A2 (A5 Z Z) Z (A6 ?_))
 refine k1 (k2 ?_)
 refine A3 (A2 (A4 Z Z) Z (A2 (A4 Z Z) Z (B9 (J04 a b (by omega) (by omega)) Z Z Z ?_)));rintro _ rfl;refine A2 (A5 Z Z) Z (A6 ?_)
 refine k1 (k2 ?_)
 refine A3 (C2 (V3 6 _ spanC Z) Z (A6 ?_))
 refine k1 (k2 ?_)
 refine A3 (A2 (A5 Z Z) Z (A2 (A5 Z Z) Z (A6 ?_)))
 refine k1 (k2 (k3 ?_))
 refine D1 (X:=Nat × Nat × List Span) (fun x=>([(0,C8 Int 1 H1 a),(1,C8 Int 1 H1 b),(5,C8 (List Int) 1 intsC (B87 a b)),(6,.s (.one (.buf 6 Span 2 spanC x.2.2))),(7,C3 x.1),(8,C3 x.2.1)],[(6,.spare x.2.2.length 2 95)]))
  (fun x=>x.1≤a.length∧x.2.1≤b.length∧x.2.2.length≤x.1∧x.2.2++J2 x.1 x.2.1 (a.drop x.1) (b.drop x.2.1)=J2 0 0 a b) (fun x=>a.length+b.length - x.1 - x.2.1) (0,0,[]) (by simp) (J48 ⟨le1 rfl,le1 rfl,le1 rfl,le1 rfl,le1 rfl,le1 rfl,trivial⟩ ⟨rfl,trivial⟩) ?_
 rintro ⟨i,j,out⟩ ⟨hi,hj,ho,hp⟩
 dsimp only at hi hj ho hp ⊢
 refine k2 (k2 ?_)
 refine A3 (A2 (A4 Z Z) Z (A2 (A4 Z Z) Z (A2 (F2 Z (.pure _ _ _ _)) Z (A2 (D6 Z Z) Z (A2 (A4 Z Z) Z (A9 Z Z Z Z (fun hg=>by rw [hg];exact A4 Z Z) ?_))))));refine A9 Z Z Z Z (fun hg=>by rw [hg];exact A4 Z Z) ?_;refine A9 Z Z Z Z (fun hg=>by rw [hg];exact F2 Z (.pure _ _ _ _)) ?_;refine A9 Z Z Z Z (fun hg=>by rw [hg];exact D6 Z Z) ?_;refine A2 (B4 Z (fun h=>by first | rfl | (rw [h];rfl)) (fun h=>by first | rfl | (rw [h];rfl))) Z ?_;refine A6 ?_
 refine k1 ?_
 refine B2 rfl (fun ht=>?_) (fun ht=>?_)
 ·have hor:=A0 (or_pick.symm.trans ht)
  refine F84 ?_
  refine H8 ?_
  refine k3 (k3 (k2 ?_))
  have hTi:i < a.length→(B87 a b)[i]?=some (P9 a b i 0):=fun h=>B06 a b 0 i (Nat.zero_le _) (by omega)
  have hTn:i < a.length→(B87 a b)[i+1]?=some (P9 a b (i+1) 0):=fun h=>B06 a b 0 (i+1) (Nat.zero_le _) (by omega)
  have hva:i < a.length→a[i]?=some (a.getD i 0):=fun h=>by simp [J82,h]
  have hvb:j < b.length→b[j]?=some (b.getD j 0):=fun h=>by simp [J82,h]
  have hga:∀h:i < a.length,a.getD i 0=a[i]:=fun h=>by simp [J82,h]
  have hgb:∀h:j < b.length,b.getD j 0=b[j]:=fun h=>by simp [J82,h]
  refine C4 (by kernel_rfl) (by kernel_rfl) (A8 (A4 Z Z) Z Z (A8 (A4 Z Z) Z Z (A8 (F2 Z (.pure _ _ _ _)) Z Z (A8 (D6 Z Z) Z Z (A8 (A4 Z Z) Z Z (C5 Z Z (fun hg=>by rw [hg];exact A4 Z Z) Z Z ?_))))));refine C5 Z Z (fun hg=>by rw [hg];exact A4 Z Z) Z Z ?_;refine C5 Z Z (fun hg=>by rw [hg];exact F2 Z (.pure _ _ _ _)) Z Z ?_;refine C5 Z Z (fun hg=>by rw [hg];exact D6 Z Z) Z Z ?_;refine A8 (B4 Z (fun h=>by first | rfl | (rw [h];rfl)) (fun h=>by first | rfl | (rw [h];rfl))) Z Z ?_;refine A8 (A4 Z Z) Z Z (C5 Z Z (fun hg=>by rw [hg];exact A4 Z Z) Z Z ?_);refine C5 Z Z (fun hg=>by rw [hg];exact A4 Z Z) Z Z ?_;refine C5 Z Z (fun hg=>by have hq:=hg;(try simp at hq);rw [hg];exact B3 Z (.pure _ _ _ _) Z (by omega) (hva (by omega))) Z Z ?_;refine C5 Z Z (fun hg=>by rw [hg];exact B6 Z Z) Z Z ?_;refine C5 Z Z (fun hg=>by rw [hg];exact A4 Z Z) Z Z ?_;refine C5 Z Z (fun hg=>by rw [hg];exact A4 Z Z) Z Z ?_;refine C5 Z Z (fun hg=>by have hq:=hg;(try simp at hq);rw [hg];exact B3 Z (.pure _ _ _ _) Z (by omega) (hvb (by omega))) Z Z ?_;refine C5 Z Z (fun hg=>by rw [hg];exact B6 Z Z) Z Z ?_;refine C5 Z Z (fun hg=>by rw [hg];exact F1 Z Z) Z Z ?_;refine A8 (B4 Z (fun h=>by first | rfl | (rw [h];rfl)) (fun h=>by first | rfl | (rw [h];rfl))) Z Z ?_;refine A8 (A5 Z Z) Z Z (H9 ?_)
  refine k1 ?_
  refine B2 rfl (fun ht=>?_) (fun ht=>?_)
  ·simp only [I3] at ht
   obtain ⟨⟨hia,hjb⟩,heq⟩:=A0 ht
   have hia':i < a.length:=by omega
   have hjb':j < b.length:=by omega
   rw [hga hia',hgb hjb'] at heq
   rw [B61 a b i j hia' hjb',if_pos heq] at hp
   refine k2 ?_
   refine A3 (A2 (A4 Z Z) Z (A2 (A4 Z Z) Z (A2 (A4 Z Z) Z (A2 (F6 Z) Z (A2 (C6 (c:=spanC) (ys:=[⟨_,_⟩]) (D8 Z Z Z Z F0) Z Z Z) Z (C2 (F9 Z Z Z (.pure _ _ _ _) (by simp;omega) Z) Z (A2 (A5 Z Z) Z (A6 ?_))))))))
   refine k1 ?_
   refine A3 (A2 (A4 Z Z) Z (A2 (C1 Z Z (by omega)) Z (A2 (A4 Z Z) Z (A2 (C1 Z Z (by omega)) Z (A2 (A5 Z Z) Z (A2 (A5 Z Z) Z (A6 ?_)))))))
   refine k4 (k4 (k1 ?_))
   exact ⟨(i+1,j+1,out++[⟨i,j⟩]),⟨by dsimp only;omega,by dsimp only;omega,by dsimp only;simp;omega,by dsimp only;rw [J89];exact hp⟩,by dsimp only;omega,J48 ⟨le1 rfl,le1 rfl,le1 rfl,le1 rfl,le1 rfl,le1 rfl,trivial⟩ ⟨rfl,trivial⟩⟩
  ·have hne:∀(h1:i < a.length) (h2:j < b.length),a[i]≠b[j]:=fun h1 h2 h=>by
    simp only [I3] at ht
    exact A1 ht ⟨⟨by omega,by omega⟩,by rw [hga h1,hgb h2];exact h⟩
   refine k2 ?_
   refine C4 (by kernel_rfl) (by kernel_rfl) (A8 (A4 Z Z) Z Z (A8 (A4 Z Z) Z Z (A8 (F2 Z (.pure _ _ _ _)) Z Z (A8 (D6 Z Z) Z Z (A8 (A4 Z Z) Z Z (C5 Z Z (fun hg=>by rw [hg];exact A4 Z Z) Z Z ?_))))));refine C5 Z Z (fun hg=>by rw [hg];exact A4 Z Z) Z Z ?_;refine C5 Z Z (fun hg=>by have hq:=hg;(try simp at hq);rw [hg];exact C1 Z Z (by omega)) Z Z ?_;refine C5 Z Z (fun hg=>by have hq:=hg;(try simp at hq);rw [hg];exact B3 Z (.pure _ _ _ _) Z (by omega) (hTn (by omega))) Z Z ?_;refine C5 Z Z (fun hg=>by rw [hg];exact B6 Z Z) Z Z ?_;refine C5 Z Z (fun hg=>by rw [hg];exact A4 Z Z) Z Z ?_;refine C5 Z Z (fun hg=>by have hq:=hg;(try simp at hq);rw [hg];exact B3 Z (.pure _ _ _ _) Z (by omega) (z6 a b (i+1) 0 j (Nat.zero_le _) hj)) Z Z ?_;refine C5 Z Z (fun hg=>by rw [hg];exact B6 Z Z) Z Z ?_;refine C5 Z Z (fun hg=>by have hq:=hg;(try simp at hq);have h1:=G16 (a.drop (i+1)) (b.drop j);simp only [J88] at h1;rw [hg];exact C1 Z Z (by omega)) Z Z ?_;refine C5 Z Z (fun hg=>by rw [hg];exact A4 Z Z) Z Z ?_;refine C5 Z Z (fun hg=>by rw [hg];exact A4 Z Z) Z Z ?_;refine C5 Z Z (fun hg=>by have hq:=hg;(try simp at hq);rw [hg];exact B3 Z (.pure _ _ _ _) Z (by omega) (hTi (by omega))) Z Z ?_;refine C5 Z Z (fun hg=>by rw [hg];exact B6 Z Z) Z Z ?_;refine C5 Z Z (fun hg=>by rw [hg];exact A4 Z Z) Z Z ?_;refine C5 Z Z (fun hg=>by have hq:=hg;(try simp at hq);rw [hg];exact B3 Z (.pure _ _ _ _) Z (by omega) (z6 a b i 0 j (Nat.zero_le _) hj)) Z Z ?_;refine C5 Z Z (fun hg=>by rw [hg];exact B6 Z Z) Z Z ?_;refine C5 Z Z (fun hg=>by rw [hg];exact F1 Z Z) Z Z ?_;refine A8 (B4 Z (fun h=>by first | rfl | (rw [h];rfl)) (fun h=>by first | rfl | (rw [h];rfl))) Z Z ?_;refine A8 (A5 Z Z) Z Z (H9 ?_)
   refine k1 ?_
   refine B2 rfl (fun ht=>?_) (fun ht=>?_)
   ·rw [I3] at ht
    obtain ⟨hia,hd⟩:=A0 ht
    have hia':i < a.length:=by omega
    have hp':out++J2 (i+1:Nat) j (a.drop (i+1)) (b.drop j)=J2 0 0 a b:=by
     by_cases hjb:j < b.length
     ·rw [B61 a b i j hia' hjb,if_neg (hne hia' hjb),if_pos (by omega)] at hp
      exact hp
     ·rw [J87 (show b.length≤j by omega),A78] at hp ⊢
      exact hp
    skip
    refine A3 (A2 (A4 Z Z) Z (A2 (C1 Z Z (by omega)) Z (A2 (A5 Z Z) Z (A6 ?_))))
    refine k4 (k4 (k1 ?_))
    exact ⟨(i+1,j,out),⟨by dsimp only;omega,by dsimp only;omega,by dsimp only;omega,hp'⟩,by dsimp only;omega,J48 ⟨le1 rfl,le1 rfl,le1 rfl,le1 rfl,le1 rfl,le1 rfl,trivial⟩ ⟨rfl,trivial⟩⟩
   ·rw [I3] at ht
    have hd:=A1 ht
    have hjb:j < b.length:=by
     refine Classical.byContradiction fun h=>?_
     have hjb:j=b.length:=by omega
     have hia:i < a.length:=by omega
     apply hd
     refine ⟨by omega,?_⟩
     rw [J87 (show b.length≤j by omega),E54,E54,J88,J88]
     omega
    have hp':out++J2 i (j+1:Nat) (a.drop i) (b.drop (j+1))=J2 0 0 a b:=by
     by_cases hia:i < a.length
     ·rw [B61 a b i j hia hjb,if_neg (hne hia hjb),if_neg (fun h=>hd ⟨by omega,by omega⟩)] at hp
      exact hp
     ·rw [J87 (show a.length≤i by omega),B31] at hp ⊢
      exact hp
    skip
    refine A3 (A2 (A4 Z Z) Z (A2 (C1 Z Z (by omega)) Z (A2 (A5 Z Z) Z (A6 ?_))))
    refine k4 (k4 (k1 ?_))
    exact ⟨(i,j+1,out),⟨by dsimp only;omega,by dsimp only;omega,by dsimp only;omega,hp'⟩,by dsimp only;omega,J48 ⟨le1 rfl,le1 rfl,le1 rfl,le1 rfl,le1 rfl,le1 rfl,trivial⟩ ⟨rfl,trivial⟩⟩
 ·have hor:=A1 (or_pick.symm.trans ht)
  have hi':i=a.length:=by omega
  have hj':j=b.length:=by omega
  rw [hi',J87 (Nat.le_refl a.length)] at hp
  have hout:out=J2 0 0 a b:=by rw [←hp];simp [J2]
  refine k6 (k2 ?_)
  refine A3 (A2 (A4 Z Z) Z (A2 (A4 Z Z) Z (A2 (F2 Z (.pure _ _ _ _)) Z (A2 (A4 Z Z) Z (A2 (F2 Z (.pure _ _ _ _)) Z (B9 (made_ok out a.length b.length (by omega) (fun s hs=>by have:=C69 a b 0 0 s (hout ▸ hs);omega) (by omega)) Z Z Z ?_))))));rintro _ rfl;refine A2 (A5 Z Z) Z (A6 ?_)
  refine k1 (k10 ?_)
  exact B5 (F8 rfl rfl rfl) (by rw [hout];rfl)
theorem F37 (a b:List Int):FnOk Tryz.prog 238 [T0 a,T0 b] (fun rs=>rs=if 4096 < a.length∨4096 < b.length then [pChanges [],E2 1] else [pChanges (r9 a b),E2 0]):=by
 refine FnOk.intro Tryz.func238 (by decide) Z Z Z Z ?_
 refine k2 ?_
 refine A3 (A2 (A5 Z Z) Z (A2 (A5 Z Z) Z (A6 ?_)))
 refine k1 (k2 (k2 ?_))
 refine A3 (A2 (A4 Z Z) Z (A2 (A4 Z Z) Z (B9 (long_ok a b) Z Z Z ?_)));rintro _ rfl;refine A6 ?_
 refine k1 ?_
 refine B2 rfl (fun ht=>?_) (fun ht=>?_)
 ·have h:=A0 ht
  refine k2 ?_
  refine A3 (A2 (G9 _ 4 changeC) Z (A2 (A5 Z Z) Z (A6 ?_)))
  refine k1 (k10 (k11 ?_))
  exact B5 (X2 rfl rfl rfl rfl rfl) (by rw [if_pos h])
 ·have h:=A1 ht
  refine k5 (k1 (k2 ?_))
  refine A3 (A2 (A4 Z Z) Z (A2 (A4 Z Z) Z (B9 (I08 a b (by omega) (by omega)) Z Z Z ?_)));rintro _ rfl;refine A2 (A5 Z Z) Z (A2 (A5 Z Z) Z (A6 ?_))
  refine k1 (k10 ?_)
  exact B5 (X2 rfl rfl rfl rfl rfl) (by rw [if_neg h])
theorem E31 (l:List Change) (m:Int) (hl:l.length≤1048576) (hm:m≤536870911) (hb:∀c∈l,c.Old≤536870911∧0≤c.OldLen∧c.OldLen≤1048576∧0≤c.NewLen∧c.NewLen≤1048576) :
  FnOk Tryz.prog 107 [pChanges l,E2 m] (fun rs=>rs=[pSpans (n5 l m)]):=by
 refine FnOk.intro Tryz.func107 (by decide) Z Z Z Z ?_
 refine k2 ?_
 refine A3 (A2 (A5 Z Z) Z (A6 ?_))
 refine k1 (k2 ?_)
 refine A3 (C2 (V3 5 _ spanC Z) Z (A6 ?_))
 refine k1 (k2 ?_)
 refine A3 (A2 (A5 Z Z) Z (A2 (A5 Z Z) Z (A6 ?_)))
 refine k1 (k2 (k2 ?_))
 refine A3 (A2 (A5 Z Z) Z (A6 ?_))
 refine k1 (k3 ?_)
 refine D1 (X:=Nat × Int × Int × List Span) (fun x=>([(0,C8 Change 4 changeC l),(1,C3 m),(5,.s (.one (.buf 5 Span 2 spanC x.2.2.2))),(6,C3 x.2.1),(7,C3 x.2.2.1),(8,C3 x.1)],[(5,.spare x.2.2.2.length 2 95)]))
  (fun x=>x.1≤l.length∧0≤x.2.1∧(x.2.2.2.length:Int)≤x.2.1∧x.2.1≤536870911+x.1*1048576∧0≤x.2.2.1∧x.2.2.1≤536870911*(x.1+1)+x.1*1048576∧x.2.2.2.length≤536870911∧x.2.2.2++L3 x.2.1 x.2.2.1 (l.drop x.1) m=n5 l m)
  (fun x=>l.length - x.1) (0,0,0,[]) (by simp [n5]) (J48 ⟨le1 rfl,le1 rfl,le1 rfl,le1 rfl,le1 rfl,le1 rfl,trivial⟩ ⟨rfl,trivial⟩) ?_
 rintro ⟨k,i,j,out⟩ ⟨hk,hi,ho,hi2,hj,hj2,ho2,hp⟩
 dsimp only at hk hi ho hi2 hj hj2 ho2 hp ⊢
 refine k2 (k2 ?_)
 refine A3 (A2 (A4 Z Z) Z (A2 (A4 Z Z) Z (A2 (F2 Z (.pure _ _ _ _)) Z (A2 (D6 Z Z) Z (A6 ?_)))))
 refine k1 ?_
 refine B2 rfl (fun ht=>?_) (fun ht=>?_)
 ·have hlt:k < l.length:=by have:=A0 ht;omega
  have hv:l[k]?=some l[k]:=by simp [hlt]
  have hc:=hb l[k] (J96 hlt)
  rw [J84 hlt,L3] at hp
  refine k5 (k1 (k2 (k3 (k2 (k3 ?_)))))
  refine D1 (X:=Nat) (fun t=>([(0,C8 Change 4 changeC l),(1,C3 m),(5,.s (.one (.buf 5 Span 2 spanC (out++S9 i j t)))),(6,C3 (i+t)),(7,C3 (j+t)),(8,C3 k)],[(5,.spare (out++S9 i j t).length 2 95)]))
   (fun t=>t≤(l[k].Old - i).toNat) (fun t=>(l[k].Old - i).toNat - t) 0 (Nat.zero_le _) (by rw [C82,K02];exact J48 ⟨le1 rfl,le1 rfl,le1 rfl,leE rfl (by first | (simp;done) | (simp;omega)),leE rfl (by first | (simp;done) | (simp;omega)),le1 rfl,trivial⟩ ⟨rfl,trivial⟩) ?_
  intro t htl
  dsimp only at htl ⊢
  have hsl:=B60 i j t
  refine k2 (k2 ?_)
  have hol:out.length+t≤536870911:=by omega
  refine A3 (A2 (A4 Z Z) Z (A2 (A4 Z Z) Z (A2 (A4 Z Z) Z (A2 (B3 Z (.pure _ _ _ _) Z (by omega) hv) Z (A2 (E1 Z) Z (A2 (B6 Z Z) Z (A2 (D6 Z Z) Z (A6 ?_))))))))
  refine k1 ?_
  refine B2 rfl (fun ht=>?_) (fun ht=>?_)
  ·have h1:=A0 ht
   refine k5 (k1 (k3 (k2 ?_)))
   refine A3 (A2 (A4 Z Z) Z (A2 (A4 Z Z) Z (A2 (A4 Z Z) Z (A2 (F6 Z) Z (A2 (C6 (c:=spanC) (ys:=[⟨_,_⟩]) (D8 Z Z Z Z F0) Z Z Z) Z (C2 (F9 Z Z Z (.pure _ _ _ _) (by (simp;omega)) Z) Z (A2 (A5 Z Z) Z (A6 ?_))))))))
   refine k1 ?_
   refine A3 (A2 (A4 Z Z) Z (A2 (C1 Z Z (by omega)) Z (A2 (A4 Z Z) Z (A2 (C1 Z Z (by omega)) Z (A2 (A5 Z Z) Z (A2 (A5 Z Z) Z (A6 ?_)))))))
   refine k4 (k1 ?_)
   refine ⟨t+1,by omega,by omega,?_⟩
   rw [C83,←J89]
   exact J48 ⟨le1 rfl,le1 rfl,le1 rfl,leE rfl (by first | (simp;done) | (simp;omega)),leE rfl (by first | (simp;done) | (simp;omega)),le1 rfl,trivial⟩ ⟨rfl,trivial⟩
  ·have h1:=A1 ht
   have h2:t=(l[k].Old - i).toNat:=by omega
   rw [←h2] at hp
   have h3:max i l[k].Old=i+t:=by omega
   rw [h3] at hp
   refine k6 (k7 (k7 (k8 Z (k1 ?_))))
   refine C4 (by kernel_rfl) (by kernel_rfl) (A8 (A4 Z Z) Z Z (A8 (A4 Z Z) Z Z (A8 (A4 Z Z) Z Z (A8 (B3 Z (.pure _ _ _ _) Z (by omega) hv) Z Z (A8 (E1 Z) Z Z (A8 (B6 Z Z) Z Z (A8 (C1 Z Z (by omega)) Z Z (A8 (A4 Z Z) Z Z (A8 (A4 Z Z) Z Z (A8 (A4 Z Z) Z Z (A8 (B3 Z (.pure _ _ _ _) Z (by omega) hv) Z Z (A8 (E1 Z) Z Z (A8 (B6 Z Z) Z Z (A8 (C1 Z Z (by omega)) Z Z (A8 (A5 Z Z) Z Z (A8 (A5 Z Z) Z Z (H9 ?_)))))))))))))))))
   refine k4 (k1 ?_)
   refine A3 (A2 (A4 Z Z) Z (A2 (C1 Z Z (by omega)) Z (A2 (A5 Z Z) Z (A6 ?_))))
   refine k1 ?_
   exact ⟨(k+1,i+t+l[k].OldLen,j+t+l[k].NewLen,out++S9 i j t),⟨by dsimp only;omega,by dsimp only;omega,by dsimp only;rw [J77,hsl];omega,by dsimp only;omega,by dsimp only;omega,by dsimp only;omega,by dsimp only;rw [J77,hsl];omega,by dsimp only;rw [J89];exact hp⟩,by dsimp only;omega,J48 ⟨le1 rfl,le1 rfl,le1 rfl,le1 rfl,le1 rfl,le1 rfl,trivial⟩ ⟨rfl,trivial⟩⟩
 ·have hk':k=l.length:=by have:=A1 ht;omega
  rw [hk',J87 (Nat.le_refl _),L3] at hp
  refine k6 (k2 (k3 ?_))
  refine D1 (X:=Nat) (fun t=>([(1,C3 m),(5,.s (.one (.buf 5 Span 2 spanC (out++S9 i j t)))),(6,C3 (i+t)),(7,C3 (j+t))],[(5,.spare (out++S9 i j t).length 2 95)]))
   (fun t=>t≤(m - i).toNat) (fun t=>(m - i).toNat - t) 0 (Nat.zero_le _) (by rw [C82,K02];exact J48 ⟨le1 rfl,le1 rfl,leE rfl (by first | (simp;done) | (simp;omega)),leE rfl (by first | (simp;done) | (simp;omega)),trivial⟩ ⟨rfl,trivial⟩) ?_
  intro t htl
  dsimp only at htl ⊢
  have hsl:=B60 i j t
  have hol:out.length+t≤536870911:=by omega
  refine k2 (k2 ?_)
  refine A3 (A2 (A4 Z Z) Z (A2 (A4 Z Z) Z (A2 (D6 Z Z) Z (A6 ?_))))
  refine k1 ?_
  refine B2 rfl (fun ht=>?_) (fun ht=>?_)
  ·have h1:=A0 ht
   refine k5 (k1 (k3 (k2 ?_)))
   refine A3 (A2 (A4 Z Z) Z (A2 (A4 Z Z) Z (A2 (A4 Z Z) Z (A2 (F6 Z) Z (A2 (C6 (c:=spanC) (ys:=[⟨_,_⟩]) (D8 Z Z Z Z F0) Z Z Z) Z (C2 (F9 Z Z Z (.pure _ _ _ _) (by (simp;omega)) Z) Z (A2 (A5 Z Z) Z (A6 ?_))))))))
   refine k1 ?_
   refine A3 (A2 (A4 Z Z) Z (A2 (C1 Z Z (by omega)) Z (A2 (A4 Z Z) Z (A2 (C1 Z Z (by omega)) Z (A2 (A5 Z Z) Z (A2 (A5 Z Z) Z (A6 ?_)))))))
   refine k4 (k1 ?_)
   refine ⟨t+1,by omega,by omega,?_⟩
   rw [C83,←J89]
   exact J48 ⟨le1 rfl,le1 rfl,leE rfl (by first | (simp;done) | (simp;omega)),leE rfl (by first | (simp;done) | (simp;omega)),trivial⟩ ⟨rfl,trivial⟩
  ·have h1:=A1 ht
   have h2:t=(m - i).toNat:=by omega
   refine k6 (k2 ?_)
   refine A3 (A2 (A4 Z Z) Z (A2 (A5 Z Z) Z (A6 ?_)))
   refine k1 (k10 ?_)
   exact B5 (F8 rfl rfl rfl) (by rw [h2,hp])
theorem F38 (l:List Merged) (list:List Int) (p:Int) (hl:l.length≤536870912):FnOk Tryz.prog 187 [pMerged l,T0 list,E2 p] (fun rs=>rs=if 4096 < l.length∨4096 < list.length then [pMerged [],E2 1] else [pMerged (s5 l list p),E2 0]):=by
 refine FnOk.intro Tryz.func187 (by decide) Z Z Z Z ?_
 refine k2 ?_
 refine A3 (A2 (A5 Z Z) Z (A2 (A5 Z Z) Z (A6 ?_)))
 refine k1 (k2 ?_)
 have hlm:(K8 l).length=l.length:=by simp [K8]
 by_cases hbig:4096 < l.length∨4096 < list.length
 ·rw [if_pos hbig]
  refine A3 (A2 (A4 Z Z) Z (B9 (F36 l hl) Z Z Z ?_));rintro _ rfl;refine A2 (A4 Z Z) Z (B9 ((F37 (K8 l) list).mono (post':=fun rs=>rs=[pChanges [],E2 1]) (fun rs h=>by rw [if_pos (by rw [hlm];exact hbig)] at h;exact h)) Z Z Z ?_);rintro _ rfl;refine A2 (A4 Z Z) Z (A2 (B1 Z Z) Z (A2 (B1 Z Z) Z (A2 (A5 Z Z) Z (A2 (A5 Z Z) Z (A6 ?_)))))
  refine k1 (k2 (k2 ?_))
  refine A3 (A2 (A4 Z Z) Z (A2 (L4 Z Z) Z (A6 ?_)))
  refine k1 ?_
  refine B2 rfl (fun ht=>?_) (fun ht=>?_)
  ·refine k2 ?_
   refine A3 (A2 (G9 _ 2 mergedC) Z (A2 (A5 Z Z) Z (A6 ?_)))
   refine k1 (k10 (k11 ?_))
   exact B5 (X2 rfl rfl rfl rfl rfl) rfl
  ·cases A1 ht (by decide)
 ·rw [if_neg hbig]
  refine A3 (A2 (A4 Z Z) Z (B9 (F36 l hl) Z Z Z ?_));rintro _ rfl;refine A2 (A4 Z Z) Z (B9 ((F37 (K8 l) list).mono (post':=fun rs=>rs=[pChanges (r9 (K8 l) list),E2 0]) (fun rs h=>by rw [if_neg (by rw [hlm];exact hbig)] at h;exact h)) Z Z Z ?_);rintro _ rfl;refine A2 (A4 Z Z) Z (A2 (B1 Z Z) Z (A2 (B1 Z Z) Z (A2 (A5 Z Z) Z (A2 (A5 Z Z) Z (A6 ?_)))))
  refine k1 (k2 (k2 ?_))
  refine A3 (A2 (A4 Z Z) Z (A2 (L4 Z Z) Z (A6 ?_)))
  refine k1 ?_
  refine B2 rfl (fun ht=>?_) (fun ht=>?_)
  ·cases A0 ht rfl
  ·have hwb:=C86 (K8 l) list
   have hwl:(r9 (K8 l) list).length≤4097:=by
    have h1:=C14 (J2 0 0 (K8 l) list) 0 0 (K8 l).length list.length
    have h2:=x9 0 0 (K8 l) list
    unfold r9 D33;omega
   have hmw:=C85 (K8 l) list
   have hasc:=B07 (K8 l) list 0 0
   rw [Int.zero_add,Int.zero_add] at hasc
   have hpl:=x9 0 0 (K8 l) list
   rw [hlm] at hmw hasc hpl
   obtain ⟨ps,hps⟩:∃ps,ps=J2 0 0 (K8 l) list:=⟨_,rfl⟩
   refine k5 (k1 (k2 ?_))
   refine A3 (A2 (A4 Z Z) Z (A2 (A4 Z Z) Z (A2 (F2 Z (.pure _ _ _ _)) Z (B9 (E31 (r9 (K8 l) list) l.length (by omega) (by omega) (fun c hc=>by have:=hwb c hc;rw [hlm] at this;omega)) Z Z Z ?_))));rintro _ rfl;refine A2 (A5 Z Z) Z (A6 ?_)
   refine k1 (k2 ?_)
   rw [hmw,←hps]
   rw [←hps] at hasc hpl
   refine A3 (C2 (V3 11 _ mergedC Z) Z (A6 ?_))
   refine k1 (k2 ?_)
   refine A3 (A2 (A5 Z Z) Z (A2 (A5 Z Z) Z (A6 ?_)))
   refine k1 (k2 (k2 ?_))
   refine A3 (A2 (A5 Z Z) Z (A6 ?_))
   refine k1 (k3 ?_)
   have hlb:l.length≤4096∧list.length≤4096:=by omega
   have hwp:=C25 p
   refine D1 (X:=Nat × Nat × Nat × List Merged) (fun x=>([(0,C8 Merged 2 mergedC l),(1,C8 Int 1 H1 list),(2,C3 p),(10,C8 Span 2 spanC ps),(11,.s (.one (.buf 11 Merged 2 mergedC x.2.2.2))),(12,C3 x.2.1),(13,C3 x.2.2.1),(14,C3 x.1)],[(11,.spare x.2.2.2.length 2 169)]))
    (fun x=>x.1≤ps.length+1∧x.2.2.2.length≤x.2.1+x.2.2.1∧x.2.1≤l.length∧x.2.2.1≤list.length∧(x.1≤ps.length→Asc l.length list.length x.2.1 x.2.2.1 (ps.drop x.1)∧x.2.2.2++Y2 l list (R9 p) x.2.1 x.2.2.1 (ps.drop x.1)=Y2 l list (R9 p) 0 0 ps)∧(x.1=ps.length+1→x.2.2.2=Y2 l list (R9 p) 0 0 ps))
    (fun x=>ps.length+1 - x.1) (0,0,0,[]) (by simpa using hasc) (J48 ⟨le1 rfl,le1 rfl,le1 rfl,le1 rfl,le1 rfl,le1 rfl,le1 rfl,le1 rfl,trivial⟩ ⟨rfl,trivial⟩) ?_
   rintro ⟨k,i,j,out⟩ ⟨hk,ho,hi,hj,h1,h2⟩
   dsimp only at hk ho hi hj h1 h2 ⊢
   refine k2 (k2 ?_)
   refine A3 (A2 (A4 Z Z) Z (A2 (A4 Z Z) Z (A2 (F2 Z (.pure _ _ _ _)) Z (A2 (m8 Z Z) Z (A6 ?_)))))
   refine k1 ?_
   refine B2 rfl (fun ht=>?_) (fun ht=>?_)
   ·have hk':k≤ps.length:=by have:=A0 ht;omega
    obtain ⟨ha,hp⟩:=h1 hk'
    refine k5 (k1 (k2 (k3 (k2 ?_))))
    refine A3 (A2 (A4 Z Z) Z (A2 (F2 Z (.pure _ _ _ _)) Z (A2 (A4 Z Z) Z (A2 (F2 Z (.pure _ _ _ _)) Z (A2 (F6 Z) Z (C2 (G1 15 Z) Z (E3 (B7 TySz.out Z Z Z Z Z Z) (A6 ?_))))))))
    refine H8 ?_
    obtain ⟨x,hx⟩:∃x,x=ps.getD k ⟨l.length,list.length⟩:=⟨_,rfl⟩
    have hstep:(i:Int)≤x.From∧(j:Int)≤x.To∧x.From≤l.length∧x.To≤list.length∧(k < ps.length→x.From < l.length∧x.To < list.length∧Asc l.length list.length (x.From+1) (x.To+1) (ps.drop (k+1))) ∧
      Y2 l list (R9 p) i j (ps.drop k)=(l.drop i).take (x.From.toNat - i)++(((list.drop j).take (x.To.toNat - j)).map fun v=>⟨v,R9 p⟩)++(if k < ps.length then (l[x.From.toNat]?.map fun y=>(⟨y.Line,V0 y.Parents (R9 p)⟩:Merged)).toList++Y2 l list (R9 p) (x.From.toNat+1) (x.To.toNat+1) (ps.drop (k+1)) else []):=by
     by_cases h:k < ps.length
     ·have hxk:x=ps[k]:=by rw [hx,J82,J79 h];rfl
      rw [J84 h,←hxk] at ha
      obtain ⟨a1,a2,a3⟩:=ha
      have a4:=a3.le
      refine ⟨a1,a2,by omega,by omega,fun _=>⟨by omega,by omega,a3⟩,?_⟩
      rw [J84 h,←hxk,if_pos h];rfl
     ·have hxk:x=⟨l.length,list.length⟩:=by rw [hx,J82,K01 (by omega)];rfl
      rw [hxk,if_neg h,J87 (show ps.length≤k by omega)]
      refine ⟨by simp only;omega,by simp only;omega,Int.le_refl _,Int.le_refl _,fun h'=>absurd h' h,?_⟩
      simp [Y2]
    obtain ⟨hx1,hx2,hx3,hx4,hx5,hjg⟩:=hstep
    refine U6 [(0,C8 Merged 2 mergedC l),(1,C8 Int 1 H1 list),(2,C3 p),(10,C8 Span 2 spanC ps),(11,.s (.one (.buf 11 Merged 2 mergedC out))),(12,C3 i),(13,C3 j),(14,C3 k),(15,.s (.one (.ref 15 0)))] [(15,.box [.p (.v (.int .i64 x.From)),.p (.v (.int .i64 x.To))]),(11,.spare out.length 2 169)] ?_ ?_
    ·refine k2 ?_
     refine A3 (A2 (A4 Z Z) Z (A2 (A4 Z Z) Z (A2 (F2 Z (.pure _ _ _ _)) Z (A2 (D6 Z Z) Z (A6 ?_)))))
     refine k1 ?_
     refine B2 rfl (fun ht=>?_) (fun ht=>?_)
     ·have hlt:k < ps.length:=by have:=A0 ht;omega
      have hv:ps[k]?=some ps[k]:=by simp [hlt]
      have:x=ps[k]:=by rw [hx,J82,hv];rfl
      subst this
      skip
      refine A3 (A2 (A4 Z Z) Z (A2 (A4 Z Z) Z (A2 (B3 Z (.pure _ _ _ _) Z (by omega) hv) Z (A2 (H2 Z Z) Z (E3 (B7 TySz.out Z Z Z Z Z Z) (A6 ?_))))))
      refine k1 ?_
      exact J48 ⟨le1 rfl,le1 rfl,le1 rfl,le1 rfl,le1 rfl,le1 rfl,le1 rfl,le1 rfl,le1 rfl,trivial⟩ ⟨rfl,rfl,trivial⟩
     ·have hlt:¬k < ps.length:=by have:=A1 ht;omega
      have:x=⟨l.length,list.length⟩:=by rw [hx,J82,K01 (by omega)];rfl
      subst this
      refine k5 (k1 ?_)
      exact J48 ⟨le1 rfl,le1 rfl,le1 rfl,le1 rfl,le1 rfl,le1 rfl,le1 rfl,le1 rfl,le1 rfl,trivial⟩ ⟨rfl,rfl,trivial⟩
    ·obtain ⟨f,hf⟩:∃f:Nat,x.From=f:=⟨x.From.toNat,by omega⟩
     obtain ⟨g,hg⟩:∃g:Nat,x.To=g:=⟨x.To.toNat,by omega⟩
     rw [hf] at hx1 hx3 hx5 hjg
     rw [hg] at hx2 hx4 hx5 hjg
     simp only [J83] at hjg
     rw [hf,hg]
     refine k2 (k3 ?_)
     refine D1 (X:=Nat) (fun t=>([(0,C8 Merged 2 mergedC l),(1,C8 Int 1 H1 list),(2,C3 p),(10,C8 Span 2 spanC ps),(11,.s (.one (.buf 11 Merged 2 mergedC (out++(l.drop i).take t)))),(12,C3 ((i+t:Nat):Int)),(13,C3 j),(14,C3 k),(15,.s (.one (.ref 15 0)))],[(15,.box [.p (.v (.int .i64 f)),.p (.v (.int .i64 g))]),(11,.spare (out++(l.drop i).take t).length 2 169)]))
      (fun t=>t≤f - i) (fun t=>f - i - t) 0 (Nat.zero_le _) (by rw [List.take_zero,K02];exact J48 ⟨le1 rfl,le1 rfl,le1 rfl,le1 rfl,le1 rfl,le1 rfl,le1 rfl,le1 rfl,le1 rfl,trivial⟩ ⟨rfl,rfl,trivial⟩) ?_
     intro t htl
     dsimp only at htl ⊢
     have hb1:(out++(l.drop i).take t).length≤i+j+t:=by simp;omega
     refine k2 (k2 ?_)
     refine A3 (A2 (A4 Z Z) Z (A2 (A7 Z) Z (A2 (B0 Z Z Z) Z (A2 (D6 Z Z) Z (A6 ?_)))))
     refine k1 ?_
     refine B2 rfl (fun ht=>?_) (fun ht=>?_)
     ·have hlt:i+t < f:=by have:=A0 ht;omega
      have hv:l[i+t]?=some (l[i+t]'(by omega)):=J79 (by omega)
      refine k5 (k1 (k3 (k2 ?_)))
      refine A3 (A2 (A4 Z Z) Z (A2 (A4 Z Z) Z (A2 (A4 Z Z) Z (A2 (B3 Z (.pure _ _ _ _) Z (by omega) hv) Z (A2 (H2 Z Z) Z (A2 (C6 (c:=mergedC) (ys:=[⟨_,_⟩]) (D8 Z Z Z Z F0) Z Z Z) Z (C2 (F9 Z Z Z (.pure _ _ _ _) (by (simp only [J78,J81];omega)) Z) Z (A2 (A5 Z Z) Z (A6 ?_)))))))))
      refine k1 ?_
      refine A3 (A2 (A4 Z Z) Z (A2 (C1 Z Z (by omega)) Z (A2 (A5 Z Z) Z (A6 ?_))))
      refine k4 (k1 ?_)
      refine ⟨t+1,by omega,by omega,?_⟩
      rw [B62 l i t (by omega),←J89]
      exact J48 ⟨le1 rfl,le1 rfl,le1 rfl,le1 rfl,le1 rfl,le1 rfl,le1 rfl,le1 rfl,le1 rfl,trivial⟩ ⟨rfl,rfl,trivial⟩
     ·have hte:i+t=f:=by have:=A1 ht;omega
      rw [hte]
      rw [show t=f - i by omega]
      rw [show t=f - i by omega] at hb1
      obtain ⟨o1,ho1⟩:∃o1,o1=out++(l.drop i).take (f - i):=⟨_,rfl⟩
      rw [←ho1] at hb1 ⊢
      refine k6 (k2 (k3 ?_))
      refine D1 (X:=Nat) (fun t=>([(0,C8 Merged 2 mergedC l),(1,C8 Int 1 H1 list),(2,C3 p),(10,C8 Span 2 spanC ps),(11,.s (.one (.buf 11 Merged 2 mergedC (o1++((list.drop j).take t).map fun v=>⟨v,R9 p⟩)))),(12,C3 f),(13,C3 ((j+t:Nat):Int)),(14,C3 k),(15,.s (.one (.ref 15 0)))],[(15,.box [.p (.v (.int .i64 f)),.p (.v (.int .i64 g))]),(11,.spare (o1++((list.drop j).take t).map fun v=>(⟨v,R9 p⟩:Merged)).length 2 169)]))
       (fun t=>t≤g - j) (fun t=>g - j - t) 0 (Nat.zero_le _) (by rw [List.take_zero,K12,K02];exact J48 ⟨le1 rfl,le1 rfl,le1 rfl,le1 rfl,le1 rfl,le1 rfl,le1 rfl,le1 rfl,le1 rfl,trivial⟩ ⟨rfl,rfl,trivial⟩) ?_
      intro t htl
      dsimp only at htl ⊢
      have hb2:(o1++((list.drop j).take t).map fun v=>(⟨v,R9 p⟩:Merged)).length≤i+j+(f - i)+t:=by simp;omega
      refine k2 (k2 ?_)
      refine A3 (A2 (A4 Z Z) Z (A2 (A7 Z) Z (A2 (B0 Z Z Z) Z (A2 (D6 Z Z) Z (A6 ?_)))))
      refine k1 ?_
      refine B2 rfl (fun ht=>?_) (fun ht=>?_)
      ·have hlt:j+t < g:=by have:=A0 ht;omega
       have hv:list[j+t]?=some (list[j+t]'(by omega)):=J79 (by omega)
       refine k5 (k1 (k3 (k2 ?_)))
       refine A3 (A2 (A4 Z Z) Z (A2 (A4 Z Z) Z (A2 (A4 Z Z) Z (A2 (B3 Z (.pure _ _ _ _) Z (by omega) hv) Z (A2 (B6 Z Z) Z (A2 (A4 Z Z) Z (A2 (I1 Z) Z (A2 (D50 Z Z (by omega)) Z (A2 (F6 Z) Z (A2 (C6 (c:=mergedC) (ys:=[⟨_,_⟩]) (D8 Z Z Z Z F0) Z Z Z) Z (C2 (F9 Z Z Z (.pure _ _ _ _) (by (simp only [J78,J81];omega)) Z) Z (A2 (A5 Z Z) Z (A6 ?_)))))))))))))
       refine k1 ?_
       refine A3 (A2 (A4 Z Z) Z (A2 (C1 Z Z (by omega)) Z (A2 (A5 Z Z) Z (A6 ?_))))
       refine k4 (k1 ?_)
       refine ⟨t+1,by omega,by omega,?_⟩
       rw [B62 list j t (by omega),J92,←J89]
       simp only [J85,K12]
       exact J48 ⟨le1 rfl,le1 rfl,le1 rfl,le1 rfl,le1 rfl,le1 rfl,le1 rfl,le1 rfl,le1 rfl,trivial⟩ ⟨rfl,rfl,trivial⟩
      ·have hte:j+t=g:=by have:=A1 ht;omega
       rw [hte]
       rw [show t=g - j by omega]
       rw [show t=g - j by omega] at hb2
       obtain ⟨o2,ho2⟩:∃o2,o2=o1++((list.drop j).take (g - j)).map fun v=>(⟨v,R9 p⟩:Merged):=⟨_,rfl⟩
       rw [←ho2] at hb2 ⊢
       have hout:out++Y2 l list (R9 p) i j (ps.drop k)=o2++(if k < ps.length then (l[f]?.map fun y=>(⟨y.Line,V0 y.Parents (R9 p)⟩:Merged)).toList++Y2 l list (R9 p) (f+1) (g+1) (ps.drop (k+1)) else []):=by
        rw [hjg,ho2,ho1];simp only [J89]
       rw [hout] at hp
       refine k6 (k2 ?_)
       refine A3 (A2 (A4 Z Z) Z (A2 (A4 Z Z) Z (A2 (F2 Z (.pure _ _ _ _)) Z (A2 (D6 Z Z) Z (A6 ?_)))))
       refine k1 ?_
       refine B2 rfl (fun ht=>?_) (fun ht=>?_)
       ·have hlt:k < ps.length:=by have:=A0 ht;omega
        obtain ⟨hf1,hg1,hasc'⟩:=hx5 hlt
        have hfl:f < l.length:=by omega
        have hv:l[f]?=some l[f]:=J79 hfl
        rw [if_pos hlt,hv] at hp
        refine k2 ?_
        refine C4 (by kernel_rfl) (by kernel_rfl) (A8 (A4 Z Z) Z Z (A8 (A4 Z Z) Z Z (A8 (A4 Z Z) Z Z (A8 (B3 Z (.pure _ _ _ _) Z (by omega) hv) Z Z (A8 (E1 Z) Z Z (A8 (B6 Z Z) Z Z (A8 (A4 Z Z) Z Z (A8 (A4 Z Z) Z Z (A8 (B3 Z (.pure _ _ _ _) Z (by omega) hv) Z Z (A8 (E1 Z) Z Z (A8 (B6 Z Z) Z Z (A8 (A4 Z Z) Z Z (A8 (I1 Z) Z Z (A8 (D50 Z Z (by omega)) Z Z (A8 (T4 Z Z Z (fun _=>rfl)) Z Z (A8 (F6 Z) Z Z (A8 (C6 (c:=mergedC) (ys:=[⟨l[f].Line,V0 l[f].Parents (R9 p)⟩]) (D8 Z Z Z Z F0) Z Z Z) Z Z (E11 (F9 Z Z Z (.pure _ _ _ _) (by (simp only [J78,J81];omega)) Z) Z Z (A8 (A5 Z Z) Z Z (H9 ?_))))))))))))))))))))
        refine k1 ?_
        refine A3 (A2 (A4 Z Z) Z (A2 (C1 Z Z (by omega)) Z (A2 (A4 Z Z) Z (A2 (C1 Z Z (by omega)) Z (A2 (A5 Z Z) Z (A2 (A5 Z Z) Z (A6 ?_)))))))
        refine k4 (k1 ?_)
        refine A3 (A2 (A4 Z Z) Z (A2 (C1 Z Z (by omega)) Z (A2 (A5 Z Z) Z (A6 ?_))))
        refine k1 ?_
        refine ⟨(k+1,f+1,g+1,o2++[⟨l[f].Line,V0 l[f].Parents (R9 p)⟩]),⟨by dsimp only;omega,by dsimp only;simp only [J77,J78,J81];omega,by dsimp only;omega,by dsimp only;omega,fun _=>⟨hasc',?_⟩,fun h=>?_⟩,by dsimp only;omega,J48 ⟨le1 rfl,le1 rfl,le1 rfl,le1 rfl,le1 rfl,le1 rfl,le1 rfl,le1 rfl,trivial⟩ ⟨rfl,trivial⟩⟩
        ·rw [←hp];simp
        ·dsimp only at h ⊢
         omega
       ·have hlt:¬k < ps.length:=by have:=A1 ht;omega
        rw [if_neg hlt,K02] at hp
        refine k5 (k4 (k1 ?_))
        refine A3 (A2 (A4 Z Z) Z (A2 (C1 Z Z (by omega)) Z (A2 (A5 Z Z) Z (A6 ?_))))
        refine k1 ?_
        exact ⟨(k+1,f,g,o2),⟨by dsimp only;omega,by dsimp only;omega,by dsimp only;omega,by dsimp only;omega,fun h=>by dsimp only at h;omega,fun _=>hp⟩,by dsimp only;omega,J48 ⟨le1 rfl,le1 rfl,le1 rfl,le1 rfl,le1 rfl,le1 rfl,le1 rfl,le1 rfl,trivial⟩ ⟨rfl,trivial⟩⟩
   ·have hk':k=ps.length+1:=by have:=A1 ht;omega
    refine k6 (k2 ?_)
    refine A3 (A2 (A4 Z Z) Z (A2 (A5 Z Z) Z (A2 (A5 Z Z) Z (A6 ?_))))
    refine k1 (k10 ?_)
    exact B5 (X2 rfl rfl rfl rfl rfl) (by rw [h2 hk',hps];rfl)
theorem E99 (l:List Merged) (list:List Int) (p:Int) (h1:l.length≤4096) (h2:list.length≤4096):(s5 l list p).length≤536870912:=by
 have h3:=C15 l list (R9 p) (J2 0 0 (K8 l) list) 0 0
 have h4:=x9 0 0 (K8 l) list
 have h5:(K8 l).length=l.length:=by simp [K8]
 unfold s5
 have h6:l.length*((J2 0 0 (K8 l) list).length+1)≤4096*4097:=Nat.mul_le_mul h1 (by omega)
 have h7:list.length*((J2 0 0 (K8 l) list).length+1)≤4096*4097:=Nat.mul_le_mul h2 (by omega)
 omega
theorem G59 (ls:List (List Int)):FnOk Tryz.prog 108 [pIntss ls] (fun rs=>rs=[pMerged (J3 ls).1,E2 (J3 ls).2]):=by
 refine FnOk.intro Tryz.func108 (by decide) Z Z Z Z ?_
 refine k2 ?_
 refine A3 (A2 (A5 Z Z) Z (A2 (A5 Z Z) Z (A6 ?_)))
 refine k1 (k2 (k2 ?_))
 refine A3 (A2 (A4 Z Z) Z (A2 (F2 Z (.pure _ _ _ _)) Z (A2 (L9 Z Z) Z (A6 ?_))))
 refine k1 ?_
 refine B2 rfl (fun ht=>?_) (fun ht=>?_)
 ·have h:=A0 ht
  refine k2 ?_
  refine A3 (A2 (G9 _ 2 mergedC) Z (A2 (A5 Z Z) Z (A6 ?_)))
  refine k1 (k10 (k11 ?_))
  exact B5 (X2 rfl rfl rfl rfl rfl) (by rw [J3,if_pos (by omega)])
 ·have h:=A1 ht
  have hco:J3 ls=O8 [] 0 ls:=by rw [J3,if_neg (by omega)]
  rw [hco]
  refine k5 (k1 (k2 ?_))
  refine A3 (A2 (G9 _ 2 mergedC) Z (A6 ?_))
  refine k1 (k2 (k2 ?_))
  refine A3 (A2 (A5 Z Z) Z (A6 ?_))
  refine k1 (k3 ?_)
  refine D1 (X:=Nat × List Merged) (fun x=>([(0,C8 (List Int) 1 intsC ls),(4,C8 Merged 2 mergedC x.2),(5,C3 x.1)],[])) (fun x=>x.1≤ls.length∧x.2.length≤536870912∧O8 [] 0 ls=O8 x.2 x.1 (ls.drop x.1)) (fun x=>ls.length - x.1) (0,[]) (by simp) (J48 ⟨le1 rfl,le1 rfl,le1 rfl,trivial⟩ trivial) ?_
  rintro ⟨k,acc⟩ ⟨hk,hacc,hp⟩
  dsimp only at hk hacc hp ⊢
  refine k2 (k2 ?_)
  refine A3 (A2 (A4 Z Z) Z (A2 (A4 Z Z) Z (A2 (F2 Z (.pure _ _ _ _)) Z (A2 (D6 Z Z) Z (A6 ?_)))))
  refine k1 ?_
  refine B2 rfl (fun ht=>?_) (fun ht=>?_)
  ·have hlt:k < ls.length:=by have:=A0 ht;omega
   have hv:ls[k]?=some ls[k]:=by simp [hlt]
   rw [J84 hlt,O8] at hp
   by_cases hbig:4096 < acc.length∨4096 < ls[k].length
   ·rw [if_pos hbig] at hp
    refine k5 (k1 (k2 (k3 (k2 ?_))))
    refine A3 (A2 (A4 Z Z) Z (A2 (A4 Z Z) Z (A2 (A4 Z Z) Z (A2 (B3 Z (.pure _ _ _ _) Z (by omega) hv) Z (A2 (B6 Z Z) Z (A2 (A4 Z Z) Z (B9 ((F38 acc ls[k] k hacc).mono (post':=fun rs=>rs=[pMerged [],E2 1]) (fun rs h=>by rw [if_pos hbig] at h;exact h)) Z Z Z ?_)))))));rintro _ rfl;refine A2 (A4 Z Z) Z (A2 (B1 Z Z) Z (A2 (B1 Z Z) Z (A2 (A5 Z Z) Z (A2 (A5 Z Z) Z (A6 ?_)))))
    refine k1 (k2 (k2 ?_))
    refine A3 (A2 (A4 Z Z) Z (A2 (L4 Z Z) Z (A6 ?_)))
    refine k1 ?_
    refine B2 rfl (fun ht=>?_) (fun ht=>?_)
    ·refine k2 ?_
     refine A3 (A2 (A4 Z Z) Z (A2 (G9 _ 2 mergedC) Z (A2 (A5 Z Z) Z (A6 ?_))))
     refine k1 (k10 (k11 (k12 (k11 (k11 (k12 (k11 ?_)))))))
     exact B5 (X2 rfl rfl rfl rfl rfl) (by rw [hp])
    ·cases A1 ht (by decide)
   ·rw [if_neg hbig] at hp
    have hjl:=E99 acc ls[k] k (by omega) (by omega)
    refine k5 (k1 (k2 (k3 (k2 ?_))))
    refine A3 (A2 (A4 Z Z) Z (A2 (A4 Z Z) Z (A2 (A4 Z Z) Z (A2 (B3 Z (.pure _ _ _ _) Z (by omega) hv) Z (A2 (B6 Z Z) Z (A2 (A4 Z Z) Z (B9 ((F38 acc ls[k] k hacc).mono (post':=fun rs=>rs=[pMerged (s5 acc ls[k] k),E2 0]) (fun rs h=>by rw [if_neg hbig] at h;exact h)) Z Z Z ?_)))))));rintro _ rfl;refine A2 (A4 Z Z) Z (A2 (B1 Z Z) Z (A2 (B1 Z Z) Z (A2 (A5 Z Z) Z (A2 (A5 Z Z) Z (A6 ?_)))))
    refine k1 (k2 (k2 ?_))
    refine A3 (A2 (A4 Z Z) Z (A2 (L4 Z Z) Z (A6 ?_)))
    refine k1 ?_
    refine B2 rfl (fun ht=>?_) (fun ht=>?_)
    ·cases A0 ht rfl
    ·refine k5 (k1 ?_)
     refine A3 (A2 (A4 Z Z) Z (A2 (A5 Z Z) Z (A6 ?_)))
     refine k4 (k1 ?_)
     refine A3 (A2 (A4 Z Z) Z (A2 (C1 Z Z (by omega)) Z (A2 (A5 Z Z) Z (A6 ?_))))
     refine k1 ?_
     exact ⟨(k+1,s5 acc ls[k] k),⟨by dsimp only;omega,hjl,hp⟩,by dsimp only;omega,J48 ⟨le1 rfl,le1 rfl,le1 rfl,trivial⟩ trivial⟩
  ·have hk':k=ls.length:=by have:=A1 ht;omega
   rw [hk',J87 (Nat.le_refl _)] at hp
   refine k6 (k2 ?_)
   refine A3 (A2 (A4 Z Z) Z (A2 (A5 Z Z) Z (A2 (A5 Z Z) Z (A6 ?_))))
   refine k1 (k10 ?_)
   exact B5 (X2 rfl rfl rfl rfl rfl) (by rw [hp];rfl)
theorem u64_in {n:Int} (h:0≤n∧n < 18446744073709551616):IntKind.u64.wrap n=n:=by simp [IntKind.wrap,IntKind.signed,IntKind.bits];omega
def P8 (a n:Int):Int:=IntKind.u64.wrap a % n
theorem i8 (a:Int) {n:Int} (h:1≤n):0≤P8 a n∧P8 a n < n:=⟨Int.emod_nonneg _ (by omega),Int.emod_lt_of_pos _ (by omega)⟩
theorem B54 (a n:Int) (hn:1≤n) (hn':n≤9223372036854775807):FnOk Tryz.prog 15 [E2 a,E2 n] (fun rs=>rs=[E2 (P8 a n)]):=by
 refine FnOk.intro Tryz.func15 (by decide) Z Z Z Z ?_
 refine k2 ?_
 refine A3 (A2 (A5 Z Z) Z (A6 ?_))
 refine k1 (k2 ?_)
 have h1:IntKind.u64.wrap n=n:=u64_in (by omega)
 refine A3 (A2 (A4 Z Z) Z (A2 (I1 Z) Z (A2 (A4 Z Z) Z (A2 (I1 Z) Z (A2 (B37 Z Z (by (rw [h1];omega))) Z ?_)))));refine A2 (I1 Z) Z (A2 (A5 Z Z) Z (A6 ?_))
 refine k1 (k10 ?_)
 refine B5 (F8 Z Z Z) ?_
 have h2:=C25 a
 have h3:(IntKind.u64.wrap a).tmod n=IntKind.u64.wrap a % n:=Int.tmod_eq_emod_of_nonneg h2
 have h4:=i8 a hn
 unfold P8 at *
 rw [h1,h3,D51 ⟨by omega,by omega⟩]
def xor64 (a b:Int):Int:=IntKind.u64.wrap ((BitVec.ofInt IntKind.u64.bits a ^^^ BitVec.ofInt IntKind.u64.bits b).toNat:Int)
def shr64 (a n:Int):Int:=a.fdiv (2 ^ (min n.toNat IntKind.u64.bits))
def at0 (k:Int):Int:=IntKind.u64.wrap (IntKind.u64.wrap (k+1)*11400714819323198485)
def at1 (raw:List Int) (k:Int):Int:=if 0 < raw.length then xor64 (at0 k) (IntKind.u64.wrap (raw.getD (k.tmod raw.length).toNat 0)) else at0 k
def at2 (x:Int):Int:=IntKind.u64.wrap (xor64 x (shr64 x 31)*13787848793156543929)
def o9 (raw:List Int) (k:Int):Int:=IntKind.i64.wrap (shr64 (xor64 (at2 (at1 raw k)) (shr64 (at2 (at1 raw k)) 29)) 1)
theorem F39 (raw:List Int) (k:Int) (h0:0≤k) (h1:k≤1099511627776):FnOk Tryz.prog 22 [T0 raw,E2 k] (fun rs=>rs=[E2 (o9 raw k)]):=by
 refine FnOk.intro Tryz.func22 (by decide) Z Z Z Z ?_
 refine A40 (t:=0) rfl (.pure _ _ _ _) fun hlen=>?_
 refine k2 ?_
 refine A3 (A2 (A5 Z Z) Z (A6 ?_))
 refine k1 (k2 ?_)
 refine A3 (A2 (A4 Z Z) Z (A2 (C1 Z Z (by omega)) Z (A2 (I1 Z) Z (A2 (F85 Z Z) Z (A2 (A5 Z Z) Z (A6 ?_))))))
 refine H8 ?_
 refine U6 [(0,C8 Int 1 H1 raw),(1,C3 k),(5,J4 (.int .u64 (at1 raw k)))] [] ?_ ?_
 ·refine k2 ?_
  refine A3 (A2 (A4 Z Z) Z (A2 (F2 Z (.pure _ _ _ _)) Z (A2 (L9 Z Z) Z (A6 ?_))))
  refine k1 ?_
  refine B2 rfl (fun ht=>?_) (fun ht=>?_)
  ·have hpos:0 < raw.length:=by have:=A0 ht;omega
   have hm0:0≤k.tmod raw.length:=Int.tmod_nonneg _ h0
   have hm1:k.tmod raw.length < raw.length:=Int.tmod_lt_of_pos _ (by omega)
   have hv:raw[(k.tmod raw.length).toNat]?=some (raw.getD (k.tmod raw.length).toNat 0):=by
    rw [J82,J79 (by omega)];rfl
   skip
   refine A3 (A2 (A4 Z Z) Z (A2 (A4 Z Z) Z (A2 (A4 Z Z) Z (A2 (A4 Z Z) Z (A2 (F2 Z (.pure _ _ _ _)) Z (A2 (B37 Z Z (by omega)) Z (A2 (B3 Z (.pure _ _ _ _) Z (by omega) hv) Z (A2 (B6 Z Z) Z (A2 (I1 Z) Z (A2 (T4 Z Z Z (fun _=>rfl)) Z (A2 (A5 Z Z) Z (A6 ?_))))))))))))
   refine k1 ?_
   rw [at1,if_pos hpos]
   exact J48 ⟨le1 rfl,le1 rfl,le1 rfl,trivial⟩ trivial
  ·have hpos:¬0 < raw.length:=by have:=A1 ht;omega
   refine k5 (k1 ?_)
   rw [at1,if_neg hpos]
   exact J48 ⟨le1 rfl,le1 rfl,le1 rfl,trivial⟩ trivial
 ·refine k2 ?_
  refine A3 (A2 (A4 Z Z) Z (A2 (A4 Z Z) Z (A2 (A38 Z Z (by omega)) Z (A2 (T4 Z Z Z (fun _=>rfl)) Z (A2 (F85 Z Z) Z (A2 (A5 Z Z) Z (A6 ?_)))))))
  refine k1 (k2 ?_)
  refine A3 (A2 (A4 Z Z) Z (A2 (A4 Z Z) Z (A2 (A38 Z Z (by omega)) Z (A2 (T4 Z Z Z (fun _=>rfl)) Z (A2 (A38 Z Z (by omega)) Z (A2 (I1 Z) Z (A2 (A5 Z Z) Z (A6 ?_))))))))
  refine k1 (k10 ?_)
  exact B5 (F8 rfl rfl rfl) rfl
def lineTab:List Str:=[[97],[98],[99],[97,98],[98,97],[],[97,97],[98,32,97],[120,43,121],[92]]
def w8 (k:Int):Str:=lineTab.getD (P8 k 10).toNat []
theorem G60:∀s∈lineTab,s.length≤3:=by decide
theorem A98 (k:Int):(w8 k).length≤3:=by
 unfold w8
 rw [J82]
 cases h:lineTab[(P8 k 10).toNat]? with
 | none=>simp
 | some s=>exact G60 s (J93 h)
theorem G61 (k:Int):FnOk Tryz.prog 21 [E2 k] (fun rs=>rs=[F5 (w8 k)]):=by
 refine FnOk.intro Tryz.func21 (by decide) Z Z Z Z ?_
 refine k2 ?_
 refine A3 (A2 (A5 Z Z) Z (A6 ?_))
 refine k1 (k2 ?_)
 have hm:=i8 k (n:=10) (by decide)
 have hv:lineTab[(P8 k 10).toNat]?=some (w8 k):=by
  unfold w8
  rw [J82,J79 (show (P8 k 10).toNat < lineTab.length by simp [lineTab];omega)];rfl
 refine A3 (A2 (C6 (c:=J5) (ys:=lineTab) (D8 Z Z Z Z (D8 Z Z Z Z (D8 Z Z Z Z (D8 Z Z Z Z (D8 Z Z Z Z (D8 Z Z Z Z (D8 Z Z Z Z (D8 Z Z Z Z (D8 Z Z Z Z (D8 Z Z Z Z F0)))))))))) Z Z Z) Z (A2 (A4 Z Z) Z (B9 (B54 k 10 (by decide) (by decide)) Z Z Z ?_)));rintro _ rfl;refine A2 (B3 Z (.pure _ _ _ _) Z (by omega) hv) Z (A2 (B6 Z Z) Z (A2 (A5 Z Z) Z (A6 ?_)))
 refine k1 (k10 ?_)
 exact B5 (F8 rfl rfl rfl) rfl
theorem ids_ok (fs:List (List Str)) (hfs:fs.flatten.length≤536870912) (hf1:fs.length≤536870912):FnOk Tryz.prog 105 [pStrss fs] (fun rs=>rs=[pIntss (fs.map (V6 (H0 fs)))]):=by
 refine FnOk.intro Tryz.func105 (by decide) Z Z Z Z ?_
 refine k2 ?_
 refine A3 (A2 (A5 Z Z) Z (A6 ?_))
 refine k1 (k2 ?_)
 refine A3 (A2 (A4 Z Z) Z (B9 (G58 fs hfs) Z Z Z ?_));rintro _ rfl;refine A2 (A5 Z Z) Z (A6 ?_)
 refine k1 (k2 ?_)
 refine A3 (C2 (V3 4 _ intsC Z) Z (A6 ?_))
 refine k1 (k2 (k2 ?_))
 refine A3 (A2 (A5 Z Z) Z (A6 ?_))
 refine k1 (k3 ?_)
 refine D1 (X:=Nat) (fun f=>([(0,C8 (List Str) 1 strsC fs),(3,C8 Str 1 J5 (H0 fs)),(4,.s (.one (.buf 4 (List Int) 1 intsC ((fs.take f).map (V6 (H0 fs)))))),(5,C3 f)],[(4,.spare ((fs.take f).map (V6 (H0 fs))).length 1 25)])) (fun f=>f≤fs.length) (fun f=>fs.length - f) 0 (by simp) (J48 ⟨le1 rfl,le1 rfl,le1 rfl,le1 rfl,trivial⟩ ⟨rfl,trivial⟩) ?_
 intro f hf
 dsimp only at hf ⊢
 refine k2 (k2 ?_)
 refine A3 (A2 (A4 Z Z) Z (A2 (A4 Z Z) Z (A2 (F2 Z (.pure _ _ _ _)) Z (A2 (D6 Z Z) Z (A6 ?_)))))
 refine k1 ?_
 have hfl:((fs.take f).map (V6 (H0 fs))).length=f:=by simp;omega
 refine B2 rfl (fun ht=>?_) (fun ht=>?_)
 ·have hlt:f < fs.length:=by have:=A0 ht;omega
  have hv:fs[f]?=some fs[f]:=by simp [hlt]
  have hle:=X5 fs (f+1)
  rw [Y4 fs f hlt,J77] at hle
  refine k5 (k1 (k2 (k3 (k2 ?_))))
  refine A3 (C2 (A92 16 (c:=H1) (ys:=[]) F0 Z Z Z (by first | rfl | (simp [H3,J8,Ob.free,SV.free,S1.free,TC.free]<;>rfl))) Z ?_);refine A2 (A5 Z Z) Z (A6 ?_)
  refine k1 (k2 (k2 ?_))
  refine A3 (A2 (A5 Z Z) Z (A6 ?_))
  refine k1 (k3 ?_)
  refine D1 (X:=Nat) (fun i=>([(0,C8 (List Str) 1 strsC fs),(3,C8 Str 1 J5 (H0 fs)),(4,.s (.one (.buf 4 (List Int) 1 intsC ((fs.take f).map (V6 (H0 fs)))))),(5,C3 f),(6,.s (.one (.buf 16 Int 1 H1 (V6 (H0 fs) (fs[f].take i))))),(7,C3 i)],[(4,.spare ((fs.take f).map (V6 (H0 fs))).length 1 25),(16,.spare (V6 (H0 fs) (fs[f].take i)).length 1 3)])) (fun i=>i≤fs[f].length) (fun i=>fs[f].length - i) 0 (by simp) (J48 ⟨le1 rfl,le1 rfl,le1 rfl,le1 rfl,le1 rfl,le1 rfl,trivial⟩ ⟨rfl,rfl,trivial⟩) ?_
  intro i hi
  dsimp only at hi ⊢
  have hil:(V6 (H0 fs) (fs[f].take i)).length=i:=by simp [V6];omega
  refine k2 (k2 ?_)
  refine A3 (A2 (A4 Z Z) Z (A2 (A4 Z Z) Z (A2 (A4 Z Z) Z (A2 (B3 Z (.pure _ _ _ _) Z (by omega) hv) Z (A2 (B6 Z Z) Z (A2 (F2 Z (.pure _ _ _ _)) Z (A2 (D6 Z Z) Z (A6 ?_))))))))
  refine k1 ?_
  refine B2 rfl (fun ht=>?_) (fun ht=>?_)
  ·have hlt2:i < fs[f].length:=by have:=A0 ht;omega
   have hvi:fs[f][i]?=some fs[f][i]:=by simp [hlt2]
   have hst:V6 (H0 fs) (fs[f].take (i+1))=V6 (H0 fs) (fs[f].take i)++[V4 (H0 fs) fs[f][i] 0]:=by
    unfold V6;rw [List.take_add_one,hvi,Option.toList_some,J92];rfl
   refine k5 (k1 (k2 (k3 ?_)))
   refine A3 (A2 (A4 Z Z) Z (A2 (A4 Z Z) Z (A2 (A4 Z Z) Z (A2 (A4 Z Z) Z (A2 (B3 Z (.pure _ _ _ _) Z (by omega) hv) Z (A2 (B6 Z Z) Z (A2 (A4 Z Z) Z (A2 (B3 Z (.pure _ _ _ _) Z (by omega) hvi) Z (A2 (B6 Z Z) Z (B9 (G57 _ _) Z Z Z ?_))))))))));rintro _ rfl;refine A2 (C6 (c:=H1) (ys:=[_]) (D8 Z Z Z Z F0) Z Z Z) Z (C2 (F9 Z Z Z (.pure _ _ _ _) (by (simp only [J78,J81];omega)) Z) Z (A2 (A5 Z Z) Z (A6 ?_)))
   refine k4 (k1 ?_)
   refine A3 (A2 (A4 Z Z) Z (A2 (C1 Z Z (by omega)) Z (A2 (A5 Z Z) Z (A6 ?_))))
   refine k1 ?_
   refine ⟨i+1,by omega,by omega,?_⟩
   rw [hst]
   exact J48 ⟨le1 rfl,le1 rfl,le1 rfl,le1 rfl,le1 rfl,le1 rfl,trivial⟩ ⟨rfl,rfl,trivial⟩
  ·have hi':i=fs[f].length:=by have:=A1 ht;omega
   have hst:(fs.take (f+1)).map (V6 (H0 fs))=(fs.take f).map (V6 (H0 fs))++[V6 (H0 fs) (fs[f].take i)]:=by
    rw [List.take_add_one,hv,Option.toList_some,J92,hi',J97];rfl
   refine k6 (k7 (k7 (k8 Z (k1 ?_))))
   refine A3 (A2 (A4 Z Z) Z (A2 (A4 Z Z) Z (A2 (C6 (c:=intsC) (ys:=[_]) (D8 Z Z Z Z F0) Z Z Z) Z (C2 (F9 Z Z Z (.pure _ _ _ _) (by (simp only [J78,J81];omega)) Z) Z (A2 (A5 Z Z) Z (A6 ?_))))))
   refine k4 (k1 ?_)
   refine A3 (A2 (A4 Z Z) Z (A2 (C1 Z Z (by omega)) Z (A2 (A5 Z Z) Z (A6 ?_))))
   refine k1 ?_
   refine ⟨f+1,by omega,by omega,?_⟩
   rw [hst]
   exact J48 ⟨le1 rfl,le1 rfl,le1 rfl,le1 rfl,trivial⟩ ⟨rfl,trivial⟩
 ·have hk':f=fs.length:=by have:=A1 ht;omega
  subst hk'
  refine k6 (k2 ?_)
  refine A3 (A2 (A4 Z Z) Z (A2 (A5 Z Z) Z (A6 ?_)))
  refine k1 (k10 ?_)
  exact B5 (F8 rfl rfl rfl) (by rw [J97])
def T7 (raw:List Int) (from':Int) (kinds:Int) (m:Nat):Str:=((List.range m).map fun (i:Nat)=>w8 (P8 (o9 raw (from'+1+(i:Int))) kinds)++[10]).flatten
def X9 (raw:List Int) (from' n kinds:Int):Str :=
 let s:=T7 raw from' kinds (P8 (o9 raw from') (n+1)).toNat
 if ((o9 raw (from'+90)).tmod 4=0∧(1:Int) < s.length)∧((s.getD (s.length - 2) 0).toNat:Int)≠10 then s.take (s.length - 1) else s
theorem A25 (raw:List Int) (from' kinds:Int) (m:Nat):T7 raw from' kinds (m+1)=T7 raw from' kinds m++w8 (P8 (o9 raw (from'+1+(m:Int))) kinds)++[10]:=by
 unfold T7;rw [K22,J92,K04];simp
theorem C07 (raw:List Int) (from' kinds:Int) (m:Nat):(T7 raw from' kinds m).length≤4*m:=by
 induction m with
 | zero=>simp [T7]
 | succ m ih=>have:=A98 (P8 (o9 raw (from'+1+(m:Int))) kinds);rw [A25];simp only [J77,J78,J81];omega
theorem I09 (raw:List Int) (from' n kinds:Int) (h0:0≤from'∧from'≤1073741824) (h1:0≤n∧n≤1048576) (h2:1≤kinds∧kinds≤1048576) :
  FnOk Tryz.prog 55 [T0 raw,E2 from',E2 n,E2 kinds] (fun rs=>rs=[F5 (X9 raw from' n kinds)]):=by
 obtain ⟨m,hm⟩:∃m:Nat,P8 (o9 raw from') (n+1)=m:=⟨(P8 (o9 raw from') (n+1)).toNat,by have:=i8 (o9 raw from') (n:=n+1) (by omega);omega⟩
 have hmi:=i8 (o9 raw from') (n:=n+1) (by omega)
 have hml:m≤1048576:=by omega
 refine FnOk.intro Tryz.func55 (by decide) Z Z Z Z ?_
 refine k2 ?_
 refine A3 (A2 (A5 Z Z) Z (A6 ?_))
 refine k1 (k2 ?_)
 refine A3 (A2 (A4 Z Z) Z (A2 (A4 Z Z) Z (B9 (F39 raw from' (by omega) (by omega)) Z Z Z ?_)));rintro _ rfl;refine A2 (A4 Z Z) Z (A2 (C1 Z Z (by omega)) Z (B9 (B54 _ (n+1) (by omega) (by omega)) Z Z Z ?_));rintro _ rfl;refine A2 (A5 Z Z) Z (A6 ?_)
 refine k1 (k2 ?_)
 rw [hm]
 refine A3 (A2 (A5 Z Z) Z (A6 ?_))
 refine k1 (k2 (k2 ?_))
 refine A3 (A2 (A5 Z Z) Z (A6 ?_))
 refine k1 (k3 ?_)
 refine D1 (X:=Nat) (fun i=>([(0,C8 Int 1 H1 raw),(1,C3 from'),(2,C3 m),(3,C3 kinds),(9,H4 (T7 raw from' kinds i)),(10,C3 i)],[])) (fun i=>i≤m) (fun i=>m - i) 0 (Nat.zero_le _) (J48 ⟨le1 rfl,le1 rfl,le1 rfl,le1 rfl,le1 rfl,le1 rfl,trivial⟩ trivial) ?_
 intro i hi
 dsimp only at hi ⊢
 have hbl:=C07 raw from' kinds i
 refine k2 (k2 ?_)
 refine A3 (A2 (A4 Z Z) Z (A2 (A4 Z Z) Z (A2 (D6 Z Z) Z (A6 ?_))))
 refine k1 ?_
 refine B2 rfl (fun ht=>?_) (fun ht=>?_)
 ·have hlt:i < m:=by have:=A0 ht;omega
  have hll:=A98 (P8 (o9 raw (from'+1+(i:Int))) kinds)
  refine k5 (k1 (k2 (k3 ?_)))
  refine A3 (A2 (A4 Z Z) Z (A2 (A4 Z Z) Z (A2 (A4 Z Z) Z (A2 (C1 Z Z (by omega)) Z (A2 (A4 Z Z) Z (A2 (C1 Z Z (by omega)) Z (B9 (F39 raw _ (by omega) (by omega)) Z Z Z ?_)))))));rintro _ rfl;refine A2 (A4 Z Z) Z (B9 (B54 _ kinds (by omega) (by omega)) Z Z Z ?_);rintro _ rfl;refine B9 (G61 _) Z Z Z ?_;rintro _ rfl;refine A2 (E7 Z Z (by omega)) Z (A2 (E7 Z Z (by (simp only [J77,J78,J81];omega))) Z (A2 (A5 Z Z) Z (A6 ?_)))
  refine k4 (k1 ?_)
  refine A3 (A2 (A4 Z Z) Z (A2 (C1 Z Z (by omega)) Z (A2 (A5 Z Z) Z (A6 ?_))))
  refine k1 ?_
  refine ⟨i+1,by omega,by omega,?_⟩
  rw [A25]
  exact J48 ⟨le1 rfl,le1 rfl,le1 rfl,le1 rfl,le1 rfl,le1 rfl,trivial⟩ trivial
 ·have hi':i=m:=by have:=A1 ht;omega
  subst hi'
  obtain ⟨s,hs⟩:∃s,s=T7 raw from' kinds i:=⟨_,rfl⟩
  have hv:(1:Int) < s.length→s[((s.length:Int) - 2).toNat]?=some (s.getD (s.length - 2) 0):=fun h=>by
   rw [show ((s.length:Int) - 2).toNat=s.length - 2 by omega,J82,J79 (by omega)];rfl
  have hbo:X9 raw from' n kinds=if ((o9 raw (from'+90)).tmod 4=0∧(1:Int) < s.length)∧((s.getD (s.length - 2) 0).toNat:Int)≠10 then s.take (s.length - 1) else s:=by
   simp only [X9,hm,J83,←hs]
  rw [←hs] at hbl
  refine k6 (k2 (k2 ?_))
  rw [←hs]
  refine A3 (A2 (A4 Z Z) Z (A2 (A4 Z Z) Z (A2 (C1 Z Z (by omega)) Z (B9 (F39 raw _ (by omega) (by omega)) Z Z Z ?_))));rintro _ rfl;refine A2 (B37 Z Z (by omega)) Z (A2 (F1 Z Z) Z (A2 (A4 Z Z) Z (A9 Z Z Z Z (fun hg=>by rw [hg];exact A4 Z Z) ?_)));refine A9 Z Z Z Z (fun hg=>by rw [hg];exact D5 Z) ?_;refine A9 Z Z Z Z (fun hg=>by rw [hg];exact L9 Z Z) ?_;refine A2 (B4 Z (fun h=>by first | rfl | (rw [h];rfl)) (fun h=>by first | rfl | (rw [h];rfl))) Z ?_;refine A2 (A4 Z Z) Z (A9 Z Z Z Z (fun hg=>by rw [hg];exact A4 Z Z) ?_);refine A9 Z Z Z Z (fun hg=>by rw [hg];exact A4 Z Z) ?_;refine A9 Z Z Z Z (fun hg=>by rw [hg];exact D5 Z) ?_;refine A9 Z Z Z Z (fun hg=>by have hq:=hg;(try simp at hq);rw [hg];exact P5 Z Z (by omega)) ?_;refine A9 Z Z Z Z (fun hg=>by have hq:=hg;(try simp at hq);rw [hg];exact E9 Z Z (by omega) (hv (by omega))) ?_;refine A9 Z Z Z Z (fun hg=>by rw [hg];exact L4 Z Z) ?_;refine A2 (B4 Z (fun h=>by first | rfl | (rw [h];rfl)) (fun h=>by first | rfl | (rw [h];rfl))) Z ?_;refine A6 ?_
  refine k1 ?_
  refine B2 rfl (fun ht=>?_) (fun ht=>?_)
  ·simp only [I3] at ht
   have h:=A0 ht
   skip
   refine A3 (A2 (A4 Z Z) Z (A2 (A4 Z Z) Z (A2 (D5 Z) Z (A2 (P5 Z Z (by omega)) Z (A2 (j5 Z Z (by omega) (by omega)) Z (A2 (A5 Z Z) Z (A6 ?_)))))))
   refine k1 (k2 ?_)
   refine A3 (A2 (A4 Z Z) Z (A2 (A5 Z Z) Z (A6 ?_)))
   refine k1 (k10 ?_)
   exact B5 (F8 rfl rfl rfl) (by rw [hbo,if_pos h,show ((s.length:Int) - 1).toNat=s.length - 1 by omega])
  ·simp only [I3] at ht
   have h:=A1 ht
   refine k5 (k1 (k2 ?_))
   refine A3 (A2 (A4 Z Z) Z (A2 (A5 Z Z) Z (A6 ?_)))
   refine k1 (k10 ?_)
   exact B5 (F8 rfl rfl rfl) (by rw [hbo,if_neg h])
theorem C26 (raw:List Int) (from' n kinds:Int) (h1:0≤n):((X9 raw from' n kinds).length:Int)≤4*n:=by
 have h:=i8 (o9 raw from') (n:=n+1) (by omega)
 have h2:=C07 raw from' kinds (P8 (o9 raw from') (n+1)).toNat
 unfold X9
 simp only
 split
 ·simp only [J90];omega
 ·omega
def p7 (raw:List Int) (from':Int) (i:Nat) (s:Str):List Str→Str
 | []=>s
 | x::r=>if (o9 raw (from'+(i:Int))).tmod 6=0 then p7 raw from' (i+1) s r
  else if (o9 raw (from'+(i:Int))).tmod 6=1 then p7 raw from' (i+1) (s++w8 (o9 raw (from'+40+(i:Int)))++[10]++x) r
  else p7 raw from' (i+1) (s++x) r
def C27 (blob:Str) (raw:List Int) (from':Int):Str:=p7 raw from' 0 [] (D2 blob)
theorem A99 (raw:List Int) (from':Int):∀(l:List Str) (i:Nat) (s:Str),(p7 raw from' i s l).length≤s.length+l.flatten.length+4*l.length
 | [],i,s=>by simp [p7]
 | x::r,i,s=>by
  have h1:=A99 raw from' r (i+1) s
  have h2:=A99 raw from' r (i+1) (s++w8 (o9 raw (from'+40+(i:Int)))++[10]++x)
  have h3:=A99 raw from' r (i+1) (s++x)
  have h4:=A98 (o9 raw (from'+40+(i:Int)))
  simp only [J77,J78,J81,J91] at *
  unfold p7
  split
  ·omega
  ·split<;>omega
theorem D21 (s cur:Str):(G2 cur s).flatten=cur++s:=by
 induction s generalizing cur with
 | nil=>unfold G2;split<;>simp [*]
 | cons c r ih=>unfold G2;split<;>simp [ih]
theorem X4 (s:Str):(D2 s).flatten=s:=D21 s []
theorem near_ok (blob:Str) (raw:List Int) (from':Int) (hb:blob.length≤16777216) (h0:0≤from'∧from'≤1073741824) :
  FnOk Tryz.prog 23 [F5 blob,T0 raw,E2 from'] (fun rs=>rs=[F5 (C27 blob raw from')]):=by
 have hll:=S7 blob
 have hlf:=X4 blob
 have hlf':(D2 blob).flatten.length=blob.length:=by rw [hlf]
 refine FnOk.intro Tryz.func23 (by decide) Z Z Z Z ?_
 refine k2 ?_
 refine A3 (A2 (A5 Z Z) Z (A6 ?_))
 refine k1 (k2 ?_)
 refine A3 (A2 (A4 Z Z) Z (B9 (C68 blob (by omega)) Z Z Z ?_));rintro _ rfl;refine A2 (A5 Z Z) Z (A6 ?_)
 refine k1 (k2 ?_)
 obtain ⟨l,hl⟩:∃l,l=D2 blob:=⟨_,rfl⟩
 have hno:C27 blob raw from'=p7 raw from' 0 [] l:=by rw [C27,hl]
 rw [←hl] at hll hlf' ⊢
 refine A3 (A2 (A5 Z Z) Z (A6 ?_))
 refine k1 (k2 (k2 ?_))
 refine A3 (A2 (A5 Z Z) Z (A6 ?_))
 refine k1 (k3 ?_)
 refine D1 (X:=Nat × Str) (fun x=>([(1,C8 Int 1 H1 raw),(2,C3 from'),(7,C8 Str 1 J5 l),(8,H4 x.2),(9,C3 x.1)],[])) (fun x=>x.1≤l.length∧x.2.length≤(l.take x.1).flatten.length+4*x.1∧p7 raw from' x.1 x.2 (l.drop x.1)=p7 raw from' 0 [] l) (fun x=>l.length - x.1) (0,[]) (by simp) (J48 ⟨le1 rfl,le1 rfl,le1 rfl,le1 rfl,le1 rfl,trivial⟩ trivial) ?_
 rintro ⟨i,s⟩ ⟨hi,hs,hp⟩
 dsimp only at hi hs hp ⊢
 have hle:=X5 l i
 refine k2 (k2 ?_)
 refine A3 (A2 (A4 Z Z) Z (A2 (A4 Z Z) Z (A2 (F2 Z (.pure _ _ _ _)) Z (A2 (D6 Z Z) Z (A6 ?_)))))
 refine k1 ?_
 refine B2 rfl (fun ht=>?_) (fun ht=>?_)
 ·have hlt:i < l.length:=by have:=A0 ht;omega
  have hv:l[i]?=some l[i]:=by simp [hlt]
  have hle2:=X5 l (i+1)
  have hst:=Y4 l i hlt
  rw [hst,J77] at hle2
  rw [J84 hlt,p7] at hp
  refine k5 (k1 (k2 (k3 (k2 (k2 ?_)))))
  refine A3 (A2 (A4 Z Z) Z (A2 (A4 Z Z) Z (A2 (A4 Z Z) Z (A2 (C1 Z Z (by omega)) Z (B9 (F39 raw _ (by omega) (by omega)) Z Z Z ?_)))));rintro _ rfl;refine A2 (B37 Z Z (by omega)) Z (A6 ?_)
  refine k1 (k3 (k2 ?_))
  refine A3 (A2 (F1 Z Z) Z (A2 (A5 Z Z) Z (A6 ?_)))
  refine k1 ?_
  refine B2 rfl (fun ht=>?_) (fun ht=>?_)
  ·rw [if_pos (A0 ht)] at hp
   refine k6 (k9 Z (k7 (k8 Z (k1 ?_))))
   refine A3 (A2 (A4 Z Z) Z (A2 (C1 Z Z (by omega)) Z (A2 (A5 Z Z) Z (A6 ?_))))
   refine k1 ?_
   exact ⟨(i+1,s),⟨by dsimp only;omega,by dsimp only;rw [hst,J77];omega,hp⟩,by dsimp only;omega,J48 ⟨le1 rfl,le1 rfl,le1 rfl,le1 rfl,le1 rfl,trivial⟩ trivial⟩
  ·rw [if_neg (A1 ht)] at hp
   refine k2 ?_
   refine A3 (A2 (F1 Z Z) Z (A2 (A5 Z Z) Z (A6 ?_)))
   refine k1 ?_
   refine B2 rfl (fun ht=>?_) (fun ht=>?_)
   ·rw [if_pos (A0 ht)] at hp
    have h4:=A98 (o9 raw (from'+40+(i:Int)))
    skip
    refine A3 (A2 (A4 Z Z) Z (A2 (A4 Z Z) Z (A2 (A4 Z Z) Z (A2 (C1 Z Z (by omega)) Z (A2 (A4 Z Z) Z (A2 (C1 Z Z (by omega)) Z (B9 (F39 raw _ (by omega) (by omega)) Z Z Z ?_)))))));rintro _ rfl;refine B9 (G61 _) Z Z Z ?_;rintro _ rfl;refine A2 (E7 Z Z (by omega)) Z (A2 (E7 Z Z (by (simp only [J77,J78,J81];omega))) Z (A2 (A5 Z Z) Z (A6 ?_)))
    refine k4 (k1 ?_)
    refine A3 (A2 (A4 Z Z) Z (A2 (A4 Z Z) Z (A2 (A4 Z Z) Z (A2 (B3 Z (.pure _ _ _ _) Z (by omega) hv) Z (A2 (B6 Z Z) Z (A2 (E7 Z Z (by (simp only [J77,J78,J81];omega))) Z (A2 (A5 Z Z) Z (A6 ?_))))))))
    refine k4 (k1 ?_)
    refine A3 (A2 (A4 Z Z) Z (A2 (C1 Z Z (by omega)) Z (A2 (A5 Z Z) Z (A6 ?_))))
    refine k1 ?_
    exact ⟨(i+1,s++w8 (o9 raw (from'+40+(i:Int)))++[10]++l[i]),⟨by dsimp only;omega,by dsimp only;rw [hst];simp only [J77,J78,J81];omega,hp⟩,by dsimp only;omega,J48 ⟨le1 rfl,le1 rfl,le1 rfl,le1 rfl,le1 rfl,trivial⟩ trivial⟩
   ·rw [if_neg (A1 ht)] at hp
    refine k5 (k4 (k1 ?_))
    refine A3 (A2 (A4 Z Z) Z (A2 (A4 Z Z) Z (A2 (A4 Z Z) Z (A2 (B3 Z (.pure _ _ _ _) Z (by omega) hv) Z (A2 (B6 Z Z) Z (A2 (E7 Z Z (by omega)) Z (A2 (A5 Z Z) Z (A6 ?_))))))))
    refine k4 (k1 ?_)
    refine A3 (A2 (A4 Z Z) Z (A2 (C1 Z Z (by omega)) Z (A2 (A5 Z Z) Z (A6 ?_))))
    refine k1 ?_
    exact ⟨(i+1,s++l[i]),⟨by dsimp only;omega,by dsimp only;rw [hst,J77,J77];omega,hp⟩,by dsimp only;omega,J48 ⟨le1 rfl,le1 rfl,le1 rfl,le1 rfl,le1 rfl,trivial⟩ trivial⟩
 ·have hi':i=l.length:=by have:=A1 ht;omega
  rw [hi',J87 (Nat.le_refl _)] at hp
  refine k6 (k2 ?_)
  refine A3 (A2 (A4 Z Z) Z (A2 (A5 Z Z) Z (A6 ?_)))
  refine k1 (k10 ?_)
  exact B5 (F8 rfl rfl rfl) (by rw [hno,←hp];rfl)
def w9 (raw:List Int) (lines:Int) (p:Nat):Str :=
 if (o9 raw (500+(p:Int))).tmod 5=0 then X9 raw (600+50*(p:Int)) lines 4 else if (o9 raw (500+(p:Int))).tmod 5=1 then X9 raw 0 lines 5 else C27 (X9 raw 0 lines 5) raw (600+50*(p:Int))
def a8 (raw:List Int) (n:Nat) (lines:Int):List Str:=(List.range n).map (w9 raw lines)
theorem E32 (raw:List Int) (lines:Int) (p:Nat) (h:0≤lines):((w9 raw lines p).length:Int)≤20*lines:=by
 have h1:=C26 raw (600+50*(p:Int)) lines 4 h
 have h2:=C26 raw 0 lines 5 h
 have h3:=A99 raw (600+50*(p:Int)) (D2 (X9 raw 0 lines 5)) 0 []
 have h4:=S7 (X9 raw 0 lines 5)
 rw [X4] at h3
 simp only [J81] at h3
 unfold w9 C27
 split
 ·omega
 ·split<;>omega
theorem J05 (raw:List Int) (n:Nat) (lines:Int) (h1:n≤1024) (h2:0≤lines∧lines≤524288):FnOk Tryz.prog 44 [T0 raw,E2 n,E2 lines] (fun rs=>rs=[c5 (a8 raw n lines)]):=by
 have hfl:=C26 raw 0 lines 5 h2.1
 refine FnOk.intro Tryz.func44 (by decide) Z Z Z Z ?_
 refine k2 ?_
 refine A3 (A2 (A5 Z Z) Z (A6 ?_))
 refine k1 (k2 ?_)
 refine A3 (A2 (A4 Z Z) Z (A2 (A4 Z Z) Z (B9 (I09 raw 0 lines 5 (by omega) (by omega) (by omega)) Z Z Z ?_)));rintro _ rfl;refine A2 (A5 Z Z) Z (A6 ?_)
 refine k1 (k2 ?_)
 refine A3 (C2 (A92 13 (c:=J5) (ys:=[]) F0 Z Z Z (by first | rfl | (simp [H3,J8,Ob.free,SV.free,S1.free,TC.free]<;>rfl))) Z ?_);refine A2 (A5 Z Z) Z (A6 ?_)
 refine k1 (k2 (k2 ?_))
 refine A3 (A2 (A5 Z Z) Z (A6 ?_))
 refine k1 (k3 ?_)
 refine D1 (X:=Nat) (fun p=>([(0,C8 Int 1 H1 raw),(1,C3 n),(2,C3 lines),(7,H4 (X9 raw 0 lines 5)),(8,.s (.one (.buf 13 Str 1 J5 (a8 raw p lines)))),(9,C3 p)],[(13,.spare (a8 raw p lines).length 1 9)])) (fun p=>p≤n) (fun p=>n - p) 0 (Nat.zero_le _) (J48 ⟨le1 rfl,le1 rfl,le1 rfl,le1 rfl,le1 rfl,le1 rfl,trivial⟩ ⟨rfl,trivial⟩) ?_
 intro p hp
 dsimp only at hp ⊢
 have hst:a8 raw (p+1) lines=a8 raw p lines++[w9 raw lines p]:=by unfold a8;rw [K22,J92];rfl
 have hbl:(a8 raw p lines).length=p:=by simp [a8]
 refine k2 (k2 ?_)
 refine A3 (A2 (A4 Z Z) Z (A2 (A4 Z Z) Z (A2 (D6 Z Z) Z (A6 ?_))))
 refine k1 ?_
 refine B2 rfl (fun ht=>?_) (fun ht=>?_)
 ·have hlt:p < n:=by have:=A0 ht;omega
  refine k5 (k1 (k2 (k3 (k2 ?_))))
  refine A3 (A2 (A4 Z Z) Z (A2 (A4 Z Z) Z (A2 (C1 Z Z (by omega)) Z (B9 (F39 raw _ (by omega) (by omega)) Z Z Z ?_))));rintro _ rfl;refine A2 (B37 Z Z (by omega)) Z (A6 ?_)
  refine k1 (k3 (k2 ?_))
  refine A3 (A2 (F1 Z Z) Z (A2 (A5 Z Z) Z (A6 ?_)))
  refine k1 ?_
  refine B2 rfl (fun ht=>?_) (fun ht=>?_)
  ·have hb:w9 raw lines p=X9 raw (600+50*(p:Int)) lines 4:=by rw [w9,if_pos (A0 ht)]
   skip
   refine A3 (A2 (A4 Z Z) Z (A2 (A4 Z Z) Z (A2 (A4 Z Z) Z (A2 (F18 Z Z (by omega)) Z (A2 (C1 Z Z (by omega)) Z (A2 (A4 Z Z) Z (B9 (I09 raw _ lines 4 (by omega) (by omega) (by omega)) Z Z Z ?_)))))));rintro _ rfl;refine A2 (C6 (c:=J5) (ys:=[_]) (D8 Z Z Z Z F0) Z Z Z) Z (C2 (F9 Z Z Z (.pure _ _ _ _) (by (simp only [J78,J81];omega)) Z) Z (A2 (A5 Z Z) Z (A6 ?_)))
   refine k4 (k4 (k1 ?_))
   refine A3 (A2 (A4 Z Z) Z (A2 (C1 Z Z (by omega)) Z (A2 (A5 Z Z) Z (A6 ?_))))
   refine k1 ?_
   refine ⟨p+1,by omega,by omega,?_⟩
   rw [hst,hb]
   exact J48 ⟨le1 rfl,le1 rfl,le1 rfl,le1 rfl,le1 rfl,le1 rfl,trivial⟩ ⟨rfl,trivial⟩
  ·have h5:=A1 ht
   refine k2 ?_
   refine A3 (A2 (F1 Z Z) Z (A2 (A5 Z Z) Z (A6 ?_)))
   refine k1 ?_
   refine B2 rfl (fun ht=>?_) (fun ht=>?_)
   ·have hb:w9 raw lines p=X9 raw 0 lines 5:=by rw [w9,if_neg h5,if_pos (A0 ht)]
    skip
    refine A3 (A2 (A4 Z Z) Z (A2 (A4 Z Z) Z (A2 (C6 (c:=J5) (ys:=[_]) (D8 Z Z Z Z F0) Z Z Z) Z (C2 (F9 Z Z Z (.pure _ _ _ _) (by (simp only [J78,J81];omega)) Z) Z (A2 (A5 Z Z) Z (A6 ?_))))))
    refine k4 (k4 (k1 ?_))
    refine A3 (A2 (A4 Z Z) Z (A2 (C1 Z Z (by omega)) Z (A2 (A5 Z Z) Z (A6 ?_))))
    refine k1 ?_
    refine ⟨p+1,by omega,by omega,?_⟩
    rw [hst,hb]
    exact J48 ⟨le1 rfl,le1 rfl,le1 rfl,le1 rfl,le1 rfl,le1 rfl,trivial⟩ ⟨rfl,trivial⟩
   ·have hb:w9 raw lines p=C27 (X9 raw 0 lines 5) raw (600+50*(p:Int)):=by rw [w9,if_neg h5,if_neg (A1 ht)]
    skip
    refine A3 (A2 (A4 Z Z) Z (A2 (A4 Z Z) Z (A2 (A4 Z Z) Z (A2 (A4 Z Z) Z (A2 (F18 Z Z (by omega)) Z (A2 (C1 Z Z (by omega)) Z (B9 (near_ok _ raw _ (by omega) (by omega)) Z Z Z ?_)))))));rintro _ rfl;refine A2 (C6 (c:=J5) (ys:=[_]) (D8 Z Z Z Z F0) Z Z Z) Z (C2 (F9 Z Z Z (.pure _ _ _ _) (by (simp only [J78,J81];omega)) Z) Z (A2 (A5 Z Z) Z (A6 ?_)))
    refine k4 (k4 (k1 ?_))
    refine A3 (A2 (A4 Z Z) Z (A2 (C1 Z Z (by omega)) Z (A2 (A5 Z Z) Z (A6 ?_))))
    refine k1 ?_
    refine ⟨p+1,by omega,by omega,?_⟩
    rw [hst,hb]
    exact J48 ⟨le1 rfl,le1 rfl,le1 rfl,le1 rfl,le1 rfl,le1 rfl,trivial⟩ ⟨rfl,trivial⟩
 ·have hp':p=n:=by have:=A1 ht;omega
  refine k6 (k2 ?_)
  refine A3 (A2 (A4 Z Z) Z (A2 (A5 Z Z) Z (A6 ?_)))
  refine k1 (k10 ?_)
  exact B5 (F8 rfl rfl rfl) (by rw [hp'])
theorem F98 (r:Row) (c:Int) (hr:0≤r.Marks∧r.Marks < 4294967296):FnOk Tryz.prog 189 [pRow r,E2 c] (fun rs=>rs=[D3 (U4 r c)]):=by
 refine FnOk.intro Tryz.func189 (by decide) Z Z Z Z ?_
 refine k2 ?_
 refine A3 (C2 (P6 2 Z Z Z) Z (A2 (A5 Z Z) Z (A6 ?_)))
 refine k1 (k2 (k3 (k2 ?_)))
 refine A3 (A2 (A4 Z Z) Z (A2 (F1 Z Z) Z (A2 (A5 Z Z) Z (A6 ?_))))
 refine k1 ?_
 refine B2 rfl (fun ht=>?_) (fun ht=>?_)
 ·have h:=A0 ht
  refine k2 ?_
  refine A3 (A2 (A7 Z) Z (A2 (B0 Z Z Z) Z (A2 (E4 Z) Z (A2 (A5 Z Z) Z (A6 ?_)))))
  refine k1 (k10 (k12 (k11 ?_)))
  exact B5 (F8 rfl rfl rfl) (by rw [U4,if_pos h])
 ·have h:=A1 ht
  refine k2 ?_
  refine A3 (A2 (A4 Z Z) Z (A2 (D6 Z Z) Z (A2 (A4 Z Z) Z (A9 Z Z Z Z (fun hg=>by rw [hg];exact A4 Z Z) ?_))));refine A9 Z Z Z Z (fun hg=>by rw [hg];exact Z1 Z Z) ?_;refine A2 (B4 Z (fun h=>by first | rfl | (rw [h];rfl)) (fun h=>by first | rfl | (rw [h];rfl))) Z ?_;refine A2 (A5 Z Z) Z (A6 ?_)
  refine k1 ?_
  refine B2 rfl (fun ht=>?_) (fun ht=>?_)
  ·have h2:=A0 (or_pick.symm.trans ht)
   refine k2 ?_
   refine A3 (A2 (A5 Z Z) Z (A6 ?_))
   refine k1 (k10 (k12 (k11 ?_)))
   exact B5 (F8 rfl rfl rfl) (by rw [U4,if_neg h,if_pos h2])
  ·have h2:=A1 (or_pick.symm.trans ht)
   have hc:0≤c∧c < 32:=by omega
   refine k5 (k2 ?_)
   refine A3 (A2 (A7 Z) Z (A2 (B0 Z Z Z) Z (A2 (A4 Z Z) Z (A2 (I1 Z) Z (A2 (A38 Z Z (by (rw [A61 (by omega)];omega))) Z ?_)))));refine A2 (T4 Z Z Z (fun _=>rfl)) Z (A2 (F1 Z Z) Z (A2 (A7 Z) Z (A2 (B0 Z Z Z) Z (A2 (F86 Z Z TyBool.out) Z (A2 (A5 Z Z) Z (A6 ?_))))))
   refine k1 (k10 ?_)
   refine B5 (F8 Z Z Z) ?_
   have h3:0≤r.Marks / 2 ^ c.toNat:=Int.ediv_nonneg hr.1 (Int.pow_nonneg (by decide))
   have h4:r.Marks / 2 ^ c.toNat≤r.Marks:=Int.ediv_le_self _ hr.1
   rw [U4,if_neg h,if_neg h2,A61 (by omega),D68 r.Marks c (by omega),A79 _ (by omega)]
   rfl
theorem A44 (rows:List Row) (c:Int) (hr:I9 rows) (hl:rows.length≤536870911):FnOk Tryz.prog 116 [pRows rows,E2 c] (fun rs=>rs=[c5 (O5 rows c)]):=by
 refine FnOk.intro Tryz.func116 (by decide) Z Z Z Z ?_
 refine k2 ?_
 refine A3 (A2 (A5 Z Z) Z (A6 ?_))
 refine k1 (k2 ?_)
 refine A3 (C2 (V3 5 _ J5 Z) Z (A6 ?_))
 refine k1 (k2 (k2 ?_))
 refine A3 (A2 (A5 Z Z) Z (A6 ?_))
 refine k1 (k3 ?_)
 refine D1 (X:=Nat) (fun i=>([(0,C8 Row 3 rowC rows),(1,C3 c),(5,.s (.one (.buf 5 Str 1 J5 (O5 (rows.take i) c)))),(6,C3 i)],[(5,.spare (O5 (rows.take i) c).length 1 9)])) (fun i=>i≤rows.length) (fun i=>rows.length - i) 0 (Nat.zero_le _) (J48 ⟨le1 rfl,le1 rfl,le1 rfl,le1 rfl,trivial⟩ ⟨rfl,trivial⟩) ?_
 intro i hi
 dsimp only at hi ⊢
 have hcl:=D36 (rows.take i) c
 rw [J90] at hcl
 refine k2 (k2 ?_)
 refine A3 (A2 (A4 Z Z) Z (A2 (A4 Z Z) Z (A2 (F2 Z (.pure _ _ _ _)) Z (A2 (D6 Z Z) Z (A6 ?_)))))
 refine k1 ?_
 refine B2 rfl (fun ht=>?_) (fun ht=>?_)
 ·have hlt:i < rows.length:=by have:=A0 ht;omega
  have hv:rows[i]?=some rows[i]:=by simp [hlt]
  have hst:O5 (rows.take (i+1)) c=O5 (rows.take i) c++(if U4 rows[i] c=true then [rows[i].Text] else []):=by
   unfold O5
   rw [List.take_add_one,hv,Option.toList_some,K30,J92]
   congr 1
   by_cases h:U4 rows[i] c=true<;>simp [h]
  refine k5 (k1 (k2 (k3 (k2 ?_))))
  refine A3 (A2 (A4 Z Z) Z (A2 (A4 Z Z) Z (A2 (B3 Z (.pure _ _ _ _) Z (by omega) hv) Z (A2 (H2 Z Z) Z (A2 (A4 Z Z) Z (B9 (F98 rows[i] c (hr _ (J96 hlt))) Z Z Z ?_))))));rintro _ rfl;refine A6 ?_
  refine k1 ?_
  refine B2 rfl (fun ht=>?_) (fun ht=>?_)
  ·rw [ht,if_pos rfl] at hst
   skip
   refine A3 (A2 (A4 Z Z) Z (A2 (A4 Z Z) Z (A2 (A4 Z Z) Z (A2 (B3 Z (.pure _ _ _ _) Z (by omega) hv) Z (A2 (E1 Z) Z (A2 (B6 Z Z) Z (A2 (C6 (c:=J5) (ys:=[_]) (D8 Z Z Z Z F0) Z Z Z) Z (C2 (F9 Z Z Z (.pure _ _ _ _) (by (simp only [J78,J81];omega)) Z) Z (A2 (A5 Z Z) Z (A6 ?_))))))))))
   refine k4 (k1 ?_)
   refine A3 (A2 (A4 Z Z) Z (A2 (C1 Z Z (by omega)) Z (A2 (A5 Z Z) Z (A6 ?_))))
   refine k1 ?_
   refine ⟨i+1,by omega,by omega,?_⟩
   rw [hst]
   exact J48 ⟨le1 rfl,le1 rfl,le1 rfl,le1 rfl,trivial⟩ ⟨rfl,trivial⟩
  ·rw [ht,if_neg (by decide),K02] at hst
   refine k5 (k4 (k1 ?_))
   refine A3 (A2 (A4 Z Z) Z (A2 (C1 Z Z (by omega)) Z (A2 (A5 Z Z) Z (A6 ?_))))
   refine k1 ?_
   refine ⟨i+1,by omega,by omega,?_⟩
   rw [hst]
   exact J48 ⟨le1 rfl,le1 rfl,le1 rfl,le1 rfl,trivial⟩ ⟨rfl,trivial⟩
 ·have hi':i=rows.length:=by have:=A1 ht;omega
  refine k6 (k2 ?_)
  refine A3 (A2 (A4 Z Z) Z (A2 (A5 Z Z) Z (A6 ?_)))
  refine k1 (k10 ?_)
  exact B5 (F8 rfl rfl rfl) (by rw [hi',J97])
theorem E33 (rows:List Row) (n:Int) (hn:0≤n∧n≤32) (hr:I9 rows):FnOk Tryz.prog 182 [pRows rows,E2 n] (fun rs=>rs=[D3 (N7 rows n.toNat)]):=by
 refine FnOk.intro Tryz.func182 (by decide) Z Z Z Z ?_
 refine A40 (t:=0) rfl (.pure _ _ _ _) fun hlen=>?_
 refine k2 ?_
 refine A3 (A2 (A5 Z Z) Z (A6 ?_))
 refine k1 (k2 (k2 ?_))
 refine A3 (A2 (A5 Z Z) Z (A6 ?_))
 refine k1 (k3 ?_)
 refine D1 (X:=Nat) (fun i=>([(0,C8 Row 3 rowC rows),(1,C3 n),(5,C3 i)],[])) (fun i=>i≤rows.length∧N7 rows n.toNat=N7 (rows.drop i) n.toNat) (fun i=>rows.length - i) 0 (by simp) (J48 ⟨le1 rfl,le1 rfl,le1 rfl,trivial⟩ trivial) ?_
 rintro i ⟨hi,hp⟩
 dsimp only at hi hp ⊢
 refine k2 (k2 ?_)
 refine A3 (A2 (A4 Z Z) Z (A2 (A4 Z Z) Z (A2 (F2 Z (.pure _ _ _ _)) Z (A2 (D6 Z Z) Z (A6 ?_)))))
 refine k1 ?_
 refine B2 rfl (fun ht=>?_) (fun ht=>?_)
 ·have hlt:i < rows.length:=by have:=A0 ht;omega
  have hv:rows[i]?=some rows[i]:=by simp [hlt]
  have hm:=hr _ (J96 hlt)
  rw [J84 hlt,C87] at hp
  have hmk:U7 n.toNat rows[i]=!(if decide ((IntKind.u64.wrap rows[i].Marks).fdiv (2 ^ min (IntKind.u64.wrap n).toNat IntKind.u64.bits)≠0)=true then true else if rows[i].Lost=true then decide (rows[i].Marks=0) else false):=by
   rw [A61 (by omega),A61 (n:=n) (by omega),shr64' _ _ (by omega),U7]
   by_cases h1:rows[i].Marks / 2 ^ n.toNat=0
   ·cases h2:rows[i].Lost<;>simp [h1]
    by_cases h3:rows[i].Marks=0<;>simp [h3]
   ·simp [h1]
  refine k5 (k1 (k2 (k3 (k2 ?_))))
  refine A3 (A2 (A4 Z Z) Z (A2 (A4 Z Z) Z (A2 (B3 Z (.pure _ _ _ _) Z (by omega) hv) Z (A2 (E1 Z) Z (A2 (B6 Z Z) Z (A2 (I1 Z) Z (A2 (A4 Z Z) Z (A2 (I1 Z) Z (A2 (A38 Z Z (by (rw [A61 (by omega)];omega))) Z ?_)))))))));refine A2 (L4 Z Z) Z (A2 (A4 Z Z) Z (A9 Z Z Z Z (fun hg=>by rw [hg];exact A4 Z Z) ?_));refine A9 Z Z Z Z (fun hg=>by rw [hg];exact A4 Z Z) ?_;refine A9 Z Z Z Z (fun hg=>by have hq:=hg;(try simp at hq);rw [hg];exact B3 Z (.pure _ _ _ _) Z (by omega) hv) ?_;refine A9 Z Z Z Z (fun hg=>by rw [hg];exact E1 Z) ?_;refine A9 Z Z Z Z (fun hg=>by rw [hg];exact B6 Z Z) ?_;refine A9 Z Z Z Z (fun hg=>by rw [hg];exact A4 Z Z) ?_;refine G5 Z Z Z (.gd (.val _)) Z (fun hg=>by obtain ⟨hg1,hg2⟩:=L7 hg;(try rw [hg1]);(try rw [hg2]);exact A4 Z Z) ?_;refine G5 Z Z Z (.gd (.val _)) Z (fun hg=>by obtain ⟨hg1,hg2⟩:=L7 hg;(try rw [hg1]);(try rw [hg2]);exact A4 Z Z) ?_;refine G5 Z Z Z (.gd (.val _)) Z (fun hg=>by have hq:=hg;(try simp at hq);obtain ⟨hg1,hg2⟩:=L7 hg;(try rw [hg1]);(try rw [hg2]);exact B3 Z (.pure _ _ _ _) Z (by omega) hv) ?_;refine G5 Z Z Z (.gd (.val _)) Z (fun hg=>by obtain ⟨hg1,hg2⟩:=L7 hg;(try rw [hg1]);(try rw [hg2]);exact E1 Z) ?_;refine G5 Z Z Z (.gd (.val _)) Z (fun hg=>by obtain ⟨hg1,hg2⟩:=L7 hg;(try rw [hg1]);(try rw [hg2]);exact B6 Z Z) ?_;refine G5 Z Z Z (.gd (.val _)) Z (fun hg=>by obtain ⟨hg1,hg2⟩:=L7 hg;(try rw [hg1]);(try rw [hg2]);exact F1 Z Z) ?_;refine A9 Z Z Z Z (fun hg=>by rw [hg];exact B4 Z (fun h=>by first | rfl | (rw [h];rfl)) (fun h=>by first | rfl | (rw [h];rfl))) ?_;refine A2 (B4 Z (fun h=>by first | rfl | (rw [h];rfl)) (fun h=>by first | rfl | (rw [h];rfl))) Z ?_;refine A6 ?_
  refine k1 ?_
  refine B2 rfl (fun ht=>?_) (fun ht=>?_)
  ·rw [hmk,ht] at hp
   refine k2 ?_
   refine A3 (A2 (A5 Z Z) Z (A6 ?_))
   refine k1 (k10 (k12 (k11 (k11 (k12 (k11 ?_))))))
   exact B5 (F8 rfl rfl rfl) (by rw [hp];rfl)
  ·rw [hmk,ht] at hp
   refine k5 (k4 (k1 ?_))
   refine A3 (A2 (A4 Z Z) Z (A2 (C1 Z Z (by omega)) Z (A2 (A5 Z Z) Z (A6 ?_))))
   refine k1 ?_
   exact ⟨i+1,⟨by omega,by rw [hp];rfl⟩,by omega,J48 ⟨le1 rfl,le1 rfl,le1 rfl,trivial⟩ trivial⟩
 ·have hi':i=rows.length:=by have:=A1 ht;omega
  subst hi'
  refine k6 (k2 ?_)
  refine A3 (A2 (A5 Z Z) Z (A6 ?_))
  refine k1 (k10 ?_)
  exact B5 (F8 rfl rfl rfl) (by rw [hp];simp [N7])
theorem E34 (rows:List Row) (n:Int) (hn:0≤n∧n≤32) (hr:I9 rows) (hl:rows.length≤536870911) (hx:P0 rows≤536870912):FnOk Tryz.prog 183 [pRows rows,E2 n] (fun rs=>rs=[D3 (s6 rows n.toNat)]):=by
 obtain ⟨n,rfl⟩:∃m:Nat,n=m:=⟨n.toNat,by omega⟩
 rw [J83]
 refine FnOk.intro Tryz.func183 (by decide) Z Z Z Z ?_
 refine k2 ?_
 refine A3 (A2 (A5 Z Z) Z (A6 ?_))
 refine k1 (k2 (k2 ?_))
 refine A3 (A2 (A5 Z Z) Z (A6 ?_))
 refine k1 (k3 ?_)
 refine D1 (X:=Nat) (fun i=>([(0,C8 Row 3 rowC rows),(1,C3 n),(5,C3 i)],[])) (fun i=>i≤rows.length∧rows.all (fun r=>J1 r.Text)=(rows.drop i).all (fun r=>J1 r.Text)) (fun i=>rows.length - i) 0 (by simp) (J48 ⟨le1 rfl,le1 rfl,le1 rfl,trivial⟩ trivial) ?_
 rintro i ⟨hi,hp⟩
 dsimp only at hi hp ⊢
 refine k2 (k2 ?_)
 refine A3 (A2 (A4 Z Z) Z (A2 (A4 Z Z) Z (A2 (F2 Z (.pure _ _ _ _)) Z (A2 (D6 Z Z) Z (A6 ?_)))))
 refine k1 ?_
 refine B2 rfl (fun ht=>?_) (fun ht=>?_)
 ·have hlt:i < rows.length:=by have:=A0 ht;omega
  have hv:rows[i]?=some rows[i]:=by simp [hlt]
  have htl:=E57 rows _ (J96 hlt)
  rw [J84 hlt,List.all_cons] at hp
  refine k5 (k1 (k2 (k3 (k2 ?_))))
  refine A3 (A2 (A4 Z Z) Z (A2 (A4 Z Z) Z (A2 (B3 Z (.pure _ _ _ _) Z (by omega) hv) Z (A2 (E1 Z) Z (A2 (B6 Z Z) Z (B9 (line_ok rows[i].Text (by omega)) Z Z Z ?_))))));rintro _ rfl;refine A2 (E4 Z) Z (A6 ?_)
  refine k1 ?_
  refine B2 rfl (fun ht=>?_) (fun ht=>?_)
  ·have h:J1 rows[i].Text=false:=by simpa using ht
   rw [h] at hp
   refine k2 ?_
   refine A3 (A2 (A5 Z Z) Z (A6 ?_))
   refine k1 (k10 (k12 (k11 (k11 (k12 (k11 ?_))))))
   exact B5 (F8 rfl rfl rfl) (by rw [s6,hp];rfl)
  ·have h:J1 rows[i].Text=true:=by simpa using ht
   rw [h] at hp
   refine k5 (k4 (k1 ?_))
   refine A3 (A2 (A4 Z Z) Z (A2 (C1 Z Z (by omega)) Z (A2 (A5 Z Z) Z (A6 ?_))))
   refine k1 ?_
   exact ⟨i+1,⟨by omega,by rw [hp];rfl⟩,by omega,J48 ⟨le1 rfl,le1 rfl,le1 rfl,trivial⟩ trivial⟩
 ·have hi':i=rows.length:=by have:=A1 ht;omega
  rw [hi',J87 (Nat.le_refl _),List.all_nil] at hp
  refine k6 (k2 (k2 ?_))
  refine A3 (A2 (A5 Z Z) Z (A6 ?_))
  refine k1 (k3 ?_)
  refine D1 (X:=Nat) (fun k=>([(0,C8 Row 3 rowC rows),(1,C3 n),(6,C3 ((k:Int) - 1))],[])) (fun k=>k≤n+1∧(List.range (n+1)).all (fun k=>c8 (O5 rows ((k:Int) - 1)))=((List.range (n+1)).drop k).all (fun k=>c8 (O5 rows ((k:Int) - 1)))) (fun k=>n+1 - k) 0 (by simp) (J48 ⟨le1 rfl,le1 rfl,le1 rfl,trivial⟩ trivial) ?_
  rintro k ⟨hk,hq⟩
  dsimp only at hk hq ⊢
  refine k2 (k2 ?_)
  refine A3 (A2 (A4 Z Z) Z (A2 (A4 Z Z) Z (A2 (D6 Z Z) Z (A6 ?_))))
  refine k1 ?_
  refine B2 rfl (fun ht=>?_) (fun ht=>?_)
  ·have hlt:k < n+1:=by have:=A0 ht;omega
   have hfl:=H70 rows ((k:Int) - 1)
   rw [J84 (by simpa using hlt),List.all_cons,List.getElem_range] at hq
   refine k5 (k1 (k2 (k3 (k2 ?_))))
   refine A3 (A2 (A4 Z Z) Z (A2 (A4 Z Z) Z (B9 (A44 rows _ hr hl) Z Z Z ?_)));rintro _ rfl;refine B9 (list_ok _ (fun s hs=>by obtain ⟨r,hr1,rfl⟩:=I74 rows _ s hs;have:=E57 rows r hr1;omega)) Z Z Z ?_;rintro _ rfl;refine A2 (E4 Z) Z (A6 ?_)
   refine k1 ?_
   refine B2 rfl (fun ht=>?_) (fun ht=>?_)
   ·have h:c8 (O5 rows ((k:Int) - 1))=false:=by simpa using ht
    rw [h] at hq
    refine k2 ?_
    refine A3 (A2 (A5 Z Z) Z (A6 ?_))
    refine k1 (k10 (k12 (k11 (k11 (k12 (k11 ?_))))))
    exact B5 (F8 rfl rfl rfl) (by rw [s6,hp,hq];rfl)
   ·have h:c8 (O5 rows ((k:Int) - 1))=true:=by simpa using ht
    rw [h] at hq
    refine k5 (k4 (k1 ?_))
    refine A3 (A2 (A4 Z Z) Z (A2 (C1 Z Z (by omega)) Z (A2 (A5 Z Z) Z (A6 ?_))))
    refine k1 ?_
    exact ⟨k+1,⟨by omega,by rw [hq];rfl⟩,by omega,J48 ⟨le1 rfl,le1 rfl,leE rfl (by first | (simp;done) | (simp;omega)),trivial⟩ trivial⟩
  ·have hk':k=n+1:=by have:=A1 ht;omega
   rw [hk',J87 (by simp),List.all_nil] at hq
   refine k6 (k2 ?_)
   refine A3 (A2 (A5 Z Z) Z (A6 ?_))
   refine k1 (k10 ?_)
   exact B5 (F8 rfl rfl rfl) (by rw [s6,hp,hq];rfl)
theorem E35 (t:Table) (hr:I9 t.Rows) (hl:t.Rows.length≤536870911) (hx:P0 t.Rows≤536870912):FnOk Tryz.prog 115 [pTable t] (fun rs=>rs=[E2 (U5 t)]):=by
 refine FnOk.intro Tryz.func115 (by decide) Z Z Z Z ?_
 refine k2 ?_
 refine A3 (C2 (P6 1 Z Z Z) Z (A2 (A5 Z Z) Z (A6 ?_)))
 refine k1 (k2 (k3 (k2 ?_)))
 refine A3 (A2 (A7 Z) Z (A2 (B0 Z Z Z) Z (A2 (D6 Z Z) Z (A2 (A4 Z Z) Z (A9 Z Z Z Z (fun hg=>by rw [hg];exact A7 Z) ?_)))));refine A9 Z Z Z Z (fun hg=>by rw [hg];exact B0 Z Z Z) ?_;refine A9 Z Z Z Z (fun hg=>by rw [hg];exact L9 Z Z) ?_;refine A2 (B4 Z (fun h=>by first | rfl | (rw [h];rfl)) (fun h=>by first | rfl | (rw [h];rfl))) Z ?_;refine A2 (A5 Z Z) Z (A6 ?_)
 refine k1 ?_
 refine B2 rfl (fun ht=>?_) (fun ht=>?_)
 ·have h:=A0 (or_pick.symm.trans ht)
  refine k2 ?_
  refine A3 (A2 (A5 Z Z) Z (A6 ?_))
  refine k1 (k10 (k12 (k11 ?_)))
  exact B5 (F8 rfl rfl rfl) (by rw [U5,if_pos h])
 ·have h:=A1 (or_pick.symm.trans ht)
  refine k2 ?_
  refine A3 (A2 (A7 Z) Z (A2 (B0 Z Z Z) Z (A2 (A7 Z) Z (A2 (B0 Z Z Z) Z (B9 (E33 t.Rows t.Parents (by omega) hr) Z Z Z ?_)))));rintro _ rfl;refine A2 (E4 Z) Z (A2 (A5 Z Z) Z (A6 ?_))
  refine k1 ?_
  refine B2 rfl (fun ht=>?_) (fun ht=>?_)
  ·have h2:N7 t.Rows t.Parents.toNat=false:=by simpa using ht
   refine k2 ?_
   refine A3 (A2 (A5 Z Z) Z (A6 ?_))
   refine k1 (k10 (k12 (k11 ?_)))
   exact B5 (F8 rfl rfl rfl) (by rw [U5,if_neg h,if_pos h2])
  ·have h2:N7 t.Rows t.Parents.toNat=true:=by simpa using ht
   refine k2 ?_
   refine A3 (A2 (A7 Z) Z (A2 (B0 Z Z Z) Z (A2 (A7 Z) Z (A2 (B0 Z Z Z) Z (B9 (E34 t.Rows t.Parents (by omega) hr hl hx) Z Z Z ?_)))));rintro _ rfl;refine A2 (E4 Z) Z (A2 (A5 Z Z) Z (A6 ?_))
   refine k1 ?_
   refine B2 rfl (fun ht=>?_) (fun ht=>?_)
   ·have h3:s6 t.Rows t.Parents.toNat=false:=by simpa using ht
    refine k2 ?_
    refine A3 (A2 (A5 Z Z) Z (A6 ?_))
    refine k1 (k10 (k12 (k11 ?_)))
    exact B5 (F8 rfl rfl rfl) (by rw [U5,if_neg h,if_neg (by simp [h2]),if_pos h3])
   ·have h3:s6 t.Rows t.Parents.toNat=true:=by simpa using ht
    refine k5 (k2 ?_)
    refine A3 (A2 (A5 Z Z) Z (A6 ?_))
    refine k1 (k10 ?_)
    exact B5 (F8 rfl rfl rfl) (by rw [U5,if_neg h,if_neg (by simp [h2]),if_neg (by simp [h3])])
theorem F40 (s:Str):(ByteArray.mk s.toArray).size=s.length:=by simp [ByteArray.size]
theorem F99 (s p:Str) (hs:s.length≤1099511627776):FnOk Tryz.prog 209 [F5 s,F5 p] (fun rs=>rs=[D3 (Lib.hasSuffix s p)]) :=
 J55 (xs:=[.string ⟨s.toArray⟩,.string ⟨p.toArray⟩]) ⟨_,rfl,rfl,rfl⟩ rfl fun w=>by simpa using Tryz.strings_HasSuffix ⟨s.toArray⟩ ⟨p.toArray⟩ w (by rw [F40];omega)
theorem C08 (s p:Str) (hs:s.length≤1099511627776):FnOk Tryz.prog 224 [F5 s,F5 p] (fun rs=>rs=[F5 (Lib.trimSuffix s p)]) :=
 J55 (xs:=[.string ⟨s.toArray⟩,.string ⟨p.toArray⟩]) ⟨_,rfl,rfl,rfl⟩ rfl fun w=>by simpa using Tryz.strings_TrimSuffix ⟨s.toArray⟩ ⟨p.toArray⟩ w (by rw [F40];omega)
theorem G00 (s:Str) (c:UInt8):FnOk Tryz.prog 231 [F5 s,F5 [c]] (fun rs=>rs=[D3 (decide (0≤Lib.indexByte s c))]) :=
 J55 (xs:=[.string ⟨s.toArray⟩,.string ⟨#[c]⟩]) ⟨_,rfl,rfl,rfl⟩ rfl fun w=>by simpa using Tryz.strings_Contains_one ⟨s.toArray⟩ c w
theorem D22 (s:Str) (hs:s.length≤1099511627776):FnOk Tryz.prog 142 [F5 s] (fun rs=>rs=[D3 (ended s)]):=by
 refine FnOk.intro Tryz.func142 (by decide) Z Z Z Z ?_
 refine k2 ?_
 refine A3 (A2 (A5 Z Z) Z (A6 ?_))
 refine k1 (k2 ?_)
 refine A3 (A2 (A4 Z Z) Z (B9 (F99 s [10] hs) Z Z Z ?_));rintro _ rfl;refine A2 (A5 Z Z) Z (A6 ?_)
 rw [C88]
 refine k1 (k10 ?_)
 exact B5 (F8 rfl rfl rfl) rfl
theorem J06 (s:Str) (hs:s.length≤1099511627776):FnOk Tryz.prog 232 [F5 s] (fun rs=>rs=[F5 (B09 s)]):=by
 refine FnOk.intro Tryz.func232 (by decide) Z Z Z Z ?_
 refine k2 ?_
 refine A3 (A2 (A5 Z Z) Z (A6 ?_))
 refine k1 (k2 ?_)
 refine A3 (A2 (A4 Z Z) Z (B9 (C08 s [10] hs) Z Z Z ?_));rintro _ rfl;refine A2 (A5 Z Z) Z (A6 ?_)
 rw [C17]
 refine k1 (k10 ?_)
 exact B5 (F8 rfl rfl rfl) rfl
theorem G62 (r:Row) (c:Int) (hr:0≤r.Marks∧r.Marks < 4294967296):FnOk Tryz.prog 188 [pRow r,E2 c] (fun rs=>rs=[D3 (U4 r c)]):=by
 refine FnOk.intro Tryz.func188 (by decide) Z Z Z Z ?_
 refine k2 ?_
 refine A3 (C2 (P6 2 Z Z Z) Z (A2 (A5 Z Z) Z (A6 ?_)))
 refine k1 (k2 (k2 ?_))
 refine A3 (A2 (A4 Z Z) Z (A2 (D6 Z Z) Z (A2 (A4 Z Z) Z (A9 Z Z Z Z (fun hg=>by rw [hg];exact A4 Z Z) ?_))));refine A9 Z Z Z Z (fun hg=>by rw [hg];exact Z1 Z Z) ?_;refine A2 (B4 Z (fun h=>by first | rfl | (rw [h];rfl)) (fun h=>by first | rfl | (rw [h];rfl))) Z ?_;refine A6 ?_
 refine k1 ?_
 refine B2 rfl (fun ht=>?_) (fun ht=>?_)
 ·have h:=A0 (or_pick.symm.trans ht)
  refine k2 ?_
  refine A3 (A2 (A5 Z Z) Z (A6 ?_))
  refine k1 (k10 (k11 ?_))
  exact B5 (F8 rfl rfl rfl) (by rw [U4,if_neg (by omega),if_pos (by omega)])
 ·have h:=A1 (or_pick.symm.trans ht)
  refine k5 (k1 (k2 (k2 ?_)))
  refine A3 (A2 (A4 Z Z) Z (A2 (D6 Z Z) Z (A6 ?_)))
  refine k1 ?_
  refine B2 rfl (fun ht=>?_) (fun ht=>?_)
  ·have h2:=A0 ht
   refine k2 ?_
   refine A3 (A2 (A7 Z) Z (A2 (B0 Z Z Z) Z (A2 (E4 Z) Z (A2 (A5 Z Z) Z (A6 ?_)))))
   refine k1 (k10 (k11 ?_))
   exact B5 (F8 rfl rfl rfl) (by rw [U4,if_pos (by omega)])
  ·have h2:=A1 ht
   refine k5 (k1 (k2 ?_))
   refine C4 (by kernel_rfl) (by kernel_rfl) (A8 (A7 Z) Z Z (A8 (B0 Z Z Z) Z Z (A8 (A7 Z) Z Z (A8 (B0 Z Z Z) Z Z (A8 (A4 Z Z) Z Z (A8 (A38 Z Z (by omega)) Z Z (A8 (T4 Z Z Z (fun _=>rfl)) Z Z (A8 (F1 Z Z) Z Z (A8 (F86 Z Z TyBool.out) Z Z (A8 (A5 Z Z) Z Z (H9 ?_)))))))))))
   refine k1 (k10 ?_)
   refine B5 (F8 Z Z Z) ?_
   have h3:0≤r.Marks / 2 ^ c.toNat:=Int.ediv_nonneg hr.1 (Int.pow_nonneg (by decide))
   have h4:r.Marks / 2 ^ c.toNat≤r.Marks:=Int.ediv_le_self _ hr.1
   rw [U4,if_neg (by omega),if_neg (by omega),D68 r.Marks c (by omega),A79 _ (by omega),Bool.beq_comm]
   rfl
theorem H43 (r:Row) (n:Int) (hn:1≤n∧n≤32) (hr:0≤r.Marks∧r.Marks < 4294967296):FnOk Tryz.prog 169 [pRow r,E2 n] (fun rs=>rs=[D3 (U7 n.toNat r)]):=by
 refine FnOk.intro Tryz.func169 (by decide) Z Z Z Z ?_
 refine k2 ?_
 refine A3 (C2 (P6 2 Z Z Z) Z (A2 (A5 Z Z) Z (A6 ?_)))
 refine k1 (k2 ?_)
 refine A3 (A2 (A7 Z) Z (A2 (B0 Z Z Z) Z (A2 (A38 Z Z (by omega)) Z (A2 (A4 Z Z) Z (A2 (P5 Z Z (by omega)) Z (A2 (A38 Z Z (by omega)) Z (A2 (F1 Z Z) Z (A2 (A4 Z Z) Z (A9 Z Z Z Z (fun hg=>by rw [hg];exact A7 Z) ?_)))))))));refine A9 Z Z Z Z (fun hg=>by rw [hg];exact B0 Z Z Z) ?_;refine A9 Z Z Z Z (fun hg=>by rw [hg];exact E4 Z) ?_;refine A9 Z Z Z Z (fun hg=>by rw [hg];exact A4 Z Z) ?_;refine G5 Z Z Z (.gd (.val _)) Z (fun hg=>by obtain ⟨hg1,hg2⟩:=L7 hg;(try rw [hg1]);(try rw [hg2]);exact A7 Z) ?_;refine G5 Z Z Z (.gd (.val _)) Z (fun hg=>by obtain ⟨hg1,hg2⟩:=L7 hg;(try rw [hg1]);(try rw [hg2]);exact B0 Z Z Z) ?_;refine G5 Z Z Z (.gd (.val _)) Z (fun hg=>by obtain ⟨hg1,hg2⟩:=L7 hg;(try rw [hg1]);(try rw [hg2]);exact L4 Z Z) ?_;refine A9 Z Z Z Z (fun hg=>by rw [hg];exact B4 Z (fun h=>by first | rfl | (rw [h];rfl)) (fun h=>by first | rfl | (rw [h];rfl))) ?_;refine A2 (B4 Z (fun h=>by first | rfl | (rw [h];rfl)) (fun h=>by first | rfl | (rw [h];rfl))) Z ?_;refine A2 (A5 Z Z) Z (A6 ?_)
 refine k1 (k10 ?_)
 refine B5 (F8 Z Z Z) ?_
 have h0:0≤r.Marks / 2 ^ n.toNat:=Int.ediv_nonneg hr.1 (Int.pow_nonneg (by decide))
 have e1:r.Marks.fdiv (2 ^ (min (1:Int).toNat IntKind.u32.bits))=r.Marks / 2:=by
  rw [D68 r.Marks 1 (by omega)];rfl
 have e2:(r.Marks / 2).fdiv (2 ^ (min (n - 1).toNat IntKind.u32.bits))=r.Marks / 2 ^ n.toNat:=by
  rw [D68 (r.Marks / 2) (n - 1) (by omega),Int.ediv_ediv_of_nonneg (by decide)]
  have:n.toNat=(n - 1).toNat+1:=by omega
  rw [this,Int.pow_succ,Int.mul_comm]
 have e3:(if decide ((r.Marks.fdiv (2 ^ (min (1:Int).toNat IntKind.u32.bits))).fdiv (2 ^ (min (n - 1).toNat IntKind.u32.bits))=0)=true then (if (!r.Lost)=true then true else decide (r.Marks≠0)) else false)=U7 n.toNat r:=by
  rw [e1,e2,U7]
  cases r.Lost<;>by_cases hz:r.Marks / 2 ^ n.toNat=0<;>by_cases hy:r.Marks=0<;>simp [hz,hy]
 rw [←e3]
theorem E36 (r:Row) (hs:r.Text.length≤1099511627776):FnOk Tryz.prog 171 [pRow r] (fun rs=>rs=[D3 (J1 r.Text)]):=by
 refine FnOk.intro Tryz.func171 (by decide) Z Z Z Z ?_
 refine k2 ?_
 refine A3 (C2 (P6 1 Z Z Z) Z (A2 (A5 Z Z) Z (A6 ?_)))
 refine k1 (k2 ?_)
 refine A3 (A2 (A7 Z) Z (A2 (B0 Z Z Z) Z (A2 (j4 Z Z) Z (A2 (A4 Z Z) Z (A9 Z Z Z Z (fun hg=>by rw [hg];exact A7 Z) ?_)))));refine A9 Z Z Z Z (fun hg=>by rw [hg];exact B0 Z Z Z) ?_;refine A9 Z Z Z Z (fun hg=>by have hq:=hg;(try simp at hq);rw [hg];exact G7 (J06 r.Text hs) Z Z) ?_;refine A9 Z Z Z Z (fun hg=>by have hq:=hg;(try simp at hq);rw [hg];exact G7 (G00 (B09 r.Text) 10) Z Z) ?_;refine A9 Z Z Z Z (fun hg=>by rw [hg];exact E4 Z) ?_;refine A2 (B4 Z (fun h=>by first | rfl | (rw [h];rfl)) (fun h=>by first | rfl | (rw [h];rfl))) Z ?_;refine A2 (A5 Z Z) Z (A6 ?_)
 refine k1 (k10 ?_)
 refine B5 (F8 Z Z Z) ?_
 rw [←I76]
theorem wadd_ok (r:Row) (res:Bool) (par:Int) (hs:r.Text.length≤1099511627776) :
  FnIo Tryz.prog 172 [pRow r] [.v (.bool res),.v (.int .u32 par)] (fun rs cs=>rs=[D3 (D72 res par r)]∧cs=[.v (.bool (B64 res r)),.v (.int .u32 (B65 par r))]):=by
 refine FnIo.intro Tryz.func172 (by decide) Z Z Z Z ?_
 refine k2 ?_
 refine A3 (C2 (P6 3 Z Z Z) Z (A2 (A5 Z Z) Z (A6 ?_)))
 refine k1 (k2 ?_)
 refine A3 (A2 (A7 Z) Z (A2 (B0 Z Z Z) Z (A2 (A5 Z Z) Z (A6 ?_))))
 refine H8 ?_
 refine U6 [(3,.s (.one (.ref 3 0))),(0,.s (.one (.ref self 0))),(5,J4 (.int .u32 (F13 r)))] [(3,.box (pRow r).s1.cells),(self,.box [.p (.v (.bool res)),.p (.v (.int .u32 par))])] ?_ ?_
 ·refine k2 ?_
  refine A3 (A2 (A7 Z) Z (A2 (B0 Z Z Z) Z (A2 (E4 Z) Z (A6 ?_))))
  refine k1 ?_
  refine B2 rfl (fun ht=>?_) (fun ht=>?_)
  ·have h:r.Lost=false:=by simpa using ht
   skip
   refine A3 (A2 (A4 Z Z) Z (A2 (n_compl Z Z (fun _=>rfl)) Z (A2 (A5 Z Z) Z (A6 ?_))))
   refine k1 ?_
   rw [F13,if_neg (by rw [h];simp)]
   exact J48 ⟨le1 rfl,le1 rfl,le1 rfl,trivial⟩ ⟨rfl,rfl,trivial⟩
  ·have h:r.Lost=true:=by simpa using ht
   refine k5 (k1 ?_)
   rw [F13,if_pos h]
   exact J48 ⟨le1 rfl,le1 rfl,le1 rfl,trivial⟩ ⟨rfl,rfl,trivial⟩
 refine k2 ?_
 refine A3 (A2 (A4 Z Z) Z (A2 (B8 Z) Z (A2 (A7 Z) Z (A2 (B0 Z Z Z) Z (A2 (A4 Z Z) Z (A2 (T4 Z Z Z (fun _=>rfl)) Z (A2 (F1 Z Z) Z (A2 (A4 Z Z) Z (A9 Z Z Z Z (fun hg=>by rw [hg];exact A7 Z) ?_)))))))));refine A9 Z Z Z Z (fun hg=>by rw [hg];exact B0 Z Z Z) ?_;refine A9 Z Z Z Z (fun hg=>by rw [hg];exact A4 Z Z) ?_;refine G5 Z Z Z (.gd (.val _)) Z (fun hg=>by obtain ⟨hg1,hg2⟩:=L7 hg;(try rw [hg1]);(try rw [hg2]);exact A4 Z Z) ?_;refine G5 Z Z Z (.gd (.val _)) Z (fun hg=>by obtain ⟨hg1,hg2⟩:=L7 hg;(try rw [hg1]);(try rw [hg2]);exact B8 Z) ?_;refine G5 Z Z Z (.gd (.val _)) Z (fun hg=>by obtain ⟨hg1,hg2⟩:=L7 hg;(try rw [hg1]);(try rw [hg2]);exact A7 Z) ?_;refine G5 Z Z Z (.gd (.val _)) Z (fun hg=>by obtain ⟨hg1,hg2⟩:=L7 hg;(try rw [hg1]);(try rw [hg2]);exact B0 Z Z Z) ?_;refine G5 Z Z Z (.gd (.val _)) Z (fun hg=>by obtain ⟨hg1,hg2⟩:=L7 hg;(try rw [hg1]);(try rw [hg2]);exact E4 Z) ?_;refine A9 Z Z Z Z (fun hg=>by rw [hg];exact B4 Z (fun h=>by first | rfl | (rw [h];rfl)) (fun h=>by first | rfl | (rw [h];rfl))) ?_;refine A2 (B4 Z (fun h=>by first | rfl | (rw [h];rfl)) (fun h=>by first | rfl | (rw [h];rfl))) Z ?_;refine A2 (A5 Z Z) Z (A6 ?_)
 refine k1 (k2 (k2 ?_))
 refine A3 (A2 (A7 Z) Z (A2 (B0 Z Z Z) Z (B9 (D22 r.Text hs) Z Z Z ?_)));rintro _ rfl;refine A2 (E4 Z) Z (A6 ?_)
 have hok:(if decide (G99 par (F13 r)=0)=true then (if r.Lost=true then true else !res) else false)=D72 res par r:=by
  rw [D72]
  cases r.Lost<;>cases res<;>by_cases h:G99 par (F13 r)=0<;>simp [h]
 refine k1 ?_
 refine B2 rfl (fun ht=>?_) (fun ht=>?_)
 ·have h:ended r.Text=false:=by simpa using ht
  refine k2 ?_
  refine A3 (A2 (A4 Z Z) Z (A2 (B8 Z) Z (A2 (A7 Z) Z (A2 (B0 Z Z Z) Z (A2 (A4 Z Z) Z (A2 (T4 Z Z Z (fun _=>rfl)) Z (A2 (B8 Z) Z (A2 (A7 Z) Z (E3 (B7 TySz.out Z Z Z Z Z Z) (A6 ?_))))))))))
  refine k1 ?_
  refine A3 (A2 (A4 Z Z) Z (A2 (A4 Z Z) Z (A2 (B8 Z) Z (A2 (A7 Z) Z (A2 (B0 Z Z Z) Z (A2 (A4 Z Z) Z (A9 Z Z Z Z (fun hg=>by rw [hg];exact A7 Z) ?_)))))));refine A9 Z Z Z Z (fun hg=>by rw [hg];exact B0 Z Z Z) ?_;refine A9 Z Z Z Z (fun hg=>by rw [hg];exact E4 Z) ?_;refine A2 (B4 Z (fun h=>by first | rfl | (rw [h];rfl)) (fun h=>by first | rfl | (rw [h];rfl))) Z ?_;refine A2 (B8 Z) Z (A2 (A7 Z) Z (E3 (B7 TySz.out Z Z Z Z Z Z) (A6 ?_)))
  refine k1 (k2 ?_)
  refine A3 (A2 (A4 Z Z) Z (A2 (A5 Z Z) Z (A6 ?_)))
  refine k1 (k10 ?_)
  refine io_ret (F8 rfl rfl rfl) rfl rfl ⟨by rw [←hok];rfl,?_⟩
  have ea:B64 res r=(res||!r.Lost):=by rw [B64,h];rfl
  have ep:B65 par r=V0 par (F13 r):=by rw [B65,h];rfl
  rw [ea,ep]
  cases res<;>rfl
 ·have h:ended r.Text=true:=by simpa using ht
  refine k5 (k1 (k2 ?_))
  refine A3 (A2 (A4 Z Z) Z (A2 (A5 Z Z) Z (A6 ?_)))
  refine k1 (k10 ?_)
  exact io_ret (F8 rfl rfl rfl) rfl rfl ⟨by rw [←hok];rfl,by rw [B64,B65,if_pos h,if_pos h]⟩
def isBld (ob:Obs) (xs:Str):Prop:=(∃a,(a=.p (.v (.pointer none))∨a=.ref 700 0)∧D4 ob 700=some (.tbx 144 [a,.buf 701 UInt8 1 u8C xs]))∧D4 ob 701=some (.spare xs.length 1 5)
abbrev bldObs (ob:Obs) (ys xs:Str):Obs:=(700,.tbx 144 [.ref 700 0,.buf 701 UInt8 1 u8C xs])::(701,.spare xs.length 1 5)::Obs.forget 701 ((700,.tbx 144 [.ref 700 0,.buf 701 UInt8 1 u8C ys])::ob)
def I10:Go.Shelf.Ren:=⟨fun | 240=>165 | 276=>227 | n=>n,fun | 72=>144 | 70=>142 | 164=>278 | 37=>133 | n=>n,fun n=>n⟩
theorem ccLays:Go.Proofs.Lays.n240 Tryz.prog I10:={
 mixed:=by kernel_rfl
 f240:=Tryz.func165.trans (congrArg some (by kernel_rfl))
 f276:=Tryz.func227.trans (congrArg some (by kernel_rfl))
 t0:=Tryz.underlying0
 a0:=Tryz.isAgg0
 z0:=Tryz.sizeOf0
 v0:=Tryz.zeroValue0
 t4:=Tryz.underlying4
 a4:=Tryz.isAgg4
 z4:=Tryz.sizeOf4
 v4:=Tryz.zeroValue4
 t9:=Tryz.underlying9
 a9:=Tryz.isAgg9
 z9:=Tryz.sizeOf9
 v9:=Tryz.zeroValue9
 t20:=Tryz.underlying20
 a20:=Tryz.isAgg20
 z20:=Tryz.sizeOf20
 v20:=Tryz.zeroValue20
 t70:=Tryz.underlying142
 a70:=Tryz.isAgg142
 z70:=Tryz.sizeOf142
 v70:=Tryz.zeroValue142
 t72:=Tryz.underlying144
 a72:=Tryz.isAgg144
 z72:=Tryz.sizeOf144
 v72:=Tryz.zeroValue144
 t164:=Tryz.underlying278
 a164:=Tryz.isAgg278
 z164:=Tryz.sizeOf278
 v164:=Tryz.zeroValue278 }
theorem ccX:Builder.X72 Tryz.prog I10:={
 sizeBuilder:=by kernel_rfl
 liesBuilder:=by kernel_rfl }
theorem C09 {gf:Fr} {ob:Obs} {a t:TC} (hk:D4 ob 700=some (.tbx 144 [a,t])) (ha:a=.p (.v (.pointer none))∨a=.ref 700 0) :
  AL.Met Tryz.prog 165 [.one (.ref 700 0)] gf ob [] (fun rs ob'=>rs=[]∧ob'=(700,.tbx 144 [.ref 700 0,t])::ob) :=
 AL.Met.copyCheck ⟨_,rfl,rfl,rfl⟩ (fun b w h1 h2 h3=>Any.Builder_copyCheck_fresh (ρ:=I10) ccLays ccX b w h1 h2 h3) (fun b w h=>Any.Builder_copyCheck_used (ρ:=I10) ccLays ccX b w h) hk ha
theorem Q4 {gf:Fr} {ob:Obs} {xs s:Str} (hb:isBld ob xs) (hlen:xs.length+s.length≤1073741824) :
  AL.Met Tryz.prog 88 [.one (.ref 700 0),.one (.p (.v (.string ⟨s.toArray⟩)))] gf ob [701] (fun rs ob'=>rs=[.one (.p (.v (.int .i64 s.length))),.one (.p (.v .nilIface))]∧ob'=bldObs ob xs (xs++s)):=by
 obtain ⟨⟨a,ha,hk⟩,hk1⟩:=hb
 refine AL.Met.intro Tryz.func88 (by decide) Z Z Z ?_
 refine k2 ?_
 refine A3 (A2 (A5 Z Z) Z (A2 (A5 Z Z) Z (A6 ?_)))
 refine k1 (k2 ?_)
 refine A3 (A2 (A4 Z Z) Z (X3 (C09 hk ha) Z Z Z ?_));rintro _ _ ⟨rfl,rfl⟩;refine A6 ?_
 refine k1 (k2 ?_)
 refine A3 (A2 (A4 Z Z) Z (A2 (A4 Z Z) Z (A2 (B8 Z) Z (A2 (A7 Z) Z (A2 (D53 Z Z Z) Z (A2 (A4 Z Z) Z (C2 (A87 TyStr.out Z hk1 Z (by first | omega | (simp;omega)) Z) Z (A2 (B8 Z) Z (A2 (A7 Z) Z (E3 (C56 TySz.out Z Z Z Z Z Z) (A6 ?_)))))))))))
 refine k1 (k2 ?_)
 refine A3 (A2 (A4 Z Z) Z (A2 (D5 Z) Z (A2 (A5 Z Z) Z (A2 (A5 Z Z) Z (A6 ?_)))))
 refine k1 (k10 ?_)
 exact H7 (A71 rfl rfl rfl) (by repeat (first | exact D9 | refine tail_cons rfl ?_ | refine E0 _ ?_)) (fun _ _ h=>h) ⟨rfl,rfl⟩
theorem C10 {gf:Fr} {ob:Obs} {xs:Str} {c:UInt8} (hb:isBld ob xs) (hlen:xs.length+1≤1073741824) :
  AL.Met Tryz.prog 144 [.one (.ref 700 0),.one (.p (.v (.int .u8 c.toNat)))] gf ob [701] (fun rs ob'=>rs=[.one (.p (.v .nilIface))]∧ob'=bldObs ob xs (xs++[c])):=by
 obtain ⟨⟨a,ha,hk⟩,hk1⟩:=hb
 refine AL.Met.intro Tryz.func144 (by decide) Z Z Z ?_
 refine k2 ?_
 refine A3 (A2 (A5 Z Z) Z (A6 ?_))
 refine k1 (k2 ?_)
 refine A3 (A2 (A4 Z Z) Z (X3 (C09 hk ha) Z Z Z ?_));rintro _ _ ⟨rfl,rfl⟩;refine A6 ?_
 refine k1 (k2 ?_)
 refine A3 (A2 (A4 Z Z) Z (A2 (A4 Z Z) Z (A2 (B8 Z) Z (A2 (A7 Z) Z (A2 (D53 Z Z Z) Z (A2 (A4 Z Z) Z (A2 (C6 (c:=u8C) (ys:=[c]) (D8 Z Z Z Z F0) Z Z Z) Z (C2 (F9 Z hk1 Z (.pure _ _ _ _) (by (simp;omega)) Z) Z (A2 (B8 Z) Z (A2 (A7 Z) Z (E3 (C56 TySz.out Z Z Z Z Z Z) (A6 ?_))))))))))))
 refine k1 (k2 ?_)
 refine A3 (A2 (A5 Z Z) Z (A6 ?_))
 refine k1 (k10 ?_)
 exact H7 (g9 rfl rfl) (by repeat (first | exact D9 | refine tail_cons rfl ?_ | refine E0 _ ?_)) (fun _ _ h=>h) ⟨rfl,rfl⟩
end Go.Proofs.YtgejaedjnbjpoaaGreatDoor
