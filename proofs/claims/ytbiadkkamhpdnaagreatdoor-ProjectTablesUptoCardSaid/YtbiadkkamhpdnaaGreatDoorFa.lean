/- Walks of the program's functions. -/
import Derived.Test.YtbiadkkamhpdnaaGreatDoorTy
import Derived.Test.YtbiadkkamhpdnaaGreatDoorFs
import Derived.Test.YtbiadkkamhpdnaaGreatDoorSh
set_option linter.unusedSimpArgs false
namespace Go.Proofs.YtbiadkkamhpdnaaGreatDoor
open Go Go.AL
set_option maxRecDepth 100000
theorem C59 (p:Int):0≤IntKind.u64.wrap p:=by simp [IntKind.wrap,IntKind.signed,IntKind.bits];omega
theorem D01 (s:Str) (hs:s.length≤1099511627776):FnOk Tryz.prog 128 [L6 s] (fun rs=>rs=[I8 (ended s)]):=by
 refine FnOk.intro Tryz.func128 (by decide) Z Z Z Z ?_
 refine k2 (A2 (A7 Z Z (A4 ?_)));refine k1 (k2 ?_)
 have hl:s≠[]→s[((s.length:Int) - 1).toNat]?=some (s.getLastD 0):=by
  intro h
  have h1:0 < s.length:=List.length_pos_iff.2 h
  have h2:((s.length:Int) - 1).toNat=s.length - 1:=by omega
  rw [h2,←List.getLast?_eq_getElem?,List.getLast?_eq_some_getLast h,List.getLastD_eq_getLast?,List.getLast?_eq_some_getLast h]
  rfl
 refine A2 (A3 Z Z (A6 (A80 Z Z) Z (A3 Z Z (B0 Z Z Z Z (fun hg=>by rw [hg];exact B5 Z Z) ?_))));refine B0 Z Z Z Z (fun hg=>by rw [hg];exact B5 Z Z) ?_;refine B0 Z Z Z Z (fun hg=>by rw [hg];exact K6 Z) ?_;refine B0 Z Z Z Z (fun hg=>by have hq:=hg;(try simp at hq);rw [hg];exact I5 Z Z (by omega)) ?_;refine B0 Z Z Z Z (fun hg=>by have hq:=hg;(try simp at hq);have h1:=List.length_pos_iff.2 hq;rw [hg];exact u0 Z Z (by omega) (hl hq)) ?_;refine B0 Z Z Z Z (fun hg=>by rw [hg];exact J7 Z Z) ?_;refine F2 Z Z ?_;refine A7 Z Z (A4 ?_);refine k1 (k10 (B4 (F3 Z Z Z) ?_))
 rw [J40]
theorem B86 (b:Str) (hb:b.length≤536870912):FnOk Tryz.prog 70 [L6 b] (fun rs=>rs=[Z9 (D5 b)]):=by
 refine FnOk.intro Tryz.func70 (by decide) Z Z Z Z ?_
 refine k2 (A2 (A7 Z Z (A4 ?_)));refine k1 (k2 (A2 (C0 (R7 3 _ I0 Z) Z (A4 ?_))));refine k1 (k2 (A2 (A7 Z Z (A4 ?_))));refine k1 (k2 (k2 (A2 (A7 Z Z (A4 ?_)))));refine k1 (k3 ?_);refine D1 (X:=Nat × Nat × List Str) (fun x=>([(0,U3 b),(3,.s (.one (.buf 3 Str 1 I0 x.2.2))),(4,B8 x.2.1),(5,B8 x.1)],[(3,.spare x.2.2.length 1 9)]))
  (fun x=>x.1≤b.length∧x.2.1≤x.1∧x.2.2.length≤x.1∧(x.1=b.length→x.2.1=x.1)∧x.2.2++H0 ((b.drop x.2.1).take (x.1 - x.2.1)) (b.drop x.1)=D5 b) (fun x=>b.length - x.1) (0,0,[]) (by simp [D5]) ?_ ?_
 ·exact J58 ⟨⟨_,rfl,.same _⟩,⟨_,rfl,.same _⟩,⟨_,rfl,.same _⟩,⟨_,rfl,.same _⟩,trivial⟩ ⟨rfl,trivial⟩
 ·rintro ⟨i,from',out⟩ ⟨hi,hf,ho,he,hp⟩
  dsimp only at hi hf ho he hp ⊢
  refine k2 (k2 (A2 (A3 Z Z (A3 Z Z (A6 (K6 Z) Z (E1 Z Z Z (A4 ?_)))))));refine k1 ?_;refine B3 rfl (fun ht=>?_) (fun ht=>?_)
  ·have hlt:i < b.length:=by simpa using ht
   have hv:b[i]?=some b[i]:=by simp [hlt]
   refine k5 (k1 (k2 (k3 (k2 (A2 (A3 Z Z (A3 Z Z (A6 (u0 Z Z (by omega) hv) Z (A6 (J7 Z Z) Z (A3 Z Z (B0 Z Z Z Z (fun hg=>by rw [hg];exact B5 Z Z) ?_)))))))))));refine B0 Z Z Z Z (fun hg=>by have hq:=hg;(try simp at hq);rw [hg];exact L4 Z Z (by omega)) ?_;refine B0 Z Z Z Z (fun hg=>by rw [hg];exact B5 Z Z) ?_;refine B0 Z Z Z Z (fun hg=>by rw [hg];exact K6 Z) ?_;refine B0 Z Z Z Z (fun hg=>by rw [hg];exact J7 Z Z) ?_;refine F2 Z Z ?_;refine A4 ?_;refine k1 ?_;refine B3 rfl (fun ht2=>?_) (fun ht2=>?_)
   ·refine k2 (A2 (A3 Z Z (A3 Z Z (A3 Z Z (A3 Z Z (C7 Z Z Z (A6 (A22 Z Z Z (by omega) (by omega) (by omega)) Z (A6 (C9 (c:=I0) (ys:=[_]) (D8 Z Z Z Z F1) Z Z Z) Z (C0 (F8 Z Z Z (.pure _ _ _ _) (by simp;omega) Z) Z (A7 Z Z (A4 ?_)))))))))));refine k1 (A2 (A3 Z Z (C7 Z Z Z (A7 Z Z (A4 ?_)))));refine k4 (k1 (A2 (A3 Z Z (C7 Z Z Z (A7 Z Z (A4 ?_))))));refine k1 ?_;refine ⟨(i+1,i+1,_),⟨?_,?_,?_,?_,?_⟩,?_,J58 ⟨⟨_,rfl,.same _⟩,⟨_,rfl,.same _⟩,⟨_,rfl,.same _⟩,⟨_,rfl,.same _⟩,trivial⟩ ⟨rfl,trivial⟩⟩
    all_goals dsimp only
    ·omega
    ·omega
    ·simp;omega
    ·omega
    ·have hc:b[i]=10∨i+1=b.length:=by
      simp only [F74] at ht2
      by_cases h:b[i]=10
      ·exact .inl h
      ·simp [h] at ht2;exact .inr (by omega)
     rw [H75,J97,Nat.sub_self,List.take_zero,←F75 b from' i hf hlt,K01,←hp,J92 hlt,X3]
     rcases hc with h | h
     ·rw [if_pos h];rfl
     ·have hd:b.drop (i+1)=[]:=J94 (by omega)
      rw [hd]
      split
      ·rfl
      ·rw [show H0 ([]:Str) []=[] from rfl,D07 _ (by simp)];simp
    ·omega
   ·refine k5 (k4 (k1 (A2 (A3 Z Z (C7 Z Z Z (A7 Z Z (A4 ?_)))))));refine k1 ?_;refine ⟨(i+1,from',out),⟨?_,?_,?_,?_,?_⟩,?_,J58 ⟨⟨_,rfl,.same _⟩,⟨_,rfl,.same _⟩,⟨_,rfl,.same _⟩,⟨_,rfl,.same _⟩,trivial⟩ ⟨rfl,trivial⟩⟩
    all_goals dsimp only
    ·omega
    ·omega
    ·omega
    ·intro h
     simp [show (i:Int)+1=(b.length:Int) by omega] at ht2
    ·have hc:b[i]≠10:=fun h=>by simp [h] at ht2
     rw [←F75 b from' i hf hlt,←hp,J92 hlt,X3,if_neg hc]
    ·omega
  ·refine k6 (k2 (A2 (A3 Z Z (A7 Z Z (A4 ?_)))));refine k1 (k10 (B4 (F3 Z Z Z) ?_))
   have hi':i=b.length:=by simp at ht;omega
   subst hi'
   have:=he rfl
   subst this
   rw [Nat.sub_self,List.take_zero,J94 (Nat.le_refl _)] at hp
   rw [←hp];simp [H0]
theorem E60 (b:Str) (hb:b.length≤1099511627776):FnOk Tryz.prog 99 [L6 b] (fun rs=>rs=[E5 (W7 b)]):=by
 refine FnOk.intro Tryz.func99 (by decide) Z Z Z Z ?_
 refine k2 (A2 (A7 Z Z (A4 ?_)));refine k1 (k2 (k2 (A2 (A3 Z Z (A6 (K6 Z) Z (A6 (K9 Z Z) Z (A3 Z Z (B0 Z Z Z Z (fun hg=>by rw [hg];exact B5 Z Z) ?_))))))));refine B0 Z Z Z Z (fun hg=>by have hq:=hg;(try simp at hq);rw [hg];exact E3 (B86 b (by omega)) Z Z) ?_;refine B0 Z Z Z Z (fun hg=>by rw [hg];exact O8 Z (.pure _ _ _ _)) ?_;refine B0 Z Z Z Z (fun hg=>by rw [hg];exact K9 Z Z) ?_;refine F2 Z Z ?_;refine A4 ?_;refine k1 ?_;refine B3 rfl (fun ht=>?_) (fun ht=>?_)
 ·have h:=A0 (or_pick.symm.trans ht)
  refine k2 (A2 (A7 Z Z (A4 ?_)));refine k1 (k10 (k11 ?_))
  exact B4 (F3 rfl rfl rfl) (by rw [W7,if_pos (by omega)])
 ·have h:=A1 (or_pick.symm.trans ht)
  refine k5 (k1 (k2 (A2 (A7 Z Z (A4 ?_)))));refine k1 (k10 ?_)
  exact B4 (F3 rfl rfl rfl) (by rw [W7,if_neg (by omega)])
theorem I15 (l:List Str) (hl:∀s∈l,s.length≤1099511627776):FnOk Tryz.prog 72 [Z9 l] (fun rs=>rs=[I8 (T8 l)]):=by
 refine FnOk.intro Tryz.func72 (by decide) Z Z Z Z ?_
 refine A49 (t:=0) rfl (.pure _ _ _ _) fun hlen=>?_
 refine k2 (A2 (A7 Z Z (A4 ?_)));refine k1 (k2 (k2 (A2 (A7 Z Z (A4 ?_)))));refine k1 (k3 (D1 (X:=Nat) (fun i=>([(0,C4 Str 1 I0 l),(3,B8 i)],[])) (fun i=>i≤l.length∧T8 l=T8 (l.drop i)) (fun i=>l.length - i) 0 (by simp) (J58 ⟨le1 rfl,le1 rfl,trivial⟩ trivial) ?_))
 rintro i ⟨hi,hp⟩
 dsimp only at hi hp ⊢
 refine k2 (k2 (A2 (A3 Z Z (A3 Z Z (D9 Z Z (E1 Z Z Z (A4 ?_)))))));refine k1 ?_;refine B3 rfl (fun ht=>?_) (fun ht=>?_)
 ·have hlt:i < l.length:=by simpa using ht
  have hv:l[i]?=some l[i]:=by simp [hlt]
  have hs:=hl l[i] (J96 hlt)
  rw [J92 hlt] at hp
  refine k5 (k1 (k2 (k3 (k2 (k2 (A2 (A7 Z Z (A4 ?_))))))));refine k1 (k3 (D1 (X:=Nat) (fun k=>([(0,C4 Str 1 I0 l),(3,B8 i),(4,B8 k)],[])) (fun k=>k≤l[i].length∧I6 l[i]=((l[i].dropLast.drop k).all (·≠10)&&l[i] != [])) (fun k=>l[i].length - k) 0 (by simp [I6]) (J58 ⟨le1 rfl,le1 rfl,le1 rfl,trivial⟩ trivial) ?_))
  intro k hk
  dsimp only at hk ⊢
  refine k2 (k2 (A2 (A3 Z Z (C7 Z Z Z (A3 Z Z (A3 Z Z (A6 (A8 Z (.pure _ _ _ _) Z (by omega) hv) Z (A6 (B1 Z Z) Z (A6 (K6 Z) Z (E1 Z Z Z (A4 ?_)))))))))));refine k1 ?_;refine B3 rfl (fun ht=>?_) (fun ht=>?_)
  ·have hk2:k+1 < l[i].length:=by have:=A0 ht;omega
   have hvk:l[i][k]?=some (l[i][k]'(by omega)):=J88 (by omega)
   have hd:l[i].dropLast.drop k=l[i][k]'(by omega)::l[i].dropLast.drop (k+1):=by
    rw [J92 (by simp;omega)];simp
   rw [hd,List.all_cons] at hk
   refine k5 (k1 (k2 (k3 (k2 (A2 (A3 Z Z (A3 Z Z (A6 (A8 Z (.pure _ _ _ _) Z (by omega) hv) Z (A6 (B1 Z Z) Z (A3 Z Z (A6 (u0 Z Z (by omega) hvk) Z (A6 (J7 Z Z) Z (A4 ?_)))))))))))));refine k1 ?_;refine B3 rfl (fun ht=>?_) (fun ht=>?_)
   ·have h10:=(F74 _).1 (A0 ht)
    refine k2 (A2 (A7 Z Z (A4 ?_)));refine k1 (k10 (k12 (k11 (k11 (k12 (k11 (k12 (k11 (k11 (k12 (k11 ?_)))))))))))
    exact B4 (F3 rfl rfl rfl) (by rw [hp,T8,hk.2];simp [h10])
   ·have h10:l[i][k]'(by omega)≠10:=fun h=>A1 ht ((F74 _).2 h)
    refine k5 (k4 (k1 (A2 (A3 Z Z (C7 Z Z Z (A7 Z Z (A4 ?_)))))));refine k1 ?_
    exact ⟨k+1,⟨by omega,by rw [hk.2];simp [h10]⟩,by omega,J58 ⟨le1 rfl,le1 rfl,le1 rfl,trivial⟩ trivial⟩
  ·have hk2:l[i].length≤k+1:=by have:=A1 ht;omega
   have hlo:I6 l[i]=(l[i] != []):=by rw [hk.2,J94 (by simp;omega)];rfl
   refine k6 (k2 (A2 (A3 Z Z (A3 Z Z (A6 (A8 Z (.pure _ _ _ _) Z (by omega) hv) Z (A6 (B1 Z Z) Z (A6 (B20 Z Z) Z (A3 Z Z (B0 Z Z Z Z (fun hg=>by rw [hg];exact B5 Z Z) ?_)))))))));refine B0 Z Z Z Z (fun hg=>by have hq:=hg;(try simp at hq);rw [hg];exact L4 Z Z (by omega)) ?_;refine B0 Z Z Z Z (fun hg=>by rw [hg];exact B5 Z Z) ?_;refine B0 Z Z Z Z (fun hg=>by rw [hg];exact O8 Z (.pure _ _ _ _)) ?_;refine B0 Z Z Z Z (fun hg=>by rw [hg];exact Y4 Z Z) ?_;refine B0 Z Z Z Z (fun hg=>by rw [hg];exact B5 Z Z) ?_;refine G2 Z Z Z (.gd (.val _)) Z (fun hg=>by obtain ⟨hg1,hg2⟩:=L2 hg;(try rw [hg1]);(try rw [hg2]);exact B5 Z Z) ?_;refine G2 Z Z Z (.gd (.val _)) Z (fun hg=>by obtain ⟨hg1,hg2⟩:=L2 hg;(try rw [hg1]);(try rw [hg2]);exact B5 Z Z) ?_;refine G2 Z Z Z (.gd (.val _)) Z (fun hg=>by have hq:=hg;(try simp at hq);obtain ⟨hg1,hg2⟩:=L2 hg;(try rw [hg1]);(try rw [hg2]);exact A8 Z (.pure _ _ _ _) Z (by omega) hv) ?_;refine G2 Z Z Z (.gd (.val _)) Z (fun hg=>by obtain ⟨hg1,hg2⟩:=L2 hg;(try rw [hg1]);(try rw [hg2]);exact B1 Z Z) ?_;refine G2 Z Z Z (.gd (.val _)) Z (fun hg=>by have hq:=hg;(try simp at hq);obtain ⟨hg1,hg2⟩:=L2 hg;(try rw [hg1]);(try rw [hg2]);exact E3 (D01 l[i] hs) Z Z) ?_;refine G2 Z Z Z (.gd (.val _)) Z (fun hg=>by obtain ⟨hg1,hg2⟩:=L2 hg;(try rw [hg1]);(try rw [hg2]);exact Y0 Z) ?_;refine B0 Z Z Z Z (fun hg=>by rw [hg];exact G7 Z (fun h=>by first | rfl | (rw [h];rfl)) (fun h=>by first | rfl | (rw [h];rfl))) ?_;refine F2 Z Z ?_;refine A4 ?_;refine k1 ?_
   have he:(l.drop (i+1)).isEmpty=decide (l.length≤i+1):=by
    rw [Bool.eq_iff_iff];simp
   rw [T8,hlo,he] at hp
   refine B3 rfl (fun ht=>?_) (fun ht=>?_)
   ·refine k2 (A2 (A7 Z Z (A4 ?_)));refine k1 (k10 (k12 (k11 (k11 (k12 (k11 (B4 (F3 Z Z Z) ?_)))))))
    have:T8 l=false:=by
     rw [hp]
     by_cases h:l[i]=[]
     ·simp [h]
     ·rw [if_neg (by simpa using h)] at ht
      by_cases h2:(i:Int)+1 < l.length
      ·rw [if_pos (by simpa using h2)] at ht
       have h3:¬(l.length≤i+1):=by omega
       simp only [Bool.not_eq_true'] at ht
       simp [ht,h3]
      ·rw [if_neg (by simpa using h2)] at ht;cases ht
    rw [this]
   ·refine k5 (k4 (k1 (A2 (A3 Z Z (C7 Z Z Z (A7 Z Z (A4 ?_)))))));refine k1 ?_;refine ⟨i+1,⟨by omega,?_⟩,by omega,J58 ⟨le1 rfl,le1 rfl,trivial⟩ trivial⟩
    rw [hp]
    by_cases h:l[i]=[]
    ·rw [if_pos (by simpa using h)] at ht;cases ht
    ·rw [if_neg (by simpa using h)] at ht
     by_cases h2:(i:Int)+1 < l.length
     ·rw [if_pos (by simpa using h2)] at ht
      simp only [Bool.not_eq_false'] at ht
      simp [ht,h]
     ·have h3:l.length≤i+1:=by omega
      simp [h,h3]
 ·have:i=l.length:=by have:=A1 ht;omega
  subst this
  refine k6 (k2 (A2 (A7 Z Z (A4 ?_))));refine k1 (k10 ?_)
  exact B4 (F3 rfl rfl rfl) (by rw [hp];simp [T8])
theorem H50 (l:List Str) (hl:l.flatten.length≤536870912):FnOk Tryz.prog 129 [Z9 l] (fun rs=>rs=[L6 l.flatten]):=by
 refine FnOk.intro Tryz.func129 (by decide) Z Z Z Z ?_
 refine A49 (t:=0) rfl (.pure _ _ _ _) fun hlen=>?_
 refine k2 (A2 (A7 Z Z (A4 ?_)));refine k1 (k2 (A2 (C0 (R7 3 _ u8C Z) Z (A4 ?_))));refine k1 (k2 (k2 (A2 (A7 Z Z (A4 ?_)))));refine k1 (k3 (D1 (X:=Nat) (fun i=>([(0,C4 Str 1 I0 l),(3,.s (.one (.buf 3 UInt8 1 u8C (l.take i).flatten))),(4,B8 i)],[(3,.spare (l.take i).flatten.length 1 5)])) (fun i=>i≤l.length) (fun i=>l.length - i) 0 (by simp) (J58 ⟨le1 rfl,le1 rfl,le1 rfl,trivial⟩ ⟨rfl,trivial⟩) ?_))
 intro i hi
 dsimp only at hi ⊢
 refine k2 (k2 (A2 (A3 Z Z (A3 Z Z (D9 Z Z (E1 Z Z Z (A4 ?_)))))));refine k1 ?_;refine B3 rfl (fun ht=>?_) (fun ht=>?_)
 ·have hlt:i < l.length:=by simpa using ht
  have hv:l[i]?=some l[i]:=by simp [hlt]
  have hf:=S9 l i hlt
  have hle:=T7 l (i+1)
  rw [hf,J86] at hle
  refine k5 (k1 (k2 (k3 (A2 (A3 Z Z (A3 Z Z (A3 Z Z (A6 (A8 Z (.pure _ _ _ _) Z (by omega) hv) Z (A6 (B1 Z Z) Z (C0 (E28 TyStr.out Z Z Z (by omega) Z) Z (A7 Z Z (A4 ?_))))))))))));refine k4 (k1 (A2 (A3 Z Z (C7 Z Z Z (A7 Z Z (A4 ?_))))));refine k1 ?_;refine ⟨i+1,by omega,by omega,?_⟩
  dsimp only
  rw [hf]
  exact J58 ⟨le1 rfl,le1 rfl,le1 rfl,trivial⟩ ⟨rfl,trivial⟩
 ·have:i=l.length:=by simp at ht;omega
  subst this
  refine k6 (k2 (A2 (A3 Z Z (A6 (w7 TyStr.out Z (.buf _ _ _ _ _)) Z (A7 Z Z (A4 ?_))))));refine k1 (k10 ?_)
  exact B4 (F3 rfl rfl rfl) (by simp)
theorem join_ok (l:List Str) (hl:l.flatten.length≤536870912):FnOk Tryz.prog 73 [Z9 l] (fun rs=>rs=[L6 (L9 l).1,E5 (L9 l).2]):=by
 have hl':∀s∈l,s.length≤1099511627776:=fun s hs=>by
  have:s.length≤l.flatten.length:=(List.sublist_flatten_of_mem hs).length_le
  omega
 refine FnOk.intro Tryz.func73 (by decide) Z Z Z Z ?_
 refine A49 (t:=0) rfl (.pure _ _ _ _) fun hlen=>?_
 refine k2 (A2 (A7 Z Z (A7 Z Z (A4 ?_))));refine k1 (k2 (k2 (A2 (A3 Z Z (C2 (I15 l hl') Z Z Z ?_)))));rintro _ rfl;refine L7 Z Z (A4 ?_);refine k1 ?_;refine B3 rfl (fun ht=>?_) (fun ht=>?_)
 ·have h1:T8 l=false:=by simpa using ht
  refine k2 (A2 (A7 Z Z (A7 Z Z (A4 ?_))));refine k1 (k10 (k11 ?_))
  exact B4 (U7 rfl rfl rfl rfl rfl) (by simp [L9,h1])
 ·have h1:T8 l=true:=by simpa using ht
  refine k5 (k1 (k2 (A2 (A3 Z Z (C2 (H50 l hl) Z Z Z ?_)))));rintro _ rfl;refine A7 Z Z (A4 ?_);refine k1 (k2 (k2 (A2 (A3 Z Z (A6 (K6 Z) Z (A6 (K9 Z Z) Z (A3 Z Z (B0 Z Z Z Z (fun hg=>by rw [hg];exact B5 Z Z) ?_))))))));refine B0 Z Z Z Z (fun hg=>by rw [hg];exact O8 Z (.pure _ _ _ _)) ?_;refine B0 Z Z Z Z (fun hg=>by rw [hg];exact K9 Z Z) ?_;refine F2 Z Z ?_;refine A4 ?_;refine k1 ?_;refine B3 rfl (fun ht=>?_) (fun ht=>?_)
  ·have h:=A0 (or_pick.symm.trans ht)
   refine k2 (A2 (A7 Z Z (A7 Z Z (A4 ?_))));refine k1 (k10 (k11 ?_))
   exact B4 (U7 rfl rfl rfl rfl rfl) (by simp only [L9,h1];rw [if_neg (by simp),if_pos (by omega)])
  ·have h:=A1 (or_pick.symm.trans ht)
   refine k5 (k1 (k2 (A2 (A3 Z Z (A7 Z Z (A7 Z Z (A4 ?_)))))));refine k1 (k10 ?_)
   exact B4 (U7 rfl rfl rfl rfl rfl) (by simp only [L9,h1];rw [if_neg (by simp),if_neg (by omega)])
theorem I16 (s:Str) (hs:s.length≤1099511627776):FnOk Tryz.prog 142 [L6 s] (fun rs=>rs=[I8 (I6 s)]):=by
 refine FnOk.intro Tryz.func142 (by decide) Z Z Z Z ?_
 refine k2 (A2 (A7 Z Z (A4 ?_)));refine k1 (k2 (k2 (A2 (A7 Z Z (A4 ?_)))));refine k1 (k3 (D1 (X:=Nat) (fun k=>([(0,U3 s),(3,B8 k)],[])) (fun k=>k≤s.length∧I6 s=((s.dropLast.drop k).all (·≠10)&&s != [])) (fun k=>s.length - k) 0 (by simp [I6]) (J58 ⟨le1 rfl,le1 rfl,trivial⟩ trivial) ?_))
 intro k hk
 dsimp only at hk ⊢
 refine k2 (k2 (A2 (A3 Z Z (C7 Z Z Z (A3 Z Z (A6 (K6 Z) Z (E1 Z Z Z (A4 ?_))))))));refine k1 ?_;refine B3 rfl (fun ht=>?_) (fun ht=>?_)
 ·have hk2:k+1 < s.length:=by have:=A0 ht;omega
  have hvk:s[k]?=some (s[k]'(by omega)):=J88 (by omega)
  have hd:s.dropLast.drop k=s[k]'(by omega)::s.dropLast.drop (k+1):=by
   rw [J92 (by simp;omega)];simp
  rw [hd,List.all_cons] at hk
  refine k5 (k1 (k2 (k3 (k2 (A2 (A3 Z Z (A3 Z Z (A6 (u0 Z Z (by omega) hvk) Z (A6 (J7 Z Z) Z (A4 ?_))))))))));refine k1 ?_;refine B3 rfl (fun ht=>?_) (fun ht=>?_)
  ·have h10:=(F74 _).1 (A0 ht)
   refine k2 (A2 (A7 Z Z (A4 ?_)));refine k1 (k10 (k12 (k11 (k11 (k12 (k11 ?_))))))
   exact B4 (F3 rfl rfl rfl) (by rw [hk.2];simp [h10])
  ·have h10:s[k]'(by omega)≠10:=fun h=>A1 ht ((F74 _).2 h)
   refine k5 (k4 (k1 (A2 (A3 Z Z (C7 Z Z Z (A7 Z Z (A4 ?_)))))));refine k1 ?_
   exact ⟨k+1,⟨by omega,by rw [hk.2];simp [h10]⟩,by omega,J58 ⟨le1 rfl,le1 rfl,trivial⟩ trivial⟩
 ·have hk2:s.length≤k+1:=by have:=A1 ht;omega
  have hlo:I6 s=(s != []):=by rw [hk.2,J94 (by simp;omega)];rfl
  refine k6 (k2 (A2 (A3 Z Z (A6 (A80 Z Z) Z (A7 Z Z (A4 ?_))))));refine k1 (k10 ?_)
  exact B4 (F3 rfl rfl rfl) (by rw [hlo];by_cases h:s=[]<;>simp [h])
theorem G68 (l:List Str) (s:Str):FnOk Tryz.prog 167 [Z9 l,L6 s] (fun rs=>rs=[E5 (J6 l s 0)]):=by
 refine FnOk.intro Tryz.func167 (by decide) Z Z Z Z ?_
 refine A49 (t:=0) rfl (.pure _ _ _ _) fun hlen=>?_
 refine k2 (A2 (A7 Z Z (A4 ?_)));refine k1 (k2 (k2 (A2 (A7 Z Z (A4 ?_)))));refine k1 (k3 (D1 (X:=Nat) (fun i=>([(0,C4 Str 1 I0 l),(1,U3 s),(5,B8 i)],[])) (fun i=>i≤l.length∧J6 l s 0=J6 (l.drop i) s i) (fun i=>l.length - i) 0 (by simp) (J58 ⟨le1 rfl,le1 rfl,le1 rfl,trivial⟩ trivial) ?_))
 rintro i ⟨hi,hp⟩
 dsimp only at hi hp ⊢
 refine k2 (k2 (A2 (A3 Z Z (A3 Z Z (D9 Z Z (E1 Z Z Z (A4 ?_)))))));refine k1 ?_;refine B3 rfl (fun ht=>?_) (fun ht=>?_)
 ·have hlt:i < l.length:=by simpa using ht
  have hv:l[i]?=some l[i]:=by simp [hlt]
  rw [G20 l s i hlt] at hp
  refine k5 (k1 (k2 (k3 (k2 (A2 (A3 Z Z (A3 Z Z (A6 (A8 Z (.pure _ _ _ _) Z (by omega) hv) Z (A6 (B1 Z Z) Z (A3 Z Z (A6 (B20 Z Z) Z (A4 ?_))))))))))));refine k1 ?_;refine B3 rfl (fun ht=>?_) (fun ht=>?_)
  ·rw [if_pos (by simpa using ht)] at hp
   refine k2 (A2 (A3 Z Z (A7 Z Z (A4 ?_))));refine k1 (k10 (k12 (k11 (k11 (k12 (k11 ?_))))))
   exact B4 (F3 rfl rfl rfl) (by rw [hp])
  ·rw [if_neg (by simpa using ht)] at hp
   refine k5 (k4 (k1 (A2 (A3 Z Z (C7 Z Z Z (A7 Z Z (A4 ?_)))))));refine k1 ?_
   exact ⟨i+1,⟨by omega,by simpa using hp⟩,by omega,J58 ⟨le1 rfl,le1 rfl,le1 rfl,trivial⟩ trivial⟩
 ·have:i=l.length:=by simp at ht;omega
  subst this
  refine k6 (k2 (A2 (A7 Z Z (A4 ?_))));refine k1 (k10 ?_)
  exact B4 (F3 rfl rfl rfl) (by rw [hp];simp [J6])
theorem G69 (fs:List (List Str)) (hfs:fs.flatten.length≤536870912):FnOk Tryz.prog 100 [pStrss fs] (fun rs=>rs=[Z9 (D2 fs)]):=by
 refine FnOk.intro Tryz.func100 (by decide) Z Z Z Z ?_
 refine A49 (t:=0) rfl (.pure _ _ _ _) fun hlen=>?_
 refine k2 (A2 (A7 Z Z (A4 ?_)));refine k1 (k2 (A2 (C0 (R7 3 _ I0 Z) Z (A4 ?_))));refine k1 (k2 (k2 (A2 (A7 Z Z (A4 ?_)))));refine k1 (k3 (D1 (X:=Nat) (fun f=>([(0,C4 (List Str) 1 strsC fs),(3,.s (.one (.buf 3 Str 1 I0 (D2 (fs.take f))))),(4,B8 f)],[(3,.spare (D2 (fs.take f)).length 1 9)])) (fun f=>f≤fs.length) (fun f=>fs.length - f) 0 (by simp) (J58 ⟨le1 rfl,le1 rfl,le1 rfl,trivial⟩ ⟨rfl,trivial⟩) ?_))
 intro f hf
 dsimp only at hf ⊢
 refine k2 (k2 (A2 (A3 Z Z (A3 Z Z (D9 Z Z (E1 Z Z Z (A4 ?_)))))));refine k1 ?_;refine B3 rfl (fun ht=>?_) (fun ht=>?_)
 ·have hlt:f < fs.length:=by have:=A0 ht;omega
  have hv:fs[f]?=some fs[f]:=by simp [hlt]
  have hfl:=S9 fs f hlt
  have hle:=T7 fs (f+1)
  rw [hfl,J86] at hle
  have hn0:=B92 (fs.take f)
  refine k5 (k1 (k2 (k3 (k2 (A2 (A7 Z Z (A4 ?_)))))));refine k1 (k3 (D1 (X:=Nat) (fun i=>([(0,C4 (List Str) 1 strsC fs),(3,.s (.one (.buf 3 Str 1 I0 ((fs[f].take i).foldl I4 (D2 (fs.take f)))))),(4,B8 f),(5,B8 i)],[(3,.spare ((fs[f].take i).foldl I4 (D2 (fs.take f))).length 1 9)])) (fun i=>i≤fs[f].length) (fun i=>fs[f].length - i) 0 (by simp) (J58 ⟨le1 rfl,le1 rfl,le1 rfl,le1 rfl,trivial⟩ ⟨rfl,trivial⟩) ?_))
  intro i hi
  dsimp only at hi ⊢
  have hni:=A71 (fs[f].take i) (D2 (fs.take f))
  rw [K03] at hni
  refine k2 (k2 (A2 (A3 Z Z (A3 Z Z (A3 Z Z (A6 (A8 Z (.pure _ _ _ _) Z (by omega) hv) Z (A6 (B1 Z Z) Z (D9 Z Z (E1 Z Z Z (A4 ?_))))))))));refine k1 ?_;refine B3 rfl (fun ht=>?_) (fun ht=>?_)
  ·have hlt2:i < fs[f].length:=by have:=A0 ht;omega
   have hvi:fs[f][i]?=some fs[f][i]:=by simp [hlt2]
   have hst:(fs[f].take (i+1)).foldl I4 (D2 (fs.take f))=I4 ((fs[f].take i).foldl I4 (D2 (fs.take f))) fs[f][i]:=by
    rw [List.take_add_one,hvi,Option.toList_some,K26];rfl
   refine k5 (k1 (k2 (k3 (k2 (A2 (A3 Z Z (A3 Z Z (A3 Z Z (A6 (A8 Z (.pure _ _ _ _) Z (by omega) hv) Z (A6 (B1 Z Z) Z (A3 Z Z (A6 (A8 Z (.pure _ _ _ _) Z (by omega) hvi) Z (A6 (B1 Z Z) Z (C2 (G68 _ _) Z Z Z ?_))))))))))))));rintro _ rfl;refine E1 Z Z Z (A4 ?_);refine k1 ?_
   have hpl:=G98 ((fs[f].take i).foldl I4 (D2 (fs.take f))) fs[f][i] 0 (Int.le_refl _)
   refine B3 rfl (fun ht=>?_) (fun ht=>?_)
   ·have hnot:=hpl.1 (A0 ht)
    skip
    refine A2 (A3 Z Z (A3 Z Z (A3 Z Z (A6 (A8 Z (.pure _ _ _ _) Z (by omega) hv) Z (A6 (B1 Z Z) Z (A3 Z Z (A6 (A8 Z (.pure _ _ _ _) Z (by omega) hvi) Z (A6 (B1 Z Z) Z (A6 (C9 (c:=I0) (ys:=[_]) (D8 Z Z Z Z F1) Z Z Z) Z (C0 (F8 Z Z Z (.pure _ _ _ _) (by simp;omega) Z) Z (A7 Z Z (A4 ?_))))))))))));refine k4 (k1 (A2 (A3 Z Z (C7 Z Z Z (A7 Z Z (A4 ?_))))));refine k1 ?_;refine ⟨i+1,by omega,by omega,?_⟩
    rw [hst,I4,if_neg hnot]
    exact J58 ⟨le1 rfl,le1 rfl,le1 rfl,le1 rfl,trivial⟩ ⟨rfl,trivial⟩
   ·have hin:fs[f][i]∈(fs[f].take i).foldl I4 (D2 (fs.take f)):=Classical.byContradiction fun h=>A1 ht (hpl.2 h)
    refine k5 (k4 (k1 (A2 (A3 Z Z (C7 Z Z Z (A7 Z Z (A4 ?_)))))));refine k1 ?_;refine ⟨i+1,by omega,by omega,?_⟩
    rw [hst,I4,if_pos hin]
    exact J58 ⟨le1 rfl,le1 rfl,le1 rfl,le1 rfl,trivial⟩ ⟨rfl,trivial⟩
  ·have hi':i=fs[f].length:=by have:=A1 ht;omega
   subst hi'
   refine k6 (k7 (k7 (k8 Z (k4 (k1 ?_)))))
   have:D2 (fs.take (f+1))=(fs[f].take fs[f].length).foldl I4 (D2 (fs.take f)):=by
    rw [D2,hfl,K26,J98];rfl
   refine A2 (A3 Z Z (C7 Z Z Z (A7 Z Z (A4 ?_))));refine k1 ?_;refine ⟨f+1,by omega,by omega,?_⟩
   rw [this]
   exact J58 ⟨le1 rfl,le1 rfl,le1 rfl,trivial⟩ ⟨rfl,trivial⟩
 ·have:f=fs.length:=by have:=A1 ht;omega
  subst this
  refine k6 (k2 (A2 (A3 Z Z (A7 Z Z (A4 ?_)))));refine k1 (k10 ?_)
  exact B4 (F3 rfl rfl rfl) (by simp)
theorem made_ok (p:List Span) (m n:Int) (hp:p.length≤536870912) (hb:∀s∈p,-1099511627776≤s.From∧s.From≤1099511627776 ∧ -1099511627776≤s.To∧s.To≤1099511627776)
  (hm:-1099511627776≤m∧m≤1099511627776 ∧ -1099511627776≤n∧n≤1099511627776) :
  FnOk Tryz.prog 169 [pSpans p,E5 m,E5 n] (fun rs=>rs=[pChanges (A10 p m n)]):=by
 refine FnOk.intro Tryz.func169 (by decide) Z Z Z Z ?_
 refine k2 (A2 (A7 Z Z (A4 ?_)));refine k1 (k2 (A2 (C0 (R7 7 _ changeC Z) Z (A4 ?_))));refine k1 (k2 (A2 (A7 Z Z (A7 Z Z (A4 ?_)))));refine k1 (k2 (k2 (A2 (A7 Z Z (A4 ?_)))));refine k1 (k3 ?_);refine D1 (X:=Nat × Int × Int × List Change) (fun x=>([(0,C4 Span 2 spanC p),(1,B8 m),(2,B8 n),(7,.s (.one (.buf 7 Change 4 changeC x.2.2.2))),(8,B8 x.2.1),(9,B8 x.2.2.1),(10,B8 x.1)],[(7,.spare x.2.2.2.length 4 146)]))
  (fun x=>x.1≤p.length+1∧x.2.2.2.length≤x.1∧(-1099511627776≤x.2.1∧x.2.1≤1099511627777 ∧ -1099511627776≤x.2.2.1∧x.2.2.1≤1099511627777)∧(x.1≤p.length→x.2.2.2++R4 x.2.1 x.2.2.1 (p.drop x.1) m n=A10 p m n)∧(x.1=p.length+1→x.2.2.2=A10 p m n))
  (fun x=>p.length+1 - x.1) (0,0,0,[]) (by simp [A10]) (J58 ⟨le1 rfl,le1 rfl,le1 rfl,le1 rfl,le1 rfl,le1 rfl,le1 rfl,trivial⟩ ⟨rfl,trivial⟩) ?_
 rintro ⟨k,i,j,out⟩ ⟨hk,ho,hij,h1,h2⟩
 dsimp only at hk ho hij h1 h2 ⊢
 refine k2 (k2 (A2 (A3 Z Z (A3 Z Z (D9 Z Z (A6 (t8 Z Z) Z (A4 ?_)))))));refine k1 ?_;refine B3 rfl (fun ht=>?_) (fun ht=>?_)
 ·have hk':k≤p.length:=by have:=A0 ht;omega
  have hpp:=h1 hk'
  refine k5 (k1 (k2 (k3 (k2 (A2 (A3 Z Z (A3 Z Z (A6 (E6 Z) Z (C0 (F4 11 Z) Z (E2 (B6 TySz.out Z Z Z Z Z Z) (A4 ?_)))))))))));refine J3 ?_
  obtain ⟨x,hx⟩:∃x,x=p.getD k ⟨m,n⟩:=⟨_,rfl⟩
  have hxb:-1099511627776≤x.From∧x.From≤1099511627776 ∧ -1099511627776≤x.To∧x.To≤1099511627776:=by
   rw [hx,J91]
   by_cases h:k < p.length
   ·rw [J88 h];exact hb _ (J96 h)
   ·rw [K20 (by omega)];exact hm
  have hmade:R4 i j (p.drop k) m n=(if x.From > i∨x.To > j then [⟨i,x.From - i,j,x.To - j⟩] else [])++(if k < p.length then R4 (x.From+1) (x.To+1) (p.drop (k+1)) m n else []):=by
   by_cases h:k < p.length
   ·rw [J92 h,if_pos h,hx,J91,J88 h];rfl
   ·rw [J94 (by omega),if_neg h,hx,J91,K20 (by omega)];simp [R4]
  refine n9 [(0,C4 Span 2 spanC p),(1,B8 m),(2,B8 n),(7,.s (.one (.buf 7 Change 4 changeC out))),(8,B8 i),(9,B8 j),(10,B8 k),(11,.s (.one (.ref 11 0)))] [(11,.box [.p (.v (.int .i64 x.From)),.p (.v (.int .i64 x.To))]),(7,.spare out.length 4 146)] ?_ ?_
  ·refine k2 (A2 (A3 Z Z (A3 Z Z (D9 Z Z (E1 Z Z Z (A4 ?_))))));refine k1 ?_;refine B3 rfl (fun ht=>?_) (fun ht=>?_)
   ·have hlt:k < p.length:=by have:=A0 ht;omega
    have hv:p[k]?=some p[k]:=by simp [hlt]
    have:x=p[k]:=by rw [hx,J91,hv];rfl
    subst this
    skip
    refine A2 (A3 Z Z (A3 Z Z (A6 (A8 Z (.pure _ _ _ _) Z (by omega) hv) Z (A6 (C8 Z Z) Z (E2 (B6 TySz.out Z Z Z Z Z Z) (A4 ?_))))));refine k1 ?_
    exact J58 ⟨le1 rfl,le1 rfl,le1 rfl,le1 rfl,le1 rfl,le1 rfl,le1 rfl,le1 rfl,trivial⟩ ⟨rfl,rfl,trivial⟩
   ·have hlt:¬k < p.length:=by have:=A1 ht;omega
    have:x=⟨m,n⟩:=by rw [hx,J91,K20 (by omega)];rfl
    subst this
    refine k5 (k1 ?_)
    exact J58 ⟨le1 rfl,le1 rfl,le1 rfl,le1 rfl,le1 rfl,le1 rfl,le1 rfl,le1 rfl,trivial⟩ ⟨rfl,rfl,trivial⟩
  ·obtain ⟨out',hout'⟩:∃o,o=out++(if x.From > i∨x.To > j then [⟨i,x.From - i,j,x.To - j⟩] else []):=⟨_,rfl⟩
   have hol:out'.length≤k+1:=by rw [hout',J86];split<;>simp<;>omega
   refine n9 [(0,C4 Span 2 spanC p),(1,B8 m),(2,B8 n),(7,.s (.one (.buf 7 Change 4 changeC out'))),(10,B8 k),(11,.s (.one (.ref 11 0)))] [(11,.box [.p (.v (.int .i64 x.From)),.p (.v (.int .i64 x.To))]),(7,.spare out'.length 4 146)] ?_ ?_
   ·refine k2 (A2 (A6 (A5 Z) Z (D3 Z Z Z Z (A3 Z Z (A6 (K9 Z Z) Z (A3 Z Z (B0 Z Z Z Z (fun hg=>by rw [hg];exact A5 Z) ?_)))))));refine B0 Z Z Z Z (fun hg=>by rw [hg];exact B2 Z Z Z) ?_;refine B0 Z Z Z Z (fun hg=>by rw [hg];exact B5 Z Z) ?_;refine B0 Z Z Z Z (fun hg=>by rw [hg];exact K9 Z Z) ?_;refine F2 Z Z ?_;refine A4 ?_;refine k1 ?_;refine B3 rfl (fun ht=>?_) (fun ht=>?_)
    ·have h:=A0 (or_pick.symm.trans ht)
     rw [if_pos h] at hout'
     subst hout'
     skip
     refine A2 (A3 Z Z (A3 Z Z (A6 (A5 Z) Z (D3 Z Z Z Z (A3 Z Z (A6 (I5 Z Z (by omega)) Z (A3 Z Z (A6 (A5 Z) Z (D3 Z Z Z Z (A3 Z Z (A6 (I5 Z Z (by omega)) Z (A6 (E6 Z) Z (A6 (C9 (c:=changeC) (ys:=[⟨_,_,_,_⟩]) (D8 Z Z Z Z F1) Z Z Z) Z (C0 (F8 Z Z Z (.pure _ _ _ _) (by simp;omega) Z) Z (A7 Z Z (A4 ?_))))))))))))))));refine k1 ?_
     exact J58 ⟨le1 rfl,le1 rfl,le1 rfl,le1 rfl,le1 rfl,le1 rfl,trivial⟩ ⟨rfl,rfl,trivial⟩
    ·have h:=A1 (or_pick.symm.trans ht)
     rw [if_neg h,K06] at hout'
     subst hout'
     refine k5 (k1 ?_)
     exact J58 ⟨le1 rfl,le1 rfl,le1 rfl,le1 rfl,le1 rfl,le1 rfl,trivial⟩ ⟨rfl,rfl,trivial⟩
   ·skip
    refine C5 (by kernel_rfl) (by kernel_rfl) (A9 (A5 Z) Z Z (A9 (B2 Z Z Z) Z Z (A9 (L4 Z Z (by omega)) Z Z (A9 (A5 Z) Z Z (A9 (B2 Z Z Z) Z Z (A9 (L4 Z Z (by omega)) Z Z (A9 (E0 Z Z) Z Z (A9 (E0 Z Z) Z Z (G5 ?_)))))))));refine k4 (k1 (A2 (A3 Z Z (C7 Z Z Z (A7 Z Z (A4 ?_))))));refine k1 ?_;refine ⟨(k+1,x.From+1,x.To+1,out'),⟨by dsimp only;omega,hol,by dsimp only;omega,?_,?_⟩,by dsimp only;omega,J58 ⟨le1 rfl,le1 rfl,le1 rfl,le1 rfl,le1 rfl,le1 rfl,le1 rfl,trivial⟩ ⟨rfl,trivial⟩⟩
    ·intro hk2
     dsimp only at hk2 ⊢
     rw [←hpp,hmade,if_pos (show k < p.length by omega),hout'];simp
    ·intro hk2
     dsimp only at hk2 ⊢
     rw [←hpp,hmade,if_neg (show ¬k < p.length by omega),hout'];simp
 ·have hk':k=p.length+1:=by have:=A1 ht;omega
  refine k6 (k2 (A2 (A3 Z Z (A7 Z Z (A4 ?_)))));refine k1 (k10 ?_)
  exact B4 (F3 rfl rfl rfl) (by rw [h2 hk'])
theorem long_ok (a b:List Int):FnOk Tryz.prog 249 [M1 a,M1 b] (fun rs=>rs=[I8 (decide (4096 < a.length∨4096 < b.length))]):=by
 refine FnOk.intro Tryz.func249 (by decide) Z Z Z Z ?_
 refine k2 (A2 (A7 Z Z (A4 ?_)));refine k1 (k2 (A2 (A3 Z Z (D9 Z Z (A6 (K9 Z Z) Z (A3 Z Z (B0 Z Z Z Z (fun hg=>by rw [hg];exact B5 Z Z) ?_)))))));refine B0 Z Z Z Z (fun hg=>by rw [hg];exact O8 Z (.pure _ _ _ _)) ?_;refine B0 Z Z Z Z (fun hg=>by rw [hg];exact K9 Z Z) ?_;refine F2 Z Z ?_;refine A7 Z Z (A4 ?_);refine k1 (k10 (B4 (F3 Z Z Z) ?_))
 rw [or_pick]
 simp only [List.cons.injEq,and_true,PV.one.injEq,Cell.v.injEq,Value.bool.injEq,decide_eq_decide]
 omega
theorem F58 (l:List Merged) (hl:l.length≤536870912):FnOk Tryz.prog 214 [pMerged l] (fun rs=>rs=[M1 (N3 l)]):=by
 refine FnOk.intro Tryz.func214 (by decide) Z Z Z Z ?_
 refine k2 (A2 (A7 Z Z (A4 ?_)));refine k1 (k2 (A2 (C0 (R7 3 _ H4 Z) Z (A4 ?_))));refine k1 (k2 (k2 (A2 (A7 Z Z (A4 ?_)))));refine k1 (k3 (D1 (X:=Nat) (fun i=>([(0,C4 Merged 2 mergedC l),(3,.s (.one (.buf 3 Int 1 H4 (N3 (l.take i))))),(4,B8 i)],[(3,.spare (N3 (l.take i)).length 1 3)])) (fun i=>i≤l.length) (fun i=>l.length - i) 0 (by simp) (J58 ⟨le1 rfl,le1 rfl,le1 rfl,trivial⟩ ⟨rfl,trivial⟩) ?_))
 intro i hi
 dsimp only at hi ⊢
 refine k2 (k2 (A2 (A3 Z Z (A3 Z Z (D9 Z Z (E1 Z Z Z (A4 ?_)))))));refine k1 ?_
 have hlen:(N3 (l.take i)).length=i:=by simp [N3];omega
 refine B3 rfl (fun ht=>?_) (fun ht=>?_)
 ·have hlt:i < l.length:=by have:=A0 ht;omega
  have hv:l[i]?=some l[i]:=by simp [hlt]
  have hst:N3 (l.take (i+1))=N3 (l.take i)++[l[i].Line]:=by
   unfold N3;rw [List.take_add_one,hv,Option.toList_some,K00];rfl
  refine k5 (k1 (k2 (k3 (A2 (A3 Z Z (A3 Z Z (A3 Z Z (A6 (A8 Z (.pure _ _ _ _) Z (by omega) hv) Z (A6 (C1 Z) Z (A6 (B1 Z Z) Z (A6 (C9 (c:=H4) (ys:=[_]) (D8 Z Z Z Z F1) Z Z Z) Z (C0 (F8 Z Z Z (.pure _ _ _ _) (by simp;omega) Z) Z (A7 Z Z (A4 ?_))))))))))))));refine k4 (k1 (A2 (A3 Z Z (C7 Z Z Z (A7 Z Z (A4 ?_))))));refine k1 ?_;refine ⟨i+1,by omega,by omega,?_⟩
  rw [hst]
  exact J58 ⟨le1 rfl,le1 rfl,le1 rfl,trivial⟩ ⟨rfl,trivial⟩
 ·have:i=l.length:=by have:=A1 ht;omega
  subst this
  refine k6 (k2 (A2 (A3 Z Z (A7 Z Z (A4 ?_)))));refine k1 (k10 ?_)
  exact B4 (F3 rfl rfl rfl) (by simp)
theorem J22 (a b:List Int) (ha:a.length≤536870912) (hb:b.length≤536870912):FnOk Tryz.prog 168 [M1 a,M1 b] (fun rs=>rs=[pIntss (C20 a b)]):=by
 refine FnOk.intro Tryz.func168 (by decide) Z Z Z Z ?_
 refine k2 (A2 (A7 Z Z (A4 ?_)));refine k1 (k2 (A2 (A3 Z Z (D9 Z Z (C7 Z Z Z (C0 (p7 5 (List Int) intsC [] Z Z (by omega) (by omega) (fun _=>by first | exact ⟨⟨rfl,rfl⟩,trivial⟩ | exact ⟨Q5 _ _ _,trivial⟩) (by first | rfl | (simp [I1,J8,Ob.free,SV.free,S1.free,TC.free]<;>rfl))) Z ?_))))));refine A7 Z Z (A4 ?_);refine k1 (k2 (k2 (A2 (A3 Z Z (D9 Z Z (A7 Z Z (A4 ?_)))))));refine k1 (k3 ?_);refine D1 (X:=Nat) (fun i=>([(0,C4 Int 1 H4 a),(1,C4 Int 1 H4 b),(5,.s (.one (.mut 5))),(6,B8 ((i:Int) - 1))],[(5,.arr (List Int) 1 intsC (P4 a b i))])) (fun i=>i≤a.length+1) (fun i=>i) (a.length+1) (Nat.le_refl _) ?_ ?_
 ·refine J58 ⟨⟨_,rfl,.same _⟩,⟨_,rfl,.same _⟩,⟨_,rfl,.same _⟩,⟨_,rfl,.eq (by simp)⟩,trivial⟩ ⟨?_,trivial⟩
  rw [←F33];rfl
 intro i hi
 dsimp only at hi ⊢
 refine k2 (k2 (A2 (A3 Z Z (A6 (i8 Z Z) Z (A4 ?_)))));refine k1 ?_;refine B3 rfl (fun ht=>?_) (fun ht=>?_)
 ·obtain ⟨i,rfl⟩:∃r,i=r+1:=⟨i - 1,by have:=A0 ht;omega⟩
  refine O9 [(0,C4 Int 1 H4 a),(1,C4 Int 1 H4 b),(5,.s (.one (.mut 5))),(6,B8 i)] [(5,.arr (List Int) 1 intsC (P4 a b (i+1)))] (J58 ⟨le1 rfl,le1 rfl,le1 rfl,leE Z (by first | (simp;done) | (simp;omega)),trivial⟩ ⟨rfl,trivial⟩) ?_
  refine G4 (J74 5 Z) ?_
  have hTl:((P4 a b (i+1)).map fun x=>TC.p (intsC x 0)).length=a.length+1:=by simp [A41]
  have hRs:=A41 a b (i+1)
  refine k5 (k1 (k2 (k3 (k2 (A2 (A3 Z Z (A3 Z Z (A3 Z Z (D9 Z Z (C7 Z Z Z (C0 (p7 23 Int H4 0 Z Z (by omega) (by omega) (fun _=>by first | exact ⟨⟨rfl,rfl⟩,trivial⟩ | exact ⟨Q5 _ _ _,trivial⟩) (by first | rfl | (simp [I1,J8,Ob.free,SV.free,S1.free,TC.free]<;>rfl))) Z ?_)))))))))));refine A6 (H6 Z Z Z (by omega) (by omega)) Z (E2 (w9 TySz.out Z Z (by (rw [hTl];simp;omega)) Z Z) ?_);refine A4 ?_;refine k1 (k2 (A2 (A3 Z Z (D9 Z Z (A7 Z Z (A4 ?_))))));refine k1 (k3 ?_)
  obtain ⟨T,hT⟩:∃T,T=((P4 a b (i+1)).map fun x=>TC.p (intsC x 0)).set i (.mut 23):=⟨_,rfl⟩
  have hTi:T[i]?=some (.mut 23):=by rw [hT,K29 (by rw [hTl];omega)]
  have hTn:i+1≤a.length→T[i+1]?=some (.p (intsC (T0 a b (i+1) 0) 0)):=fun h=>by
   rw [hT,List.getElem?_set_ne (by omega),K15,B35 a b (i+1) (i+1) (Nat.le_refl _) h];rfl
  refine D1 (X:=Nat) (fun j=>([(0,C4 Int 1 H4 a),(1,C4 Int 1 H4 b),(5,.s (.one (.mut 5))),(6,B8 i),(7,B8 ((j:Int) - 1))],[(5,.tarr (P4 a b (i+1)).length 1 T),(23,.arr Int 1 H4 (T0 a b i j))])) (fun j=>j≤b.length+1) (fun j=>j) (b.length+1) (Nat.le_refl _) ?_ ?_
  ·refine J58 ⟨⟨_,rfl,.same _⟩,⟨_,rfl,.same _⟩,⟨_,rfl,.same _⟩,⟨_,rfl,.same _⟩,⟨_,rfl,.eq (by simp)⟩,trivial⟩ ⟨by rw [hT];rfl,?_,trivial⟩
   rw [←G21];rfl
  intro j hj
  dsimp only at hj ⊢
  refine k2 (k2 (A2 (A3 Z Z (A6 (i8 Z Z) Z (A4 ?_)))));refine k1 ?_;refine B3 rfl (fun ht=>?_) (fun ht=>?_)
  ·obtain ⟨j,rfl⟩:∃r,j=r+1:=⟨j - 1,by have:=A0 ht;omega⟩
   refine O9 [(0,C4 Int 1 H4 a),(1,C4 Int 1 H4 b),(5,.s (.one (.mut 5))),(6,B8 i),(7,B8 j)] [(5,.tarr (P4 a b (i+1)).length 1 T),(23,.arr Int 1 H4 (T0 a b i (j+1)))] (J58 ⟨le1 rfl,le1 rfl,le1 rfl,le1 rfl,leE Z (by first | (simp;done) | (simp;omega)),trivial⟩ ⟨rfl,rfl,trivial⟩) ?_
   have hRl:=E75 a b i (j+1)
   have hst:=G99 a b i j
   refine E24 ?_
   refine J3 ?_
   refine n9 [(0,C4 Int 1 H4 a),(1,C4 Int 1 H4 b),(5,.s (.one (.mut 5))),(6,B8 i),(7,B8 j)] [(5,.tarr (P4 a b (i+1)).length 1 T),(23,.arr Int 1 H4 (T0 a b i j))] ?_ ?_
   ·refine k3 (k3 (k2 (A2 (A3 Z Z (A3 Z Z (D9 Z Z (A6 (J7 Z Z) Z (A7 Z Z (A4 ?_)))))))));refine k1 ?_;refine B3 rfl (fun ht=>?_) (fun ht=>?_)
    ·have hia:i=a.length:=by have:=A0 ht;omega
     have hd:(dist (a.drop i) (b.drop j):Int)=b.length - j:=by rw [hia,J94 (Nat.le_refl _),dist,K08];omega
     rw [hd] at hst
     skip
     refine A2 (A3 Z Z (A3 Z Z (A6 (H6 Z Z Z (by omega) (by omega)) Z (A6 (N4 Z Z hTi) Z (A3 Z Z (A3 Z Z (D9 Z Z (A3 Z Z (A6 (I5 Z Z (by omega)) Z (A6 (F7 Z Z Z (by omega) (by omega)) Z (E2 (I9 TySz.out Z Z (by (rw [hRl];simp;omega)) Z Z) ?_)))))))))));refine A4 ?_;refine k4 (k4 (k1 ?_))
     rw [←hst]
     exact J58 ⟨le1 rfl,le1 rfl,le1 rfl,le1 rfl,le1 rfl,trivial⟩ ⟨rfl,rfl,trivial⟩
    ·have hia:i < a.length:=by have:=A1 ht;omega
     refine k2 (A2 (A3 Z Z (A3 Z Z (D9 Z Z (A6 (J7 Z Z) Z (A7 Z Z (A4 ?_)))))));refine k1 ?_;refine B3 rfl (fun ht=>?_) (fun ht=>?_)
     ·have hjb:j=b.length:=by have:=A0 ht;omega
      have hd:(dist (a.drop i) (b.drop j):Int)=a.length - i:=by rw [hjb,J94 (Nat.le_refl b.length),A72,K08];omega
      rw [hd] at hst
      skip
      refine A2 (A3 Z Z (A3 Z Z (A6 (H6 Z Z Z (by omega) (by omega)) Z (A6 (N4 Z Z hTi) Z (A3 Z Z (A3 Z Z (D9 Z Z (A3 Z Z (A6 (I5 Z Z (by omega)) Z (A6 (F7 Z Z Z (by omega) (by omega)) Z (E2 (I9 TySz.out Z Z (by (rw [hRl];simp;omega)) Z Z) ?_)))))))))));refine A4 ?_;refine k4 (k4 (k1 ?_))
      rw [←hst]
      exact J58 ⟨le1 rfl,le1 rfl,le1 rfl,le1 rfl,le1 rfl,trivial⟩ ⟨rfl,rfl,trivial⟩
     ·have hjb:j < b.length:=by have:=A1 ht;omega
      have hva:a[i]?=some a[i]:=by simp [hia]
      have hvb:b[j]?=some b[j]:=by simp [hjb]
      have hdd:=F76 a b i j hia hjb
      have hTn':=hTn hia
      refine k2 (C5 (by kernel_rfl) (by kernel_rfl) (C3 Z Z (C3 Z Z (A9 (A8 Z (.pure _ _ _ _) Z (by omega) hva) Z Z (A9 (B1 Z Z) Z Z (C3 Z Z (C3 Z Z (A9 (A8 Z (.pure _ _ _ _) Z (by omega) hvb) Z Z (A9 (B1 Z Z) Z Z (A9 (J7 Z Z) Z Z (A9 (E0 Z Z) Z Z (G5 ?_))))))))))));refine k1 ?_;refine B3 rfl (fun ht=>?_) (fun ht=>?_)
      ·rw [if_pos (A0 ht)] at hdd
       have hg:=A34 a b (i+1) 0 (j+1) (Nat.zero_le _) hjb
       rw [hdd] at hst
       skip
       refine C5 (by kernel_rfl) (by kernel_rfl) (C3 Z Z (C3 Z Z (A9 (H6 Z Z Z (by omega) (by omega)) Z Z (A9 (N4 Z Z hTi) Z Z (C3 Z Z (C3 Z Z (C3 Z Z (A9 (L4 Z Z (by omega)) Z Z (A9 (H6 Z Z Z (by omega) (by omega)) Z Z (A9 (N4 Z Z hTn') Z Z (C3 Z Z (A9 (L4 Z Z (by omega)) Z Z (A9 (A8 Z (.pure _ _ _ _) Z (by omega) hg) Z Z (A9 (B1 Z Z) Z Z (A9 (F7 Z Z Z (by omega) (by omega)) Z Z (o6 (I9 TySz.out Z Z (by (rw [hRl];simp;omega)) Z Z) Z ?_))))))))))))))));refine G5 ?_;refine k4 (k4 (k1 ?_))
       rw [←hst]
       exact J58 ⟨le1 rfl,le1 rfl,le1 rfl,le1 rfl,le1 rfl,trivial⟩ ⟨rfl,rfl,trivial⟩
      ·rw [if_neg (A1 ht)] at hdd
       have hg1:=A34 a b (i+1) 0 j (Nat.zero_le _) (by omega)
       have hg2:=A34 a b i (j+1) (j+1) (Nat.le_refl _) (by omega)
       have hl1:=C18 (a.drop (i+1)) (b.drop j)
       have hl2:=C18 (a.drop i) (b.drop (j+1))
       simp only [K08] at hl1 hl2
       have hval:(1:Int)+(if (dist (a.drop i) (b.drop (j+1)):Int) < (dist (a.drop (i+1)) (b.drop j):Int) then (dist (a.drop i) (b.drop (j+1)):Int) else (dist (a.drop (i+1)) (b.drop j):Int))=(dist (a.drop i) (b.drop j):Int):=by
        rw [hdd];split<;>omega
       rw [←hval] at hst
       skip
       refine C5 (by kernel_rfl) (by kernel_rfl) (C3 Z Z (C3 Z Z (A9 (H6 Z Z Z (by omega) (by omega)) Z Z (A9 (N4 Z Z hTi) Z Z (C3 Z Z (C3 Z Z (C3 Z Z (A9 (L4 Z Z (by omega)) Z Z (A9 (H6 Z Z Z (by omega) (by omega)) Z Z (A9 (N4 Z Z hTn') Z Z (C3 Z Z (A9 (A8 Z (.pure _ _ _ _) Z (by omega) hg1) Z Z (A9 (B1 Z Z) Z Z (C3 Z Z (C3 Z Z (A9 (H6 Z Z Z (by omega) (by omega)) Z Z (A9 (N4 Z Z hTi) Z Z (C3 Z Z (A9 (L4 Z Z (by omega)) Z Z (A9 (F7 Z Z Z (by omega) (by omega)) Z Z (A9 (Q2 Z Z hg2 Z) Z Z (A9 (D64 Z Z) Z Z (A9 (L4 Z Z (by (constructor<;>split<;>omega))) Z Z ?_)))))))))))))))))))))));refine A9 (F7 Z Z Z (by omega) (by omega)) Z Z (o6 (I9 TySz.out Z Z (by (rw [hRl];simp;omega)) Z Z) Z ?_);refine G5 ?_;refine k4 (k4 (k1 ?_))
       rw [←hst]
       exact J58 ⟨le1 rfl,le1 rfl,le1 rfl,le1 rfl,le1 rfl,trivial⟩ ⟨rfl,rfl,trivial⟩
   ·skip
    refine A2 (A3 Z Z (A6 (I5 Z Z (by omega)) Z (A7 Z Z (A4 ?_))));refine k1 ?_
    exact ⟨j,by omega,by omega,J58 ⟨le1 rfl,le1 rfl,le1 rfl,le1 rfl,le1 rfl,trivial⟩ ⟨rfl,rfl,trivial⟩⟩
  ·obtain rfl:j=0:=by have:=A1 ht;omega
   refine G4 (Sees.freeze (k:=23) Z) ?_
   refine G4 (J75 5 (P4 a b i) Z (by simp [A41]) (by rw [hT,H40 (y:=T0 a b i 0) rfl,G22])) ?_
   refine k6 (k7 (k7 (k8 Z (k4 (k1 (A2 (A3 Z Z (A6 (I5 Z Z (by omega)) Z (A7 Z Z (A4 ?_))))))))));refine k1 ?_
   exact ⟨i,by omega,by omega,J58 ⟨le1 rfl,le1 rfl,le1 rfl,le1 rfl,trivial⟩ ⟨rfl,trivial⟩⟩
 ·obtain rfl:i=0:=by have:=A1 ht;omega
  refine G4 (Sees.freeze (k:=5) Z) ?_
  refine k6 (k2 (A2 (A3 Z Z (A7 Z Z (A4 ?_)))));refine k1 (k10 ?_)
  exact B4 (F3 rfl rfl rfl) rfl
theorem D02 (a b:List Int):∀(p q:Int),∀s∈H1 p q a b,p≤s.From∧s.From < p+a.length∧q≤s.To∧s.To < q+b.length:=by
 induction a generalizing b with
 | nil=>intro p q s hs;simp [H1] at hs
 | cons x a iha =>
  induction b with
  | nil=>intro p q s hs;simp [H1] at hs
  | cons y b ihb =>
   intro p q s hs
   rw [H1] at hs
   simp only [J87]
   split at hs
   ·rcases List.mem_cons.1 hs with rfl | hs
    ·simp only;omega
    ·have:=iha b (p+1) (q+1) s hs;omega
   ·split at hs
    ·have:=iha (y::b) (p+1) q s hs;simp only [J87] at this;omega
    ·have:=ihb p (q+1) s hs;simp only [J87] at this;omega
theorem G05 (a b:List Int) (ha:a.length≤536870911) (hb:b.length≤536870911):FnOk Tryz.prog 102 [M1 a,M1 b] (fun rs=>rs=[pChanges (V7 a b)]):=by
 refine FnOk.intro Tryz.func102 (by decide) Z Z Z Z ?_
 refine k2 (A2 (A7 Z Z (A4 ?_)));refine k1 (k2 (A2 (A3 Z Z (A3 Z Z (C2 (J22 a b (by omega) (by omega)) Z Z Z ?_)))));rintro _ rfl;refine A7 Z Z (A4 ?_);refine k1 (k2 (A2 (C0 (R7 6 _ spanC Z) Z (A4 ?_))));refine k1 (k2 (A2 (A7 Z Z (A7 Z Z (A4 ?_)))));refine k1 (k2 (k3 ?_));refine D1 (X:=Nat × Nat × List Span) (fun x=>([(0,C4 Int 1 H4 a),(1,C4 Int 1 H4 b),(5,C4 (List Int) 1 intsC (C20 a b)),(6,.s (.one (.buf 6 Span 2 spanC x.2.2))),(7,B8 x.1),(8,B8 x.2.1)],[(6,.spare x.2.2.length 2 88)]))
  (fun x=>x.1≤a.length∧x.2.1≤b.length∧x.2.2.length≤x.1∧x.2.2++H1 x.1 x.2.1 (a.drop x.1) (b.drop x.2.1)=H1 0 0 a b) (fun x=>a.length+b.length - x.1 - x.2.1) (0,0,[]) (by simp) (J58 ⟨le1 rfl,le1 rfl,le1 rfl,le1 rfl,le1 rfl,le1 rfl,trivial⟩ ⟨rfl,trivial⟩) ?_
 rintro ⟨i,j,out⟩ ⟨hi,hj,ho,hp⟩
 dsimp only at hi hj ho hp ⊢
 refine k2 (k2 (A2 (A3 Z Z (A3 Z Z (D9 Z Z (E1 Z Z Z (A3 Z Z (B0 Z Z Z Z (fun hg=>by rw [hg];exact B5 Z Z) ?_))))))));refine B0 Z Z Z Z (fun hg=>by rw [hg];exact B5 Z Z) ?_;refine B0 Z Z Z Z (fun hg=>by rw [hg];exact O8 Z (.pure _ _ _ _)) ?_;refine B0 Z Z Z Z (fun hg=>by rw [hg];exact Y4 Z Z) ?_;refine F2 Z Z ?_;refine A4 ?_;refine k1 ?_;refine B3 rfl (fun ht=>?_) (fun ht=>?_)
 ·have hor:=A0 (or_pick.symm.trans ht)
  refine E24 ?_
  refine J3 ?_
  refine k3 (k3 (k2 ?_))
  have hTi:i < a.length→(C20 a b)[i]?=some (T0 a b i 0):=fun h=>B35 a b 0 i (Nat.zero_le _) (by omega)
  have hTn:i < a.length→(C20 a b)[i+1]?=some (T0 a b (i+1) 0):=fun h=>B35 a b 0 (i+1) (Nat.zero_le _) (by omega)
  have hva:i < a.length→a[i]?=some (a.getD i 0):=fun h=>by simp [J91,h]
  have hvb:j < b.length→b[j]?=some (b.getD j 0):=fun h=>by simp [J91,h]
  have hga:∀h:i < a.length,a.getD i 0=a[i]:=fun h=>by simp [J91,h]
  have hgb:∀h:j < b.length,b.getD j 0=b[j]:=fun h=>by simp [J91,h]
  refine C5 (by kernel_rfl) (by kernel_rfl) (C3 Z Z (C3 Z Z (A9 (O8 Z (.pure _ _ _ _)) Z Z (A9 (Y4 Z Z) Z Z (C3 Z Z (B9 Z Z (fun hg=>by rw [hg];exact B5 Z Z) Z Z ?_))))));refine B9 Z Z (fun hg=>by rw [hg];exact B5 Z Z) Z Z ?_;refine B9 Z Z (fun hg=>by rw [hg];exact O8 Z (.pure _ _ _ _)) Z Z ?_;refine B9 Z Z (fun hg=>by rw [hg];exact Y4 Z Z) Z Z ?_;refine A9 (G7 Z (fun h=>by first | rfl | (rw [h];rfl)) (fun h=>by first | rfl | (rw [h];rfl))) Z Z ?_;refine C3 Z Z (B9 Z Z (fun hg=>by rw [hg];exact B5 Z Z) Z Z ?_);refine B9 Z Z (fun hg=>by rw [hg];exact B5 Z Z) Z Z ?_;refine B9 Z Z (fun hg=>by have hq:=hg;(try simp at hq);rw [hg];exact A8 Z (.pure _ _ _ _) Z (by omega) (hva (by omega))) Z Z ?_;refine B9 Z Z (fun hg=>by rw [hg];exact B1 Z Z) Z Z ?_;refine B9 Z Z (fun hg=>by rw [hg];exact B5 Z Z) Z Z ?_;refine B9 Z Z (fun hg=>by rw [hg];exact B5 Z Z) Z Z ?_;refine B9 Z Z (fun hg=>by have hq:=hg;(try simp at hq);rw [hg];exact A8 Z (.pure _ _ _ _) Z (by omega) (hvb (by omega))) Z Z ?_;refine B9 Z Z (fun hg=>by rw [hg];exact B1 Z Z) Z Z ?_;refine B9 Z Z (fun hg=>by rw [hg];exact J7 Z Z) Z Z ?_;refine A9 (G7 Z (fun h=>by first | rfl | (rw [h];rfl)) (fun h=>by first | rfl | (rw [h];rfl))) Z Z ?_;refine A9 (E0 Z Z) Z Z (G5 ?_);refine k1 ?_;refine B3 rfl (fun ht=>?_) (fun ht=>?_)
  ·simp only [L5] at ht
   obtain ⟨⟨hia,hjb⟩,heq⟩:=A0 ht
   have hia':i < a.length:=by omega
   have hjb':j < b.length:=by omega
   rw [hga hia',hgb hjb'] at heq
   rw [A33 a b i j hia' hjb',if_pos heq] at hp
   refine k2 (A2 (A3 Z Z (A3 Z Z (A3 Z Z (A6 (E6 Z) Z (A6 (C9 (c:=spanC) (ys:=[⟨_,_⟩]) (D8 Z Z Z Z F1) Z Z Z) Z (C0 (F8 Z Z Z (.pure _ _ _ _) (by simp;omega) Z) Z (A7 Z Z (A4 ?_)))))))));refine k1 (A2 (A3 Z Z (C7 Z Z Z (A3 Z Z (C7 Z Z Z (A7 Z Z (A7 Z Z (A4 ?_))))))));refine k4 (k4 (k1 ?_))
   exact ⟨(i+1,j+1,out++[⟨i,j⟩]),⟨by dsimp only;omega,by dsimp only;omega,by dsimp only;simp;omega,by dsimp only;rw [K01];exact hp⟩,by dsimp only;omega,J58 ⟨le1 rfl,le1 rfl,le1 rfl,le1 rfl,le1 rfl,le1 rfl,trivial⟩ ⟨rfl,trivial⟩⟩
  ·have hne:∀(h1:i < a.length) (h2:j < b.length),a[i]≠b[j]:=fun h1 h2 h=>by
    simp only [L5] at ht
    exact A1 ht ⟨⟨by omega,by omega⟩,by rw [hga h1,hgb h2];exact h⟩
   refine k2 (C5 (by kernel_rfl) (by kernel_rfl) (C3 Z Z (C3 Z Z (A9 (O8 Z (.pure _ _ _ _)) Z Z (A9 (Y4 Z Z) Z Z (C3 Z Z (B9 Z Z (fun hg=>by rw [hg];exact B5 Z Z) Z Z ?_)))))));refine B9 Z Z (fun hg=>by rw [hg];exact B5 Z Z) Z Z ?_;refine B9 Z Z (fun hg=>by have hq:=hg;(try simp at hq);rw [hg];exact L4 Z Z (by omega)) Z Z ?_;refine B9 Z Z (fun hg=>by have hq:=hg;(try simp at hq);rw [hg];exact A8 Z (.pure _ _ _ _) Z (by omega) (hTn (by omega))) Z Z ?_;refine B9 Z Z (fun hg=>by rw [hg];exact B1 Z Z) Z Z ?_;refine B9 Z Z (fun hg=>by rw [hg];exact B5 Z Z) Z Z ?_;refine B9 Z Z (fun hg=>by have hq:=hg;(try simp at hq);rw [hg];exact A8 Z (.pure _ _ _ _) Z (by omega) (A34 a b (i+1) 0 j (Nat.zero_le _) hj)) Z Z ?_;refine B9 Z Z (fun hg=>by rw [hg];exact B1 Z Z) Z Z ?_;refine B9 Z Z (fun hg=>by have hq:=hg;(try simp at hq);have h1:=C18 (a.drop (i+1)) (b.drop j);simp only [K08] at h1;rw [hg];exact L4 Z Z (by omega)) Z Z ?_;refine B9 Z Z (fun hg=>by rw [hg];exact B5 Z Z) Z Z ?_;refine B9 Z Z (fun hg=>by rw [hg];exact B5 Z Z) Z Z ?_;refine B9 Z Z (fun hg=>by have hq:=hg;(try simp at hq);rw [hg];exact A8 Z (.pure _ _ _ _) Z (by omega) (hTi (by omega))) Z Z ?_;refine B9 Z Z (fun hg=>by rw [hg];exact B1 Z Z) Z Z ?_;refine B9 Z Z (fun hg=>by rw [hg];exact B5 Z Z) Z Z ?_;refine B9 Z Z (fun hg=>by have hq:=hg;(try simp at hq);rw [hg];exact A8 Z (.pure _ _ _ _) Z (by omega) (A34 a b i 0 j (Nat.zero_le _) hj)) Z Z ?_;refine B9 Z Z (fun hg=>by rw [hg];exact B1 Z Z) Z Z ?_;refine B9 Z Z (fun hg=>by rw [hg];exact J7 Z Z) Z Z ?_;refine A9 (G7 Z (fun h=>by first | rfl | (rw [h];rfl)) (fun h=>by first | rfl | (rw [h];rfl))) Z Z ?_;refine A9 (E0 Z Z) Z Z (G5 ?_);refine k1 ?_;refine B3 rfl (fun ht=>?_) (fun ht=>?_)
   ·rw [L5] at ht
    obtain ⟨hia,hd⟩:=A0 ht
    have hia':i < a.length:=by omega
    have hp':out++H1 (i+1:Nat) j (a.drop (i+1)) (b.drop j)=H1 0 0 a b:=by
     by_cases hjb:j < b.length
     ·rw [A33 a b i j hia' hjb,if_neg (hne hia' hjb),if_pos (by omega)] at hp
      exact hp
     ·rw [J94 (show b.length≤j by omega),n7] at hp ⊢
      exact hp
    skip
    refine A2 (A3 Z Z (C7 Z Z Z (A7 Z Z (A4 ?_))));refine k4 (k4 (k1 ?_))
    exact ⟨(i+1,j,out),⟨by dsimp only;omega,by dsimp only;omega,by dsimp only;omega,hp'⟩,by dsimp only;omega,J58 ⟨le1 rfl,le1 rfl,le1 rfl,le1 rfl,le1 rfl,le1 rfl,trivial⟩ ⟨rfl,trivial⟩⟩
   ·rw [L5] at ht
    have hd:=A1 ht
    have hjb:j < b.length:=by
     refine Classical.byContradiction fun h=>?_
     have hjb:j=b.length:=by omega
     have hia:i < a.length:=by omega
     apply hd
     refine ⟨by omega,?_⟩
     rw [J94 (show b.length≤j by omega),A72,A72,K08,K08]
     omega
    have hp':out++H1 i (j+1:Nat) (a.drop i) (b.drop (j+1))=H1 0 0 a b:=by
     by_cases hia:i < a.length
     ·rw [A33 a b i j hia hjb,if_neg (hne hia hjb),if_neg (fun h=>hd ⟨by omega,by omega⟩)] at hp
      exact hp
     ·rw [J94 (show a.length≤i by omega),c7] at hp ⊢
      exact hp
    skip
    refine A2 (A3 Z Z (C7 Z Z Z (A7 Z Z (A4 ?_))));refine k4 (k4 (k1 ?_))
    exact ⟨(i,j+1,out),⟨by dsimp only;omega,by dsimp only;omega,by dsimp only;omega,hp'⟩,by dsimp only;omega,J58 ⟨le1 rfl,le1 rfl,le1 rfl,le1 rfl,le1 rfl,le1 rfl,trivial⟩ ⟨rfl,trivial⟩⟩
 ·have hor:=A1 (or_pick.symm.trans ht)
  have hi':i=a.length:=by omega
  have hj':j=b.length:=by omega
  rw [hi',J94 (Nat.le_refl a.length)] at hp
  have hout:out=H1 0 0 a b:=by rw [←hp];simp [H1]
  refine k6 (k2 (A2 (A3 Z Z (A3 Z Z (D9 Z Z (A3 Z Z (D9 Z Z (C2 (made_ok out a.length b.length (by omega) (fun s hs=>by have:=D02 a b 0 0 s (hout ▸ hs);omega) (by omega)) Z Z Z ?_))))))));rintro _ rfl;refine A7 Z Z (A4 ?_);refine k1 (k10 ?_)
  exact B4 (F3 rfl rfl rfl) (by rw [hout];rfl)
theorem F59 (a b:List Int):FnOk Tryz.prog 213 [M1 a,M1 b] (fun rs=>rs=if 4096 < a.length∨4096 < b.length then [pChanges [],E5 1] else [pChanges (V7 a b),E5 0]):=by
 refine FnOk.intro Tryz.func213 (by decide) Z Z Z Z ?_
 refine k2 (A2 (A7 Z Z (A7 Z Z (A4 ?_))));refine k1 (k2 (k2 (A2 (A3 Z Z (A3 Z Z (C2 (long_ok a b) Z Z Z ?_))))));rintro _ rfl;refine A4 ?_;refine k1 ?_;refine B3 rfl (fun ht=>?_) (fun ht=>?_)
 ·have h:=A0 ht
  refine k2 (A2 (A6 (K5 _ 4 changeC) Z (A7 Z Z (A4 ?_))));refine k1 (k10 (k11 ?_))
  exact B4 (U7 rfl rfl rfl rfl rfl) (by rw [if_pos h])
 ·have h:=A1 ht
  refine k5 (k1 (k2 (A2 (A3 Z Z (A3 Z Z (C2 (G05 a b (by omega) (by omega)) Z Z Z ?_))))));rintro _ rfl;refine A7 Z Z (A7 Z Z (A4 ?_));refine k1 (k10 ?_)
  exact B4 (U7 rfl rfl rfl rfl rfl) (by rw [if_neg h])
theorem C60 (l:List Change) (m:Int) (hl:l.length≤1048576) (hm:m≤536870911) (hb:∀c∈l,c.Old≤536870911∧0≤c.OldLen∧c.OldLen≤1048576∧0≤c.NewLen∧c.NewLen≤1048576) :
  FnOk Tryz.prog 103 [pChanges l,E5 m] (fun rs=>rs=[pSpans (M8 l m)]):=by
 refine FnOk.intro Tryz.func103 (by decide) Z Z Z Z ?_
 refine k2 (A2 (A7 Z Z (A4 ?_)));refine k1 (k2 (A2 (C0 (R7 5 _ spanC Z) Z (A4 ?_))));refine k1 (k2 (A2 (A7 Z Z (A7 Z Z (A4 ?_)))));refine k1 (k2 (k2 (A2 (A7 Z Z (A4 ?_)))));refine k1 (k3 ?_);refine D1 (X:=Nat × Int × Int × List Span) (fun x=>([(0,C4 Change 4 changeC l),(1,B8 m),(5,.s (.one (.buf 5 Span 2 spanC x.2.2.2))),(6,B8 x.2.1),(7,B8 x.2.2.1),(8,B8 x.1)],[(5,.spare x.2.2.2.length 2 88)]))
  (fun x=>x.1≤l.length∧0≤x.2.1∧(x.2.2.2.length:Int)≤x.2.1∧x.2.1≤536870911+x.1*1048576∧0≤x.2.2.1∧x.2.2.1≤536870911*(x.1+1)+x.1*1048576∧x.2.2.2.length≤536870911∧x.2.2.2++K2 x.2.1 x.2.2.1 (l.drop x.1) m=M8 l m)
  (fun x=>l.length - x.1) (0,0,0,[]) (by simp [M8]) (J58 ⟨le1 rfl,le1 rfl,le1 rfl,le1 rfl,le1 rfl,le1 rfl,trivial⟩ ⟨rfl,trivial⟩) ?_
 rintro ⟨k,i,j,out⟩ ⟨hk,hi,ho,hi2,hj,hj2,ho2,hp⟩
 dsimp only at hk hi ho hi2 hj hj2 ho2 hp ⊢
 refine k2 (k2 (A2 (A3 Z Z (A3 Z Z (D9 Z Z (E1 Z Z Z (A4 ?_)))))));refine k1 ?_;refine B3 rfl (fun ht=>?_) (fun ht=>?_)
 ·have hlt:k < l.length:=by have:=A0 ht;omega
  have hv:l[k]?=some l[k]:=by simp [hlt]
  have hc:=hb l[k] (J96 hlt)
  rw [J92 hlt,K2] at hp
  refine k5 (k1 (k2 (k3 (k2 (k3 ?_)))));refine D1 (X:=Nat) (fun t=>([(0,C4 Change 4 changeC l),(1,B8 m),(5,.s (.one (.buf 5 Span 2 spanC (out++M5 i j t)))),(6,B8 (i+t)),(7,B8 (j+t)),(8,B8 k)],[(5,.spare (out++M5 i j t).length 2 88)]))
   (fun t=>t≤(l[k].Old - i).toNat) (fun t=>(l[k].Old - i).toNat - t) 0 (Nat.zero_le _) (by rw [n8,K06];exact J58 ⟨le1 rfl,le1 rfl,le1 rfl,leE rfl (by first | (simp;done) | (simp;omega)),leE rfl (by first | (simp;done) | (simp;omega)),le1 rfl,trivial⟩ ⟨rfl,trivial⟩) ?_
  intro t htl
  dsimp only at htl ⊢
  have hsl:=V1 i j t
  refine k2 (k2 ?_)
  have hol:out.length+t≤536870911:=by omega
  refine A2 (A3 Z Z (A3 Z Z (A3 Z Z (A6 (A8 Z (.pure _ _ _ _) Z (by omega) hv) Z (A6 (C1 Z) Z (A6 (B1 Z Z) Z (E1 Z Z Z (A4 ?_))))))));refine k1 ?_;refine B3 rfl (fun ht=>?_) (fun ht=>?_)
  ·have h1:=A0 ht
   refine k5 (k1 (k3 (k2 (A2 (A3 Z Z (A3 Z Z (A3 Z Z (A6 (E6 Z) Z (A6 (C9 (c:=spanC) (ys:=[⟨_,_⟩]) (D8 Z Z Z Z F1) Z Z Z) Z (C0 (F8 Z Z Z (.pure _ _ _ _) (by (simp;omega)) Z) Z (A7 Z Z (A4 ?_))))))))))));refine k1 (A2 (A3 Z Z (C7 Z Z Z (A3 Z Z (C7 Z Z Z (A7 Z Z (A7 Z Z (A4 ?_))))))));refine k4 (k1 ?_);refine ⟨t+1,by omega,by omega,?_⟩
   rw [A51,←K01]
   exact J58 ⟨le1 rfl,le1 rfl,le1 rfl,leE rfl (by first | (simp;done) | (simp;omega)),leE rfl (by first | (simp;done) | (simp;omega)),le1 rfl,trivial⟩ ⟨rfl,trivial⟩
  ·have h1:=A1 ht
   have h2:t=(l[k].Old - i).toNat:=by omega
   rw [←h2] at hp
   have h3:max i l[k].Old=i+t:=by omega
   rw [h3] at hp
   refine k6 (k7 (k7 (k8 Z (k1 (C5 (by kernel_rfl) (by kernel_rfl) (C3 Z Z (C3 Z Z (C3 Z Z (A9 (A8 Z (.pure _ _ _ _) Z (by omega) hv) Z Z (A9 (C1 Z) Z Z (A9 (B1 Z Z) Z Z (A9 (L4 Z Z (by omega)) Z Z (C3 Z Z (C3 Z Z (C3 Z Z (A9 (A8 Z (.pure _ _ _ _) Z (by omega) hv) Z Z (A9 (C1 Z) Z Z (A9 (B1 Z Z) Z Z (A9 (L4 Z Z (by omega)) Z Z (A9 (E0 Z Z) Z Z (A9 (E0 Z Z) Z Z (G5 ?_))))))))))))))))))))));refine k4 (k1 (A2 (A3 Z Z (C7 Z Z Z (A7 Z Z (A4 ?_))))));refine k1 ?_
   exact ⟨(k+1,i+t+l[k].OldLen,j+t+l[k].NewLen,out++M5 i j t),⟨by dsimp only;omega,by dsimp only;omega,by dsimp only;rw [J86,hsl];omega,by dsimp only;omega,by dsimp only;omega,by dsimp only;omega,by dsimp only;rw [J86,hsl];omega,by dsimp only;rw [K01];exact hp⟩,by dsimp only;omega,J58 ⟨le1 rfl,le1 rfl,le1 rfl,le1 rfl,le1 rfl,le1 rfl,trivial⟩ ⟨rfl,trivial⟩⟩
 ·have hk':k=l.length:=by have:=A1 ht;omega
  rw [hk',J94 (Nat.le_refl _),K2] at hp
  refine k6 (k2 (k3 ?_));refine D1 (X:=Nat) (fun t=>([(1,B8 m),(5,.s (.one (.buf 5 Span 2 spanC (out++M5 i j t)))),(6,B8 (i+t)),(7,B8 (j+t))],[(5,.spare (out++M5 i j t).length 2 88)]))
   (fun t=>t≤(m - i).toNat) (fun t=>(m - i).toNat - t) 0 (Nat.zero_le _) (by rw [n8,K06];exact J58 ⟨le1 rfl,le1 rfl,leE rfl (by first | (simp;done) | (simp;omega)),leE rfl (by first | (simp;done) | (simp;omega)),trivial⟩ ⟨rfl,trivial⟩) ?_
  intro t htl
  dsimp only at htl ⊢
  have hsl:=V1 i j t
  have hol:out.length+t≤536870911:=by omega
  refine k2 (k2 (A2 (A3 Z Z (A3 Z Z (E1 Z Z Z (A4 ?_))))));refine k1 ?_;refine B3 rfl (fun ht=>?_) (fun ht=>?_)
  ·have h1:=A0 ht
   refine k5 (k1 (k3 (k2 (A2 (A3 Z Z (A3 Z Z (A3 Z Z (A6 (E6 Z) Z (A6 (C9 (c:=spanC) (ys:=[⟨_,_⟩]) (D8 Z Z Z Z F1) Z Z Z) Z (C0 (F8 Z Z Z (.pure _ _ _ _) (by (simp;omega)) Z) Z (A7 Z Z (A4 ?_))))))))))));refine k1 (A2 (A3 Z Z (C7 Z Z Z (A3 Z Z (C7 Z Z Z (A7 Z Z (A7 Z Z (A4 ?_))))))));refine k4 (k1 ?_);refine ⟨t+1,by omega,by omega,?_⟩
   rw [A51,←K01]
   exact J58 ⟨le1 rfl,le1 rfl,leE rfl (by first | (simp;done) | (simp;omega)),leE rfl (by first | (simp;done) | (simp;omega)),trivial⟩ ⟨rfl,trivial⟩
  ·have h1:=A1 ht
   have h2:t=(m - i).toNat:=by omega
   refine k6 (k2 (A2 (A3 Z Z (A7 Z Z (A4 ?_)))));refine k1 (k10 ?_)
   exact B4 (F3 rfl rfl rfl) (by rw [h2,hp])
theorem F60 (l:List Merged) (list:List Int) (p:Int) (hl:l.length≤536870912):FnOk Tryz.prog 170 [pMerged l,M1 list,E5 p] (fun rs=>rs=if 4096 < l.length∨4096 < list.length then [pMerged [],E5 1] else [pMerged (y4 l list p),E5 0]):=by
 refine FnOk.intro Tryz.func170 (by decide) Z Z Z Z ?_
 refine k2 (A2 (A7 Z Z (A7 Z Z (A4 ?_))));refine k1 (k2 ?_)
 have hlm:(N3 l).length=l.length:=by simp [N3]
 by_cases hbig:4096 < l.length∨4096 < list.length
 ·rw [if_pos hbig]
  refine A2 (A3 Z Z (C2 (F58 l hl) Z Z Z ?_));rintro _ rfl;refine A3 Z Z (C2 ((F59 (N3 l) list).mono (post':=fun rs=>rs=[pChanges [],E5 1]) (fun rs h=>by rw [if_pos (by rw [hlm];exact hbig)] at h;exact h)) Z Z Z ?_);rintro _ rfl;refine A3 Z Z (F5 Z Z Z (F5 Z Z Z (A7 Z Z (A7 Z Z (A4 ?_)))));refine k1 (k2 (k2 (A2 (A3 Z Z (A6 (H9 Z Z) Z (A4 ?_))))));refine k1 ?_;refine B3 rfl (fun ht=>?_) (fun ht=>?_)
  ·refine k2 (A2 (A6 (K5 _ 2 mergedC) Z (A7 Z Z (A4 ?_))));refine k1 (k10 (k11 ?_))
   exact B4 (U7 rfl rfl rfl rfl rfl) rfl
  ·cases A1 ht (by decide)
 ·rw [if_neg hbig]
  refine A2 (A3 Z Z (C2 (F58 l hl) Z Z Z ?_));rintro _ rfl;refine A3 Z Z (C2 ((F59 (N3 l) list).mono (post':=fun rs=>rs=[pChanges (V7 (N3 l) list),E5 0]) (fun rs h=>by rw [if_neg (by rw [hlm];exact hbig)] at h;exact h)) Z Z Z ?_);rintro _ rfl;refine A3 Z Z (F5 Z Z Z (F5 Z Z Z (A7 Z Z (A7 Z Z (A4 ?_)))));refine k1 (k2 (k2 (A2 (A3 Z Z (A6 (H9 Z Z) Z (A4 ?_))))));refine k1 ?_;refine B3 rfl (fun ht=>?_) (fun ht=>?_)
  ·cases A0 ht rfl
  ·have hwb:=D10 (N3 l) list
   have hwl:(V7 (N3 l) list).length≤4097:=by
    have h1:=B00 (H1 0 0 (N3 l) list) 0 0 (N3 l).length list.length
    have h2:=d6 0 0 (N3 l) list
    unfold V7 A10;omega
   have hmw:=D09 (N3 l) list
   have hasc:=A11 (N3 l) list 0 0
   rw [Int.zero_add,Int.zero_add] at hasc
   have hpl:=d6 0 0 (N3 l) list
   rw [hlm] at hmw hasc hpl
   obtain ⟨ps,hps⟩:∃ps,ps=H1 0 0 (N3 l) list:=⟨_,rfl⟩
   refine k5 (k1 (k2 (A2 (A3 Z Z (A3 Z Z (D9 Z Z (C2 (C60 (V7 (N3 l) list) l.length (by omega) (by omega) (fun c hc=>by have:=hwb c hc;rw [hlm] at this;omega)) Z Z Z ?_)))))));rintro _ rfl;refine A7 Z Z (A4 ?_);refine k1 (k2 ?_)
   rw [hmw,←hps]
   rw [←hps] at hasc hpl
   refine A2 (C0 (R7 11 _ mergedC Z) Z (A4 ?_));refine k1 (k2 (A2 (A7 Z Z (A7 Z Z (A4 ?_)))));refine k1 (k2 (k2 (A2 (A7 Z Z (A4 ?_)))));refine k1 (k3 ?_)
   have hlb:l.length≤4096∧list.length≤4096:=by omega
   have hwp:=C59 p
   refine D1 (X:=Nat × Nat × Nat × List Merged) (fun x=>([(0,C4 Merged 2 mergedC l),(1,C4 Int 1 H4 list),(2,B8 p),(10,C4 Span 2 spanC ps),(11,.s (.one (.buf 11 Merged 2 mergedC x.2.2.2))),(12,B8 x.2.1),(13,B8 x.2.2.1),(14,B8 x.1)],[(11,.spare x.2.2.2.length 2 151)]))
    (fun x=>x.1≤ps.length+1∧x.2.2.2.length≤x.2.1+x.2.2.1∧x.2.1≤l.length∧x.2.2.1≤list.length∧(x.1≤ps.length→Asc l.length list.length x.2.1 x.2.2.1 (ps.drop x.1)∧x.2.2.2++d9 l list (V6 p) x.2.1 x.2.2.1 (ps.drop x.1)=d9 l list (V6 p) 0 0 ps)∧(x.1=ps.length+1→x.2.2.2=d9 l list (V6 p) 0 0 ps))
    (fun x=>ps.length+1 - x.1) (0,0,0,[]) (by simpa using hasc) (J58 ⟨le1 rfl,le1 rfl,le1 rfl,le1 rfl,le1 rfl,le1 rfl,le1 rfl,le1 rfl,trivial⟩ ⟨rfl,trivial⟩) ?_
   rintro ⟨k,i,j,out⟩ ⟨hk,ho,hi,hj,h1,h2⟩
   dsimp only at hk ho hi hj h1 h2 ⊢
   refine k2 (k2 (A2 (A3 Z Z (A3 Z Z (D9 Z Z (A6 (t8 Z Z) Z (A4 ?_)))))));refine k1 ?_;refine B3 rfl (fun ht=>?_) (fun ht=>?_)
   ·have hk':k≤ps.length:=by have:=A0 ht;omega
    obtain ⟨ha,hp⟩:=h1 hk'
    refine k5 (k1 (k2 (k3 (k2 (A2 (A3 Z Z (D9 Z Z (A3 Z Z (D9 Z Z (A6 (E6 Z) Z (C0 (F4 15 Z) Z (E2 (B6 TySz.out Z Z Z Z Z Z) (A4 ?_)))))))))))));refine J3 ?_
    obtain ⟨x,hx⟩:∃x,x=ps.getD k ⟨l.length,list.length⟩:=⟨_,rfl⟩
    have hstep:(i:Int)≤x.From∧(j:Int)≤x.To∧x.From≤l.length∧x.To≤list.length∧(k < ps.length→x.From < l.length∧x.To < list.length∧Asc l.length list.length (x.From+1) (x.To+1) (ps.drop (k+1))) ∧
      d9 l list (V6 p) i j (ps.drop k)=(l.drop i).take (x.From.toNat - i)++(((list.drop j).take (x.To.toNat - j)).map fun v=>⟨v,V6 p⟩)++(if k < ps.length then (l[x.From.toNat]?.map fun y=>(⟨y.Line,l6 y.Parents (V6 p)⟩:Merged)).toList++d9 l list (V6 p) (x.From.toNat+1) (x.To.toNat+1) (ps.drop (k+1)) else []):=by
     by_cases h:k < ps.length
     ·have hxk:x=ps[k]:=by rw [hx,J91,J88 h];rfl
      rw [J92 h,←hxk] at ha
      obtain ⟨a1,a2,a3⟩:=ha
      have a4:=a3.le
      refine ⟨a1,a2,by omega,by omega,fun _=>⟨by omega,by omega,a3⟩,?_⟩
      rw [J92 h,←hxk,if_pos h];rfl
     ·have hxk:x=⟨l.length,list.length⟩:=by rw [hx,J91,K20 (by omega)];rfl
      rw [hxk,if_neg h,J94 (show ps.length≤k by omega)]
      refine ⟨by simp only;omega,by simp only;omega,Int.le_refl _,Int.le_refl _,fun h'=>absurd h' h,?_⟩
      simp [d9]
    obtain ⟨hx1,hx2,hx3,hx4,hx5,hjg⟩:=hstep
    refine n9 [(0,C4 Merged 2 mergedC l),(1,C4 Int 1 H4 list),(2,B8 p),(10,C4 Span 2 spanC ps),(11,.s (.one (.buf 11 Merged 2 mergedC out))),(12,B8 i),(13,B8 j),(14,B8 k),(15,.s (.one (.ref 15 0)))] [(15,.box [.p (.v (.int .i64 x.From)),.p (.v (.int .i64 x.To))]),(11,.spare out.length 2 151)] ?_ ?_
    ·refine k2 (A2 (A3 Z Z (A3 Z Z (D9 Z Z (E1 Z Z Z (A4 ?_))))));refine k1 ?_;refine B3 rfl (fun ht=>?_) (fun ht=>?_)
     ·have hlt:k < ps.length:=by have:=A0 ht;omega
      have hv:ps[k]?=some ps[k]:=by simp [hlt]
      have:x=ps[k]:=by rw [hx,J91,hv];rfl
      subst this
      skip
      refine A2 (A3 Z Z (A3 Z Z (A6 (A8 Z (.pure _ _ _ _) Z (by omega) hv) Z (A6 (C8 Z Z) Z (E2 (B6 TySz.out Z Z Z Z Z Z) (A4 ?_))))));refine k1 ?_
      exact J58 ⟨le1 rfl,le1 rfl,le1 rfl,le1 rfl,le1 rfl,le1 rfl,le1 rfl,le1 rfl,le1 rfl,trivial⟩ ⟨rfl,rfl,trivial⟩
     ·have hlt:¬k < ps.length:=by have:=A1 ht;omega
      have:x=⟨l.length,list.length⟩:=by rw [hx,J91,K20 (by omega)];rfl
      subst this
      refine k5 (k1 ?_)
      exact J58 ⟨le1 rfl,le1 rfl,le1 rfl,le1 rfl,le1 rfl,le1 rfl,le1 rfl,le1 rfl,le1 rfl,trivial⟩ ⟨rfl,rfl,trivial⟩
    ·obtain ⟨f,hf⟩:∃f:Nat,x.From=f:=⟨x.From.toNat,by omega⟩
     obtain ⟨g,hg⟩:∃g:Nat,x.To=g:=⟨x.To.toNat,by omega⟩
     rw [hf] at hx1 hx3 hx5 hjg
     rw [hg] at hx2 hx4 hx5 hjg
     simp only [J97] at hjg
     rw [hf,hg]
     refine k2 (k3 ?_);refine D1 (X:=Nat) (fun t=>([(0,C4 Merged 2 mergedC l),(1,C4 Int 1 H4 list),(2,B8 p),(10,C4 Span 2 spanC ps),(11,.s (.one (.buf 11 Merged 2 mergedC (out++(l.drop i).take t)))),(12,B8 ((i+t:Nat):Int)),(13,B8 j),(14,B8 k),(15,.s (.one (.ref 15 0)))],[(15,.box [.p (.v (.int .i64 f)),.p (.v (.int .i64 g))]),(11,.spare (out++(l.drop i).take t).length 2 151)]))
      (fun t=>t≤f - i) (fun t=>f - i - t) 0 (Nat.zero_le _) (by rw [List.take_zero,K06];exact J58 ⟨le1 rfl,le1 rfl,le1 rfl,le1 rfl,le1 rfl,le1 rfl,le1 rfl,le1 rfl,le1 rfl,trivial⟩ ⟨rfl,rfl,trivial⟩) ?_
     intro t htl
     dsimp only at htl ⊢
     have hb1:(out++(l.drop i).take t).length≤i+j+t:=by simp;omega
     refine k2 (k2 (A2 (A3 Z Z (A6 (A5 Z) Z (D3 Z Z Z Z (E1 Z Z Z (A4 ?_)))))));refine k1 ?_;refine B3 rfl (fun ht=>?_) (fun ht=>?_)
     ·have hlt:i+t < f:=by have:=A0 ht;omega
      have hv:l[i+t]?=some (l[i+t]'(by omega)):=J88 (by omega)
      refine k5 (k1 (k3 (k2 (A2 (A3 Z Z (A3 Z Z (A3 Z Z (A6 (A8 Z (.pure _ _ _ _) Z (by omega) hv) Z (A6 (C8 Z Z) Z (A6 (C9 (c:=mergedC) (ys:=[⟨_,_⟩]) (D8 Z Z Z Z F1) Z Z Z) Z (C0 (F8 Z Z Z (.pure _ _ _ _) (by (simp only [J87,J89];omega)) Z) Z (A7 Z Z (A4 ?_)))))))))))));refine k1 (A2 (A3 Z Z (C7 Z Z Z (A7 Z Z (A4 ?_)))));refine k4 (k1 ?_);refine ⟨t+1,by omega,by omega,?_⟩
      rw [B93 l i t (by omega),←K01]
      exact J58 ⟨le1 rfl,le1 rfl,le1 rfl,le1 rfl,le1 rfl,le1 rfl,le1 rfl,le1 rfl,le1 rfl,trivial⟩ ⟨rfl,rfl,trivial⟩
     ·have hte:i+t=f:=by have:=A1 ht;omega
      rw [hte]
      rw [show t=f - i by omega]
      rw [show t=f - i by omega] at hb1
      obtain ⟨o1,ho1⟩:∃o1,o1=out++(l.drop i).take (f - i):=⟨_,rfl⟩
      rw [←ho1] at hb1 ⊢
      refine k6 (k2 (k3 ?_));refine D1 (X:=Nat) (fun t=>([(0,C4 Merged 2 mergedC l),(1,C4 Int 1 H4 list),(2,B8 p),(10,C4 Span 2 spanC ps),(11,.s (.one (.buf 11 Merged 2 mergedC (o1++((list.drop j).take t).map fun v=>⟨v,V6 p⟩)))),(12,B8 f),(13,B8 ((j+t:Nat):Int)),(14,B8 k),(15,.s (.one (.ref 15 0)))],[(15,.box [.p (.v (.int .i64 f)),.p (.v (.int .i64 g))]),(11,.spare (o1++((list.drop j).take t).map fun v=>(⟨v,V6 p⟩:Merged)).length 2 151)]))
       (fun t=>t≤g - j) (fun t=>g - j - t) 0 (Nat.zero_le _) (by rw [List.take_zero,K17,K06];exact J58 ⟨le1 rfl,le1 rfl,le1 rfl,le1 rfl,le1 rfl,le1 rfl,le1 rfl,le1 rfl,le1 rfl,trivial⟩ ⟨rfl,rfl,trivial⟩) ?_
      intro t htl
      dsimp only at htl ⊢
      have hb2:(o1++((list.drop j).take t).map fun v=>(⟨v,V6 p⟩:Merged)).length≤i+j+(f - i)+t:=by simp;omega
      refine k2 (k2 (A2 (A3 Z Z (A6 (A5 Z) Z (D3 Z Z Z Z (E1 Z Z Z (A4 ?_)))))));refine k1 ?_;refine B3 rfl (fun ht=>?_) (fun ht=>?_)
      ·have hlt:j+t < g:=by have:=A0 ht;omega
       have hv:list[j+t]?=some (list[j+t]'(by omega)):=J88 (by omega)
       refine k5 (k1 (k3 (k2 (A2 (A3 Z Z (A3 Z Z (A3 Z Z (A6 (A8 Z (.pure _ _ _ _) Z (by omega) hv) Z (A6 (B1 Z Z) Z (A3 Z Z (A6 (O0 Z) Z (A6 (I04 Z Z (by omega)) Z (A6 (E6 Z) Z (A6 (C9 (c:=mergedC) (ys:=[⟨_,_⟩]) (D8 Z Z Z Z F1) Z Z Z) Z (C0 (F8 Z Z Z (.pure _ _ _ _) (by (simp only [J87,J89];omega)) Z) Z (A7 Z Z (A4 ?_)))))))))))))))));refine k1 (A2 (A3 Z Z (C7 Z Z Z (A7 Z Z (A4 ?_)))));refine k4 (k1 ?_);refine ⟨t+1,by omega,by omega,?_⟩
       rw [B93 list j t (by omega),K00,←K01]
       simp only [J95,K17]
       exact J58 ⟨le1 rfl,le1 rfl,le1 rfl,le1 rfl,le1 rfl,le1 rfl,le1 rfl,le1 rfl,le1 rfl,trivial⟩ ⟨rfl,rfl,trivial⟩
      ·have hte:j+t=g:=by have:=A1 ht;omega
       rw [hte]
       rw [show t=g - j by omega]
       rw [show t=g - j by omega] at hb2
       obtain ⟨o2,ho2⟩:∃o2,o2=o1++((list.drop j).take (g - j)).map fun v=>(⟨v,V6 p⟩:Merged):=⟨_,rfl⟩
       rw [←ho2] at hb2 ⊢
       have hout:out++d9 l list (V6 p) i j (ps.drop k)=o2++(if k < ps.length then (l[f]?.map fun y=>(⟨y.Line,l6 y.Parents (V6 p)⟩:Merged)).toList++d9 l list (V6 p) (f+1) (g+1) (ps.drop (k+1)) else []):=by
        rw [hjg,ho2,ho1];simp only [K01]
       rw [hout] at hp
       refine k6 (k2 (A2 (A3 Z Z (A3 Z Z (D9 Z Z (E1 Z Z Z (A4 ?_)))))));refine k1 ?_;refine B3 rfl (fun ht=>?_) (fun ht=>?_)
       ·have hlt:k < ps.length:=by have:=A0 ht;omega
        obtain ⟨hf1,hg1,hasc'⟩:=hx5 hlt
        have hfl:f < l.length:=by omega
        have hv:l[f]?=some l[f]:=J88 hfl
        rw [if_pos hlt,hv] at hp
        refine k2 (C5 (by kernel_rfl) (by kernel_rfl) (C3 Z Z (C3 Z Z (C3 Z Z (A9 (A8 Z (.pure _ _ _ _) Z (by omega) hv) Z Z (A9 (C1 Z) Z Z (A9 (B1 Z Z) Z Z (C3 Z Z (C3 Z Z (A9 (A8 Z (.pure _ _ _ _) Z (by omega) hv) Z Z (A9 (C1 Z) Z Z (A9 (B1 Z Z) Z Z (C3 Z Z (A9 (O0 Z) Z Z (A9 (I04 Z Z (by omega)) Z Z (A9 (r9 Z Z Z (fun _=>rfl)) Z Z (A9 (E6 Z) Z Z (A9 (C9 (c:=mergedC) (ys:=[⟨l[f].Line,l6 l[f].Parents (V6 p)⟩]) (D8 Z Z Z Z F1) Z Z Z) Z Z (A96 (F8 Z Z Z (.pure _ _ _ _) (by (simp only [J87,J89];omega)) Z) Z Z (A9 (E0 Z Z) Z Z (G5 ?_)))))))))))))))))))));refine k1 (A2 (A3 Z Z (C7 Z Z Z (A3 Z Z (C7 Z Z Z (A7 Z Z (A7 Z Z (A4 ?_))))))));refine k4 (k1 (A2 (A3 Z Z (C7 Z Z Z (A7 Z Z (A4 ?_))))));refine k1 ?_;refine ⟨(k+1,f+1,g+1,o2++[⟨l[f].Line,l6 l[f].Parents (V6 p)⟩]),⟨by dsimp only;omega,by dsimp only;simp only [J86,J87,J89];omega,by dsimp only;omega,by dsimp only;omega,fun _=>⟨hasc',?_⟩,fun h=>?_⟩,by dsimp only;omega,J58 ⟨le1 rfl,le1 rfl,le1 rfl,le1 rfl,le1 rfl,le1 rfl,le1 rfl,le1 rfl,trivial⟩ ⟨rfl,trivial⟩⟩
        ·rw [←hp];simp
        ·dsimp only at h ⊢
         omega
       ·have hlt:¬k < ps.length:=by have:=A1 ht;omega
        rw [if_neg hlt,K06] at hp
        refine k5 (k4 (k1 (A2 (A3 Z Z (C7 Z Z Z (A7 Z Z (A4 ?_)))))));refine k1 ?_
        exact ⟨(k+1,f,g,o2),⟨by dsimp only;omega,by dsimp only;omega,by dsimp only;omega,by dsimp only;omega,fun h=>by dsimp only at h;omega,fun _=>hp⟩,by dsimp only;omega,J58 ⟨le1 rfl,le1 rfl,le1 rfl,le1 rfl,le1 rfl,le1 rfl,le1 rfl,le1 rfl,trivial⟩ ⟨rfl,trivial⟩⟩
   ·have hk':k=ps.length+1:=by have:=A1 ht;omega
    refine k6 (k2 (A2 (A3 Z Z (A7 Z Z (A7 Z Z (A4 ?_))))));refine k1 (k10 ?_)
    exact B4 (U7 rfl rfl rfl rfl rfl) (by rw [h2 hk',hps];rfl)
theorem F22 (l:List Merged) (list:List Int) (p:Int) (h1:l.length≤4096) (h2:list.length≤4096):(y4 l list p).length≤536870912:=by
 have h3:=C40 l list (V6 p) (H1 0 0 (N3 l) list) 0 0
 have h4:=d6 0 0 (N3 l) list
 have h5:(N3 l).length=l.length:=by simp [N3]
 unfold y4
 have h6:l.length*((H1 0 0 (N3 l) list).length+1)≤4096*4097:=Nat.mul_le_mul h1 (by omega)
 have h7:list.length*((H1 0 0 (N3 l) list).length+1)≤4096*4097:=Nat.mul_le_mul h2 (by omega)
 omega
theorem G70 (ls:List (List Int)):FnOk Tryz.prog 104 [pIntss ls] (fun rs=>rs=[pMerged (L3 ls).1,E5 (L3 ls).2]):=by
 refine FnOk.intro Tryz.func104 (by decide) Z Z Z Z ?_
 refine k2 (A2 (A7 Z Z (A7 Z Z (A4 ?_))));refine k1 (k2 (k2 (A2 (A3 Z Z (D9 Z Z (A6 (K9 Z Z) Z (A4 ?_)))))));refine k1 ?_;refine B3 rfl (fun ht=>?_) (fun ht=>?_)
 ·have h:=A0 ht
  refine k2 (A2 (A6 (K5 _ 2 mergedC) Z (A7 Z Z (A4 ?_))));refine k1 (k10 (k11 ?_))
  exact B4 (U7 rfl rfl rfl rfl rfl) (by rw [L3,if_pos (by omega)])
 ·have h:=A1 ht
  have hco:L3 ls=S0 [] 0 ls:=by rw [L3,if_neg (by omega)]
  rw [hco]
  refine k5 (k1 (k2 (A2 (A6 (K5 _ 2 mergedC) Z (A4 ?_)))));refine k1 (k2 (k2 (A2 (A7 Z Z (A4 ?_)))));refine k1 (k3 (D1 (X:=Nat × List Merged) (fun x=>([(0,C4 (List Int) 1 intsC ls),(4,C4 Merged 2 mergedC x.2),(5,B8 x.1)],[])) (fun x=>x.1≤ls.length∧x.2.length≤536870912∧S0 [] 0 ls=S0 x.2 x.1 (ls.drop x.1)) (fun x=>ls.length - x.1) (0,[]) (by simp) (J58 ⟨le1 rfl,le1 rfl,le1 rfl,trivial⟩ trivial) ?_))
  rintro ⟨k,acc⟩ ⟨hk,hacc,hp⟩
  dsimp only at hk hacc hp ⊢
  refine k2 (k2 (A2 (A3 Z Z (A3 Z Z (D9 Z Z (E1 Z Z Z (A4 ?_)))))));refine k1 ?_;refine B3 rfl (fun ht=>?_) (fun ht=>?_)
  ·have hlt:k < ls.length:=by have:=A0 ht;omega
   have hv:ls[k]?=some ls[k]:=by simp [hlt]
   rw [J92 hlt,S0] at hp
   by_cases hbig:4096 < acc.length∨4096 < ls[k].length
   ·rw [if_pos hbig] at hp
    refine k5 (k1 (k2 (k3 (k2 (A2 (A3 Z Z (A3 Z Z (A3 Z Z (A6 (A8 Z (.pure _ _ _ _) Z (by omega) hv) Z (A6 (B1 Z Z) Z (A3 Z Z (C2 ((F60 acc ls[k] k hacc).mono (post':=fun rs=>rs=[pMerged [],E5 1]) (fun rs h=>by rw [if_pos hbig] at h;exact h)) Z Z Z ?_))))))))))));rintro _ rfl;refine A3 Z Z (F5 Z Z Z (F5 Z Z Z (A7 Z Z (A7 Z Z (A4 ?_)))));refine k1 (k2 (k2 (A2 (A3 Z Z (A6 (H9 Z Z) Z (A4 ?_))))));refine k1 ?_;refine B3 rfl (fun ht=>?_) (fun ht=>?_)
    ·refine k2 (A2 (A3 Z Z (A6 (K5 _ 2 mergedC) Z (A7 Z Z (A4 ?_)))));refine k1 (k10 (k11 (k12 (k11 (k11 (k12 (k11 ?_)))))))
     exact B4 (U7 rfl rfl rfl rfl rfl) (by rw [hp])
    ·cases A1 ht (by decide)
   ·rw [if_neg hbig] at hp
    have hjl:=F22 acc ls[k] k (by omega) (by omega)
    refine k5 (k1 (k2 (k3 (k2 (A2 (A3 Z Z (A3 Z Z (A3 Z Z (A6 (A8 Z (.pure _ _ _ _) Z (by omega) hv) Z (A6 (B1 Z Z) Z (A3 Z Z (C2 ((F60 acc ls[k] k hacc).mono (post':=fun rs=>rs=[pMerged (y4 acc ls[k] k),E5 0]) (fun rs h=>by rw [if_neg hbig] at h;exact h)) Z Z Z ?_))))))))))));rintro _ rfl;refine A3 Z Z (F5 Z Z Z (F5 Z Z Z (A7 Z Z (A7 Z Z (A4 ?_)))));refine k1 (k2 (k2 (A2 (A3 Z Z (A6 (H9 Z Z) Z (A4 ?_))))));refine k1 ?_;refine B3 rfl (fun ht=>?_) (fun ht=>?_)
    ·cases A0 ht rfl
    ·refine k5 (k1 (A2 (A3 Z Z (A7 Z Z (A4 ?_)))));refine k4 (k1 (A2 (A3 Z Z (C7 Z Z Z (A7 Z Z (A4 ?_))))));refine k1 ?_
     exact ⟨(k+1,y4 acc ls[k] k),⟨by dsimp only;omega,hjl,hp⟩,by dsimp only;omega,J58 ⟨le1 rfl,le1 rfl,le1 rfl,trivial⟩ trivial⟩
  ·have hk':k=ls.length:=by have:=A1 ht;omega
   rw [hk',J94 (Nat.le_refl _)] at hp
   refine k6 (k2 (A2 (A3 Z Z (A7 Z Z (A7 Z Z (A4 ?_))))));refine k1 (k10 ?_)
   exact B4 (U7 rfl rfl rfl rfl rfl) (by rw [hp];rfl)
theorem u64_in {n:Int} (h:0≤n∧n < 18446744073709551616):IntKind.u64.wrap n=n:=by simp [IntKind.wrap,IntKind.signed,IntKind.bits];omega
def U9 (a n:Int):Int:=IntKind.u64.wrap a % n
theorem o8 (a:Int) {n:Int} (h:1≤n):0≤U9 a n∧U9 a n < n:=⟨Int.emod_nonneg _ (by omega),Int.emod_lt_of_pos _ (by omega)⟩
theorem C61 (a n:Int) (hn:1≤n) (hn':n≤9223372036854775807):FnOk Tryz.prog 18 [E5 a,E5 n] (fun rs=>rs=[E5 (U9 a n)]):=by
 refine FnOk.intro Tryz.func18 (by decide) Z Z Z Z ?_
 refine k2 (A2 (A7 Z Z (A4 ?_)));refine k1 (k2 ?_)
 have h1:IntKind.u64.wrap n=n:=u64_in (by omega)
 refine A2 (A3 Z Z (A6 (O0 Z) Z (A3 Z Z (A6 (O0 Z) Z (A6 (B69 Z Z (by (rw [h1];omega))) Z ?_)))));refine A6 (O0 Z) Z (A7 Z Z (A4 ?_));refine k1 (k10 (B4 (F3 Z Z Z) ?_))
 have h2:=C59 a
 have h3:(IntKind.u64.wrap a).tmod n=IntKind.u64.wrap a % n:=Int.tmod_eq_emod_of_nonneg h2
 have h4:=o8 a hn
 unfold U9 at *
 rw [h1,h3,D63 ⟨by omega,by omega⟩]
def xor64 (a b:Int):Int:=IntKind.u64.wrap ((BitVec.ofInt IntKind.u64.bits a ^^^ BitVec.ofInt IntKind.u64.bits b).toNat:Int)
def shr64 (a n:Int):Int:=a.fdiv (2 ^ (min n.toNat IntKind.u64.bits))
def at0 (k:Int):Int:=IntKind.u64.wrap (IntKind.u64.wrap (k+1)*11400714819323198485)
def at1 (raw:List Int) (k:Int):Int:=if 0 < raw.length then xor64 (at0 k) (IntKind.u64.wrap (raw.getD (k.tmod raw.length).toNat 0)) else at0 k
def at2 (x:Int):Int:=IntKind.u64.wrap (xor64 x (shr64 x 31)*13787848793156543929)
def x7 (raw:List Int) (k:Int):Int:=IntKind.i64.wrap (shr64 (xor64 (at2 (at1 raw k)) (shr64 (at2 (at1 raw k)) 29)) 1)
theorem F61 (raw:List Int) (k:Int) (h0:0≤k) (h1:k≤1099511627776):FnOk Tryz.prog 25 [M1 raw,E5 k] (fun rs=>rs=[E5 (x7 raw k)]):=by
 refine FnOk.intro Tryz.func25 (by decide) Z Z Z Z ?_
 refine A49 (t:=0) rfl (.pure _ _ _ _) fun hlen=>?_
 refine k2 (A2 (A7 Z Z (A4 ?_)));refine k1 (k2 (A2 (A3 Z Z (C7 Z Z Z (A6 (O0 Z) Z (A6 (F93 Z Z) Z (A7 Z Z (A4 ?_))))))));refine J3 ?_
 refine n9 [(0,C4 Int 1 H4 raw),(1,B8 k),(5,K4 (.int .u64 (at1 raw k)))] [] ?_ ?_
 ·refine k2 (A2 (A3 Z Z (D9 Z Z (A6 (K9 Z Z) Z (A4 ?_)))));refine k1 ?_;refine B3 rfl (fun ht=>?_) (fun ht=>?_)
  ·have hpos:0 < raw.length:=by have:=A0 ht;omega
   have hm0:0≤k.tmod raw.length:=Int.tmod_nonneg _ h0
   have hm1:k.tmod raw.length < raw.length:=Int.tmod_lt_of_pos _ (by omega)
   have hv:raw[(k.tmod raw.length).toNat]?=some (raw.getD (k.tmod raw.length).toNat 0):=by
    rw [J91,J88 (by omega)];rfl
   skip
   refine A2 (A3 Z Z (A3 Z Z (A3 Z Z (A3 Z Z (D9 Z Z (A6 (B69 Z Z (by omega)) Z (A6 (A8 Z (.pure _ _ _ _) Z (by omega) hv) Z (A6 (B1 Z Z) Z (A6 (O0 Z) Z (A6 (r9 Z Z Z (fun _=>rfl)) Z (A7 Z Z (A4 ?_))))))))))));refine k1 ?_
   rw [at1,if_pos hpos]
   exact J58 ⟨le1 rfl,le1 rfl,le1 rfl,trivial⟩ trivial
  ·have hpos:¬0 < raw.length:=by have:=A1 ht;omega
   refine k5 (k1 ?_)
   rw [at1,if_neg hpos]
   exact J58 ⟨le1 rfl,le1 rfl,le1 rfl,trivial⟩ trivial
 ·refine k2 (A2 (A3 Z Z (A3 Z Z (A6 (B59 Z Z (by omega)) Z (A6 (r9 Z Z Z (fun _=>rfl)) Z (A6 (F93 Z Z) Z (A7 Z Z (A4 ?_))))))));refine k1 (k2 (A2 (A3 Z Z (A3 Z Z (A6 (B59 Z Z (by omega)) Z (A6 (r9 Z Z Z (fun _=>rfl)) Z (A6 (B59 Z Z (by omega)) Z (A6 (O0 Z) Z (A7 Z Z (A4 ?_))))))))));refine k1 (k10 ?_)
  exact B4 (F3 rfl rfl rfl) rfl
def lineTab:List Str:=[[97],[98],[99],[97,98],[98,97],[],[97,97],[98,32,97],[120,43,121],[92]]
def A07 (k:Int):Str:=lineTab.getD (U9 k 10).toNat []
theorem G71:∀s∈lineTab,s.length≤3:=by decide
theorem B27 (k:Int):(A07 k).length≤3:=by
 unfold A07
 rw [J91]
 cases h:lineTab[(U9 k 10).toNat]? with
 | none=>simp
 | some s=>exact G71 s (K02 h)
theorem G72 (k:Int):FnOk Tryz.prog 24 [E5 k] (fun rs=>rs=[L6 (A07 k)]):=by
 refine FnOk.intro Tryz.func24 (by decide) Z Z Z Z ?_
 refine k2 (A2 (A7 Z Z (A4 ?_)));refine k1 (k2 ?_)
 have hm:=o8 k (n:=10) (by decide)
 have hv:lineTab[(U9 k 10).toNat]?=some (A07 k):=by
  unfold A07
  rw [J91,J88 (show (U9 k 10).toNat < lineTab.length by simp [lineTab];omega)];rfl
 refine A2 (A6 (C9 (c:=I0) (ys:=lineTab) (D8 Z Z Z Z (D8 Z Z Z Z (D8 Z Z Z Z (D8 Z Z Z Z (D8 Z Z Z Z (D8 Z Z Z Z (D8 Z Z Z Z (D8 Z Z Z Z (D8 Z Z Z Z (D8 Z Z Z Z F1)))))))))) Z Z Z) Z (A3 Z Z (C2 (C61 k 10 (by decide) (by decide)) Z Z Z ?_)));rintro _ rfl;refine A6 (A8 Z (.pure _ _ _ _) Z (by omega) hv) Z (A6 (B1 Z Z) Z (A7 Z Z (A4 ?_)));refine k1 (k10 ?_)
 exact B4 (F3 rfl rfl rfl) rfl
theorem H51 (fs:List (List Str)) (hfs:fs.flatten.length≤536870912) (hf1:fs.length≤536870912):FnOk Tryz.prog 101 [pStrss fs] (fun rs=>rs=[pIntss (fs.map (F0 (D2 fs)))]):=by
 refine FnOk.intro Tryz.func101 (by decide) Z Z Z Z ?_
 refine k2 (A2 (A7 Z Z (A4 ?_)));refine k1 (k2 (A2 (A3 Z Z (C2 (G69 fs hfs) Z Z Z ?_))));rintro _ rfl;refine A7 Z Z (A4 ?_);refine k1 (k2 (A2 (C0 (R7 4 _ intsC Z) Z (A4 ?_))));refine k1 (k2 (k2 (A2 (A7 Z Z (A4 ?_)))));refine k1 (k3 (D1 (X:=Nat) (fun f=>([(0,C4 (List Str) 1 strsC fs),(3,C4 Str 1 I0 (D2 fs)),(4,.s (.one (.buf 4 (List Int) 1 intsC ((fs.take f).map (F0 (D2 fs)))))),(5,B8 f)],[(4,.spare ((fs.take f).map (F0 (D2 fs))).length 1 25)])) (fun f=>f≤fs.length) (fun f=>fs.length - f) 0 (by simp) (J58 ⟨le1 rfl,le1 rfl,le1 rfl,le1 rfl,trivial⟩ ⟨rfl,trivial⟩) ?_))
 intro f hf
 dsimp only at hf ⊢
 refine k2 (k2 (A2 (A3 Z Z (A3 Z Z (D9 Z Z (E1 Z Z Z (A4 ?_)))))));refine k1 ?_
 have hfl:((fs.take f).map (F0 (D2 fs))).length=f:=by simp;omega
 refine B3 rfl (fun ht=>?_) (fun ht=>?_)
 ·have hlt:f < fs.length:=by have:=A0 ht;omega
  have hv:fs[f]?=some fs[f]:=by simp [hlt]
  have hle:=T7 fs (f+1)
  rw [S9 fs f hlt,J86] at hle
  refine k5 (k1 (k2 (k3 (k2 (A2 (C0 (s5 16 (c:=H4) (ys:=[]) F1 Z Z Z (by first | rfl | (simp [I1,J8,Ob.free,SV.free,S1.free,TC.free]<;>rfl))) Z ?_))))));refine A7 Z Z (A4 ?_);refine k1 (k2 (k2 (A2 (A7 Z Z (A4 ?_)))));refine k1 (k3 (D1 (X:=Nat) (fun i=>([(0,C4 (List Str) 1 strsC fs),(3,C4 Str 1 I0 (D2 fs)),(4,.s (.one (.buf 4 (List Int) 1 intsC ((fs.take f).map (F0 (D2 fs)))))),(5,B8 f),(6,.s (.one (.buf 16 Int 1 H4 (F0 (D2 fs) (fs[f].take i))))),(7,B8 i)],[(4,.spare ((fs.take f).map (F0 (D2 fs))).length 1 25),(16,.spare (F0 (D2 fs) (fs[f].take i)).length 1 3)])) (fun i=>i≤fs[f].length) (fun i=>fs[f].length - i) 0 (by simp) (J58 ⟨le1 rfl,le1 rfl,le1 rfl,le1 rfl,le1 rfl,le1 rfl,trivial⟩ ⟨rfl,rfl,trivial⟩) ?_))
  intro i hi
  dsimp only at hi ⊢
  have hil:(F0 (D2 fs) (fs[f].take i)).length=i:=by simp [F0];omega
  refine k2 (k2 (A2 (A3 Z Z (A3 Z Z (A3 Z Z (A6 (A8 Z (.pure _ _ _ _) Z (by omega) hv) Z (A6 (B1 Z Z) Z (D9 Z Z (E1 Z Z Z (A4 ?_))))))))));refine k1 ?_;refine B3 rfl (fun ht=>?_) (fun ht=>?_)
  ·have hlt2:i < fs[f].length:=by have:=A0 ht;omega
   have hvi:fs[f][i]?=some fs[f][i]:=by simp [hlt2]
   have hst:F0 (D2 fs) (fs[f].take (i+1))=F0 (D2 fs) (fs[f].take i)++[J6 (D2 fs) fs[f][i] 0]:=by
    unfold F0;rw [List.take_add_one,hvi,Option.toList_some,K00];rfl
   refine k5 (k1 (k2 (k3 (A2 (A3 Z Z (A3 Z Z (A3 Z Z (A3 Z Z (A6 (A8 Z (.pure _ _ _ _) Z (by omega) hv) Z (A6 (B1 Z Z) Z (A3 Z Z (A6 (A8 Z (.pure _ _ _ _) Z (by omega) hvi) Z (A6 (B1 Z Z) Z (C2 (G68 _ _) Z Z Z ?_))))))))))))));rintro _ rfl;refine A6 (C9 (c:=H4) (ys:=[_]) (D8 Z Z Z Z F1) Z Z Z) Z (C0 (F8 Z Z Z (.pure _ _ _ _) (by (simp only [J87,J89];omega)) Z) Z (A7 Z Z (A4 ?_)));refine k4 (k1 (A2 (A3 Z Z (C7 Z Z Z (A7 Z Z (A4 ?_))))));refine k1 ?_;refine ⟨i+1,by omega,by omega,?_⟩
   rw [hst]
   exact J58 ⟨le1 rfl,le1 rfl,le1 rfl,le1 rfl,le1 rfl,le1 rfl,trivial⟩ ⟨rfl,rfl,trivial⟩
  ·have hi':i=fs[f].length:=by have:=A1 ht;omega
   have hst:(fs.take (f+1)).map (F0 (D2 fs))=(fs.take f).map (F0 (D2 fs))++[F0 (D2 fs) (fs[f].take i)]:=by
    rw [List.take_add_one,hv,Option.toList_some,K00,hi',J98];rfl
   refine k6 (k7 (k7 (k8 Z (k1 (A2 (A3 Z Z (A3 Z Z (A6 (C9 (c:=intsC) (ys:=[_]) (D8 Z Z Z Z F1) Z Z Z) Z (C0 (F8 Z Z Z (.pure _ _ _ _) (by (simp only [J87,J89];omega)) Z) Z (A7 Z Z (A4 ?_)))))))))));refine k4 (k1 (A2 (A3 Z Z (C7 Z Z Z (A7 Z Z (A4 ?_))))));refine k1 ?_;refine ⟨f+1,by omega,by omega,?_⟩
   rw [hst]
   exact J58 ⟨le1 rfl,le1 rfl,le1 rfl,le1 rfl,trivial⟩ ⟨rfl,trivial⟩
 ·have hk':f=fs.length:=by have:=A1 ht;omega
  subst hk'
  refine k6 (k2 (A2 (A3 Z Z (A7 Z Z (A4 ?_)))));refine k1 (k10 ?_)
  exact B4 (F3 rfl rfl rfl) (by rw [J98])
def W2 (raw:List Int) (from':Int) (kinds:Int) (m:Nat):Str:=((List.range m).map fun (i:Nat)=>A07 (U9 (x7 raw (from'+1+(i:Int))) kinds)++[10]).flatten
def d8 (raw:List Int) (from' n kinds:Int):Str :=
 let s:=W2 raw from' kinds (U9 (x7 raw from') (n+1)).toNat
 if ((x7 raw (from'+90)).tmod 4=0∧(1:Int) < s.length)∧((s.getD (s.length - 2) 0).toNat:Int)≠10 then s.take (s.length - 1) else s
theorem A69 (raw:List Int) (from' kinds:Int) (m:Nat):W2 raw from' kinds (m+1)=W2 raw from' kinds m++A07 (U9 (x7 raw (from'+1+(m:Int))) kinds)++[10]:=by
 unfold W2;rw [K30,K00,K04];simp
theorem C36 (raw:List Int) (from' kinds:Int) (m:Nat):(W2 raw from' kinds m).length≤4*m:=by
 induction m with
 | zero=>simp [W2]
 | succ m ih=>have:=B27 (U9 (x7 raw (from'+1+(m:Int))) kinds);rw [A69];simp only [J86,J87,J89];omega
theorem I17 (raw:List Int) (from' n kinds:Int) (h0:0≤from'∧from'≤1073741824) (h1:0≤n∧n≤1048576) (h2:1≤kinds∧kinds≤1048576) :
  FnOk Tryz.prog 64 [M1 raw,E5 from',E5 n,E5 kinds] (fun rs=>rs=[L6 (d8 raw from' n kinds)]):=by
 obtain ⟨m,hm⟩:∃m:Nat,U9 (x7 raw from') (n+1)=m:=⟨(U9 (x7 raw from') (n+1)).toNat,by have:=o8 (x7 raw from') (n:=n+1) (by omega);omega⟩
 have hmi:=o8 (x7 raw from') (n:=n+1) (by omega)
 have hml:m≤1048576:=by omega
 refine FnOk.intro Tryz.func64 (by decide) Z Z Z Z ?_
 refine k2 (A2 (A7 Z Z (A4 ?_)));refine k1 (k2 (A2 (A3 Z Z (A3 Z Z (C2 (F61 raw from' (by omega) (by omega)) Z Z Z ?_)))));rintro _ rfl;refine A3 Z Z (C7 Z Z Z (C2 (C61 _ (n+1) (by omega) (by omega)) Z Z Z ?_));rintro _ rfl;refine A7 Z Z (A4 ?_);refine k1 (k2 ?_)
 rw [hm]
 refine A2 (A7 Z Z (A4 ?_));refine k1 (k2 (k2 (A2 (A7 Z Z (A4 ?_)))));refine k1 (k3 (D1 (X:=Nat) (fun i=>([(0,C4 Int 1 H4 raw),(1,B8 from'),(2,B8 m),(3,B8 kinds),(9,U3 (W2 raw from' kinds i)),(10,B8 i)],[])) (fun i=>i≤m) (fun i=>m - i) 0 (Nat.zero_le _) (J58 ⟨le1 rfl,le1 rfl,le1 rfl,le1 rfl,le1 rfl,le1 rfl,trivial⟩ trivial) ?_))
 intro i hi
 dsimp only at hi ⊢
 have hbl:=C36 raw from' kinds i
 refine k2 (k2 (A2 (A3 Z Z (A3 Z Z (E1 Z Z Z (A4 ?_))))));refine k1 ?_;refine B3 rfl (fun ht=>?_) (fun ht=>?_)
 ·have hlt:i < m:=by have:=A0 ht;omega
  have hll:=B27 (U9 (x7 raw (from'+1+(i:Int))) kinds)
  refine k5 (k1 (k2 (k3 (A2 (A3 Z Z (A3 Z Z (A3 Z Z (C7 Z Z Z (A3 Z Z (C7 Z Z Z (C2 (F61 raw _ (by omega) (by omega)) Z Z Z ?_)))))))))));rintro _ rfl;refine A3 Z Z (C2 (C61 _ kinds (by omega) (by omega)) Z Z Z ?_);rintro _ rfl;refine C2 (G72 _) Z Z Z ?_;rintro _ rfl;refine A6 (E9 Z Z (by omega)) Z (A6 (E9 Z Z (by (simp only [J86,J87,J89];omega))) Z (A7 Z Z (A4 ?_)));refine k4 (k1 (A2 (A3 Z Z (C7 Z Z Z (A7 Z Z (A4 ?_))))));refine k1 ?_;refine ⟨i+1,by omega,by omega,?_⟩
  rw [A69]
  exact J58 ⟨le1 rfl,le1 rfl,le1 rfl,le1 rfl,le1 rfl,le1 rfl,trivial⟩ trivial
 ·have hi':i=m:=by have:=A1 ht;omega
  subst hi'
  obtain ⟨s,hs⟩:∃s,s=W2 raw from' kinds i:=⟨_,rfl⟩
  have hv:(1:Int) < s.length→s[((s.length:Int) - 2).toNat]?=some (s.getD (s.length - 2) 0):=fun h=>by
   rw [show ((s.length:Int) - 2).toNat=s.length - 2 by omega,J91,J88 (by omega)];rfl
  have hbo:d8 raw from' n kinds=if ((x7 raw (from'+90)).tmod 4=0∧(1:Int) < s.length)∧((s.getD (s.length - 2) 0).toNat:Int)≠10 then s.take (s.length - 1) else s:=by
   simp only [d8,hm,J97,←hs]
  rw [←hs] at hbl
  refine k6 (k2 (k2 ?_))
  rw [←hs]
  refine A2 (A3 Z Z (A3 Z Z (C7 Z Z Z (C2 (F61 raw _ (by omega) (by omega)) Z Z Z ?_))));rintro _ rfl;refine A6 (B69 Z Z (by omega)) Z (A6 (J7 Z Z) Z (A3 Z Z (B0 Z Z Z Z (fun hg=>by rw [hg];exact B5 Z Z) ?_)));refine B0 Z Z Z Z (fun hg=>by rw [hg];exact K6 Z) ?_;refine B0 Z Z Z Z (fun hg=>by rw [hg];exact K9 Z Z) ?_;refine F2 Z Z ?_;refine A3 Z Z (B0 Z Z Z Z (fun hg=>by rw [hg];exact B5 Z Z) ?_);refine B0 Z Z Z Z (fun hg=>by rw [hg];exact B5 Z Z) ?_;refine B0 Z Z Z Z (fun hg=>by rw [hg];exact K6 Z) ?_;refine B0 Z Z Z Z (fun hg=>by have hq:=hg;(try simp at hq);rw [hg];exact I5 Z Z (by omega)) ?_;refine B0 Z Z Z Z (fun hg=>by have hq:=hg;(try simp at hq);rw [hg];exact u0 Z Z (by omega) (hv (by omega))) ?_;refine B0 Z Z Z Z (fun hg=>by rw [hg];exact H9 Z Z) ?_;refine F2 Z Z ?_;refine A4 ?_;refine k1 ?_;refine B3 rfl (fun ht=>?_) (fun ht=>?_)
  ·simp only [L5] at ht
   have h:=A0 ht
   skip
   refine A2 (A3 Z Z (A3 Z Z (A6 (K6 Z) Z (A6 (I5 Z Z (by omega)) Z (A6 (I07 Z Z (by omega) (by omega)) Z (A7 Z Z (A4 ?_)))))));refine k1 (k2 (A2 (A3 Z Z (A7 Z Z (A4 ?_)))));refine k1 (k10 ?_)
   exact B4 (F3 rfl rfl rfl) (by rw [hbo,if_pos h,show ((s.length:Int) - 1).toNat=s.length - 1 by omega])
  ·simp only [L5] at ht
   have h:=A1 ht
   refine k5 (k1 (k2 (A2 (A3 Z Z (A7 Z Z (A4 ?_))))));refine k1 (k10 ?_)
   exact B4 (F3 rfl rfl rfl) (by rw [hbo,if_neg h])
theorem C62 (raw:List Int) (from' n kinds:Int) (h1:0≤n):((d8 raw from' n kinds).length:Int)≤4*n:=by
 have h:=o8 (x7 raw from') (n:=n+1) (by omega)
 have h2:=C36 raw from' kinds (U9 (x7 raw from') (n+1)).toNat
 unfold d8
 simp only
 split
 ·simp only [K03];omega
 ·omega
def x8 (raw:List Int) (from':Int) (i:Nat) (s:Str):List Str→Str
 | []=>s
 | x::r=>if (x7 raw (from'+(i:Int))).tmod 6=0 then x8 raw from' (i+1) s r
  else if (x7 raw (from'+(i:Int))).tmod 6=1 then x8 raw from' (i+1) (s++A07 (x7 raw (from'+40+(i:Int)))++[10]++x) r
  else x8 raw from' (i+1) (s++x) r
def C63 (blob:Str) (raw:List Int) (from':Int):Str:=x8 raw from' 0 [] (D5 blob)
theorem B28 (raw:List Int) (from':Int):∀(l:List Str) (i:Nat) (s:Str),(x8 raw from' i s l).length≤s.length+l.flatten.length+4*l.length
 | [],i,s=>by simp [x8]
 | x::r,i,s=>by
  have h1:=B28 raw from' r (i+1) s
  have h2:=B28 raw from' r (i+1) (s++A07 (x7 raw (from'+40+(i:Int)))++[10]++x)
  have h3:=B28 raw from' r (i+1) (s++x)
  have h4:=B27 (x7 raw (from'+40+(i:Int)))
  simp only [J86,J87,J89,J99] at *
  unfold x8
  split
  ·omega
  ·split<;>omega
theorem D46 (s cur:Str):(H0 cur s).flatten=cur++s:=by
 induction s generalizing cur with
 | nil=>unfold H0;split<;>simp [*]
 | cons c r ih=>unfold H0;split<;>simp [ih]
theorem b9 (s:Str):(D5 s).flatten=s:=D46 s []
theorem near_ok (blob:Str) (raw:List Int) (from':Int) (hb:blob.length≤16777216) (h0:0≤from'∧from'≤1073741824) :
  FnOk Tryz.prog 26 [L6 blob,M1 raw,E5 from'] (fun rs=>rs=[L6 (C63 blob raw from')]):=by
 have hll:=V0 blob
 have hlf:=b9 blob
 have hlf':(D5 blob).flatten.length=blob.length:=by rw [hlf]
 refine FnOk.intro Tryz.func26 (by decide) Z Z Z Z ?_
 refine k2 (A2 (A7 Z Z (A4 ?_)));refine k1 (k2 (A2 (A3 Z Z (C2 (B86 blob (by omega)) Z Z Z ?_))));rintro _ rfl;refine A7 Z Z (A4 ?_);refine k1 (k2 ?_)
 obtain ⟨l,hl⟩:∃l,l=D5 blob:=⟨_,rfl⟩
 have hno:C63 blob raw from'=x8 raw from' 0 [] l:=by rw [C63,hl]
 rw [←hl] at hll hlf' ⊢
 refine A2 (A7 Z Z (A4 ?_));refine k1 (k2 (k2 (A2 (A7 Z Z (A4 ?_)))));refine k1 (k3 (D1 (X:=Nat × Str) (fun x=>([(1,C4 Int 1 H4 raw),(2,B8 from'),(7,C4 Str 1 I0 l),(8,U3 x.2),(9,B8 x.1)],[])) (fun x=>x.1≤l.length∧x.2.length≤(l.take x.1).flatten.length+4*x.1∧x8 raw from' x.1 x.2 (l.drop x.1)=x8 raw from' 0 [] l) (fun x=>l.length - x.1) (0,[]) (by simp) (J58 ⟨le1 rfl,le1 rfl,le1 rfl,le1 rfl,le1 rfl,trivial⟩ trivial) ?_))
 rintro ⟨i,s⟩ ⟨hi,hs,hp⟩
 dsimp only at hi hs hp ⊢
 have hle:=T7 l i
 refine k2 (k2 (A2 (A3 Z Z (A3 Z Z (D9 Z Z (E1 Z Z Z (A4 ?_)))))));refine k1 ?_;refine B3 rfl (fun ht=>?_) (fun ht=>?_)
 ·have hlt:i < l.length:=by have:=A0 ht;omega
  have hv:l[i]?=some l[i]:=by simp [hlt]
  have hle2:=T7 l (i+1)
  have hst:=S9 l i hlt
  rw [hst,J86] at hle2
  rw [J92 hlt,x8] at hp
  refine k5 (k1 (k2 (k3 (k2 (k2 (A2 (A3 Z Z (A3 Z Z (A3 Z Z (C7 Z Z Z (C2 (F61 raw _ (by omega) (by omega)) Z Z Z ?_)))))))))));rintro _ rfl;refine A6 (B69 Z Z (by omega)) Z (A4 ?_);refine k1 (k3 (k2 (A2 (A6 (J7 Z Z) Z (A7 Z Z (A4 ?_))))));refine k1 ?_;refine B3 rfl (fun ht=>?_) (fun ht=>?_)
  ·rw [if_pos (A0 ht)] at hp
   refine k6 (k9 Z (k7 (k8 Z (k1 (A2 (A3 Z Z (C7 Z Z Z (A7 Z Z (A4 ?_)))))))));refine k1 ?_
   exact ⟨(i+1,s),⟨by dsimp only;omega,by dsimp only;rw [hst,J86];omega,hp⟩,by dsimp only;omega,J58 ⟨le1 rfl,le1 rfl,le1 rfl,le1 rfl,le1 rfl,trivial⟩ trivial⟩
  ·rw [if_neg (A1 ht)] at hp
   refine k2 (A2 (A6 (J7 Z Z) Z (A7 Z Z (A4 ?_))));refine k1 ?_;refine B3 rfl (fun ht=>?_) (fun ht=>?_)
   ·rw [if_pos (A0 ht)] at hp
    have h4:=B27 (x7 raw (from'+40+(i:Int)))
    skip
    refine A2 (A3 Z Z (A3 Z Z (A3 Z Z (C7 Z Z Z (A3 Z Z (C7 Z Z Z (C2 (F61 raw _ (by omega) (by omega)) Z Z Z ?_)))))));rintro _ rfl;refine C2 (G72 _) Z Z Z ?_;rintro _ rfl;refine A6 (E9 Z Z (by omega)) Z (A6 (E9 Z Z (by (simp only [J86,J87,J89];omega))) Z (A7 Z Z (A4 ?_)));refine k4 (k1 (A2 (A3 Z Z (A3 Z Z (A3 Z Z (A6 (A8 Z (.pure _ _ _ _) Z (by omega) hv) Z (A6 (B1 Z Z) Z (A6 (E9 Z Z (by (simp only [J86,J87,J89];omega))) Z (A7 Z Z (A4 ?_))))))))));refine k4 (k1 (A2 (A3 Z Z (C7 Z Z Z (A7 Z Z (A4 ?_))))));refine k1 ?_
    exact ⟨(i+1,s++A07 (x7 raw (from'+40+(i:Int)))++[10]++l[i]),⟨by dsimp only;omega,by dsimp only;rw [hst];simp only [J86,J87,J89];omega,hp⟩,by dsimp only;omega,J58 ⟨le1 rfl,le1 rfl,le1 rfl,le1 rfl,le1 rfl,trivial⟩ trivial⟩
   ·rw [if_neg (A1 ht)] at hp
    refine k5 (k4 (k1 (A2 (A3 Z Z (A3 Z Z (A3 Z Z (A6 (A8 Z (.pure _ _ _ _) Z (by omega) hv) Z (A6 (B1 Z Z) Z (A6 (E9 Z Z (by omega)) Z (A7 Z Z (A4 ?_)))))))))));refine k4 (k1 (A2 (A3 Z Z (C7 Z Z Z (A7 Z Z (A4 ?_))))));refine k1 ?_
    exact ⟨(i+1,s++l[i]),⟨by dsimp only;omega,by dsimp only;rw [hst,J86,J86];omega,hp⟩,by dsimp only;omega,J58 ⟨le1 rfl,le1 rfl,le1 rfl,le1 rfl,le1 rfl,trivial⟩ trivial⟩
 ·have hi':i=l.length:=by have:=A1 ht;omega
  rw [hi',J94 (Nat.le_refl _)] at hp
  refine k6 (k2 (A2 (A3 Z Z (A7 Z Z (A4 ?_)))));refine k1 (k10 ?_)
  exact B4 (F3 rfl rfl rfl) (by rw [hno,←hp];rfl)
def A08 (raw:List Int) (lines:Int) (p:Nat):Str :=
 if (x7 raw (500+(p:Int))).tmod 5=0 then d8 raw (600+50*(p:Int)) lines 4 else if (x7 raw (500+(p:Int))).tmod 5=1 then d8 raw 0 lines 5 else C63 (d8 raw 0 lines 5) raw (600+50*(p:Int))
def n5 (raw:List Int) (n:Nat) (lines:Int):List Str:=(List.range n).map (A08 raw lines)
theorem E61 (raw:List Int) (lines:Int) (p:Nat) (h:0≤lines):((A08 raw lines p).length:Int)≤20*lines:=by
 have h1:=C62 raw (600+50*(p:Int)) lines 4 h
 have h2:=C62 raw 0 lines 5 h
 have h3:=B28 raw (600+50*(p:Int)) (D5 (d8 raw 0 lines 5)) 0 []
 have h4:=V0 (d8 raw 0 lines 5)
 rw [b9] at h3
 simp only [J89] at h3
 unfold A08 C63
 split
 ·omega
 ·split<;>omega
theorem J23 (raw:List Int) (n:Nat) (lines:Int) (h1:n≤1024) (h2:0≤lines∧lines≤524288):FnOk Tryz.prog 61 [M1 raw,E5 n,E5 lines] (fun rs=>rs=[Z9 (n5 raw n lines)]):=by
 have hfl:=C62 raw 0 lines 5 h2.1
 refine FnOk.intro Tryz.func61 (by decide) Z Z Z Z ?_
 refine k2 (A2 (A7 Z Z (A4 ?_)));refine k1 (k2 (A2 (A3 Z Z (A3 Z Z (C2 (I17 raw 0 lines 5 (by omega) (by omega) (by omega)) Z Z Z ?_)))));rintro _ rfl;refine A7 Z Z (A4 ?_);refine k1 (k2 (A2 (C0 (s5 13 (c:=I0) (ys:=[]) F1 Z Z Z (by first | rfl | (simp [I1,J8,Ob.free,SV.free,S1.free,TC.free]<;>rfl))) Z ?_)));refine A7 Z Z (A4 ?_);refine k1 (k2 (k2 (A2 (A7 Z Z (A4 ?_)))));refine k1 (k3 (D1 (X:=Nat) (fun p=>([(0,C4 Int 1 H4 raw),(1,B8 n),(2,B8 lines),(7,U3 (d8 raw 0 lines 5)),(8,.s (.one (.buf 13 Str 1 I0 (n5 raw p lines)))),(9,B8 p)],[(13,.spare (n5 raw p lines).length 1 9)])) (fun p=>p≤n) (fun p=>n - p) 0 (Nat.zero_le _) (J58 ⟨le1 rfl,le1 rfl,le1 rfl,le1 rfl,le1 rfl,le1 rfl,trivial⟩ ⟨rfl,trivial⟩) ?_))
 intro p hp
 dsimp only at hp ⊢
 have hst:n5 raw (p+1) lines=n5 raw p lines++[A08 raw lines p]:=by unfold n5;rw [K30,K00];rfl
 have hbl:(n5 raw p lines).length=p:=by simp [n5]
 refine k2 (k2 (A2 (A3 Z Z (A3 Z Z (E1 Z Z Z (A4 ?_))))));refine k1 ?_;refine B3 rfl (fun ht=>?_) (fun ht=>?_)
 ·have hlt:p < n:=by have:=A0 ht;omega
  refine k5 (k1 (k2 (k3 (k2 (A2 (A3 Z Z (A3 Z Z (C7 Z Z Z (C2 (F61 raw _ (by omega) (by omega)) Z Z Z ?_)))))))));rintro _ rfl;refine A6 (B69 Z Z (by omega)) Z (A4 ?_);refine k1 (k3 (k2 (A2 (A6 (J7 Z Z) Z (A7 Z Z (A4 ?_))))));refine k1 ?_;refine B3 rfl (fun ht=>?_) (fun ht=>?_)
  ·have hb:A08 raw lines p=d8 raw (600+50*(p:Int)) lines 4:=by rw [A08,if_pos (A0 ht)]
   skip
   refine A2 (A3 Z Z (A3 Z Z (A3 Z Z (A6 (B68 Z Z (by omega)) Z (C7 Z Z Z (A3 Z Z (C2 (I17 raw _ lines 4 (by omega) (by omega) (by omega)) Z Z Z ?_)))))));rintro _ rfl;refine A6 (C9 (c:=I0) (ys:=[_]) (D8 Z Z Z Z F1) Z Z Z) Z (C0 (F8 Z Z Z (.pure _ _ _ _) (by (simp only [J87,J89];omega)) Z) Z (A7 Z Z (A4 ?_)));refine k4 (k4 (k1 (A2 (A3 Z Z (C7 Z Z Z (A7 Z Z (A4 ?_)))))));refine k1 ?_;refine ⟨p+1,by omega,by omega,?_⟩
   rw [hst,hb]
   exact J58 ⟨le1 rfl,le1 rfl,le1 rfl,le1 rfl,le1 rfl,le1 rfl,trivial⟩ ⟨rfl,trivial⟩
  ·have h5:=A1 ht
   refine k2 (A2 (A6 (J7 Z Z) Z (A7 Z Z (A4 ?_))));refine k1 ?_;refine B3 rfl (fun ht=>?_) (fun ht=>?_)
   ·have hb:A08 raw lines p=d8 raw 0 lines 5:=by rw [A08,if_neg h5,if_pos (A0 ht)]
    skip
    refine A2 (A3 Z Z (A3 Z Z (A6 (C9 (c:=I0) (ys:=[_]) (D8 Z Z Z Z F1) Z Z Z) Z (C0 (F8 Z Z Z (.pure _ _ _ _) (by (simp only [J87,J89];omega)) Z) Z (A7 Z Z (A4 ?_))))));refine k4 (k4 (k1 (A2 (A3 Z Z (C7 Z Z Z (A7 Z Z (A4 ?_)))))));refine k1 ?_;refine ⟨p+1,by omega,by omega,?_⟩
    rw [hst,hb]
    exact J58 ⟨le1 rfl,le1 rfl,le1 rfl,le1 rfl,le1 rfl,le1 rfl,trivial⟩ ⟨rfl,trivial⟩
   ·have hb:A08 raw lines p=C63 (d8 raw 0 lines 5) raw (600+50*(p:Int)):=by rw [A08,if_neg h5,if_neg (A1 ht)]
    skip
    refine A2 (A3 Z Z (A3 Z Z (A3 Z Z (A3 Z Z (A6 (B68 Z Z (by omega)) Z (C7 Z Z Z (C2 (near_ok _ raw _ (by omega) (by omega)) Z Z Z ?_)))))));rintro _ rfl;refine A6 (C9 (c:=I0) (ys:=[_]) (D8 Z Z Z Z F1) Z Z Z) Z (C0 (F8 Z Z Z (.pure _ _ _ _) (by (simp only [J87,J89];omega)) Z) Z (A7 Z Z (A4 ?_)));refine k4 (k4 (k1 (A2 (A3 Z Z (C7 Z Z Z (A7 Z Z (A4 ?_)))))));refine k1 ?_;refine ⟨p+1,by omega,by omega,?_⟩
    rw [hst,hb]
    exact J58 ⟨le1 rfl,le1 rfl,le1 rfl,le1 rfl,le1 rfl,le1 rfl,trivial⟩ ⟨rfl,trivial⟩
 ·have hp':p=n:=by have:=A1 ht;omega
  refine k6 (k2 (A2 (A3 Z Z (A7 Z Z (A4 ?_)))));refine k1 (k10 ?_)
  exact B4 (F3 rfl rfl rfl) (by rw [hp'])
theorem G06 (r:Row) (c:Int) (hr:0≤r.Marks∧r.Marks < 4294967296):FnOk Tryz.prog 50 [pRow r,E5 c] (fun rs=>rs=[I8 (i6 r c)]):=by
 refine FnOk.intro Tryz.func50 (by decide) Z Z Z Z ?_
 refine k2 (A2 (C0 (M2 2 Z Z Z) Z (A7 Z Z (A4 ?_))));refine k1 (k2 (k3 (k2 (A2 (A3 Z Z (A6 (J7 Z Z) Z (A7 Z Z (A4 ?_))))))));refine k1 ?_;refine B3 rfl (fun ht=>?_) (fun ht=>?_)
 ·have h:=A0 ht
  refine k2 (A2 (A6 (A5 Z) Z (D3 Z Z Z Z (L7 Z Z (A7 Z Z (A4 ?_))))));refine k1 (k10 (k12 (k11 ?_)))
  exact B4 (F3 rfl rfl rfl) (by rw [i6,if_pos h])
 ·have h:=A1 ht
  refine k2 (A2 (A3 Z Z (E1 Z Z Z (A3 Z Z (B0 Z Z Z Z (fun hg=>by rw [hg];exact B5 Z Z) ?_)))));refine B0 Z Z Z Z (fun hg=>by rw [hg];exact i8 Z Z) ?_;refine F2 Z Z ?_;refine A7 Z Z (A4 ?_);refine k1 ?_;refine B3 rfl (fun ht=>?_) (fun ht=>?_)
  ·have h2:=A0 (or_pick.symm.trans ht)
   refine k2 (A2 (A7 Z Z (A4 ?_)));refine k1 (k10 (k12 (k11 ?_)))
   exact B4 (F3 rfl rfl rfl) (by rw [i6,if_neg h,if_pos h2])
  ·have h2:=A1 (or_pick.symm.trans ht)
   have hc:0≤c∧c < 32:=by omega
   refine k5 (k2 (A2 (A6 (A5 Z) Z (D3 Z Z Z Z (A3 Z Z (A6 (O0 Z) Z (A6 (B59 Z Z (by (rw [C71 (by omega)];omega))) Z ?_)))))));refine A6 (r9 Z Z Z (fun _=>rfl)) Z (A6 (J7 Z Z) Z (A6 (A5 Z) Z (D3 Z Z Z Z (A6 (I05 Z Z TyBool.out) Z (A7 Z Z (A4 ?_))))));refine k1 (k10 (B4 (F3 Z Z Z) ?_))
   have h3:0≤r.Marks / 2 ^ c.toNat:=Int.ediv_nonneg hr.1 (Int.pow_nonneg (by decide))
   have h4:r.Marks / 2 ^ c.toNat≤r.Marks:=Int.ediv_le_self _ hr.1
   rw [i6,if_neg h,if_neg h2,C71 (by omega),F77 r.Marks c (by omega),D12 _ (by omega)]
   rfl
theorem A30 (rows:List Row) (c:Int) (hr:I2 rows) (hl:rows.length≤536870911):FnOk Tryz.prog 145 [pRows rows,E5 c] (fun rs=>rs=[Z9 (H3 rows c)]):=by
 refine FnOk.intro Tryz.func145 (by decide) Z Z Z Z ?_
 refine k2 (A2 (A7 Z Z (A4 ?_)));refine k1 (k2 (A2 (C0 (R7 5 _ I0 Z) Z (A4 ?_))));refine k1 (k2 (k2 (A2 (A7 Z Z (A4 ?_)))));refine k1 (k3 (D1 (X:=Nat) (fun i=>([(0,C4 Row 3 rowC rows),(1,B8 c),(5,.s (.one (.buf 5 Str 1 I0 (H3 (rows.take i) c)))),(6,B8 i)],[(5,.spare (H3 (rows.take i) c).length 1 9)])) (fun i=>i≤rows.length) (fun i=>rows.length - i) 0 (Nat.zero_le _) (J58 ⟨le1 rfl,le1 rfl,le1 rfl,le1 rfl,trivial⟩ ⟨rfl,trivial⟩) ?_))
 intro i hi
 dsimp only at hi ⊢
 have hcl:=C21 (rows.take i) c
 rw [K03] at hcl
 refine k2 (k2 (A2 (A3 Z Z (A3 Z Z (D9 Z Z (E1 Z Z Z (A4 ?_)))))));refine k1 ?_;refine B3 rfl (fun ht=>?_) (fun ht=>?_)
 ·have hlt:i < rows.length:=by have:=A0 ht;omega
  have hv:rows[i]?=some rows[i]:=by simp [hlt]
  have hst:H3 (rows.take (i+1)) c=H3 (rows.take i) c++(if i6 rows[i] c=true then [rows[i].Text] else []):=by
   unfold H3
   rw [List.take_add_one,hv,Option.toList_some,K34,K00]
   congr 1
   by_cases h:i6 rows[i] c=true<;>simp [h]
  refine k5 (k1 (k2 (k3 (k2 (A2 (A3 Z Z (A3 Z Z (A6 (A8 Z (.pure _ _ _ _) Z (by omega) hv) Z (A6 (C8 Z Z) Z (A3 Z Z (C2 (G06 rows[i] c (hr _ (J96 hlt))) Z Z Z ?_)))))))))));rintro _ rfl;refine A4 ?_;refine k1 ?_;refine B3 rfl (fun ht=>?_) (fun ht=>?_)
  ·rw [ht,if_pos rfl] at hst
   skip
   refine A2 (A3 Z Z (A3 Z Z (A3 Z Z (A6 (A8 Z (.pure _ _ _ _) Z (by omega) hv) Z (A6 (C1 Z) Z (A6 (B1 Z Z) Z (A6 (C9 (c:=I0) (ys:=[_]) (D8 Z Z Z Z F1) Z Z Z) Z (C0 (F8 Z Z Z (.pure _ _ _ _) (by (simp only [J87,J89];omega)) Z) Z (A7 Z Z (A4 ?_))))))))));refine k4 (k1 (A2 (A3 Z Z (C7 Z Z Z (A7 Z Z (A4 ?_))))));refine k1 ?_;refine ⟨i+1,by omega,by omega,?_⟩
   rw [hst]
   exact J58 ⟨le1 rfl,le1 rfl,le1 rfl,le1 rfl,trivial⟩ ⟨rfl,trivial⟩
  ·rw [ht,if_neg (by decide),K06] at hst
   refine k5 (k4 (k1 (A2 (A3 Z Z (C7 Z Z Z (A7 Z Z (A4 ?_)))))));refine k1 ?_;refine ⟨i+1,by omega,by omega,?_⟩
   rw [hst]
   exact J58 ⟨le1 rfl,le1 rfl,le1 rfl,le1 rfl,trivial⟩ ⟨rfl,trivial⟩
 ·have hi':i=rows.length:=by have:=A1 ht;omega
  refine k6 (k2 (A2 (A3 Z Z (A7 Z Z (A4 ?_)))));refine k1 (k10 ?_)
  exact B4 (F3 rfl rfl rfl) (by rw [hi',J98])
theorem E62 (rows:List Row) (n:Int) (hn:0≤n∧n≤32) (hr:I2 rows):FnOk Tryz.prog 159 [pRows rows,E5 n] (fun rs=>rs=[I8 (N5 rows n.toNat)]):=by
 refine FnOk.intro Tryz.func159 (by decide) Z Z Z Z ?_
 refine A49 (t:=0) rfl (.pure _ _ _ _) fun hlen=>?_
 refine k2 (A2 (A7 Z Z (A4 ?_)));refine k1 (k2 (k2 (A2 (A7 Z Z (A4 ?_)))));refine k1 (k3 (D1 (X:=Nat) (fun i=>([(0,C4 Row 3 rowC rows),(1,B8 n),(5,B8 i)],[])) (fun i=>i≤rows.length∧N5 rows n.toNat=N5 (rows.drop i) n.toNat) (fun i=>rows.length - i) 0 (by simp) (J58 ⟨le1 rfl,le1 rfl,le1 rfl,trivial⟩ trivial) ?_))
 rintro i ⟨hi,hp⟩
 dsimp only at hi hp ⊢
 refine k2 (k2 (A2 (A3 Z Z (A3 Z Z (D9 Z Z (E1 Z Z Z (A4 ?_)))))));refine k1 ?_;refine B3 rfl (fun ht=>?_) (fun ht=>?_)
 ·have hlt:i < rows.length:=by have:=A0 ht;omega
  have hv:rows[i]?=some rows[i]:=by simp [hlt]
  have hm:=hr _ (J96 hlt)
  rw [J92 hlt,B36] at hp
  have hmk:i7 n.toNat rows[i]=!(if decide ((IntKind.u64.wrap rows[i].Marks).fdiv (2 ^ min (IntKind.u64.wrap n).toNat IntKind.u64.bits)≠0)=true then true else if rows[i].Lost=true then decide (rows[i].Marks=0) else false):=by
   rw [C71 (by omega),C71 (n:=n) (by omega),shr64' _ _ (by omega),i7]
   by_cases h1:rows[i].Marks / 2 ^ n.toNat=0
   ·cases h2:rows[i].Lost<;>simp [h1]
    by_cases h3:rows[i].Marks=0<;>simp [h3]
   ·simp [h1]
  refine k5 (k1 (k2 (k3 (k2 (A2 (A3 Z Z (A3 Z Z (A6 (A8 Z (.pure _ _ _ _) Z (by omega) hv) Z (A6 (C1 Z) Z (A6 (B1 Z Z) Z (A6 (O0 Z) Z (A3 Z Z (A6 (O0 Z) Z (A6 (B59 Z Z (by (rw [C71 (by omega)];omega))) Z ?_))))))))))))));refine A6 (H9 Z Z) Z (A3 Z Z (B0 Z Z Z Z (fun hg=>by rw [hg];exact B5 Z Z) ?_));refine B0 Z Z Z Z (fun hg=>by rw [hg];exact B5 Z Z) ?_;refine B0 Z Z Z Z (fun hg=>by have hq:=hg;(try simp at hq);rw [hg];exact A8 Z (.pure _ _ _ _) Z (by omega) hv) ?_;refine B0 Z Z Z Z (fun hg=>by rw [hg];exact C1 Z) ?_;refine B0 Z Z Z Z (fun hg=>by rw [hg];exact B1 Z Z) ?_;refine B0 Z Z Z Z (fun hg=>by rw [hg];exact B5 Z Z) ?_;refine G2 Z Z Z (.gd (.val _)) Z (fun hg=>by obtain ⟨hg1,hg2⟩:=L2 hg;(try rw [hg1]);(try rw [hg2]);exact B5 Z Z) ?_;refine G2 Z Z Z (.gd (.val _)) Z (fun hg=>by obtain ⟨hg1,hg2⟩:=L2 hg;(try rw [hg1]);(try rw [hg2]);exact B5 Z Z) ?_;refine G2 Z Z Z (.gd (.val _)) Z (fun hg=>by have hq:=hg;(try simp at hq);obtain ⟨hg1,hg2⟩:=L2 hg;(try rw [hg1]);(try rw [hg2]);exact A8 Z (.pure _ _ _ _) Z (by omega) hv) ?_;refine G2 Z Z Z (.gd (.val _)) Z (fun hg=>by obtain ⟨hg1,hg2⟩:=L2 hg;(try rw [hg1]);(try rw [hg2]);exact C1 Z) ?_;refine G2 Z Z Z (.gd (.val _)) Z (fun hg=>by obtain ⟨hg1,hg2⟩:=L2 hg;(try rw [hg1]);(try rw [hg2]);exact B1 Z Z) ?_;refine G2 Z Z Z (.gd (.val _)) Z (fun hg=>by obtain ⟨hg1,hg2⟩:=L2 hg;(try rw [hg1]);(try rw [hg2]);exact J7 Z Z) ?_;refine B0 Z Z Z Z (fun hg=>by rw [hg];exact G7 Z (fun h=>by first | rfl | (rw [h];rfl)) (fun h=>by first | rfl | (rw [h];rfl))) ?_;refine F2 Z Z ?_;refine A4 ?_;refine k1 ?_;refine B3 rfl (fun ht=>?_) (fun ht=>?_)
  ·rw [hmk,ht] at hp
   refine k2 (A2 (A7 Z Z (A4 ?_)));refine k1 (k10 (k12 (k11 (k11 (k12 (k11 ?_))))))
   exact B4 (F3 rfl rfl rfl) (by rw [hp];rfl)
  ·rw [hmk,ht] at hp
   refine k5 (k4 (k1 (A2 (A3 Z Z (C7 Z Z Z (A7 Z Z (A4 ?_)))))));refine k1 ?_
   exact ⟨i+1,⟨by omega,by rw [hp];rfl⟩,by omega,J58 ⟨le1 rfl,le1 rfl,le1 rfl,trivial⟩ trivial⟩
 ·have hi':i=rows.length:=by have:=A1 ht;omega
  subst hi'
  refine k6 (k2 (A2 (A7 Z Z (A4 ?_))));refine k1 (k10 ?_)
  exact B4 (F3 rfl rfl rfl) (by rw [hp];simp [N5])
theorem E63 (rows:List Row) (n:Int) (hn:0≤n∧n≤32) (hr:I2 rows) (hl:rows.length≤536870911) (hx:N7 rows≤536870912):FnOk Tryz.prog 160 [pRows rows,E5 n] (fun rs=>rs=[I8 (p8 rows n.toNat)]):=by
 obtain ⟨n,rfl⟩:∃m:Nat,n=m:=⟨n.toNat,by omega⟩
 rw [J97]
 refine FnOk.intro Tryz.func160 (by decide) Z Z Z Z ?_
 refine k2 (A2 (A7 Z Z (A4 ?_)));refine k1 (k2 (k2 (A2 (A7 Z Z (A4 ?_)))));refine k1 (k3 (D1 (X:=Nat) (fun i=>([(0,C4 Row 3 rowC rows),(1,B8 n),(5,B8 i)],[])) (fun i=>i≤rows.length∧rows.all (fun r=>I6 r.Text)=(rows.drop i).all (fun r=>I6 r.Text)) (fun i=>rows.length - i) 0 (by simp) (J58 ⟨le1 rfl,le1 rfl,le1 rfl,trivial⟩ trivial) ?_))
 rintro i ⟨hi,hp⟩
 dsimp only at hi hp ⊢
 refine k2 (k2 (A2 (A3 Z Z (A3 Z Z (D9 Z Z (E1 Z Z Z (A4 ?_)))))));refine k1 ?_;refine B3 rfl (fun ht=>?_) (fun ht=>?_)
 ·have hlt:i < rows.length:=by have:=A0 ht;omega
  have hv:rows[i]?=some rows[i]:=by simp [hlt]
  have htl:=D11 rows _ (J96 hlt)
  rw [J92 hlt,List.all_cons] at hp
  refine k5 (k1 (k2 (k3 (k2 (A2 (A3 Z Z (A3 Z Z (A6 (A8 Z (.pure _ _ _ _) Z (by omega) hv) Z (A6 (C1 Z) Z (A6 (B1 Z Z) Z (C2 (I16 rows[i].Text (by omega)) Z Z Z ?_)))))))))));rintro _ rfl;refine L7 Z Z (A4 ?_);refine k1 ?_;refine B3 rfl (fun ht=>?_) (fun ht=>?_)
  ·have h:I6 rows[i].Text=false:=by simpa using ht
   rw [h] at hp
   refine k2 (A2 (A7 Z Z (A4 ?_)));refine k1 (k10 (k12 (k11 (k11 (k12 (k11 ?_))))))
   exact B4 (F3 rfl rfl rfl) (by rw [p8,hp];rfl)
  ·have h:I6 rows[i].Text=true:=by simpa using ht
   rw [h] at hp
   refine k5 (k4 (k1 (A2 (A3 Z Z (C7 Z Z Z (A7 Z Z (A4 ?_)))))));refine k1 ?_
   exact ⟨i+1,⟨by omega,by rw [hp];rfl⟩,by omega,J58 ⟨le1 rfl,le1 rfl,le1 rfl,trivial⟩ trivial⟩
 ·have hi':i=rows.length:=by have:=A1 ht;omega
  rw [hi',J94 (Nat.le_refl _),List.all_nil] at hp
  refine k6 (k2 (k2 (A2 (A7 Z Z (A4 ?_)))));refine k1 (k3 (D1 (X:=Nat) (fun k=>([(0,C4 Row 3 rowC rows),(1,B8 n),(6,B8 ((k:Int) - 1))],[])) (fun k=>k≤n+1∧(List.range (n+1)).all (fun k=>T8 (H3 rows ((k:Int) - 1)))=((List.range (n+1)).drop k).all (fun k=>T8 (H3 rows ((k:Int) - 1)))) (fun k=>n+1 - k) 0 (by simp) (J58 ⟨le1 rfl,le1 rfl,le1 rfl,trivial⟩ trivial) ?_))
  rintro k ⟨hk,hq⟩
  dsimp only at hk hq ⊢
  refine k2 (k2 (A2 (A3 Z Z (A3 Z Z (E1 Z Z Z (A4 ?_))))));refine k1 ?_;refine B3 rfl (fun ht=>?_) (fun ht=>?_)
  ·have hlt:k < n+1:=by have:=A0 ht;omega
   have hfl:=C70 rows ((k:Int) - 1)
   rw [J92 (by simpa using hlt),List.all_cons,List.getElem_range] at hq
   refine k5 (k1 (k2 (k3 (k2 (A2 (A3 Z Z (A3 Z Z (C2 (A30 rows _ hr hl) Z Z Z ?_))))))));rintro _ rfl;refine C2 (I15 _ (fun s hs=>by obtain ⟨r,hr1,rfl⟩:=I88 rows _ s hs;have:=D11 rows r hr1;omega)) Z Z Z ?_;rintro _ rfl;refine L7 Z Z (A4 ?_);refine k1 ?_;refine B3 rfl (fun ht=>?_) (fun ht=>?_)
   ·have h:T8 (H3 rows ((k:Int) - 1))=false:=by simpa using ht
    rw [h] at hq
    refine k2 (A2 (A7 Z Z (A4 ?_)));refine k1 (k10 (k12 (k11 (k11 (k12 (k11 ?_))))))
    exact B4 (F3 rfl rfl rfl) (by rw [p8,hp,hq];rfl)
   ·have h:T8 (H3 rows ((k:Int) - 1))=true:=by simpa using ht
    rw [h] at hq
    refine k5 (k4 (k1 (A2 (A3 Z Z (C7 Z Z Z (A7 Z Z (A4 ?_)))))));refine k1 ?_
    exact ⟨k+1,⟨by omega,by rw [hq];rfl⟩,by omega,J58 ⟨le1 rfl,le1 rfl,leE rfl (by first | (simp;done) | (simp;omega)),trivial⟩ trivial⟩
  ·have hk':k=n+1:=by have:=A1 ht;omega
   rw [hk',J94 (by simp),List.all_nil] at hq
   refine k6 (k2 (A2 (A7 Z Z (A4 ?_))));refine k1 (k10 ?_)
   exact B4 (F3 rfl rfl rfl) (by rw [p8,hp,hq];rfl)
theorem C64 (t:Table) (hr:I2 t.Rows) (hl:t.Rows.length≤536870911) (hx:N7 t.Rows≤536870912):FnOk Tryz.prog 144 [pTable t] (fun rs=>rs=[E5 (M6 t)]):=by
 refine FnOk.intro Tryz.func144 (by decide) Z Z Z Z ?_
 refine k2 (A2 (C0 (M2 1 Z Z Z) Z (A7 Z Z (A4 ?_))));refine k1 (k2 (k3 (k2 (A2 (A6 (A5 Z) Z (D3 Z Z Z Z (E1 Z Z Z (A3 Z Z (B0 Z Z Z Z (fun hg=>by rw [hg];exact A5 Z) ?_)))))))));refine B0 Z Z Z Z (fun hg=>by rw [hg];exact B2 Z Z Z) ?_;refine B0 Z Z Z Z (fun hg=>by rw [hg];exact K9 Z Z) ?_;refine F2 Z Z ?_;refine A7 Z Z (A4 ?_);refine k1 ?_;refine B3 rfl (fun ht=>?_) (fun ht=>?_)
 ·have h:=A0 (or_pick.symm.trans ht)
  refine k2 (A2 (A7 Z Z (A4 ?_)));refine k1 (k10 (k12 (k11 ?_)))
  exact B4 (F3 rfl rfl rfl) (by rw [M6,if_pos h])
 ·have h:=A1 (or_pick.symm.trans ht)
  refine k2 (A2 (A6 (A5 Z) Z (D3 Z Z Z Z (A6 (A5 Z) Z (D3 Z Z Z Z (C2 (E62 t.Rows t.Parents (by omega) hr) Z Z Z ?_))))));rintro _ rfl;refine L7 Z Z (A7 Z Z (A4 ?_));refine k1 ?_;refine B3 rfl (fun ht=>?_) (fun ht=>?_)
  ·have h2:N5 t.Rows t.Parents.toNat=false:=by simpa using ht
   refine k2 (A2 (A7 Z Z (A4 ?_)));refine k1 (k10 (k12 (k11 ?_)))
   exact B4 (F3 rfl rfl rfl) (by rw [M6,if_neg h,if_pos h2])
  ·have h2:N5 t.Rows t.Parents.toNat=true:=by simpa using ht
   refine k2 (A2 (A6 (A5 Z) Z (D3 Z Z Z Z (A6 (A5 Z) Z (D3 Z Z Z Z (C2 (E63 t.Rows t.Parents (by omega) hr hl hx) Z Z Z ?_))))));rintro _ rfl;refine L7 Z Z (A7 Z Z (A4 ?_));refine k1 ?_;refine B3 rfl (fun ht=>?_) (fun ht=>?_)
   ·have h3:p8 t.Rows t.Parents.toNat=false:=by simpa using ht
    refine k2 (A2 (A7 Z Z (A4 ?_)));refine k1 (k10 (k12 (k11 ?_)))
    exact B4 (F3 rfl rfl rfl) (by rw [M6,if_neg h,if_neg (by simp [h2]),if_pos h3])
   ·have h3:p8 t.Rows t.Parents.toNat=true:=by simpa using ht
    refine k5 (k2 (A2 (A7 Z Z (A4 ?_))));refine k1 (k10 ?_)
    exact B4 (F3 rfl rfl rfl) (by rw [M6,if_neg h,if_neg (by simp [h2]),if_neg (by simp [h3])])
theorem D69 (t:Table) (c:Int) (hr:I2 t.Rows) (hl:t.Rows.length≤536870911) (hx:N7 t.Rows≤536870912):FnOk Tryz.prog 115 [pTable t,E5 c] (fun rs=>rs=[L6 (U0 t c).1,E5 (U0 t c).2]):=by
 refine FnOk.intro Tryz.func115 (by decide) Z Z Z Z ?_
 refine k2 (A2 (C0 (M2 2 Z Z Z) Z (A7 Z Z (A7 Z Z (A4 ?_)))));refine k1 (k2 (k2 (A2 (A6 (C6 Z Z Z) Z (C2 (C64 t hr hl hx) Z Z Z ?_)))));rintro _ rfl;refine A7 Z Z (A4 ?_);refine k1 (k2 (A2 (A3 Z Z (A6 (H9 Z Z) Z (A4 ?_)))));refine k1 ?_;refine B3 rfl (fun ht=>?_) (fun ht=>?_)
 ·have h:=A0 ht
  refine k2 (A2 (A3 Z Z (A7 Z Z (A7 Z Z (A4 ?_)))));refine k1 (k10 (k11 ?_))
  exact B4 (U7 rfl rfl rfl rfl rfl) (by rw [U0,if_pos h])
 ·have h:=A1 ht
  refine k5 (k1 (k2 (k2 (A2 (A3 Z Z (E1 Z Z Z (A3 Z Z (B0 Z Z Z Z (fun hg=>by rw [hg];exact B5 Z Z) ?_))))))));refine B0 Z Z Z Z (fun hg=>by rw [hg];exact A5 Z) ?_;refine B0 Z Z Z Z (fun hg=>by rw [hg];exact B2 Z Z Z) ?_;refine B0 Z Z Z Z (fun hg=>by rw [hg];exact i8 Z Z) ?_;refine F2 Z Z ?_;refine A4 ?_;refine k1 ?_;refine B3 rfl (fun ht=>?_) (fun ht=>?_)
  ·have h2:=A0 (or_pick.symm.trans ht)
   refine k2 (A2 (A7 Z Z (A7 Z Z (A4 ?_))));refine k1 (k10 (k11 ?_))
   exact B4 (U7 rfl rfl rfl rfl rfl) (by rw [U0,if_neg h,if_pos h2])
  ·have h2:=A1 (or_pick.symm.trans ht)
   have hfl:=C70 t.Rows c
   refine k5 (k1 (k2 (A2 (A6 (A5 Z) Z (D3 Z Z Z Z (A3 Z Z (C2 (A30 t.Rows c hr hl) Z Z Z ?_)))))));rintro _ rfl;refine C2 (join_ok _ (by omega)) Z Z Z ?_;rintro _ rfl;refine F5 Z Z Z (F5 Z Z Z (A7 Z Z (A7 Z Z (A4 ?_))));refine k1 (k10 ?_)
   exact B4 (U7 rfl rfl rfl rfl rfl) (by rw [U0,if_neg h,if_neg h2])
theorem F62 (s:Str):(ByteArray.mk s.toArray).size=s.length:=by simp [ByteArray.size]
theorem G07 (s p:Str) (hs:s.length≤1099511627776):FnOk Tryz.prog 200 [L6 s,L6 p] (fun rs=>rs=[I8 (Lib.hasSuffix s p)]) :=
 J65 (xs:=[.string ⟨s.toArray⟩,.string ⟨p.toArray⟩]) ⟨_,rfl,rfl,rfl⟩ rfl fun w=>by simpa using Tryz.strings_HasSuffix ⟨s.toArray⟩ ⟨p.toArray⟩ w (by rw [F62];omega)
theorem F23 (s p:Str) (hs:s.length≤1099511627776):FnOk Tryz.prog 225 [L6 s,L6 p] (fun rs=>rs=[L6 (Lib.trimSuffix s p)]) :=
 J65 (xs:=[.string ⟨s.toArray⟩,.string ⟨p.toArray⟩]) ⟨_,rfl,rfl,rfl⟩ rfl fun w=>by simpa using Tryz.strings_TrimSuffix ⟨s.toArray⟩ ⟨p.toArray⟩ w (by rw [F62];omega)
theorem G08 (s:Str) (c:UInt8):FnOk Tryz.prog 125 [L6 s,.one (.v (.int .u8 c.toNat))] (fun rs=>rs=[E5 (Lib.indexByte s c)]) :=
 J65 (xs:=[.string ⟨s.toArray⟩,.int .u8 c.toNat]) ⟨_,rfl,rfl,rfl⟩ rfl fun w=>by simpa using Tryz.strings_IndexByte ⟨s.toArray⟩ c.toNat w
theorem G09 (s:Str) (c:UInt8):FnOk Tryz.prog 209 [L6 s,L6 [c]] (fun rs=>rs=[I8 (decide (0≤Lib.indexByte s c))]) :=
 J65 (xs:=[.string ⟨s.toArray⟩,.string ⟨#[c]⟩]) ⟨_,rfl,rfl,rfl⟩ rfl fun w=>by simpa using Tryz.strings_Contains_one ⟨s.toArray⟩ c w
theorem J24 (l:List Str) (hl:l.length≤536870912) (hf:l.flatten.length≤536870912):FnOk Tryz.prog 126 [Z9 l,L6 []] (fun rs=>rs=[L6 l.flatten]):=by
 have hmap:(l.map fun s=>(⟨s.toArray⟩:ByteArray)).map (·.data.toList)=l:=by rw [K27];simp [Function.comp_def]
 refine J82 ⟨_,rfl,rfl,rfl⟩ (fun h a c w=>?_) (fun b o c w hne hc hb hcap=>?_)
 ·subst h;exact Tryz.strings_Join_none a c _ w
 ·have:=Tryz.strings_Join b o c (l.map fun s=>(⟨s.toArray⟩:ByteArray)) ⟨#[]⟩ w hc hb (by rw [K13];omega) (by rw [K13];exact hcap) (by rw [hmap];show (Lib.join l []).length≤_;rw [H05];omega)
  rw [K13,hmap] at this
  have e:Lib.join l (⟨#[]⟩:ByteArray).data.toList=l.flatten:=H05 l
  rw [e] at this
  exact this
theorem B13 (s:Str) (hs:s.length≤1099511627776):FnOk Tryz.prog 137 [L6 s] (fun rs=>rs=[I8 (ended s)]):=by
 refine FnOk.intro Tryz.func137 (by decide) Z Z Z Z ?_
 refine k2 (A2 (A7 Z Z (A4 ?_)));refine k1 (k2 (A2 (A3 Z Z (C2 (G07 s [10] hs) Z Z Z ?_))));rintro _ rfl;refine A7 Z Z (A4 ?_)
 rw [D13]
 refine k1 (k10 ?_)
 exact B4 (F3 rfl rfl rfl) rfl
theorem J25 (s:Str) (hs:s.length≤1099511627776):FnOk Tryz.prog 210 [L6 s] (fun rs=>rs=[L6 (B95 s)]):=by
 refine FnOk.intro Tryz.func210 (by decide) Z Z Z Z ?_
 refine k2 (A2 (A7 Z Z (A4 ?_)));refine k1 (k2 (A2 (A3 Z Z (C2 (F23 s [10] hs) Z Z Z ?_))));rintro _ rfl;refine A7 Z Z (A4 ?_)
 rw [F35]
 refine k1 (k10 ?_)
 exact B4 (F3 rfl rfl rfl) rfl
theorem D70 (r:Row) (c:Int) (hr:0≤r.Marks∧r.Marks < 4294967296):FnOk Tryz.prog 177 [pRow r,E5 c] (fun rs=>rs=[I8 (i6 r c)]):=by
 refine FnOk.intro Tryz.func177 (by decide) Z Z Z Z ?_
 refine k2 (A2 (C0 (M2 2 Z Z Z) Z (A7 Z Z (A4 ?_))));refine k1 (k2 (k2 (A2 (A3 Z Z (E1 Z Z Z (A3 Z Z (B0 Z Z Z Z (fun hg=>by rw [hg];exact B5 Z Z) ?_)))))));refine B0 Z Z Z Z (fun hg=>by rw [hg];exact i8 Z Z) ?_;refine F2 Z Z ?_;refine A4 ?_;refine k1 ?_;refine B3 rfl (fun ht=>?_) (fun ht=>?_)
 ·have h:=A0 (or_pick.symm.trans ht)
  refine k2 (A2 (A7 Z Z (A4 ?_)));refine k1 (k10 (k11 ?_))
  exact B4 (F3 rfl rfl rfl) (by rw [i6,if_neg (by omega),if_pos (by omega)])
 ·have h:=A1 (or_pick.symm.trans ht)
  refine k5 (k1 (k2 (k2 (A2 (A3 Z Z (E1 Z Z Z (A4 ?_)))))));refine k1 ?_;refine B3 rfl (fun ht=>?_) (fun ht=>?_)
  ·have h2:=A0 ht
   refine k2 (A2 (A6 (A5 Z) Z (D3 Z Z Z Z (L7 Z Z (A7 Z Z (A4 ?_))))));refine k1 (k10 (k11 ?_))
   exact B4 (F3 rfl rfl rfl) (by rw [i6,if_pos (by omega)])
  ·have h2:=A1 ht
   refine k5 (k1 (k2 (C5 (by kernel_rfl) (by kernel_rfl) (A9 (A5 Z) Z Z (A9 (B2 Z Z Z) Z Z (A9 (A5 Z) Z Z (A9 (B2 Z Z Z) Z Z (C3 Z Z (A9 (B59 Z Z (by omega)) Z Z (A9 (r9 Z Z Z (fun _=>rfl)) Z Z (A9 (J7 Z Z) Z Z (A9 (I05 Z Z TyBool.out) Z Z (A9 (E0 Z Z) Z Z (G5 ?_))))))))))))));refine k1 (k10 (B4 (F3 Z Z Z) ?_))
   have h3:0≤r.Marks / 2 ^ c.toNat:=Int.ediv_nonneg hr.1 (Int.pow_nonneg (by decide))
   have h4:r.Marks / 2 ^ c.toNat≤r.Marks:=Int.ediv_le_self _ hr.1
   rw [i6,if_neg (by omega),if_neg (by omega),F77 r.Marks c (by omega),D12 _ (by omega),Bool.beq_comm]
   rfl
theorem E64 (r:Row) (n:Int) (hn:1≤n∧n≤32) (hr:0≤r.Marks∧r.Marks < 4294967296):FnOk Tryz.prog 155 [pRow r,E5 n] (fun rs=>rs=[I8 (i7 n.toNat r)]):=by
 refine FnOk.intro Tryz.func155 (by decide) Z Z Z Z ?_
 refine k2 (A2 (C0 (M2 2 Z Z Z) Z (A7 Z Z (A4 ?_))));refine k1 (k2 (A2 (A6 (A5 Z) Z (D3 Z Z Z Z (A6 (B59 Z Z (by omega)) Z (A3 Z Z (A6 (I5 Z Z (by omega)) Z (A6 (B59 Z Z (by omega)) Z (A6 (J7 Z Z) Z (A3 Z Z (B0 Z Z Z Z (fun hg=>by rw [hg];exact A5 Z) ?_)))))))))));refine B0 Z Z Z Z (fun hg=>by rw [hg];exact B2 Z Z Z) ?_;refine B0 Z Z Z Z (fun hg=>by rw [hg];exact Y0 Z) ?_;refine B0 Z Z Z Z (fun hg=>by rw [hg];exact B5 Z Z) ?_;refine G2 Z Z Z (.gd (.val _)) Z (fun hg=>by obtain ⟨hg1,hg2⟩:=L2 hg;(try rw [hg1]);(try rw [hg2]);exact A5 Z) ?_;refine G2 Z Z Z (.gd (.val _)) Z (fun hg=>by obtain ⟨hg1,hg2⟩:=L2 hg;(try rw [hg1]);(try rw [hg2]);exact B2 Z Z Z) ?_;refine G2 Z Z Z (.gd (.val _)) Z (fun hg=>by obtain ⟨hg1,hg2⟩:=L2 hg;(try rw [hg1]);(try rw [hg2]);exact H9 Z Z) ?_;refine B0 Z Z Z Z (fun hg=>by rw [hg];exact G7 Z (fun h=>by first | rfl | (rw [h];rfl)) (fun h=>by first | rfl | (rw [h];rfl))) ?_;refine F2 Z Z ?_;refine A7 Z Z (A4 ?_);refine k1 (k10 (B4 (F3 Z Z Z) ?_))
 have h0:0≤r.Marks / 2 ^ n.toNat:=Int.ediv_nonneg hr.1 (Int.pow_nonneg (by decide))
 have e1:r.Marks.fdiv (2 ^ (min (1:Int).toNat IntKind.u32.bits))=r.Marks / 2:=by
  rw [F77 r.Marks 1 (by omega)];rfl
 have e2:(r.Marks / 2).fdiv (2 ^ (min (n - 1).toNat IntKind.u32.bits))=r.Marks / 2 ^ n.toNat:=by
  rw [F77 (r.Marks / 2) (n - 1) (by omega),Int.ediv_ediv_of_nonneg (by decide)]
  have:n.toNat=(n - 1).toNat+1:=by omega
  rw [this,Int.pow_succ,Int.mul_comm]
 have e3:(if decide ((r.Marks.fdiv (2 ^ (min (1:Int).toNat IntKind.u32.bits))).fdiv (2 ^ (min (n - 1).toNat IntKind.u32.bits))=0)=true then (if (!r.Lost)=true then true else decide (r.Marks≠0)) else false)=i7 n.toNat r:=by
  rw [e1,e2,i7]
  cases r.Lost<;>by_cases hz:r.Marks / 2 ^ n.toNat=0<;>by_cases hy:r.Marks=0<;>simp [hz,hy]
 rw [←e3]
theorem B29 (r:Row) (hs:r.Text.length≤1099511627776):FnOk Tryz.prog 157 [pRow r] (fun rs=>rs=[I8 (I6 r.Text)]):=by
 refine FnOk.intro Tryz.func157 (by decide) Z Z Z Z ?_
 refine k2 (A2 (C0 (M2 1 Z Z Z) Z (A7 Z Z (A4 ?_))));refine k1 (k2 (A2 (A6 (A5 Z) Z (D3 Z Z Z Z (A6 (A80 Z Z) Z (A3 Z Z (B0 Z Z Z Z (fun hg=>by rw [hg];exact A5 Z) ?_)))))));refine B0 Z Z Z Z (fun hg=>by rw [hg];exact B2 Z Z Z) ?_;refine B0 Z Z Z Z (fun hg=>by have hq:=hg;(try simp at hq);rw [hg];exact E3 (J25 r.Text hs) Z Z) ?_;refine B0 Z Z Z Z (fun hg=>by have hq:=hg;(try simp at hq);rw [hg];exact E3 (G09 (B95 r.Text) 10) Z Z) ?_;refine B0 Z Z Z Z (fun hg=>by rw [hg];exact Y0 Z) ?_;refine F2 Z Z ?_;refine A7 Z Z (A4 ?_);refine k1 (k10 (B4 (F3 Z Z Z) ?_))
 rw [←I90]
theorem J26 (l:List Str) (hf:l.flatten.length≤536870911) (hll:l.length≤536870911):FnOk Tryz.prog 68 [Z9 l] (fun rs=>rs=[L6 (L9 l).1,E5 (L9 l).2]):=by
 refine FnOk.intro Tryz.func68 (by decide) Z Z Z Z ?_
 refine k2 (A2 (A7 Z Z (A7 Z Z (A4 ?_))));refine k1 (k2 (A2 (A7 Z Z (A4 ?_))));refine k1 (k2 (k2 (A2 (A3 Z Z (D9 Z Z (A3 Z Z (A4 ?_)))))));refine k1 (k3 (D1 (X:=Nat) (fun i=>([(0,C4 Str 1 I0 l),(4,B8 (l.take i).flatten.length),(8,C4 Str 1 I0 l),(9,B8 l.length),(10,B8 i)],[])) (fun i=>i≤l.length∧T8 l=T8 (l.drop i)) (fun i=>l.length - i) 0 ⟨Nat.zero_le _,by simp⟩ (J58 ⟨le1 rfl,le1 rfl,le1 rfl,le1 rfl,le1 rfl,trivial⟩ trivial) ?_))
 rintro i ⟨hi,hp⟩
 dsimp only at hi hp ⊢
 have hfl:=T7 l i
 refine k2 (A2 (E1 Z Z Z (A4 ?_)));refine k1 (k2 ?_);refine B3 rfl (fun ht=>?_) (fun ht=>?_)
 ·have hlt:i < l.length:=by have:=A0 ht;omega
  have hv:l[i]?=some l[i]:=by simp [hlt]
  have hfl2:=T7 l (i+1)
  have hst:(l.take (i+1)).flatten.length=(l.take i).flatten.length+l[i].length:=by rw [S9 l i hlt,J86]
  have hbad:=H04 l[i] (l.drop (i+1))
  rw [J92 hlt,B96] at hp
  have hemp:(l.drop (i+1)).isEmpty=decide (l.length≤i+1):=by rw [Bool.eq_iff_iff];simp
  rw [hemp] at hbad
  unfold G24 at hbad
  refine k5 (k1 (k2 (k3 (k2 (A2 (A3 Z Z (A6 (A8 Z (.pure _ _ _ _) Z (by omega) hv) Z (A6 (B1 Z Z) Z (A7 Z Z (A7 Z Z (A4 ?_)))))))))));refine k1 (k2 (A2 (A3 Z Z (C2 (G08 l[i] 10) Z Z Z ?_))));rintro _ rfl;refine A7 Z Z (A4 ?_);refine k1 (k2 (k2 (A2 (A3 Z Z (A6 (B20 Z Z) Z (A3 Z Z (B0 Z Z Z Z (fun hg=>by rw [hg];exact B5 Z Z) ?_)))))));refine B0 Z Z Z Z (fun hg=>by rw [hg];exact i8 Z Z) ?_;refine B0 Z Z Z Z (fun hg=>by rw [hg];exact B5 Z Z) ?_;refine G2 Z Z Z (.gd (.val _)) Z (fun hg=>by obtain ⟨hg1,hg2⟩:=L2 hg;(try rw [hg1]);(try rw [hg2]);exact B5 Z Z) ?_;refine G2 Z Z Z (.gd (.val _)) Z (fun hg=>by obtain ⟨hg1,hg2⟩:=L2 hg;(try rw [hg1]);(try rw [hg2]);exact B5 Z Z) ?_;refine G2 Z Z Z (.gd (.val _)) Z (fun hg=>by obtain ⟨hg1,hg2⟩:=L2 hg;(try rw [hg1]);(try rw [hg2]);exact K6 Z) ?_;refine G2 Z Z Z (.gd (.val _)) Z (fun hg=>by have hq:=hg;(try simp at hq);obtain ⟨hg1,hg2⟩:=L2 hg;(try rw [hg1]);(try rw [hg2]);exact I5 Z Z (by omega)) ?_;refine G2 Z Z Z (.gd (.val _)) Z (fun hg=>by obtain ⟨hg1,hg2⟩:=L2 hg;(try rw [hg1]);(try rw [hg2]);exact Y4 Z Z) ?_;refine B0 Z Z Z Z (fun hg=>by rw [hg];exact G7 Z (fun h=>by first | rfl | (rw [h];rfl)) (fun h=>by first | rfl | (rw [h];rfl))) ?_;refine F2 Z Z ?_;refine A3 Z Z (B0 Z Z Z Z (fun hg=>by rw [hg];exact B5 Z Z) ?_);refine B0 Z Z Z Z (fun hg=>by rw [hg];exact Y4 Z Z) ?_;refine B0 Z Z Z Z (fun hg=>by rw [hg];exact B5 Z Z) ?_;refine G2 Z Z Z (.gd (.val _)) Z (fun hg=>by obtain ⟨hg1,hg2⟩:=L2 hg;(try rw [hg1]);(try rw [hg2]);exact B5 Z Z) ?_;refine G2 Z Z Z (.gd (.val _)) Z (fun hg=>by obtain ⟨hg1,hg2⟩:=L2 hg;(try rw [hg1]);(try rw [hg2]);exact B5 Z Z) ?_;refine G2 Z Z Z (.gd (.val _)) Z (fun hg=>by obtain ⟨hg1,hg2⟩:=L2 hg;(try rw [hg1]);(try rw [hg2]);exact O8 Z (.pure _ _ _ _)) ?_;refine G2 Z Z Z (.gd (.val _)) Z (fun hg=>by have hq:=hg;(try simp at hq);obtain ⟨hg1,hg2⟩:=L2 hg;(try rw [hg1]);(try rw [hg2]);exact I5 Z Z (by omega)) ?_;refine G2 Z Z Z (.gd (.val _)) Z (fun hg=>by obtain ⟨hg1,hg2⟩:=L2 hg;(try rw [hg1]);(try rw [hg2]);exact Y4 Z Z) ?_;refine B0 Z Z Z Z (fun hg=>by rw [hg];exact G7 Z (fun h=>by first | rfl | (rw [h];rfl)) (fun h=>by first | rfl | (rw [h];rfl))) ?_;refine F2 Z Z ?_;refine A4 ?_;refine k1 ?_;refine B3 rfl (fun ht=>?_) (fun ht=>?_)
  ·simp only [L5,or_pick] at ht
   have h1:=A0 ht
   have h2:=hbad.1 (by
    rcases h1 with (h | h) | h
    ·exact .inl h
    ·exact .inr (.inl h)
    ·exact .inr (.inr ⟨h.1,by simp only [decide_eq_false_iff_not];omega⟩))
   rw [hemp,h2,Bool.false_and] at hp
   refine k2 (A2 (A7 Z Z (A7 Z Z (A4 ?_))));refine k1 (k10 (k11 (k12 (k11 (k11 (k12 (k11 ?_)))))))
   exact B4 (U7 rfl rfl rfl rfl rfl) (by rw [L9,if_pos hp])
  ·simp only [L5,or_pick] at ht
   have h1:=A1 ht
   have h2:(I6 l[i]&&(decide (l.length≤i+1)||ended l[i]))=true:=by
    cases h3:(I6 l[i]&&(decide (l.length≤i+1)||ended l[i]))
    ·have h4:=hbad.2 h3
     simp only [decide_eq_false_iff_not] at h4
     refine absurd ?_ h1
     rcases h4 with h | h | h
     ·exact .inl (.inl h)
     ·exact .inl (.inr h)
     ·exact .inr ⟨h.1,by omega⟩
    ·rfl
   rw [hemp,h2,Bool.true_and] at hp
   refine k5 (k1 (A2 (A3 Z Z (A3 Z Z (A6 (K6 Z) Z (C7 Z Z Z (A7 Z Z (A4 ?_))))))));refine k4 (k1 (A2 (C7 Z Z Z (A3 Z Z (A4 ?_)))));refine k1 ?_;refine ⟨i+1,⟨by omega,hp⟩,by omega,?_⟩
   rw [hst]
   exact J58 ⟨le1 rfl,le1 rfl,le1 rfl,le1 rfl,le1 rfl,trivial⟩ trivial
 ·have hil:i=l.length:=by have:=A1 ht;omega
  rw [hil,J98] at hfl ⊢
  rw [hil,J94 (Nat.le_refl _)] at hp
  refine k6 (k2 (k2 (A2 (A3 Z Z (A6 (K9 Z Z) Z (A3 Z Z (B0 Z Z Z Z (fun hg=>by rw [hg];exact B5 Z Z) ?_)))))));refine B0 Z Z Z Z (fun hg=>by rw [hg];exact O8 Z (.pure _ _ _ _)) ?_;refine B0 Z Z Z Z (fun hg=>by rw [hg];exact K9 Z Z) ?_;refine F2 Z Z ?_;refine A4 ?_;refine k1 ?_;refine B3 rfl (fun ht=>?_) (fun ht=>?_)
  ·have h1:=A0 (or_pick.symm.trans ht)
   refine k2 (A2 (A7 Z Z (A7 Z Z (A4 ?_))));refine k1 (k10 (k11 ?_))
   exact B4 (U7 rfl rfl rfl rfl rfl) (by rw [L9,if_neg (by rw [hp];simp [T8]),if_pos (by omega)])
  ·have h1:=A1 (or_pick.symm.trans ht)
   refine k5 (k1 (k2 (A2 (A3 Z Z (C2 (J24 l (by omega) (by omega)) Z Z Z ?_)))));rintro _ rfl;refine A7 Z Z (A7 Z Z (A4 ?_));refine k1 (k10 ?_)
   exact B4 (U7 rfl rfl rfl rfl rfl) (by rw [L9,if_neg (by rw [hp];simp [T8]),if_neg (by omega)])
theorem I18 (r:Row) (res:Bool) (par:Int) (hs:r.Text.length≤1099511627776) :
  FnIo Tryz.prog 158 [pRow r] [.v (.bool res),.v (.int .u32 par)] (fun rs cs=>rs=[I8 (C44 res par r)]∧cs=[.v (.bool (B97 res r)),.v (.int .u32 (B98 par r))]):=by
 refine FnIo.intro Tryz.func158 (by decide) Z Z Z Z ?_
 refine k2 (A2 (C0 (M2 3 Z Z Z) Z (A7 Z Z (A4 ?_))));refine k1 (k2 (A2 (A6 (A5 Z) Z (D3 Z Z Z Z (A7 Z Z (A4 ?_))))));refine J3 ?_
 refine n9 [(3,.s (.one (.ref 3 0))),(0,.s (.one (.ref self 0))),(5,K4 (.int .u32 (F36 r)))] [(3,.box (pRow r).s1.cells),(self,.box [.p (.v (.bool res)),.p (.v (.int .u32 par))])] ?_ ?_
 ·refine k2 (A2 (A6 (A5 Z) Z (D3 Z Z Z Z (L7 Z Z (A4 ?_)))));refine k1 ?_;refine B3 rfl (fun ht=>?_) (fun ht=>?_)
  ·have h:r.Lost=false:=by simpa using ht
   skip
   refine A2 (A3 Z Z (A6 (n_compl Z Z (fun _=>rfl)) Z (A7 Z Z (A4 ?_))));refine k1 ?_
   rw [F36,if_neg (by rw [h];simp)]
   exact J58 ⟨le1 rfl,le1 rfl,le1 rfl,trivial⟩ ⟨rfl,rfl,trivial⟩
  ·have h:r.Lost=true:=by simpa using ht
   refine k5 (k1 ?_)
   rw [F36,if_pos h]
   exact J58 ⟨le1 rfl,le1 rfl,le1 rfl,trivial⟩ ⟨rfl,rfl,trivial⟩
 refine k2 (A2 (A3 Z Z (A6 (E8 Z) Z (A6 (A5 Z) Z (D3 Z Z Z Z (A3 Z Z (A6 (r9 Z Z Z (fun _=>rfl)) Z (A6 (J7 Z Z) Z (A3 Z Z (B0 Z Z Z Z (fun hg=>by rw [hg];exact A5 Z) ?_))))))))));refine B0 Z Z Z Z (fun hg=>by rw [hg];exact B2 Z Z Z) ?_;refine B0 Z Z Z Z (fun hg=>by rw [hg];exact B5 Z Z) ?_;refine G2 Z Z Z (.gd (.val _)) Z (fun hg=>by obtain ⟨hg1,hg2⟩:=L2 hg;(try rw [hg1]);(try rw [hg2]);exact B5 Z Z) ?_;refine G2 Z Z Z (.gd (.val _)) Z (fun hg=>by obtain ⟨hg1,hg2⟩:=L2 hg;(try rw [hg1]);(try rw [hg2]);exact E8 Z) ?_;refine G2 Z Z Z (.gd (.val _)) Z (fun hg=>by obtain ⟨hg1,hg2⟩:=L2 hg;(try rw [hg1]);(try rw [hg2]);exact A5 Z) ?_;refine G2 Z Z Z (.gd (.val _)) Z (fun hg=>by obtain ⟨hg1,hg2⟩:=L2 hg;(try rw [hg1]);(try rw [hg2]);exact B2 Z Z Z) ?_;refine G2 Z Z Z (.gd (.val _)) Z (fun hg=>by obtain ⟨hg1,hg2⟩:=L2 hg;(try rw [hg1]);(try rw [hg2]);exact Y0 Z) ?_;refine B0 Z Z Z Z (fun hg=>by rw [hg];exact G7 Z (fun h=>by first | rfl | (rw [h];rfl)) (fun h=>by first | rfl | (rw [h];rfl))) ?_;refine F2 Z Z ?_;refine A7 Z Z (A4 ?_);refine k1 (k2 (k2 (A2 (A6 (A5 Z) Z (D3 Z Z Z Z (C2 (B13 r.Text hs) Z Z Z ?_))))));rintro _ rfl;refine L7 Z Z (A4 ?_)
 have hok:(if decide (H06 par (F36 r)=0)=true then (if r.Lost=true then true else !res) else false)=C44 res par r:=by
  rw [C44]
  cases r.Lost<;>cases res<;>by_cases h:H06 par (F36 r)=0<;>simp [h]
 refine k1 ?_;refine B3 rfl (fun ht=>?_) (fun ht=>?_)
 ·have h:ended r.Text=false:=by simpa using ht
  refine k2 (A2 (A3 Z Z (A6 (E8 Z) Z (A6 (A5 Z) Z (D3 Z Z Z Z (A3 Z Z (A6 (r9 Z Z Z (fun _=>rfl)) Z (A6 (E8 Z) Z (A6 (A5 Z) Z (E2 (B6 TySz.out Z Z Z Z Z Z) (A4 ?_)))))))))));refine k1 (A2 (A3 Z Z (A3 Z Z (A6 (E8 Z) Z (A6 (A5 Z) Z (D3 Z Z Z Z (A3 Z Z (B0 Z Z Z Z (fun hg=>by rw [hg];exact A5 Z) ?_))))))));refine B0 Z Z Z Z (fun hg=>by rw [hg];exact B2 Z Z Z) ?_;refine B0 Z Z Z Z (fun hg=>by rw [hg];exact Y0 Z) ?_;refine F2 Z Z ?_;refine A6 (E8 Z) Z (A6 (A5 Z) Z (E2 (B6 TySz.out Z Z Z Z Z Z) (A4 ?_)));refine k1 (k2 (A2 (A3 Z Z (A7 Z Z (A4 ?_)))));refine k1 (k10 ?_);refine io_ret (F3 rfl rfl rfl) rfl rfl ⟨by rw [←hok];rfl,?_⟩
  have ea:B97 res r=(res||!r.Lost):=by rw [B97,h];rfl
  have ep:B98 par r=l6 par (F36 r):=by rw [B98,h];rfl
  rw [ea,ep]
  cases res<;>rfl
 ·have h:ended r.Text=true:=by simpa using ht
  refine k5 (k1 (k2 (A2 (A3 Z Z (A7 Z Z (A4 ?_))))));refine k1 (k10 ?_)
  exact io_ret (F3 rfl rfl rfl) rfl rfl ⟨by rw [←hok];rfl,by rw [B97,B98,if_pos h,if_pos h]⟩
theorem I47 (t:Table) (hr:I2 t.Rows) (hl:t.Rows.length≤536870911) (hx:N7 t.Rows≤536870912):FnOk Tryz.prog 116 [pTable t] (fun rs=>rs=[E5 (M6 t)]):=by
 refine FnOk.intro Tryz.func116 (by decide) Z Z Z Z ?_
 refine k2 (A2 (C0 (M2 1 Z Z Z) Z (A7 Z Z (A4 ?_))));refine k1 (k2 (k2 (A2 (A6 (A5 Z) Z (D3 Z Z Z Z (E1 Z Z Z (A3 Z Z (B0 Z Z Z Z (fun hg=>by rw [hg];exact A5 Z) ?_))))))));refine B0 Z Z Z Z (fun hg=>by rw [hg];exact B2 Z Z Z) ?_;refine B0 Z Z Z Z (fun hg=>by rw [hg];exact K9 Z Z) ?_;refine F2 Z Z ?_;refine A4 ?_;refine k1 ?_;refine B3 rfl (fun ht=>?_) (fun ht=>?_)
 ·have h:=A0 (or_pick.symm.trans ht)
  refine k2 (A2 (A7 Z Z (A4 ?_)));refine k1 (k10 (k11 ?_))
  exact B4 (F3 rfl rfl rfl) (by rw [M6,if_pos h])
 ·have h:=A1 (or_pick.symm.trans ht)
  refine O9 [(1,.s (.one (.ref 1 0)))] [(1,.box [.p (.v (.int .i64 t.Parents)),.p (.list Row 3 rowC t.Rows)])] (J58 ⟨le1 rfl,trivial⟩ ⟨rfl,trivial⟩) ?_
  refine k5 (k1 (k2 (k2 (A2 (A6 (A5 Z) Z (D3 Z Z Z Z (D9 Z Z (A3 Z Z (A4 ?_)))))))));refine k1 (k3 (D1 (X:=Nat) (fun i=>([(1,.s (.one (.ref 1 0))),(17,C4 Row 3 rowC t.Rows),(18,B8 t.Rows.length),(19,B8 i)],[(1,.box [.p (.v (.int .i64 t.Parents)),.p (.list Row 3 rowC t.Rows)])])) (fun i=>i≤t.Rows.length∧N5 t.Rows t.Parents.toNat=N5 (t.Rows.drop i) t.Parents.toNat) (fun i=>t.Rows.length - i) 0 ⟨Nat.zero_le _,rfl⟩ (J58 ⟨le1 rfl,le1 rfl,le1 rfl,le1 rfl,trivial⟩ ⟨rfl,trivial⟩) ?_))
  rintro i ⟨hi,hp⟩
  dsimp only at hi hp ⊢
  refine k2 (A2 (E1 Z Z Z (A4 ?_)));refine k1 (k2 ?_);refine B3 rfl (fun ht=>?_) (fun ht=>?_)
  ·have hlt:i < t.Rows.length:=by have:=A0 ht;omega
   have hv:t.Rows[i]?=some t.Rows[i]:=by simp [hlt]
   rw [J92 hlt,B36] at hp
   refine k5 (k1 (k2 (k3 (k2 (A2 (A6 (A8 Z (.pure _ _ _ _) Z (by omega) hv) Z (A6 (C8 Z Z) Z (C0 (F4 4 Z) Z (E2 (B6 TySz.out Z Z Z Z Z Z) (A4 ?_))))))))));refine k1 (k2 (A2 (A6 (C6 Z Z Z) Z (A6 (A5 Z) Z (D3 Z Z Z Z (C2 (E64 t.Rows[i] t.Parents (by omega) (hr _ (J96 hlt))) Z Z Z ?_))))));rintro _ rfl;refine L7 Z Z (A4 ?_);refine k1 ?_;refine B3 rfl (fun ht=>?_) (fun ht=>?_)
   ·have h2:i7 t.Parents.toNat t.Rows[i]=false:=by simpa using ht
    rw [h2,Bool.false_and] at hp
    refine k2 (A2 (A7 Z Z (A4 ?_)));refine k1 (k10 (k12 (k11 (k11 (k12 (k11 ?_))))))
    exact B4 (F3 rfl rfl rfl) (by rw [M6,if_neg h,if_pos hp])
   ·have h2:i7 t.Parents.toNat t.Rows[i]=true:=by simpa using ht
    rw [h2,Bool.true_and] at hp
    refine k5 (k4 (k1 (A2 (C7 Z Z Z (A3 Z Z (A4 ?_))))));refine k1 ?_
    exact ⟨i+1,⟨by omega,hp⟩,by omega,J58 ⟨le1 rfl,le1 rfl,le1 rfl,le1 rfl,trivial⟩ ⟨rfl,trivial⟩⟩
  ·have hil:i=t.Rows.length:=by have:=A1 ht;omega
   rw [hil,J94 (Nat.le_refl _)] at hp
   have hm:N5 t.Rows t.Parents.toNat=true:=hp
   refine O9 [(1,.s (.one (.ref 1 0)))] [(1,.box [.p (.v (.int .i64 t.Parents)),.p (.list Row 3 rowC t.Rows)])] (J58 ⟨le1 rfl,trivial⟩ ⟨rfl,trivial⟩) ?_
   clear hil ht hp hi
   have hat:=E80 t.Rows t.Parents.toNat (by omega) hm hr
   refine k6 (k2 (A2 (C0 (F4 5 Z) Z (A4 ?_))));refine k1 (k2 (k2 (A2 (A6 (A5 Z) Z (D3 Z Z Z Z (D9 Z Z (A3 Z Z (A4 ?_))))))));refine k1 (k3 (D1 (X:=Nat × Bool × Int) (fun x=>([(1,.s (.one (.ref 1 0))),(5,.s (.one (.ref 5 0))),(30,C4 Row 3 rowC t.Rows),(31,B8 t.Rows.length),(32,B8 x.1)],[(1,.box [.p (.v (.int .i64 t.Parents)),.p (.list Row 3 rowC t.Rows)]),(5,.box [.p (.v (.bool x.2.1)),.p (.v (.int .u32 x.2.2))])])) (fun x=>x.1≤t.Rows.length∧U4 false 0 t.Rows=U4 x.2.1 x.2.2 (t.Rows.drop x.1)) (fun x=>t.Rows.length - x.1) (0,false,0) ⟨Nat.zero_le _,rfl⟩ (J58 ⟨le1 rfl,le1 rfl,le1 rfl,le1 rfl,le1 rfl,trivial⟩ ⟨rfl,rfl,trivial⟩) ?_))
   rintro ⟨i,res,par⟩ ⟨hi,hp⟩
   dsimp only at hi hp ⊢
   refine k2 (A2 (E1 Z Z Z (A4 ?_)));refine k1 (k2 ?_);refine B3 rfl (fun ht=>?_) (fun ht=>?_)
   ·have hlt:i < t.Rows.length:=by have:=A0 ht;omega
    have hv:t.Rows[i]?=some t.Rows[i]:=by simp [hlt]
    have htl:=D11 t.Rows _ (J96 hlt)
    rw [J92 hlt,U4] at hp
    refine k5 (k1 (k2 (k3 (k2 (A2 (A6 (A8 Z (.pure _ _ _ _) Z (by omega) hv) Z (A6 (C8 Z Z) Z (C0 (F4 7 Z) Z (E2 (B6 TySz.out Z Z Z Z Z Z) (A4 ?_))))))))));refine k1 (k2 ?_)
    by_cases hs:I6 t.Rows[i].Text=true
    ·refine A2 (A6 (C6 Z Z Z) Z (C2 (B29 t.Rows[i] (by omega)) Z Z Z ?_));rintro _ rfl;refine L7 Z Z (A3 Z Z (N0 Z Z Z (by rw [hs];rfl) ?_));refine A6 (C6 Z Z Z) Z (N0 Z Z Z (by rw [hs];rfl) ?_);refine G50 (I18 t.Rows[i] res par (by omega)) Z Z Z Z Z Z ?_;rintro _ _ ⟨rfl,rfl⟩;refine B0 Z Z Z Z (fun hg=>by rw [hg];exact Y0 Z) ?_;refine F2 Z Z ?_;refine A4 ?_;refine k1 ?_;refine B3 rfl (fun ht=>?_) (fun ht=>?_)
     ·have h2:C44 res par t.Rows[i]=false:=by rw [hs] at ht;simpa using ht
      rw [hs,h2,Bool.true_and,Bool.false_and] at hp
      refine k2 (A2 (A7 Z Z (A4 ?_)));refine k1 (k10 (k12 (k11 (k11 (k12 (k11 ?_))))))
      exact B4 (F3 rfl rfl rfl) (by rw [M6,if_neg h,if_neg (by simp [hm]),if_pos (by rw [←hat];exact hp)])
     ·have h2:C44 res par t.Rows[i]=true:=by rw [hs] at ht;simpa using ht
      rw [hs,h2,Bool.true_and,Bool.true_and] at hp
      refine k5 (k4 (k1 (A2 (C7 Z Z Z (A3 Z Z (A4 ?_))))));refine k1 ?_
      exact ⟨(i+1,_,_),⟨by dsimp only;omega,hp⟩,by dsimp only;omega,J58 ⟨le1 rfl,le1 rfl,le1 rfl,le1 rfl,le1 rfl,trivial⟩ ⟨rfl,rfl,trivial⟩⟩
    ·have hs':I6 t.Rows[i].Text=false:=by simpa using hs
     refine A2 (A6 (C6 Z Z Z) Z (C2 (B29 t.Rows[i] (by omega)) Z Z Z ?_));rintro _ rfl;refine L7 Z Z (A3 Z Z (B0 Z Z Z Z (fun hg=>by rw [hg];exact C6 Z Z Z) ?_));refine N9 Z Z Z (by rw [hs'];decide) Z ?_;refine N9 Z Z Z (by rw [hs'];decide) Z ?_;refine A6 (G7 (q:=true) Z (fun h=>rfl) (fun h=>by rw [hs'] at h;cases h)) Z ?_;refine A4 ?_
     rw [hs',Bool.false_and,Bool.false_and] at hp
     refine k1 ?_;refine B3 rfl (fun ht=>?_) (fun ht=>?_)
     ·refine k2 (A2 (A7 Z Z (A4 ?_)));refine k1 (k10 (k12 (k11 (k11 (k12 (k11 ?_))))))
      exact B4 (F3 rfl rfl rfl) (by rw [M6,if_neg h,if_neg (by simp [hm]),if_pos (by rw [←hat];exact hp)])
     ·rw [hs'] at ht;cases ht
   ·have hil:i=t.Rows.length:=by have:=A1 ht;omega
    rw [hil,J94 (Nat.le_refl _)] at hp
    have hp':U4 false 0 t.Rows=true:=hp
    refine k6 (k2 (A2 (A7 Z Z (A4 ?_))));refine k1 (k10 ?_)
    exact B4 (F3 rfl rfl rfl) (by rw [M6,if_neg h,if_neg (by simp [hm]),if_neg (by rw [←hat,hp'];simp)])
theorem C65 (t:Table) (c:Int) (hr:I2 t.Rows) (hl:t.Rows.length≤536870911) (hx:N7 t.Rows≤536870911):FnOk Tryz.prog 114 [pTable t,E5 c] (fun rs=>rs=[L6 (L9 (H3 t.Rows c)).1,E5 (L9 (H3 t.Rows c)).2]):=by
 refine FnOk.intro Tryz.func114 (by decide) Z Z Z Z ?_
 refine k2 (A2 (C0 (M2 2 Z Z Z) Z (A7 Z Z (A7 Z Z (A4 ?_)))));refine k1 (k2 (A2 (C0 (R7 6 _ I0 Z) Z (A4 ?_))));refine k1 (k2 (k2 (A2 (A6 (A5 Z) Z (D3 Z Z Z Z (D9 Z Z (A3 Z Z (A4 ?_))))))));refine k1 (k3 (D1 (X:=Nat) (fun i=>([(1,B8 c),(2,.s (.one (.ref 2 0))),(6,.s (.one (.buf 6 Str 1 I0 (H3 (t.Rows.take i) c)))),(10,C4 Row 3 rowC t.Rows),(11,B8 t.Rows.length),(12,B8 i)],[(6,.spare (H3 (t.Rows.take i) c).length 1 9)])) (fun i=>i≤t.Rows.length) (fun i=>t.Rows.length - i) 0 (Nat.zero_le _) (J58 ⟨le1 rfl,le1 rfl,le1 rfl,le1 rfl,le1 rfl,le1 rfl,trivial⟩ ⟨rfl,trivial⟩) ?_))
 intro i hi
 dsimp only at hi ⊢
 have hcl:=C21 (t.Rows.take i) c
 rw [K03] at hcl
 refine k2 (A2 (E1 Z Z Z (A4 ?_)));refine k1 (k2 ?_);refine B3 rfl (fun ht=>?_) (fun ht=>?_)
 ·have hlt:i < t.Rows.length:=by have:=A0 ht;omega
  have hv:t.Rows[i]?=some t.Rows[i]:=by simp [hlt]
  have hst:H3 (t.Rows.take (i+1)) c=H3 (t.Rows.take i) c++(if i6 t.Rows[i] c then [t.Rows[i].Text] else []):=by
   unfold H3
   rw [J93 hlt,K34,K00]
   cases hv:i6 t.Rows[i] c<;>simp [hv]
  refine k5 (k1 (k2 (k3 (k2 (A2 (A6 (A8 Z (.pure _ _ _ _) Z (by omega) hv) Z (A6 (C8 Z Z) Z (C0 (F4 8 Z) Z (E2 (B6 TySz.out Z Z Z Z Z Z) (A4 ?_))))))))));refine k1 (k2 (A2 (A6 (C6 Z Z Z) Z (A3 Z Z (C2 (D70 t.Rows[i] c (hr _ (J96 hlt))) Z Z Z ?_)))));rintro _ rfl;refine A4 ?_;refine k1 ?_;refine B3 rfl (fun ht=>?_) (fun ht=>?_)
  ·rw [ht,if_pos rfl] at hst
   skip
   refine A2 (A3 Z Z (A6 (A5 Z) Z (D3 Z Z Z Z (A6 (C9 (c:=I0) (ys:=[_]) (D8 Z Z Z Z F1) Z Z Z) Z (C0 (F8 Z Z Z (.pure _ _ _ _) (by (simp only [J87,J89];omega)) Z) Z (A7 Z Z (A4 ?_)))))));refine k4 (k1 (A2 (C7 Z Z Z (A3 Z Z (A4 ?_)))));refine k1 ?_;refine ⟨i+1,by omega,by omega,?_⟩
   rw [hst]
   exact J58 ⟨le1 rfl,le1 rfl,le1 rfl,le1 rfl,le1 rfl,le1 rfl,trivial⟩ ⟨rfl,trivial⟩
  ·rw [ht,if_neg (by simp),K06] at hst
   refine k5 (k4 (k1 (A2 (C7 Z Z Z (A3 Z Z (A4 ?_))))));refine k1 ?_;refine ⟨i+1,by omega,by omega,?_⟩
   rw [hst]
   exact J58 ⟨le1 rfl,le1 rfl,le1 rfl,le1 rfl,le1 rfl,le1 rfl,trivial⟩ ⟨rfl,trivial⟩
 ·have hil:i=t.Rows.length:=by have:=A1 ht;omega
  rw [hil,J98] at hcl ⊢
  have hfl:=C70 t.Rows c
  refine k6 (k2 (A2 (A3 Z Z (C2 (J26 (H3 t.Rows c) (by omega) (by omega)) Z Z Z ?_))));rintro _ rfl;refine F5 Z Z Z (F5 Z Z Z (A7 Z Z (A7 Z Z (A4 ?_))));refine k1 (k10 ?_)
  exact B4 (U7 rfl rfl rfl rfl rfl) rfl
theorem E65 (t:Table) (c:Int) (hr:I2 t.Rows) (hl:t.Rows.length≤536870911) (hx:N7 t.Rows≤536870911):FnOk Tryz.prog 60 [pTable t,E5 c] (fun rs=>rs=[L6 (U0 t c).1,E5 (U0 t c).2]):=by
 refine FnOk.intro Tryz.func60 (by decide) Z Z Z Z ?_
 refine k2 (A2 (C0 (M2 2 Z Z Z) Z (A7 Z Z (A7 Z Z (A4 ?_)))));refine k1 (k2 (k2 (A2 (A6 (C6 Z Z Z) Z (C2 (I47 t hr hl (by omega)) Z Z Z ?_)))));rintro _ rfl;refine A7 Z Z (A4 ?_);refine k1 (k2 (A2 (A3 Z Z (A6 (H9 Z Z) Z (A4 ?_)))));refine k1 ?_;refine B3 rfl (fun ht=>?_) (fun ht=>?_)
 ·have h:=A0 ht
  refine k2 (A2 (A3 Z Z (A7 Z Z (A7 Z Z (A4 ?_)))));refine k1 (k10 (k11 ?_))
  exact B4 (U7 rfl rfl rfl rfl rfl) (by rw [U0,if_pos h])
 ·have h:=A1 ht
  refine k5 (k1 (k2 (k2 (A2 (A3 Z Z (E1 Z Z Z (A3 Z Z (B0 Z Z Z Z (fun hg=>by rw [hg];exact B5 Z Z) ?_))))))));refine B0 Z Z Z Z (fun hg=>by rw [hg];exact A5 Z) ?_;refine B0 Z Z Z Z (fun hg=>by rw [hg];exact B2 Z Z Z) ?_;refine B0 Z Z Z Z (fun hg=>by rw [hg];exact i8 Z Z) ?_;refine F2 Z Z ?_;refine A4 ?_;refine k1 ?_;refine B3 rfl (fun ht=>?_) (fun ht=>?_)
  ·have h2:=A0 (or_pick.symm.trans ht)
   refine k2 (A2 (A7 Z Z (A7 Z Z (A4 ?_))));refine k1 (k10 (k11 ?_))
   exact B4 (U7 rfl rfl rfl rfl rfl) (by rw [U0,if_neg h,if_pos h2])
  ·have h2:=A1 (or_pick.symm.trans ht)
   refine k5 (k1 (k2 (A2 (A6 (C6 Z Z Z) Z (A3 Z Z (C2 (C65 t c hr hl hx) Z Z Z ?_))))));rintro _ rfl;refine F5 Z Z Z (F5 Z Z Z (A7 Z Z (A7 Z Z (A4 ?_))));refine k1 (k10 ?_)
   exact B4 (U7 rfl rfl rfl rfl rfl) (by rw [U0,if_neg h,if_neg h2])
def isBld (ob:Obs) (xs:Str):Prop:=(∃a,(a=.p (.v (.pointer none))∨a=.ref 700 0)∧D4 ob 700=some (.tbx 124 [a,.buf 701 UInt8 1 u8C xs]))∧D4 ob 701=some (.spare xs.length 1 5)
abbrev bldObs (ob:Obs) (ys xs:Str):Obs:=(700,.tbx 124 [.ref 700 0,.buf 701 UInt8 1 u8C xs])::(701,.spare xs.length 1 5)::Obs.forget 701 ((700,.tbx 124 [.ref 700 0,.buf 701 UInt8 1 u8C ys])::ob)
def I19:Go.Shelf.Ren:=⟨fun | 240=>147 | 276=>204 | n=>n,fun | 72=>124 | 70=>122 | 164=>240 | 37=>115 | n=>n,fun n=>n⟩
theorem ccLays:Go.Proofs.Lays.n240 Tryz.prog I19:={
 mixed:=by kernel_rfl
 f240:=Tryz.func147.trans (congrArg some (by kernel_rfl))
 f276:=Tryz.func204.trans (congrArg some (by kernel_rfl))
 t0:=Tryz.underlying0
 a0:=Tryz.isAgg0
 z0:=Tryz.sizeOf0
 v0:=Tryz.zeroValue0
 t4:=Tryz.underlying4
 a4:=Tryz.isAgg4
 z4:=Tryz.sizeOf4
 v4:=Tryz.zeroValue4
 t9:=Tryz.underlying9
 a9:=Tryz.isAgg9
 z9:=Tryz.sizeOf9
 v9:=Tryz.zeroValue9
 t20:=Tryz.underlying20
 a20:=Tryz.isAgg20
 z20:=Tryz.sizeOf20
 v20:=Tryz.zeroValue20
 t70:=Tryz.underlying122
 a70:=Tryz.isAgg122
 z70:=Tryz.sizeOf122
 v70:=Tryz.zeroValue122
 t72:=Tryz.underlying124
 a72:=Tryz.isAgg124
 z72:=Tryz.sizeOf124
 v72:=Tryz.zeroValue124
 t164:=Tryz.underlying240
 a164:=Tryz.isAgg240
 z164:=Tryz.sizeOf240
 v164:=Tryz.zeroValue240 }
theorem ccX:Builder.X72 Tryz.prog I19:={
 sizeBuilder:=by kernel_rfl
 liesBuilder:=by kernel_rfl }
theorem C37 {gf:Fr} {ob:Obs} {a t:TC} (hk:D4 ob 700=some (.tbx 124 [a,t])) (ha:a=.p (.v (.pointer none))∨a=.ref 700 0) :
  AL.Met Tryz.prog 147 [.one (.ref 700 0)] gf ob [] (fun rs ob'=>rs=[]∧ob'=(700,.tbx 124 [.ref 700 0,t])::ob) :=
 AL.Met.copyCheck ⟨_,rfl,rfl,rfl⟩ (fun b w h1 h2 h3=>Any.Builder_copyCheck_fresh (ρ:=I19) ccLays ccX b w h1 h2 h3) (fun b w h=>Any.Builder_copyCheck_used (ρ:=I19) ccLays ccX b w h) hk ha
theorem Q3 {gf:Fr} {ob:Obs} {xs s:Str} (hb:isBld ob xs) (hlen:xs.length+s.length≤1073741824) :
  AL.Met Tryz.prog 85 [.one (.ref 700 0),.one (.p (.v (.string ⟨s.toArray⟩)))] gf ob [701] (fun rs ob'=>rs=[.one (.p (.v (.int .i64 s.length))),.one (.p (.v .nilIface))]∧ob'=bldObs ob xs (xs++s)):=by
 obtain ⟨⟨a,ha,hk⟩,hk1⟩:=hb
 refine AL.Met.intro Tryz.func85 (by decide) Z Z Z ?_
 refine k2 (A2 (A7 Z Z (A7 Z Z (A4 ?_))));refine k1 (k2 (A2 (A3 Z Z (A47 (C37 hk ha) Z Z Z ?_))));rintro _ _ ⟨rfl,rfl⟩;refine A4 ?_;refine k1 (k2 (A2 (A3 Z Z (A3 Z Z (A6 (E8 Z) Z (A6 (A5 Z) Z (A6 (D66 Z Z Z) Z (A3 Z Z (C0 (E28 TyStr.out Z hk1 Z (by first | omega | (simp;omega)) Z) Z (A6 (E8 Z) Z (A6 (A5 Z) Z (E2 (C94 TySz.out Z Z Z Z Z Z) (A4 ?_)))))))))))));refine k1 (k2 (A2 (A3 Z Z (A6 (K6 Z) Z (A7 Z Z (A7 Z Z (A4 ?_)))))));refine k1 (k10 ?_)
 exact S7 (rets2 rfl rfl rfl) (by repeat (first | exact H2 | refine G8 rfl ?_ | refine J4 _ ?_)) (fun _ _ h=>h) ⟨rfl,rfl⟩
theorem A98 {gf:Fr} {ob:Obs} {xs:Str} {c:UInt8} (hb:isBld ob xs) (hlen:xs.length+1≤1073741824) :
  AL.Met Tryz.prog 136 [.one (.ref 700 0),.one (.p (.v (.int .u8 c.toNat)))] gf ob [701] (fun rs ob'=>rs=[.one (.p (.v .nilIface))]∧ob'=bldObs ob xs (xs++[c])):=by
 obtain ⟨⟨a,ha,hk⟩,hk1⟩:=hb
 refine AL.Met.intro Tryz.func136 (by decide) Z Z Z ?_
 refine k2 (A2 (A7 Z Z (A4 ?_)));refine k1 (k2 (A2 (A3 Z Z (A47 (C37 hk ha) Z Z Z ?_))));rintro _ _ ⟨rfl,rfl⟩;refine A4 ?_;refine k1 (k2 (A2 (A3 Z Z (A3 Z Z (A6 (E8 Z) Z (A6 (A5 Z) Z (A6 (D66 Z Z Z) Z (A3 Z Z (A6 (C9 (c:=u8C) (ys:=[c]) (D8 Z Z Z Z F1) Z Z Z) Z (C0 (F8 Z hk1 Z (.pure _ _ _ _) (by (simp;omega)) Z) Z (A6 (E8 Z) Z (A6 (A5 Z) Z (E2 (C94 TySz.out Z Z Z Z Z Z) (A4 ?_))))))))))))));refine k1 (k2 (A2 (A7 Z Z (A4 ?_))));refine k1 (k10 ?_)
 exact S7 (A64 rfl rfl) (by repeat (first | exact H2 | refine G8 rfl ?_ | refine J4 _ ?_)) (fun _ _ h=>h) ⟨rfl,rfl⟩
end Go.Proofs.YtbiadkkamhpdnaaGreatDoor
