/- Walks of the program's functions. -/
import Derived.Test.YtbiadkkamhpdnaaGreatDoorTy
import Derived.Test.YtbiadkkamhpdnaaGreatDoorFs
import Derived.Test.YtbiadkkamhpdnaaGreatDoorSh
set_option linter.unusedSimpArgs false
namespace Go.Proofs.YtbiadkkamhpdnaaGreatDoor
open Go Go.AL
set_option maxRecDepth 100000
theorem E67 (p:Int):0≤IntKind.u64.wrap p:=by simp [IntKind.wrap,IntKind.signed,IntKind.bits];omega
theorem C49 (s:Str) (hs:s.length≤1099511627776):FnOk Tryz.prog 128 [I1 s] (fun rs=>rs=[O8 (ended s)]):=by
 refine FnOk.intro Tryz.func128 (by decide) Z Z Z Z ?_
 refine k2 ?_
 refine A3 (A2 (A5 Z Z) Z (A6 ?_))
 refine k1 (k2 ?_)
 have hl:s≠[]→s[((s.length:Int) - 1).toNat]?=some (s.getLastD 0):=by
  intro h
  have h1:0 < s.length:=List.length_pos_iff.2 h
  have h2:((s.length:Int) - 1).toNat=s.length - 1:=by omega
  rw [h2,←List.getLast?_eq_getElem?,List.getLast?_eq_some_getLast h,List.getLastD_eq_getLast?,List.getLast?_eq_some_getLast h]
  rfl
 refine A3 (A2 (A4 Z Z) Z (A2 (i6 Z Z) Z (A2 (A4 Z Z) Z (A8 Z Z Z Z (fun hg=>by rw [hg];exact A4 Z Z) ?_))));refine A8 Z Z Z Z (fun hg=>by rw [hg];exact A4 Z Z) ?_;refine A8 Z Z Z Z (fun hg=>by rw [hg];exact H7 Z) ?_;refine A8 Z Z Z Z (fun hg=>by have hq:=hg;(try simp at hq);rw [hg];exact N6 Z Z (by omega)) ?_;refine A8 Z Z Z Z (fun hg=>by have hq:=hg;(try simp at hq);have h1:=List.length_pos_iff.2 hq;rw [hg];exact Y3 Z Z (by omega) (hl hq)) ?_;refine A8 Z Z Z Z (fun hg=>by rw [hg];exact J9 Z Z) ?_;refine A2 (B2 Z (fun h=>by first | rfl | (rw [h];rfl)) (fun h=>by first | rfl | (rw [h];rfl))) Z ?_;refine A2 (A5 Z Z) Z (A6 ?_)
 refine k1 (k10 ?_)
 refine B5 (F5 Z Z Z) ?_
 rw [F70]
theorem B41 (b:Str) (hb:b.length≤536870912):FnOk Tryz.prog 70 [I1 b] (fun rs=>rs=[T9 (B6 b)]):=by
 refine FnOk.intro Tryz.func70 (by decide) Z Z Z Z ?_
 refine k2 ?_
 refine A3 (A2 (A5 Z Z) Z (A6 ?_))
 refine k1 (k2 ?_)
 refine A3 (C4 (X3 3 _ H0 Z) Z (A6 ?_))
 refine k1 (k2 ?_)
 refine A3 (A2 (A5 Z Z) Z (A6 ?_))
 refine k1 (k2 (k2 ?_))
 refine A3 (A2 (A5 Z Z) Z (A6 ?_))
 refine k1 (k3 ?_)
 refine D8 (X:=Nat × Nat × List Str) (fun x=>([(0,P8 b),(3,.s (.one (.buf 3 Str 1 H0 x.2.2))),(4,D2 x.2.1),(5,D2 x.1)],[(3,.spare x.2.2.length 1 9)]))
  (fun x=>x.1≤b.length∧x.2.1≤x.1∧x.2.2.length≤x.1∧(x.1=b.length→x.2.1=x.1)∧x.2.2++F1 ((b.drop x.2.1).take (x.1 - x.2.1)) (b.drop x.1)=B6 b) (fun x=>b.length - x.1) (0,0,[]) (by simp [B6]) ?_ ?_
 ·exact F77 ⟨⟨_,rfl,.same _⟩,⟨_,rfl,.same _⟩,⟨_,rfl,.same _⟩,⟨_,rfl,.same _⟩,trivial⟩ ⟨rfl,trivial⟩
 ·rintro ⟨i,from',out⟩ ⟨hi,hf,ho,he,hp⟩
  dsimp only at hi hf ho he hp ⊢
  refine k2 (k2 ?_)
  refine A3 (A2 (A4 Z Z) Z (A2 (A4 Z Z) Z (A2 (H7 Z) Z (A2 (E5 Z Z) Z (A6 ?_)))))
  refine k1 ?_
  refine B4 rfl (fun ht=>?_) (fun ht=>?_)
  ·have hlt:i < b.length:=by simpa using ht
   have hv:b[i]?=some b[i]:=by simp [hlt]
   refine k5 (k1 (k2 (k3 (k2 ?_))))
   refine A3 (A2 (A4 Z Z) Z (A2 (A4 Z Z) Z (A2 (Y3 Z Z (by omega) hv) Z (A2 (J9 Z Z) Z (A2 (A4 Z Z) Z (A8 Z Z Z Z (fun hg=>by rw [hg];exact A4 Z Z) ?_))))));refine A8 Z Z Z Z (fun hg=>by have hq:=hg;(try simp at hq);rw [hg];exact C3 Z Z (by omega)) ?_;refine A8 Z Z Z Z (fun hg=>by rw [hg];exact A4 Z Z) ?_;refine A8 Z Z Z Z (fun hg=>by rw [hg];exact H7 Z) ?_;refine A8 Z Z Z Z (fun hg=>by rw [hg];exact J9 Z Z) ?_;refine A2 (B2 Z (fun h=>by first | rfl | (rw [h];rfl)) (fun h=>by first | rfl | (rw [h];rfl))) Z ?_;refine A6 ?_
   refine k1 ?_
   refine B4 rfl (fun ht2=>?_) (fun ht2=>?_)
   ·refine k2 ?_
    refine A3 (A2 (A4 Z Z) Z (A2 (A4 Z Z) Z (A2 (A4 Z Z) Z (A2 (A4 Z Z) Z (A2 (C3 Z Z (by omega)) Z (A2 (j8 Z Z Z (by omega) (by omega) (by omega)) Z (A2 (E3 (c:=H0) (ys:=[_]) (E6 Z Z Z Z I9) Z Z Z) Z (C4 (F4 Z Z Z (.pure _ _ _ _) (by simp;omega) Z) Z (A2 (A5 Z Z) Z (A6 ?_))))))))))
    refine k1 ?_
    refine A3 (A2 (A4 Z Z) Z (A2 (C3 Z Z (by omega)) Z (A2 (A5 Z Z) Z (A6 ?_))))
    refine k4 (k1 ?_)
    refine A3 (A2 (A4 Z Z) Z (A2 (C3 Z Z (by omega)) Z (A2 (A5 Z Z) Z (A6 ?_))))
    refine k1 ?_
    refine ⟨(i+1,i+1,_),⟨?_,?_,?_,?_,?_⟩,?_,F77 ⟨⟨_,rfl,.same _⟩,⟨_,rfl,.same _⟩,⟨_,rfl,.same _⟩,⟨_,rfl,.same _⟩,trivial⟩ ⟨rfl,trivial⟩⟩
    all_goals dsimp only
    ·omega
    ·omega
    ·simp;omega
    ·omega
    ·have hc:b[i]=10∨i+1=b.length:=by
      simp only [D32] at ht2
      by_cases h:b[i]=10
      ·exact .inl h
      ·simp [h] at ht2;exact .inr (by omega)
     rw [E80,G46,Nat.sub_self,List.take_zero,←D33 b from' i hf hlt,G28,←hp,G12 hlt,j3]
     rcases hc with h | h
     ·rw [if_pos h];rfl
     ·have hd:b.drop (i+1)=[]:=G18 (by omega)
      rw [hd]
      split
      ·rfl
      ·rw [show F1 ([]:Str) []=[] from rfl,D68 _ (by simp)];simp
    ·omega
   ·refine k5 (k4 (k1 ?_))
    refine A3 (A2 (A4 Z Z) Z (A2 (C3 Z Z (by omega)) Z (A2 (A5 Z Z) Z (A6 ?_))))
    refine k1 ?_
    refine ⟨(i+1,from',out),⟨?_,?_,?_,?_,?_⟩,?_,F77 ⟨⟨_,rfl,.same _⟩,⟨_,rfl,.same _⟩,⟨_,rfl,.same _⟩,⟨_,rfl,.same _⟩,trivial⟩ ⟨rfl,trivial⟩⟩
    all_goals dsimp only
    ·omega
    ·omega
    ·omega
    ·intro h
     simp [show (i:Int)+1=(b.length:Int) by omega] at ht2
    ·have hc:b[i]≠10:=fun h=>by simp [h] at ht2
     rw [←D33 b from' i hf hlt,←hp,G12 hlt,j3,if_neg hc]
    ·omega
  ·refine k6 (k2 ?_)
   refine A3 (A2 (A4 Z Z) Z (A2 (A5 Z Z) Z (A6 ?_)))
   refine k1 (k10 ?_)
   refine B5 (F5 Z Z Z) ?_
   have hi':i=b.length:=by simp at ht;omega
   subst hi'
   have:=he rfl
   subst this
   rw [Nat.sub_self,List.take_zero,G18 (Nat.le_refl _)] at hp
   rw [←hp];simp [F1]
theorem F57 (b:Str) (hb:b.length≤1099511627776):FnOk Tryz.prog 99 [I1 b] (fun rs=>rs=[I8 (S5 b)]):=by
 refine FnOk.intro Tryz.func99 (by decide) Z Z Z Z ?_
 refine k2 ?_
 refine A3 (A2 (A5 Z Z) Z (A6 ?_))
 refine k1 (k2 (k2 ?_))
 refine A3 (A2 (A4 Z Z) Z (A2 (H7 Z) Z (A2 (L1 Z Z) Z (A2 (A4 Z Z) Z (A8 Z Z Z Z (fun hg=>by rw [hg];exact A4 Z Z) ?_)))));refine A8 Z Z Z Z (fun hg=>by have hq:=hg;(try simp at hq);rw [hg];exact E9 (B41 b (by omega)) Z Z) ?_;refine A8 Z Z Z Z (fun hg=>by rw [hg];exact E1 Z (.pure _ _ _ _)) ?_;refine A8 Z Z Z Z (fun hg=>by rw [hg];exact L1 Z Z) ?_;refine A2 (B2 Z (fun h=>by first | rfl | (rw [h];rfl)) (fun h=>by first | rfl | (rw [h];rfl))) Z ?_;refine A6 ?_
 refine k1 ?_
 refine B4 rfl (fun ht=>?_) (fun ht=>?_)
 ·have h:=A0 (or_pick.symm.trans ht)
  refine k2 ?_
  refine A3 (A2 (A5 Z Z) Z (A6 ?_))
  refine k1 (k10 (k11 ?_))
  exact B5 (F5 rfl rfl rfl) (by rw [S5,if_pos (by omega)])
 ·have h:=A1 (or_pick.symm.trans ht)
  refine k5 (k1 (k2 ?_))
  refine A3 (A2 (A5 Z Z) Z (A6 ?_))
  refine k1 (k10 ?_)
  exact B5 (F5 rfl rfl rfl) (by rw [S5,if_neg (by omega)])
theorem F12 (l:List Str) (hl:∀s∈l,s.length≤1099511627776):FnOk Tryz.prog 72 [T9 l] (fun rs=>rs=[O8 (P5 l)]):=by
 refine FnOk.intro Tryz.func72 (by decide) Z Z Z Z ?_
 refine A12 (t:=0) rfl (.pure _ _ _ _) fun hlen=>?_
 refine k2 ?_
 refine A3 (A2 (A5 Z Z) Z (A6 ?_))
 refine k1 (k2 (k2 ?_))
 refine A3 (A2 (A5 Z Z) Z (A6 ?_))
 refine k1 (k3 ?_)
 refine D8 (X:=Nat) (fun i=>([(0,D5 Str 1 H0 l),(3,D2 i)],[])) (fun i=>i≤l.length∧P5 l=P5 (l.drop i)) (fun i=>l.length - i) 0 (by simp) (F77 ⟨le1 rfl,le1 rfl,trivial⟩ trivial) ?_
 rintro i ⟨hi,hp⟩
 dsimp only at hi hp ⊢
 refine k2 (k2 ?_)
 refine A3 (A2 (A4 Z Z) Z (A2 (A4 Z Z) Z (A2 (E1 Z (.pure _ _ _ _)) Z (A2 (E5 Z Z) Z (A6 ?_)))))
 refine k1 ?_
 refine B4 rfl (fun ht=>?_) (fun ht=>?_)
 ·have hlt:i < l.length:=by simpa using ht
  have hv:l[i]?=some l[i]:=by simp [hlt]
  have hs:=hl l[i] (G22 hlt)
  rw [G12 hlt] at hp
  refine k5 (k1 (k2 (k3 (k2 (k2 ?_)))))
  refine A3 (A2 (A5 Z Z) Z (A6 ?_))
  refine k1 (k3 ?_)
  refine D8 (X:=Nat) (fun k=>([(0,D5 Str 1 H0 l),(3,D2 i),(4,D2 k)],[])) (fun k=>k≤l[i].length∧I2 l[i]=((l[i].dropLast.drop k).all (·≠10)&&l[i] != [])) (fun k=>l[i].length - k) 0 (by simp [I2]) (F77 ⟨le1 rfl,le1 rfl,le1 rfl,trivial⟩ trivial) ?_
  intro k hk
  dsimp only at hk ⊢
  refine k2 (k2 ?_)
  refine A3 (A2 (A4 Z Z) Z (A2 (C3 Z Z (by omega)) Z (A2 (A4 Z Z) Z (A2 (A4 Z Z) Z (A2 (B1 Z (.pure _ _ _ _) Z (by omega) hv) Z (A2 (B3 Z Z) Z (A2 (H7 Z) Z (A2 (E5 Z Z) Z (A6 ?_)))))))))
  refine k1 ?_
  refine B4 rfl (fun ht=>?_) (fun ht=>?_)
  ·have hk2:k+1 < l[i].length:=by have:=A0 ht;omega
   have hvk:l[i][k]?=some (l[i][k]'(by omega)):=G09 (by omega)
   have hd:l[i].dropLast.drop k=l[i][k]'(by omega)::l[i].dropLast.drop (k+1):=by
    rw [G12 (by simp;omega)];simp
   rw [hd,List.all_cons] at hk
   refine k5 (k1 (k2 (k3 (k2 ?_))))
   refine A3 (A2 (A4 Z Z) Z (A2 (A4 Z Z) Z (A2 (B1 Z (.pure _ _ _ _) Z (by omega) hv) Z (A2 (B3 Z Z) Z (A2 (A4 Z Z) Z (A2 (Y3 Z Z (by omega) hvk) Z (A2 (J9 Z Z) Z (A6 ?_))))))))
   refine k1 ?_
   refine B4 rfl (fun ht=>?_) (fun ht=>?_)
   ·have h10:=(D32 _).1 (A0 ht)
    refine k2 ?_
    refine A3 (A2 (A5 Z Z) Z (A6 ?_))
    refine k1 (k10 (k12 (k11 (k11 (k12 (k11 (k12 (k11 (k11 (k12 (k11 ?_)))))))))))
    exact B5 (F5 rfl rfl rfl) (by rw [hp,P5,hk.2];simp [h10])
   ·have h10:l[i][k]'(by omega)≠10:=fun h=>A1 ht ((D32 _).2 h)
    refine k5 (k4 (k1 ?_))
    refine A3 (A2 (A4 Z Z) Z (A2 (C3 Z Z (by omega)) Z (A2 (A5 Z Z) Z (A6 ?_))))
    refine k1 ?_
    exact ⟨k+1,⟨by omega,by rw [hk.2];simp [h10]⟩,by omega,F77 ⟨le1 rfl,le1 rfl,le1 rfl,trivial⟩ trivial⟩
  ·have hk2:l[i].length≤k+1:=by have:=A1 ht;omega
   have hlo:I2 l[i]=(l[i] != []):=by rw [hk.2,G18 (by simp;omega)];rfl
   refine k6 (k2 ?_)
   refine A3 (A2 (A4 Z Z) Z (A2 (A4 Z Z) Z (A2 (B1 Z (.pure _ _ _ _) Z (by omega) hv) Z (A2 (B3 Z Z) Z (A2 (u7 Z Z) Z (A2 (A4 Z Z) Z (A8 Z Z Z Z (fun hg=>by rw [hg];exact A4 Z Z) ?_)))))));refine A8 Z Z Z Z (fun hg=>by have hq:=hg;(try simp at hq);rw [hg];exact C3 Z Z (by omega)) ?_;refine A8 Z Z Z Z (fun hg=>by rw [hg];exact A4 Z Z) ?_;refine A8 Z Z Z Z (fun hg=>by rw [hg];exact E1 Z (.pure _ _ _ _)) ?_;refine A8 Z Z Z Z (fun hg=>by rw [hg];exact E5 Z Z) ?_;refine A8 Z Z Z Z (fun hg=>by rw [hg];exact A4 Z Z) ?_;refine I0 Z Z Z (.gd (.val _)) Z (fun hg=>by obtain ⟨hg1,hg2⟩:=Q8 hg;(try rw [hg1]);(try rw [hg2]);exact A4 Z Z) ?_;refine I0 Z Z Z (.gd (.val _)) Z (fun hg=>by obtain ⟨hg1,hg2⟩:=Q8 hg;(try rw [hg1]);(try rw [hg2]);exact A4 Z Z) ?_;refine I0 Z Z Z (.gd (.val _)) Z (fun hg=>by have hq:=hg;(try simp at hq);obtain ⟨hg1,hg2⟩:=Q8 hg;(try rw [hg1]);(try rw [hg2]);exact B1 Z (.pure _ _ _ _) Z (by omega) hv) ?_;refine I0 Z Z Z (.gd (.val _)) Z (fun hg=>by obtain ⟨hg1,hg2⟩:=Q8 hg;(try rw [hg1]);(try rw [hg2]);exact B3 Z Z) ?_;refine I0 Z Z Z (.gd (.val _)) Z (fun hg=>by have hq:=hg;(try simp at hq);obtain ⟨hg1,hg2⟩:=Q8 hg;(try rw [hg1]);(try rw [hg2]);exact E9 (C49 l[i] hs) Z Z) ?_;refine I0 Z Z Z (.gd (.val _)) Z (fun hg=>by obtain ⟨hg1,hg2⟩:=Q8 hg;(try rw [hg1]);(try rw [hg2]);exact L2 Z) ?_;refine A8 Z Z Z Z (fun hg=>by rw [hg];exact B2 Z (fun h=>by first | rfl | (rw [h];rfl)) (fun h=>by first | rfl | (rw [h];rfl))) ?_;refine A2 (B2 Z (fun h=>by first | rfl | (rw [h];rfl)) (fun h=>by first | rfl | (rw [h];rfl))) Z ?_;refine A6 ?_
   refine k1 ?_
   have he:(l.drop (i+1)).isEmpty=decide (l.length≤i+1):=by
    rw [Bool.eq_iff_iff];simp
   rw [P5,hlo,he] at hp
   refine B4 rfl (fun ht=>?_) (fun ht=>?_)
   ·refine k2 ?_
    refine A3 (A2 (A5 Z Z) Z (A6 ?_))
    refine k1 (k10 (k12 (k11 (k11 (k12 (k11 ?_))))))
    refine B5 (F5 Z Z Z) ?_
    have:P5 l=false:=by
     rw [hp]
     by_cases h:l[i]=[]
     ·simp [h]
     ·rw [if_neg (by simpa using h)] at ht
      by_cases h2:(i:Int)+1 < l.length
      ·rw [if_pos (by simpa using h2)] at ht
       have h3:¬(l.length≤i+1):=by omega
       simp only [Bool.not_eq_true'] at ht
       simp [ht,h3]
      ·rw [if_neg (by simpa using h2)] at ht;cases ht
    rw [this]
   ·refine k5 (k4 (k1 ?_))
    refine A3 (A2 (A4 Z Z) Z (A2 (C3 Z Z (by omega)) Z (A2 (A5 Z Z) Z (A6 ?_))))
    refine k1 ?_
    refine ⟨i+1,⟨by omega,?_⟩,by omega,F77 ⟨le1 rfl,le1 rfl,trivial⟩ trivial⟩
    rw [hp]
    by_cases h:l[i]=[]
    ·rw [if_pos (by simpa using h)] at ht;cases ht
    ·rw [if_neg (by simpa using h)] at ht
     by_cases h2:(i:Int)+1 < l.length
     ·rw [if_pos (by simpa using h2)] at ht
      simp only [Bool.not_eq_false'] at ht
      simp [ht,h]
     ·have h3:l.length≤i+1:=by omega
      simp [h,h3]
 ·have:i=l.length:=by have:=A1 ht;omega
  subst this
  refine k6 (k2 ?_)
  refine A3 (A2 (A5 Z Z) Z (A6 ?_))
  refine k1 (k10 ?_)
  exact B5 (F5 rfl rfl rfl) (by rw [hp];simp [P5])
theorem all_ok (l:List Str) (hl:l.flatten.length≤536870912):FnOk Tryz.prog 129 [T9 l] (fun rs=>rs=[I1 l.flatten]):=by
 refine FnOk.intro Tryz.func129 (by decide) Z Z Z Z ?_
 refine A12 (t:=0) rfl (.pure _ _ _ _) fun hlen=>?_
 refine k2 ?_
 refine A3 (A2 (A5 Z Z) Z (A6 ?_))
 refine k1 (k2 ?_)
 refine A3 (C4 (X3 3 _ u8C Z) Z (A6 ?_))
 refine k1 (k2 (k2 ?_))
 refine A3 (A2 (A5 Z Z) Z (A6 ?_))
 refine k1 (k3 ?_)
 refine D8 (X:=Nat) (fun i=>([(0,D5 Str 1 H0 l),(3,.s (.one (.buf 3 UInt8 1 u8C (l.take i).flatten))),(4,D2 i)],[(3,.spare (l.take i).flatten.length 1 5)])) (fun i=>i≤l.length) (fun i=>l.length - i) 0 (by simp) (F77 ⟨le1 rfl,le1 rfl,le1 rfl,trivial⟩ ⟨rfl,trivial⟩) ?_
 intro i hi
 dsimp only at hi ⊢
 refine k2 (k2 ?_)
 refine A3 (A2 (A4 Z Z) Z (A2 (A4 Z Z) Z (A2 (E1 Z (.pure _ _ _ _)) Z (A2 (E5 Z Z) Z (A6 ?_)))))
 refine k1 ?_
 refine B4 rfl (fun ht=>?_) (fun ht=>?_)
 ·have hlt:i < l.length:=by simpa using ht
  have hv:l[i]?=some l[i]:=by simp [hlt]
  have hf:=Q0 l i hlt
  have hle:=N5 l (i+1)
  rw [hf,G07] at hle
  refine k5 (k1 (k2 (k3 ?_)))
  refine A3 (A2 (A4 Z Z) Z (A2 (A4 Z Z) Z (A2 (A4 Z Z) Z (A2 (B1 Z (.pure _ _ _ _) Z (by omega) hv) Z (A2 (B3 Z Z) Z (C4 (C19 TyStr.out Z Z Z (by omega) Z) Z (A2 (A5 Z Z) Z (A6 ?_))))))))
  refine k4 (k1 ?_)
  refine A3 (A2 (A4 Z Z) Z (A2 (C3 Z Z (by omega)) Z (A2 (A5 Z Z) Z (A6 ?_))))
  refine k1 ?_
  refine ⟨i+1,by omega,by omega,?_⟩
  dsimp only
  rw [hf]
  exact F77 ⟨le1 rfl,le1 rfl,le1 rfl,trivial⟩ ⟨rfl,trivial⟩
 ·have:i=l.length:=by simp at ht;omega
  subst this
  refine k6 (k2 ?_)
  refine A3 (A2 (A4 Z Z) Z (A2 (s7 TyStr.out Z (.buf _ _ _ _ _)) Z (A2 (A5 Z Z) Z (A6 ?_))))
  refine k1 (k10 ?_)
  exact B5 (F5 rfl rfl rfl) (by simp)
theorem join_ok (l:List Str) (hl:l.flatten.length≤536870912):FnOk Tryz.prog 73 [T9 l] (fun rs=>rs=[I1 (S6 l).1,I8 (S6 l).2]):=by
 have hl':∀s∈l,s.length≤1099511627776:=fun s hs=>by
  have:s.length≤l.flatten.length:=(List.sublist_flatten_of_mem hs).length_le
  omega
 refine FnOk.intro Tryz.func73 (by decide) Z Z Z Z ?_
 refine A12 (t:=0) rfl (.pure _ _ _ _) fun hlen=>?_
 refine k2 ?_
 refine A3 (A2 (A5 Z Z) Z (A2 (A5 Z Z) Z (A6 ?_)))
 refine k1 (k2 (k2 ?_))
 refine A3 (A2 (A4 Z Z) Z (C2 (F12 l hl') Z Z Z ?_));rintro _ rfl;refine A2 (L2 Z) Z (A6 ?_)
 refine k1 ?_
 refine B4 rfl (fun ht=>?_) (fun ht=>?_)
 ·have h1:P5 l=false:=by simpa using ht
  refine k2 ?_
  refine A3 (A2 (A5 Z Z) Z (A2 (A5 Z Z) Z (A6 ?_)))
  refine k1 (k10 (k11 ?_))
  exact B5 (Z9 rfl rfl rfl rfl rfl) (by simp [S6,h1])
 ·have h1:P5 l=true:=by simpa using ht
  refine k5 (k1 (k2 ?_))
  refine A3 (A2 (A4 Z Z) Z (C2 (all_ok l hl) Z Z Z ?_));rintro _ rfl;refine A2 (A5 Z Z) Z (A6 ?_)
  refine k1 (k2 (k2 ?_))
  refine A3 (A2 (A4 Z Z) Z (A2 (H7 Z) Z (A2 (L1 Z Z) Z (A2 (A4 Z Z) Z (A8 Z Z Z Z (fun hg=>by rw [hg];exact A4 Z Z) ?_)))));refine A8 Z Z Z Z (fun hg=>by rw [hg];exact E1 Z (.pure _ _ _ _)) ?_;refine A8 Z Z Z Z (fun hg=>by rw [hg];exact L1 Z Z) ?_;refine A2 (B2 Z (fun h=>by first | rfl | (rw [h];rfl)) (fun h=>by first | rfl | (rw [h];rfl))) Z ?_;refine A6 ?_
  refine k1 ?_
  refine B4 rfl (fun ht=>?_) (fun ht=>?_)
  ·have h:=A0 (or_pick.symm.trans ht)
   refine k2 ?_
   refine A3 (A2 (A5 Z Z) Z (A2 (A5 Z Z) Z (A6 ?_)))
   refine k1 (k10 (k11 ?_))
   exact B5 (Z9 rfl rfl rfl rfl rfl) (by simp only [S6,h1];rw [if_neg (by simp),if_pos (by omega)])
  ·have h:=A1 (or_pick.symm.trans ht)
   refine k5 (k1 (k2 ?_))
   refine A3 (A2 (A4 Z Z) Z (A2 (A5 Z Z) Z (A2 (A5 Z Z) Z (A6 ?_))))
   refine k1 (k10 ?_)
   exact B5 (Z9 rfl rfl rfl rfl rfl) (by simp only [S6,h1];rw [if_neg (by simp),if_neg (by omega)])
theorem line_ok (s:Str) (hs:s.length≤1099511627776):FnOk Tryz.prog 142 [I1 s] (fun rs=>rs=[O8 (I2 s)]):=by
 refine FnOk.intro Tryz.func142 (by decide) Z Z Z Z ?_
 refine k2 ?_
 refine A3 (A2 (A5 Z Z) Z (A6 ?_))
 refine k1 (k2 (k2 ?_))
 refine A3 (A2 (A5 Z Z) Z (A6 ?_))
 refine k1 (k3 ?_)
 refine D8 (X:=Nat) (fun k=>([(0,P8 s),(3,D2 k)],[])) (fun k=>k≤s.length∧I2 s=((s.dropLast.drop k).all (·≠10)&&s != [])) (fun k=>s.length - k) 0 (by simp [I2]) (F77 ⟨le1 rfl,le1 rfl,trivial⟩ trivial) ?_
 intro k hk
 dsimp only at hk ⊢
 refine k2 (k2 ?_)
 refine A3 (A2 (A4 Z Z) Z (A2 (C3 Z Z (by omega)) Z (A2 (A4 Z Z) Z (A2 (H7 Z) Z (A2 (E5 Z Z) Z (A6 ?_))))))
 refine k1 ?_
 refine B4 rfl (fun ht=>?_) (fun ht=>?_)
 ·have hk2:k+1 < s.length:=by have:=A0 ht;omega
  have hvk:s[k]?=some (s[k]'(by omega)):=G09 (by omega)
  have hd:s.dropLast.drop k=s[k]'(by omega)::s.dropLast.drop (k+1):=by
   rw [G12 (by simp;omega)];simp
  rw [hd,List.all_cons] at hk
  refine k5 (k1 (k2 (k3 (k2 ?_))))
  refine A3 (A2 (A4 Z Z) Z (A2 (A4 Z Z) Z (A2 (Y3 Z Z (by omega) hvk) Z (A2 (J9 Z Z) Z (A6 ?_)))))
  refine k1 ?_
  refine B4 rfl (fun ht=>?_) (fun ht=>?_)
  ·have h10:=(D32 _).1 (A0 ht)
   refine k2 ?_
   refine A3 (A2 (A5 Z Z) Z (A6 ?_))
   refine k1 (k10 (k12 (k11 (k11 (k12 (k11 ?_))))))
   exact B5 (F5 rfl rfl rfl) (by rw [hk.2];simp [h10])
  ·have h10:s[k]'(by omega)≠10:=fun h=>A1 ht ((D32 _).2 h)
   refine k5 (k4 (k1 ?_))
   refine A3 (A2 (A4 Z Z) Z (A2 (C3 Z Z (by omega)) Z (A2 (A5 Z Z) Z (A6 ?_))))
   refine k1 ?_
   exact ⟨k+1,⟨by omega,by rw [hk.2];simp [h10]⟩,by omega,F77 ⟨le1 rfl,le1 rfl,trivial⟩ trivial⟩
 ·have hk2:s.length≤k+1:=by have:=A1 ht;omega
  have hlo:I2 s=(s != []):=by rw [hk.2,G18 (by simp;omega)];rfl
  refine k6 (k2 ?_)
  refine A3 (A2 (A4 Z Z) Z (A2 (i6 Z Z) Z (A2 (A5 Z Z) Z (A6 ?_))))
  refine k1 (k10 ?_)
  exact B5 (F5 rfl rfl rfl) (by rw [hlo];by_cases h:s=[]<;>simp [h])
theorem E10 (l:List Str) (s:Str):FnOk Tryz.prog 167 [T9 l,I1 s] (fun rs=>rs=[I8 (N0 l s 0)]):=by
 refine FnOk.intro Tryz.func167 (by decide) Z Z Z Z ?_
 refine A12 (t:=0) rfl (.pure _ _ _ _) fun hlen=>?_
 refine k2 ?_
 refine A3 (A2 (A5 Z Z) Z (A6 ?_))
 refine k1 (k2 (k2 ?_))
 refine A3 (A2 (A5 Z Z) Z (A6 ?_))
 refine k1 (k3 ?_)
 refine D8 (X:=Nat) (fun i=>([(0,D5 Str 1 H0 l),(1,P8 s),(5,D2 i)],[])) (fun i=>i≤l.length∧N0 l s 0=N0 (l.drop i) s i) (fun i=>l.length - i) 0 (by simp) (F77 ⟨le1 rfl,le1 rfl,le1 rfl,trivial⟩ trivial) ?_
 rintro i ⟨hi,hp⟩
 dsimp only at hi hp ⊢
 refine k2 (k2 ?_)
 refine A3 (A2 (A4 Z Z) Z (A2 (A4 Z Z) Z (A2 (E1 Z (.pure _ _ _ _)) Z (A2 (E5 Z Z) Z (A6 ?_)))))
 refine k1 ?_
 refine B4 rfl (fun ht=>?_) (fun ht=>?_)
 ·have hlt:i < l.length:=by simpa using ht
  have hv:l[i]?=some l[i]:=by simp [hlt]
  rw [D69 l s i hlt] at hp
  refine k5 (k1 (k2 (k3 (k2 ?_))))
  refine A3 (A2 (A4 Z Z) Z (A2 (A4 Z Z) Z (A2 (B1 Z (.pure _ _ _ _) Z (by omega) hv) Z (A2 (B3 Z Z) Z (A2 (A4 Z Z) Z (A2 (u7 Z Z) Z (A6 ?_)))))))
  refine k1 ?_
  refine B4 rfl (fun ht=>?_) (fun ht=>?_)
  ·rw [if_pos (by simpa using ht)] at hp
   refine k2 ?_
   refine A3 (A2 (A4 Z Z) Z (A2 (A5 Z Z) Z (A6 ?_)))
   refine k1 (k10 (k12 (k11 (k11 (k12 (k11 ?_))))))
   exact B5 (F5 rfl rfl rfl) (by rw [hp])
  ·rw [if_neg (by simpa using ht)] at hp
   refine k5 (k4 (k1 ?_))
   refine A3 (A2 (A4 Z Z) Z (A2 (C3 Z Z (by omega)) Z (A2 (A5 Z Z) Z (A6 ?_))))
   refine k1 ?_
   exact ⟨i+1,⟨by omega,by simpa using hp⟩,by omega,F77 ⟨le1 rfl,le1 rfl,le1 rfl,trivial⟩ trivial⟩
 ·have:i=l.length:=by simp at ht;omega
  subst this
  refine k6 (k2 ?_)
  refine A3 (A2 (A5 Z Z) Z (A6 ?_))
  refine k1 (k10 ?_)
  exact B5 (F5 rfl rfl rfl) (by rw [hp];simp [N0])
theorem F58 (fs:List (List Str)) (hfs:fs.flatten.length≤536870912):FnOk Tryz.prog 100 [pStrss fs] (fun rs=>rs=[T9 (D6 fs)]):=by
 refine FnOk.intro Tryz.func100 (by decide) Z Z Z Z ?_
 refine A12 (t:=0) rfl (.pure _ _ _ _) fun hlen=>?_
 refine k2 ?_
 refine A3 (A2 (A5 Z Z) Z (A6 ?_))
 refine k1 (k2 ?_)
 refine A3 (C4 (X3 3 _ H0 Z) Z (A6 ?_))
 refine k1 (k2 (k2 ?_))
 refine A3 (A2 (A5 Z Z) Z (A6 ?_))
 refine k1 (k3 ?_)
 refine D8 (X:=Nat) (fun f=>([(0,D5 (List Str) 1 strsC fs),(3,.s (.one (.buf 3 Str 1 H0 (D6 (fs.take f))))),(4,D2 f)],[(3,.spare (D6 (fs.take f)).length 1 9)])) (fun f=>f≤fs.length) (fun f=>fs.length - f) 0 (by simp) (F77 ⟨le1 rfl,le1 rfl,le1 rfl,trivial⟩ ⟨rfl,trivial⟩) ?_
 intro f hf
 dsimp only at hf ⊢
 refine k2 (k2 ?_)
 refine A3 (A2 (A4 Z Z) Z (A2 (A4 Z Z) Z (A2 (E1 Z (.pure _ _ _ _)) Z (A2 (E5 Z Z) Z (A6 ?_)))))
 refine k1 ?_
 refine B4 rfl (fun ht=>?_) (fun ht=>?_)
 ·have hlt:f < fs.length:=by have:=A0 ht;omega
  have hv:fs[f]?=some fs[f]:=by simp [hlt]
  have hfl:=Q0 fs f hlt
  have hle:=N5 fs (f+1)
  rw [hfl,G07] at hle
  have hn0:=C57 (fs.take f)
  refine k5 (k1 (k2 (k3 (k2 ?_))))
  refine A3 (A2 (A5 Z Z) Z (A6 ?_))
  refine k1 (k3 ?_)
  refine D8 (X:=Nat) (fun i=>([(0,D5 (List Str) 1 strsC fs),(3,.s (.one (.buf 3 Str 1 H0 ((fs[f].take i).foldl J8 (D6 (fs.take f)))))),(4,D2 f),(5,D2 i)],[(3,.spare ((fs[f].take i).foldl J8 (D6 (fs.take f))).length 1 9)])) (fun i=>i≤fs[f].length) (fun i=>fs[f].length - i) 0 (by simp) (F77 ⟨le1 rfl,le1 rfl,le1 rfl,le1 rfl,trivial⟩ ⟨rfl,trivial⟩) ?_
  intro i hi
  dsimp only at hi ⊢
  have hni:=u5 (fs[f].take i) (D6 (fs.take f))
  rw [G17] at hni
  refine k2 (k2 ?_)
  refine A3 (A2 (A4 Z Z) Z (A2 (A4 Z Z) Z (A2 (A4 Z Z) Z (A2 (B1 Z (.pure _ _ _ _) Z (by omega) hv) Z (A2 (B3 Z Z) Z (A2 (E1 Z (.pure _ _ _ _)) Z (A2 (E5 Z Z) Z (A6 ?_))))))))
  refine k1 ?_
  refine B4 rfl (fun ht=>?_) (fun ht=>?_)
  ·have hlt2:i < fs[f].length:=by have:=A0 ht;omega
   have hvi:fs[f][i]?=some fs[f][i]:=by simp [hlt2]
   have hst:(fs[f].take (i+1)).foldl J8 (D6 (fs.take f))=J8 ((fs[f].take i).foldl J8 (D6 (fs.take f))) fs[f][i]:=by
    rw [List.take_add_one,hvi,Option.toList_some,List.foldl_append];rfl
   refine k5 (k1 (k2 (k3 (k2 ?_))))
   refine A3 (A2 (A4 Z Z) Z (A2 (A4 Z Z) Z (A2 (A4 Z Z) Z (A2 (B1 Z (.pure _ _ _ _) Z (by omega) hv) Z (A2 (B3 Z Z) Z (A2 (A4 Z Z) Z (A2 (B1 Z (.pure _ _ _ _) Z (by omega) hvi) Z (A2 (B3 Z Z) Z (C2 (E10 _ _) Z Z Z ?_)))))))));rintro _ rfl;refine A2 (E5 Z Z) Z (A6 ?_)
   refine k1 ?_
   have hpl:=E32 ((fs[f].take i).foldl J8 (D6 (fs.take f))) fs[f][i] 0 (Int.le_refl _)
   refine B4 rfl (fun ht=>?_) (fun ht=>?_)
   ·have hnot:=hpl.1 (A0 ht)
    skip
    refine A3 (A2 (A4 Z Z) Z (A2 (A4 Z Z) Z (A2 (A4 Z Z) Z (A2 (B1 Z (.pure _ _ _ _) Z (by omega) hv) Z (A2 (B3 Z Z) Z (A2 (A4 Z Z) Z (A2 (B1 Z (.pure _ _ _ _) Z (by omega) hvi) Z (A2 (B3 Z Z) Z (A2 (E3 (c:=H0) (ys:=[_]) (E6 Z Z Z Z I9) Z Z Z) Z (C4 (F4 Z Z Z (.pure _ _ _ _) (by simp;omega) Z) Z (A2 (A5 Z Z) Z (A6 ?_))))))))))))
    refine k4 (k1 ?_)
    refine A3 (A2 (A4 Z Z) Z (A2 (C3 Z Z (by omega)) Z (A2 (A5 Z Z) Z (A6 ?_))))
    refine k1 ?_
    refine ⟨i+1,by omega,by omega,?_⟩
    rw [hst,J8,if_neg hnot]
    exact F77 ⟨le1 rfl,le1 rfl,le1 rfl,le1 rfl,trivial⟩ ⟨rfl,trivial⟩
   ·have hin:fs[f][i]∈(fs[f].take i).foldl J8 (D6 (fs.take f)):=Classical.byContradiction fun h=>A1 ht (hpl.2 h)
    refine k5 (k4 (k1 ?_))
    refine A3 (A2 (A4 Z Z) Z (A2 (C3 Z Z (by omega)) Z (A2 (A5 Z Z) Z (A6 ?_))))
    refine k1 ?_
    refine ⟨i+1,by omega,by omega,?_⟩
    rw [hst,J8,if_pos hin]
    exact F77 ⟨le1 rfl,le1 rfl,le1 rfl,le1 rfl,trivial⟩ ⟨rfl,trivial⟩
  ·have hi':i=fs[f].length:=by have:=A1 ht;omega
   subst hi'
   refine k6 (k7 (k7 (k8 Z (k4 (k1 ?_)))))
   have:D6 (fs.take (f+1))=(fs[f].take fs[f].length).foldl J8 (D6 (fs.take f)):=by
    rw [D6,hfl,List.foldl_append,G23];rfl
   refine A3 (A2 (A4 Z Z) Z (A2 (C3 Z Z (by omega)) Z (A2 (A5 Z Z) Z (A6 ?_))))
   refine k1 ?_
   refine ⟨f+1,by omega,by omega,?_⟩
   rw [this]
   exact F77 ⟨le1 rfl,le1 rfl,le1 rfl,trivial⟩ ⟨rfl,trivial⟩
 ·have:f=fs.length:=by have:=A1 ht;omega
  subst this
  refine k6 (k2 ?_)
  refine A3 (A2 (A4 Z Z) Z (A2 (A5 Z Z) Z (A6 ?_)))
  refine k1 (k10 ?_)
  exact B5 (F5 rfl rfl rfl) (by simp)
theorem made_ok (p:List Span) (m n:Int) (hp:p.length≤536870912) (hb:∀s∈p,-1099511627776≤s.From∧s.From≤1099511627776 ∧ -1099511627776≤s.To∧s.To≤1099511627776)
  (hm:-1099511627776≤m∧m≤1099511627776 ∧ -1099511627776≤n∧n≤1099511627776) :
  FnOk Tryz.prog 169 [pSpans p,I8 m,I8 n] (fun rs=>rs=[pChanges (A23 p m n)]):=by
 refine FnOk.intro Tryz.func169 (by decide) Z Z Z Z ?_
 refine k2 ?_
 refine A3 (A2 (A5 Z Z) Z (A6 ?_))
 refine k1 (k2 ?_)
 refine A3 (C4 (X3 7 _ changeC Z) Z (A6 ?_))
 refine k1 (k2 ?_)
 refine A3 (A2 (A5 Z Z) Z (A2 (A5 Z Z) Z (A6 ?_)))
 refine k1 (k2 (k2 ?_))
 refine A3 (A2 (A5 Z Z) Z (A6 ?_))
 refine k1 (k3 ?_)
 refine D8 (X:=Nat × Int × Int × List Change) (fun x=>([(0,D5 Span 2 spanC p),(1,D2 m),(2,D2 n),(7,.s (.one (.buf 7 Change 4 changeC x.2.2.2))),(8,D2 x.2.1),(9,D2 x.2.2.1),(10,D2 x.1)],[(7,.spare x.2.2.2.length 4 146)]))
  (fun x=>x.1≤p.length+1∧x.2.2.2.length≤x.1∧(-1099511627776≤x.2.1∧x.2.1≤1099511627777 ∧ -1099511627776≤x.2.2.1∧x.2.2.1≤1099511627777)∧(x.1≤p.length→x.2.2.2++Q9 x.2.1 x.2.2.1 (p.drop x.1) m n=A23 p m n)∧(x.1=p.length+1→x.2.2.2=A23 p m n))
  (fun x=>p.length+1 - x.1) (0,0,0,[]) (by simp [A23]) (F77 ⟨le1 rfl,le1 rfl,le1 rfl,le1 rfl,le1 rfl,le1 rfl,le1 rfl,trivial⟩ ⟨rfl,trivial⟩) ?_
 rintro ⟨k,i,j,out⟩ ⟨hk,ho,hij,h1,h2⟩
 dsimp only at hk ho hij h1 h2 ⊢
 refine k2 (k2 ?_)
 refine A3 (A2 (A4 Z Z) Z (A2 (A4 Z Z) Z (A2 (E1 Z (.pure _ _ _ _)) Z (A2 (A93 Z Z) Z (A6 ?_)))))
 refine k1 ?_
 refine B4 rfl (fun ht=>?_) (fun ht=>?_)
 ·have hk':k≤p.length:=by have:=A0 ht;omega
  have hpp:=h1 hk'
  refine k5 (k1 (k2 (k3 (k2 ?_))))
  refine A3 (A2 (A4 Z Z) Z (A2 (A4 Z Z) Z (A2 (J2 Z) Z (C4 (F7 11 Z) Z (F3 (B8 TySz.out Z Z Z Z Z Z) (A6 ?_))))))
  refine M8 ?_
  obtain ⟨x,hx⟩:∃x,x=p.getD k ⟨m,n⟩:=⟨_,rfl⟩
  have hxb:-1099511627776≤x.From∧x.From≤1099511627776 ∧ -1099511627776≤x.To∧x.To≤1099511627776:=by
   rw [hx,G13]
   by_cases h:k < p.length
   ·rw [G09 h];exact hb _ (G22 h)
   ·rw [G31 (by omega)];exact hm
  have hmade:Q9 i j (p.drop k) m n=(if x.From > i∨x.To > j then [⟨i,x.From - i,j,x.To - j⟩] else [])++(if k < p.length then Q9 (x.From+1) (x.To+1) (p.drop (k+1)) m n else []):=by
   by_cases h:k < p.length
   ·rw [G12 h,if_pos h,hx,G13,G09 h];rfl
   ·rw [G18 (by omega),if_neg h,hx,G13,G31 (by omega)];simp [Q9]
  refine s9 [(0,D5 Span 2 spanC p),(1,D2 m),(2,D2 n),(7,.s (.one (.buf 7 Change 4 changeC out))),(8,D2 i),(9,D2 j),(10,D2 k),(11,.s (.one (.ref 11 0)))] [(11,.box [.p (.v (.int .i64 x.From)),.p (.v (.int .i64 x.To))]),(7,.spare out.length 4 146)] ?_ ?_
  ·refine k2 ?_
   refine A3 (A2 (A4 Z Z) Z (A2 (A4 Z Z) Z (A2 (E1 Z (.pure _ _ _ _)) Z (A2 (E5 Z Z) Z (A6 ?_)))))
   refine k1 ?_
   refine B4 rfl (fun ht=>?_) (fun ht=>?_)
   ·have hlt:k < p.length:=by have:=A0 ht;omega
    have hv:p[k]?=some p[k]:=by simp [hlt]
    have:x=p[k]:=by rw [hx,G13,hv];rfl
    subst this
    skip
    refine A3 (A2 (A4 Z Z) Z (A2 (A4 Z Z) Z (A2 (B1 Z (.pure _ _ _ _) Z (by omega) hv) Z (A2 (D3 Z Z) Z (F3 (B8 TySz.out Z Z Z Z Z Z) (A6 ?_))))))
    refine k1 ?_
    exact F77 ⟨le1 rfl,le1 rfl,le1 rfl,le1 rfl,le1 rfl,le1 rfl,le1 rfl,le1 rfl,trivial⟩ ⟨rfl,rfl,trivial⟩
   ·have hlt:¬k < p.length:=by have:=A1 ht;omega
    have:x=⟨m,n⟩:=by rw [hx,G13,G31 (by omega)];rfl
    subst this
    refine k5 (k1 ?_)
    exact F77 ⟨le1 rfl,le1 rfl,le1 rfl,le1 rfl,le1 rfl,le1 rfl,le1 rfl,le1 rfl,trivial⟩ ⟨rfl,rfl,trivial⟩
  ·obtain ⟨out',hout'⟩:∃o,o=out++(if x.From > i∨x.To > j then [⟨i,x.From - i,j,x.To - j⟩] else []):=⟨_,rfl⟩
   have hol:out'.length≤k+1:=by rw [hout',G07];split<;>simp<;>omega
   refine s9 [(0,D5 Span 2 spanC p),(1,D2 m),(2,D2 n),(7,.s (.one (.buf 7 Change 4 changeC out'))),(10,D2 k),(11,.s (.one (.ref 11 0)))] [(11,.box [.p (.v (.int .i64 x.From)),.p (.v (.int .i64 x.To))]),(7,.spare out'.length 4 146)] ?_ ?_
   ·refine k2 ?_
    refine A3 (A2 (A7 Z) Z (A2 (A9 Z Z Z) Z (A2 (A4 Z Z) Z (A2 (L1 Z Z) Z (A2 (A4 Z Z) Z (A8 Z Z Z Z (fun hg=>by rw [hg];exact A7 Z) ?_))))));refine A8 Z Z Z Z (fun hg=>by rw [hg];exact A9 Z Z Z) ?_;refine A8 Z Z Z Z (fun hg=>by rw [hg];exact A4 Z Z) ?_;refine A8 Z Z Z Z (fun hg=>by rw [hg];exact L1 Z Z) ?_;refine A2 (B2 Z (fun h=>by first | rfl | (rw [h];rfl)) (fun h=>by first | rfl | (rw [h];rfl))) Z ?_;refine A6 ?_
    refine k1 ?_
    refine B4 rfl (fun ht=>?_) (fun ht=>?_)
    ·have h:=A0 (or_pick.symm.trans ht)
     rw [if_pos h] at hout'
     subst hout'
     skip
     refine A3 (A2 (A4 Z Z) Z (A2 (A4 Z Z) Z (A2 (A7 Z) Z (A2 (A9 Z Z Z) Z (A2 (A4 Z Z) Z (A2 (N6 Z Z (by omega)) Z (A2 (A4 Z Z) Z (A2 (A7 Z) Z (A2 (A9 Z Z Z) Z (A2 (A4 Z Z) Z (A2 (N6 Z Z (by omega)) Z (A2 (J2 Z) Z (A2 (E3 (c:=changeC) (ys:=[⟨_,_,_,_⟩]) (E6 Z Z Z Z I9) Z Z Z) Z (C4 (F4 Z Z Z (.pure _ _ _ _) (by simp;omega) Z) Z (A2 (A5 Z Z) Z (A6 ?_))))))))))))))))
     refine k1 ?_
     exact F77 ⟨le1 rfl,le1 rfl,le1 rfl,le1 rfl,le1 rfl,le1 rfl,trivial⟩ ⟨rfl,rfl,trivial⟩
    ·have h:=A1 (or_pick.symm.trans ht)
     rw [if_neg h,G38] at hout'
     subst hout'
     refine k5 (k1 ?_)
     exact F77 ⟨le1 rfl,le1 rfl,le1 rfl,le1 rfl,le1 rfl,le1 rfl,trivial⟩ ⟨rfl,rfl,trivial⟩
   ·skip
    refine D7 (by kernel_rfl) (by kernel_rfl) (B0 (A7 Z) Z Z (B0 (A9 Z Z Z) Z Z (B0 (C3 Z Z (by omega)) Z Z (B0 (A7 Z) Z Z (B0 (A9 Z Z Z) Z Z (B0 (C3 Z Z (by omega)) Z Z (B0 (A5 Z Z) Z Z (B0 (A5 Z Z) Z Z (H5 ?_)))))))))
    refine k4 (k1 ?_)
    refine A3 (A2 (A4 Z Z) Z (A2 (C3 Z Z (by omega)) Z (A2 (A5 Z Z) Z (A6 ?_))))
    refine k1 ?_
    refine ⟨(k+1,x.From+1,x.To+1,out'),⟨by dsimp only;omega,hol,by dsimp only;omega,?_,?_⟩,by dsimp only;omega,F77 ⟨le1 rfl,le1 rfl,le1 rfl,le1 rfl,le1 rfl,le1 rfl,le1 rfl,trivial⟩ ⟨rfl,trivial⟩⟩
    ·intro hk2
     dsimp only at hk2 ⊢
     rw [←hpp,hmade,if_pos (show k < p.length by omega),hout'];simp
    ·intro hk2
     dsimp only at hk2 ⊢
     rw [←hpp,hmade,if_neg (show ¬k < p.length by omega),hout'];simp
 ·have hk':k=p.length+1:=by have:=A1 ht;omega
  refine k6 (k2 ?_)
  refine A3 (A2 (A4 Z Z) Z (A2 (A5 Z Z) Z (A6 ?_)))
  refine k1 (k10 ?_)
  exact B5 (F5 rfl rfl rfl) (by rw [h2 hk'])
theorem F59 (a b:List Int) (ha:a.length≤536870912) (hb:b.length≤536870912):FnOk Tryz.prog 168 [A43 a,A43 b] (fun rs=>rs=[pIntss (A83 a b)]):=by
 refine FnOk.intro Tryz.func168 (by decide) Z Z Z Z ?_
 refine k2 ?_
 refine A3 (A2 (A5 Z Z) Z (A6 ?_))
 refine k1 (k2 ?_)
 refine A3 (A2 (A4 Z Z) Z (A2 (E1 Z (.pure _ _ _ _)) Z (A2 (C3 Z Z (by omega)) Z (C4 (D51 5 (List Int) intsC [] Z Z (by omega) (by omega) (fun _=>by first | exact ⟨⟨rfl,rfl⟩,trivial⟩ | exact ⟨X2 _ _ _,trivial⟩) (by first | rfl | (simp [G8,M4,Ob.free,SV.free,S1.free,TC.free]<;>rfl))) Z ?_))));refine A2 (A5 Z Z) Z (A6 ?_)
 refine k1 (k2 (k2 ?_))
 refine A3 (A2 (A4 Z Z) Z (A2 (E1 Z (.pure _ _ _ _)) Z (A2 (A5 Z Z) Z (A6 ?_))))
 refine k1 (k3 ?_)
 refine D8 (X:=Nat) (fun i=>([(0,D5 Int 1 o7 a),(1,D5 Int 1 o7 b),(5,.s (.one (.mut 5))),(6,D2 ((i:Int) - 1))],[(5,.arr (List Int) 1 intsC (L3 a b i))])) (fun i=>i≤a.length+1) (fun i=>i) (a.length+1) (Nat.le_refl _) ?_ ?_
 ·refine F77 ⟨⟨_,rfl,.same _⟩,⟨_,rfl,.same _⟩,⟨_,rfl,.same _⟩,⟨_,rfl,.eq (by simp)⟩,trivial⟩ ⟨?_,trivial⟩
  rw [←C93];rfl
 intro i hi
 dsimp only at hi ⊢
 refine k2 (k2 ?_)
 refine A3 (A2 (A4 Z Z) Z (A2 (B80 Z Z) Z (A6 ?_)))
 refine k1 ?_
 refine B4 rfl (fun ht=>?_) (fun ht=>?_)
 ·obtain ⟨i,rfl⟩:∃r,i=r+1:=⟨i - 1,by have:=A0 ht;omega⟩
  refine A51 [(0,D5 Int 1 o7 a),(1,D5 Int 1 o7 b),(5,.s (.one (.mut 5))),(6,D2 i)] [(5,.arr (List Int) 1 intsC (L3 a b (i+1)))] (F77 ⟨le1 rfl,le1 rfl,le1 rfl,leE Z (by first | (simp;done) | (simp;omega)),trivial⟩ ⟨rfl,trivial⟩) ?_
  refine K3 (G03 5 Z) ?_
  have hTl:((L3 a b (i+1)).map fun x=>TC.p (intsC x 0)).length=a.length+1:=by simp [n5]
  have hRs:=n5 a b (i+1)
  refine k5 (k1 (k2 (k3 (k2 ?_))))
  refine A3 (A2 (A4 Z Z) Z (A2 (A4 Z Z) Z (A2 (A4 Z Z) Z (A2 (E1 Z (.pure _ _ _ _)) Z (A2 (C3 Z Z (by omega)) Z (C4 (D51 23 Int o7 0 Z Z (by omega) (by omega) (fun _=>by first | exact ⟨⟨rfl,rfl⟩,trivial⟩ | exact ⟨X2 _ _ _,trivial⟩) (by first | rfl | (simp [G8,M4,Ob.free,SV.free,S1.free,TC.free]<;>rfl))) Z ?_))))));refine A2 (K4 Z Z Z (by omega) (by omega)) Z (F3 (C25 TySz.out Z Z (by (rw [hTl];simp;omega)) Z Z) ?_);refine A6 ?_
  refine k1 (k2 ?_)
  refine A3 (A2 (A4 Z Z) Z (A2 (E1 Z (.pure _ _ _ _)) Z (A2 (A5 Z Z) Z (A6 ?_))))
  refine k1 (k3 ?_)
  obtain ⟨T,hT⟩:∃T,T=((L3 a b (i+1)).map fun x=>TC.p (intsC x 0)).set i (.mut 23):=⟨_,rfl⟩
  have hTi:T[i]?=some (.mut 23):=by rw [hT,G45 (by rw [hTl];omega)]
  have hTn:i+1≤a.length→T[i+1]?=some (.p (intsC (N1 a b (i+1) 0) 0)):=fun h=>by
   rw [hT,List.getElem?_set_ne (by omega),G41,A25 a b (i+1) (i+1) (Nat.le_refl _) h];rfl
  refine D8 (X:=Nat) (fun j=>([(0,D5 Int 1 o7 a),(1,D5 Int 1 o7 b),(5,.s (.one (.mut 5))),(6,D2 i),(7,D2 ((j:Int) - 1))],[(5,.tarr (L3 a b (i+1)).length 1 T),(23,.arr Int 1 o7 (N1 a b i j))])) (fun j=>j≤b.length+1) (fun j=>j) (b.length+1) (Nat.le_refl _) ?_ ?_
  ·refine F77 ⟨⟨_,rfl,.same _⟩,⟨_,rfl,.same _⟩,⟨_,rfl,.same _⟩,⟨_,rfl,.same _⟩,⟨_,rfl,.eq (by simp)⟩,trivial⟩ ⟨by rw [hT];rfl,?_,trivial⟩
   rw [←D71];rfl
  intro j hj
  dsimp only at hj ⊢
  refine k2 (k2 ?_)
  refine A3 (A2 (A4 Z Z) Z (A2 (B80 Z Z) Z (A6 ?_)))
  refine k1 ?_
  refine B4 rfl (fun ht=>?_) (fun ht=>?_)
  ·obtain ⟨j,rfl⟩:∃r,j=r+1:=⟨j - 1,by have:=A0 ht;omega⟩
   refine A51 [(0,D5 Int 1 o7 a),(1,D5 Int 1 o7 b),(5,.s (.one (.mut 5))),(6,D2 i),(7,D2 j)] [(5,.tarr (L3 a b (i+1)).length 1 T),(23,.arr Int 1 o7 (N1 a b i (j+1)))] (F77 ⟨le1 rfl,le1 rfl,le1 rfl,le1 rfl,leE Z (by first | (simp;done) | (simp;omega)),trivial⟩ ⟨rfl,rfl,trivial⟩) ?_
   have hRl:=C59 a b i (j+1)
   have hst:=E33 a b i j
   refine D45 ?_
   refine M8 ?_
   refine s9 [(0,D5 Int 1 o7 a),(1,D5 Int 1 o7 b),(5,.s (.one (.mut 5))),(6,D2 i),(7,D2 j)] [(5,.tarr (L3 a b (i+1)).length 1 T),(23,.arr Int 1 o7 (N1 a b i j))] ?_ ?_
   ·refine k3 (k3 (k2 ?_))
    refine A3 (A2 (A4 Z Z) Z (A2 (A4 Z Z) Z (A2 (E1 Z (.pure _ _ _ _)) Z (A2 (J9 Z Z) Z (A2 (A5 Z Z) Z (A6 ?_))))))
    refine k1 ?_
    refine B4 rfl (fun ht=>?_) (fun ht=>?_)
    ·have hia:i=a.length:=by have:=A0 ht;omega
     have hd:(dist (a.drop i) (b.drop j):Int)=b.length - j:=by rw [hia,G18 (Nat.le_refl _),dist,G25];omega
     rw [hd] at hst
     skip
     refine A3 (A2 (A4 Z Z) Z (A2 (A4 Z Z) Z (A2 (K4 Z Z Z (by omega) (by omega)) Z (A2 (Q3 Z Z hTi) Z (A2 (A4 Z Z) Z (A2 (A4 Z Z) Z (A2 (E1 Z (.pure _ _ _ _)) Z (A2 (A4 Z Z) Z (A2 (N6 Z Z (by omega)) Z (A2 (N3 Z Z Z (by omega) (by omega)) Z (F3 (T4 TySz.out Z Z (by (rw [hRl];simp;omega)) Z Z) ?_)))))))))));refine A6 ?_
     refine k4 (k4 (k1 ?_))
     rw [←hst]
     exact F77 ⟨le1 rfl,le1 rfl,le1 rfl,le1 rfl,le1 rfl,trivial⟩ ⟨rfl,rfl,trivial⟩
    ·have hia:i < a.length:=by have:=A1 ht;omega
     refine k2 ?_
     refine A3 (A2 (A4 Z Z) Z (A2 (A4 Z Z) Z (A2 (E1 Z (.pure _ _ _ _)) Z (A2 (J9 Z Z) Z (A2 (A5 Z Z) Z (A6 ?_))))))
     refine k1 ?_
     refine B4 rfl (fun ht=>?_) (fun ht=>?_)
     ·have hjb:j=b.length:=by have:=A0 ht;omega
      have hd:(dist (a.drop i) (b.drop j):Int)=a.length - i:=by rw [hjb,G18 (Nat.le_refl b.length),C58,G25];omega
      rw [hd] at hst
      skip
      refine A3 (A2 (A4 Z Z) Z (A2 (A4 Z Z) Z (A2 (K4 Z Z Z (by omega) (by omega)) Z (A2 (Q3 Z Z hTi) Z (A2 (A4 Z Z) Z (A2 (A4 Z Z) Z (A2 (E1 Z (.pure _ _ _ _)) Z (A2 (A4 Z Z) Z (A2 (N6 Z Z (by omega)) Z (A2 (N3 Z Z Z (by omega) (by omega)) Z (F3 (T4 TySz.out Z Z (by (rw [hRl];simp;omega)) Z Z) ?_)))))))))));refine A6 ?_
      refine k4 (k4 (k1 ?_))
      rw [←hst]
      exact F77 ⟨le1 rfl,le1 rfl,le1 rfl,le1 rfl,le1 rfl,trivial⟩ ⟨rfl,rfl,trivial⟩
     ·have hjb:j < b.length:=by have:=A1 ht;omega
      have hva:a[i]?=some a[i]:=by simp [hia]
      have hvb:b[j]?=some b[j]:=by simp [hjb]
      have hdd:=F41 a b i j hia hjb
      have hTn':=hTn hia
      refine k2 ?_
      refine D7 (by kernel_rfl) (by kernel_rfl) (B0 (A4 Z Z) Z Z (B0 (A4 Z Z) Z Z (B0 (B1 Z (.pure _ _ _ _) Z (by omega) hva) Z Z (B0 (B3 Z Z) Z Z (B0 (A4 Z Z) Z Z (B0 (A4 Z Z) Z Z (B0 (B1 Z (.pure _ _ _ _) Z (by omega) hvb) Z Z (B0 (B3 Z Z) Z Z (B0 (J9 Z Z) Z Z (B0 (A5 Z Z) Z Z (H5 ?_)))))))))))
      refine k1 ?_
      refine B4 rfl (fun ht=>?_) (fun ht=>?_)
      ·rw [if_pos (A0 ht)] at hdd
       have hg:=m6 a b (i+1) 0 (j+1) (Nat.zero_le _) hjb
       rw [hdd] at hst
       skip
       refine D7 (by kernel_rfl) (by kernel_rfl) (B0 (A4 Z Z) Z Z (B0 (A4 Z Z) Z Z (B0 (K4 Z Z Z (by omega) (by omega)) Z Z (B0 (Q3 Z Z hTi) Z Z (B0 (A4 Z Z) Z Z (B0 (A4 Z Z) Z Z (B0 (A4 Z Z) Z Z (B0 (C3 Z Z (by omega)) Z Z (B0 (K4 Z Z Z (by omega) (by omega)) Z Z (B0 (Q3 Z Z hTn') Z Z (B0 (A4 Z Z) Z Z (B0 (C3 Z Z (by omega)) Z Z (B0 (B1 Z (.pure _ _ _ _) Z (by omega) hg) Z Z (B0 (B3 Z Z) Z Z (B0 (N3 Z Z Z (by omega) (by omega)) Z Z (v6 (T4 TySz.out Z Z (by (rw [hRl];simp;omega)) Z Z) Z ?_))))))))))))))));refine H5 ?_
       refine k4 (k4 (k1 ?_))
       rw [←hst]
       exact F77 ⟨le1 rfl,le1 rfl,le1 rfl,le1 rfl,le1 rfl,trivial⟩ ⟨rfl,rfl,trivial⟩
      ·rw [if_neg (A1 ht)] at hdd
       have hg1:=m6 a b (i+1) 0 j (Nat.zero_le _) (by omega)
       have hg2:=m6 a b i (j+1) (j+1) (Nat.le_refl _) (by omega)
       have hl1:=D70 (a.drop (i+1)) (b.drop j)
       have hl2:=D70 (a.drop i) (b.drop (j+1))
       simp only [G25] at hl1 hl2
       have hval:(1:Int)+(if (dist (a.drop i) (b.drop (j+1)):Int) < (dist (a.drop (i+1)) (b.drop j):Int) then (dist (a.drop i) (b.drop (j+1)):Int) else (dist (a.drop (i+1)) (b.drop j):Int))=(dist (a.drop i) (b.drop j):Int):=by
        rw [hdd];split<;>omega
       rw [←hval] at hst
       skip
       refine D7 (by kernel_rfl) (by kernel_rfl) (B0 (A4 Z Z) Z Z (B0 (A4 Z Z) Z Z (B0 (K4 Z Z Z (by omega) (by omega)) Z Z (B0 (Q3 Z Z hTi) Z Z (B0 (A4 Z Z) Z Z (B0 (A4 Z Z) Z Z (B0 (A4 Z Z) Z Z (B0 (C3 Z Z (by omega)) Z Z (B0 (K4 Z Z Z (by omega) (by omega)) Z Z (B0 (Q3 Z Z hTn') Z Z (B0 (A4 Z Z) Z Z (B0 (B1 Z (.pure _ _ _ _) Z (by omega) hg1) Z Z (B0 (B3 Z Z) Z Z (B0 (A4 Z Z) Z Z (B0 (A4 Z Z) Z Z (B0 (K4 Z Z Z (by omega) (by omega)) Z Z (B0 (Q3 Z Z hTi) Z Z (B0 (A4 Z Z) Z Z (B0 (C3 Z Z (by omega)) Z Z (B0 (N3 Z Z Z (by omega) (by omega)) Z Z (B0 (D93 Z Z hg2 Z) Z Z (B0 (E99 Z Z) Z Z (B0 (C3 Z Z (by (constructor<;>split<;>omega))) Z Z ?_)))))))))))))))))))))));refine B0 (N3 Z Z Z (by omega) (by omega)) Z Z (v6 (T4 TySz.out Z Z (by (rw [hRl];simp;omega)) Z Z) Z ?_);refine H5 ?_
       refine k4 (k4 (k1 ?_))
       rw [←hst]
       exact F77 ⟨le1 rfl,le1 rfl,le1 rfl,le1 rfl,le1 rfl,trivial⟩ ⟨rfl,rfl,trivial⟩
   ·skip
    refine A3 (A2 (A4 Z Z) Z (A2 (N6 Z Z (by omega)) Z (A2 (A5 Z Z) Z (A6 ?_))))
    refine k1 ?_
    exact ⟨j,by omega,by omega,F77 ⟨le1 rfl,le1 rfl,le1 rfl,le1 rfl,le1 rfl,trivial⟩ ⟨rfl,rfl,trivial⟩⟩
  ·obtain rfl:j=0:=by have:=A1 ht;omega
   refine K3 (Sees.freeze (k:=23) Z) ?_
   refine K3 (G04 5 (L3 a b i) Z (by simp [n5]) (by rw [hT,E57 (y:=N1 a b i 0) rfl,D72])) ?_
   refine k6 (k7 (k7 (k8 Z (k4 (k1 ?_)))))
   refine A3 (A2 (A4 Z Z) Z (A2 (N6 Z Z (by omega)) Z (A2 (A5 Z Z) Z (A6 ?_))))
   refine k1 ?_
   exact ⟨i,by omega,by omega,F77 ⟨le1 rfl,le1 rfl,le1 rfl,le1 rfl,trivial⟩ ⟨rfl,trivial⟩⟩
 ·obtain rfl:i=0:=by have:=A1 ht;omega
  refine K3 (Sees.freeze (k:=5) Z) ?_
  refine k6 (k2 ?_)
  refine A3 (A2 (A4 Z Z) Z (A2 (A5 Z Z) Z (A6 ?_)))
  refine k1 (k10 ?_)
  exact B5 (F5 rfl rfl rfl) rfl
theorem D60 (a b:List Int):∀(p q:Int),∀s∈I7 p q a b,p≤s.From∧s.From < p+a.length∧q≤s.To∧s.To < q+b.length:=by
 induction a generalizing b with
 | nil=>intro p q s hs;simp [I7] at hs
 | cons x a iha =>
  induction b with
  | nil=>intro p q s hs;simp [I7] at hs
  | cons y b ihb =>
   intro p q s hs
   rw [I7] at hs
   simp only [G10]
   split at hs
   ·rcases List.mem_cons.1 hs with rfl | hs
    ·simp only;omega
    ·have:=iha b (p+1) (q+1) s hs;omega
   ·split at hs
    ·have:=iha (y::b) (p+1) q s hs;simp only [G10] at this;omega
    ·have:=ihb p (q+1) s hs;simp only [G10] at this;omega
theorem walk_ok (a b:List Int) (ha:a.length≤536870911) (hb:b.length≤536870911):FnOk Tryz.prog 102 [A43 a,A43 b] (fun rs=>rs=[pChanges (A24 a b)]):=by
 refine FnOk.intro Tryz.func102 (by decide) Z Z Z Z ?_
 refine k2 ?_
 refine A3 (A2 (A5 Z Z) Z (A6 ?_))
 refine k1 (k2 ?_)
 refine A3 (A2 (A4 Z Z) Z (A2 (A4 Z Z) Z (C2 (F59 a b (by omega) (by omega)) Z Z Z ?_)));rintro _ rfl;refine A2 (A5 Z Z) Z (A6 ?_)
 refine k1 (k2 ?_)
 refine A3 (C4 (X3 6 _ spanC Z) Z (A6 ?_))
 refine k1 (k2 ?_)
 refine A3 (A2 (A5 Z Z) Z (A2 (A5 Z Z) Z (A6 ?_)))
 refine k1 (k2 (k3 ?_))
 refine D8 (X:=Nat × Nat × List Span) (fun x=>([(0,D5 Int 1 o7 a),(1,D5 Int 1 o7 b),(5,D5 (List Int) 1 intsC (A83 a b)),(6,.s (.one (.buf 6 Span 2 spanC x.2.2))),(7,D2 x.1),(8,D2 x.2.1)],[(6,.spare x.2.2.length 2 88)]))
  (fun x=>x.1≤a.length∧x.2.1≤b.length∧x.2.2.length≤x.1∧x.2.2++I7 x.1 x.2.1 (a.drop x.1) (b.drop x.2.1)=I7 0 0 a b) (fun x=>a.length+b.length - x.1 - x.2.1) (0,0,[]) (by simp) (F77 ⟨le1 rfl,le1 rfl,le1 rfl,le1 rfl,le1 rfl,le1 rfl,trivial⟩ ⟨rfl,trivial⟩) ?_
 rintro ⟨i,j,out⟩ ⟨hi,hj,ho,hp⟩
 dsimp only at hi hj ho hp ⊢
 refine k2 (k2 ?_)
 refine A3 (A2 (A4 Z Z) Z (A2 (A4 Z Z) Z (A2 (E1 Z (.pure _ _ _ _)) Z (A2 (E5 Z Z) Z (A2 (A4 Z Z) Z (A8 Z Z Z Z (fun hg=>by rw [hg];exact A4 Z Z) ?_))))));refine A8 Z Z Z Z (fun hg=>by rw [hg];exact A4 Z Z) ?_;refine A8 Z Z Z Z (fun hg=>by rw [hg];exact E1 Z (.pure _ _ _ _)) ?_;refine A8 Z Z Z Z (fun hg=>by rw [hg];exact E5 Z Z) ?_;refine A2 (B2 Z (fun h=>by first | rfl | (rw [h];rfl)) (fun h=>by first | rfl | (rw [h];rfl))) Z ?_;refine A6 ?_
 refine k1 ?_
 refine B4 rfl (fun ht=>?_) (fun ht=>?_)
 ·have hor:=A0 (or_pick.symm.trans ht)
  refine D45 ?_
  refine M8 ?_
  refine k3 (k3 (k2 ?_))
  have hTi:i < a.length→(A83 a b)[i]?=some (N1 a b i 0):=fun h=>A25 a b 0 i (Nat.zero_le _) (by omega)
  have hTn:i < a.length→(A83 a b)[i+1]?=some (N1 a b (i+1) 0):=fun h=>A25 a b 0 (i+1) (Nat.zero_le _) (by omega)
  have hva:i < a.length→a[i]?=some (a.getD i 0):=fun h=>by simp [G13,h]
  have hvb:j < b.length→b[j]?=some (b.getD j 0):=fun h=>by simp [G13,h]
  have hga:∀h:i < a.length,a.getD i 0=a[i]:=fun h=>by simp [G13,h]
  have hgb:∀h:j < b.length,b.getD j 0=b[j]:=fun h=>by simp [G13,h]
  refine D7 (by kernel_rfl) (by kernel_rfl) (B0 (A4 Z Z) Z Z (B0 (A4 Z Z) Z Z (B0 (E1 Z (.pure _ _ _ _)) Z Z (B0 (E5 Z Z) Z Z (B0 (A4 Z Z) Z Z (C7 Z Z (fun hg=>by rw [hg];exact A4 Z Z) Z Z ?_))))));refine C7 Z Z (fun hg=>by rw [hg];exact A4 Z Z) Z Z ?_;refine C7 Z Z (fun hg=>by rw [hg];exact E1 Z (.pure _ _ _ _)) Z Z ?_;refine C7 Z Z (fun hg=>by rw [hg];exact E5 Z Z) Z Z ?_;refine B0 (B2 Z (fun h=>by first | rfl | (rw [h];rfl)) (fun h=>by first | rfl | (rw [h];rfl))) Z Z ?_;refine B0 (A4 Z Z) Z Z (C7 Z Z (fun hg=>by rw [hg];exact A4 Z Z) Z Z ?_);refine C7 Z Z (fun hg=>by rw [hg];exact A4 Z Z) Z Z ?_;refine C7 Z Z (fun hg=>by have hq:=hg;(try simp at hq);rw [hg];exact B1 Z (.pure _ _ _ _) Z (by omega) (hva (by omega))) Z Z ?_;refine C7 Z Z (fun hg=>by rw [hg];exact B3 Z Z) Z Z ?_;refine C7 Z Z (fun hg=>by rw [hg];exact A4 Z Z) Z Z ?_;refine C7 Z Z (fun hg=>by rw [hg];exact A4 Z Z) Z Z ?_;refine C7 Z Z (fun hg=>by have hq:=hg;(try simp at hq);rw [hg];exact B1 Z (.pure _ _ _ _) Z (by omega) (hvb (by omega))) Z Z ?_;refine C7 Z Z (fun hg=>by rw [hg];exact B3 Z Z) Z Z ?_;refine C7 Z Z (fun hg=>by rw [hg];exact J9 Z Z) Z Z ?_;refine B0 (B2 Z (fun h=>by first | rfl | (rw [h];rfl)) (fun h=>by first | rfl | (rw [h];rfl))) Z Z ?_;refine B0 (A5 Z Z) Z Z (H5 ?_)
  refine k1 ?_
  refine B4 rfl (fun ht=>?_) (fun ht=>?_)
  ·simp only [J6] at ht
   obtain ⟨⟨hia,hjb⟩,heq⟩:=A0 ht
   have hia':i < a.length:=by omega
   have hjb':j < b.length:=by omega
   rw [hga hia',hgb hjb'] at heq
   rw [A62 a b i j hia' hjb',if_pos heq] at hp
   refine k2 ?_
   refine A3 (A2 (A4 Z Z) Z (A2 (A4 Z Z) Z (A2 (A4 Z Z) Z (A2 (J2 Z) Z (A2 (E3 (c:=spanC) (ys:=[⟨_,_⟩]) (E6 Z Z Z Z I9) Z Z Z) Z (C4 (F4 Z Z Z (.pure _ _ _ _) (by simp;omega) Z) Z (A2 (A5 Z Z) Z (A6 ?_))))))))
   refine k1 ?_
   refine A3 (A2 (A4 Z Z) Z (A2 (C3 Z Z (by omega)) Z (A2 (A4 Z Z) Z (A2 (C3 Z Z (by omega)) Z (A2 (A5 Z Z) Z (A2 (A5 Z Z) Z (A6 ?_)))))))
   refine k4 (k4 (k1 ?_))
   exact ⟨(i+1,j+1,out++[⟨i,j⟩]),⟨by dsimp only;omega,by dsimp only;omega,by dsimp only;simp;omega,by dsimp only;rw [G28];exact hp⟩,by dsimp only;omega,F77 ⟨le1 rfl,le1 rfl,le1 rfl,le1 rfl,le1 rfl,le1 rfl,trivial⟩ ⟨rfl,trivial⟩⟩
  ·have hne:∀(h1:i < a.length) (h2:j < b.length),a[i]≠b[j]:=fun h1 h2 h=>by
    simp only [J6] at ht
    exact A1 ht ⟨⟨by omega,by omega⟩,by rw [hga h1,hgb h2];exact h⟩
   refine k2 ?_
   refine D7 (by kernel_rfl) (by kernel_rfl) (B0 (A4 Z Z) Z Z (B0 (A4 Z Z) Z Z (B0 (E1 Z (.pure _ _ _ _)) Z Z (B0 (E5 Z Z) Z Z (B0 (A4 Z Z) Z Z (C7 Z Z (fun hg=>by rw [hg];exact A4 Z Z) Z Z ?_))))));refine C7 Z Z (fun hg=>by rw [hg];exact A4 Z Z) Z Z ?_;refine C7 Z Z (fun hg=>by have hq:=hg;(try simp at hq);rw [hg];exact C3 Z Z (by omega)) Z Z ?_;refine C7 Z Z (fun hg=>by have hq:=hg;(try simp at hq);rw [hg];exact B1 Z (.pure _ _ _ _) Z (by omega) (hTn (by omega))) Z Z ?_;refine C7 Z Z (fun hg=>by rw [hg];exact B3 Z Z) Z Z ?_;refine C7 Z Z (fun hg=>by rw [hg];exact A4 Z Z) Z Z ?_;refine C7 Z Z (fun hg=>by have hq:=hg;(try simp at hq);rw [hg];exact B1 Z (.pure _ _ _ _) Z (by omega) (m6 a b (i+1) 0 j (Nat.zero_le _) hj)) Z Z ?_;refine C7 Z Z (fun hg=>by rw [hg];exact B3 Z Z) Z Z ?_;refine C7 Z Z (fun hg=>by have hq:=hg;(try simp at hq);have h1:=D70 (a.drop (i+1)) (b.drop j);simp only [G25] at h1;rw [hg];exact C3 Z Z (by omega)) Z Z ?_;refine C7 Z Z (fun hg=>by rw [hg];exact A4 Z Z) Z Z ?_;refine C7 Z Z (fun hg=>by rw [hg];exact A4 Z Z) Z Z ?_;refine C7 Z Z (fun hg=>by have hq:=hg;(try simp at hq);rw [hg];exact B1 Z (.pure _ _ _ _) Z (by omega) (hTi (by omega))) Z Z ?_;refine C7 Z Z (fun hg=>by rw [hg];exact B3 Z Z) Z Z ?_;refine C7 Z Z (fun hg=>by rw [hg];exact A4 Z Z) Z Z ?_;refine C7 Z Z (fun hg=>by have hq:=hg;(try simp at hq);rw [hg];exact B1 Z (.pure _ _ _ _) Z (by omega) (m6 a b i 0 j (Nat.zero_le _) hj)) Z Z ?_;refine C7 Z Z (fun hg=>by rw [hg];exact B3 Z Z) Z Z ?_;refine C7 Z Z (fun hg=>by rw [hg];exact J9 Z Z) Z Z ?_;refine B0 (B2 Z (fun h=>by first | rfl | (rw [h];rfl)) (fun h=>by first | rfl | (rw [h];rfl))) Z Z ?_;refine B0 (A5 Z Z) Z Z (H5 ?_)
   refine k1 ?_
   refine B4 rfl (fun ht=>?_) (fun ht=>?_)
   ·rw [J6] at ht
    obtain ⟨hia,hd⟩:=A0 ht
    have hia':i < a.length:=by omega
    have hp':out++I7 (i+1:Nat) j (a.drop (i+1)) (b.drop j)=I7 0 0 a b:=by
     by_cases hjb:j < b.length
     ·rw [A62 a b i j hia' hjb,if_neg (hne hia' hjb),if_pos (by omega)] at hp
      exact hp
     ·rw [G18 (show b.length≤j by omega),A08] at hp ⊢
      exact hp
    skip
    refine A3 (A2 (A4 Z Z) Z (A2 (C3 Z Z (by omega)) Z (A2 (A5 Z Z) Z (A6 ?_))))
    refine k4 (k4 (k1 ?_))
    exact ⟨(i+1,j,out),⟨by dsimp only;omega,by dsimp only;omega,by dsimp only;omega,hp'⟩,by dsimp only;omega,F77 ⟨le1 rfl,le1 rfl,le1 rfl,le1 rfl,le1 rfl,le1 rfl,trivial⟩ ⟨rfl,trivial⟩⟩
   ·rw [J6] at ht
    have hd:=A1 ht
    have hjb:j < b.length:=by
     refine Classical.byContradiction fun h=>?_
     have hjb:j=b.length:=by omega
     have hia:i < a.length:=by omega
     apply hd
     refine ⟨by omega,?_⟩
     rw [G18 (show b.length≤j by omega),C58,C58,G25,G25]
     omega
    have hp':out++I7 i (j+1:Nat) (a.drop i) (b.drop (j+1))=I7 0 0 a b:=by
     by_cases hia:i < a.length
     ·rw [A62 a b i j hia hjb,if_neg (hne hia hjb),if_neg (fun h=>hd ⟨by omega,by omega⟩)] at hp
      exact hp
     ·rw [G18 (show a.length≤i by omega),A46] at hp ⊢
      exact hp
    skip
    refine A3 (A2 (A4 Z Z) Z (A2 (C3 Z Z (by omega)) Z (A2 (A5 Z Z) Z (A6 ?_))))
    refine k4 (k4 (k1 ?_))
    exact ⟨(i,j+1,out),⟨by dsimp only;omega,by dsimp only;omega,by dsimp only;omega,hp'⟩,by dsimp only;omega,F77 ⟨le1 rfl,le1 rfl,le1 rfl,le1 rfl,le1 rfl,le1 rfl,trivial⟩ ⟨rfl,trivial⟩⟩
 ·have hor:=A1 (or_pick.symm.trans ht)
  have hi':i=a.length:=by omega
  have hj':j=b.length:=by omega
  rw [hi',G18 (Nat.le_refl a.length)] at hp
  have hout:out=I7 0 0 a b:=by rw [←hp];simp [I7]
  refine k6 (k2 ?_)
  refine A3 (A2 (A4 Z Z) Z (A2 (A4 Z Z) Z (A2 (E1 Z (.pure _ _ _ _)) Z (A2 (A4 Z Z) Z (A2 (E1 Z (.pure _ _ _ _)) Z (C2 (made_ok out a.length b.length (by omega) (fun s hs=>by have:=D60 a b 0 0 s (hout ▸ hs);omega) (by omega)) Z Z Z ?_))))));rintro _ rfl;refine A2 (A5 Z Z) Z (A6 ?_)
  refine k1 (k10 ?_)
  exact B5 (F5 rfl rfl rfl) (by rw [hout];rfl)
end Go.Proofs.YtbiadkkamhpdnaaGreatDoor
namespace Go.Proofs.YtbiadkkamhpdnaaGreatDoor
open Go Go.AL
set_option maxRecDepth 100000
theorem u64_in {n:Int} (h:0≤n∧n < 18446744073709551616):IntKind.u64.wrap n=n:=by simp [IntKind.wrap,IntKind.signed,IntKind.bits];omega
def M2 (a n:Int):Int:=IntKind.u64.wrap a % n
theorem a8 (a:Int) {n:Int} (h:1≤n):0≤M2 a n∧M2 a n < n:=⟨Int.emod_nonneg _ (by omega),Int.emod_lt_of_pos _ (by omega)⟩
theorem A60 (a n:Int) (hn:1≤n) (hn':n≤9223372036854775807):FnOk Tryz.prog 18 [I8 a,I8 n] (fun rs=>rs=[I8 (M2 a n)]):=by
 refine FnOk.intro Tryz.func18 (by decide) Z Z Z Z ?_
 refine k2 ?_
 refine A3 (A2 (A5 Z Z) Z (A6 ?_))
 refine k1 (k2 ?_)
 have h1:IntKind.u64.wrap n=n:=u64_in (by omega)
 refine A3 (A2 (A4 Z Z) Z (A2 (r8 Z) Z (A2 (A4 Z Z) Z (A2 (r8 Z) Z (A2 (A92 Z Z (by (rw [h1];omega))) Z ?_)))));refine A2 (r8 Z) Z (A2 (A5 Z Z) Z (A6 ?_))
 refine k1 (k10 ?_)
 refine B5 (F5 Z Z Z) ?_
 have h2:=E67 a
 have h3:(IntKind.u64.wrap a).tmod n=IntKind.u64.wrap a % n:=Int.tmod_eq_emod_of_nonneg h2
 have h4:=a8 a hn
 unfold M2 at *
 rw [h1,h3,B81 ⟨by omega,by omega⟩]
def xor64 (a b:Int):Int:=IntKind.u64.wrap ((BitVec.ofInt IntKind.u64.bits a ^^^ BitVec.ofInt IntKind.u64.bits b).toNat:Int)
def shr64 (a n:Int):Int:=a.fdiv (2 ^ (min n.toNat IntKind.u64.bits))
def at0 (k:Int):Int:=IntKind.u64.wrap (IntKind.u64.wrap (k+1)*11400714819323198485)
def at1 (raw:List Int) (k:Int):Int:=if 0 < raw.length then xor64 (at0 k) (IntKind.u64.wrap (raw.getD (k.tmod raw.length).toNat 0)) else at0 k
def at2 (x:Int):Int:=IntKind.u64.wrap (xor64 x (shr64 x 31)*13787848793156543929)
def y5 (raw:List Int) (k:Int):Int:=IntKind.i64.wrap (shr64 (xor64 (at2 (at1 raw k)) (shr64 (at2 (at1 raw k)) 29)) 1)
theorem E11 (raw:List Int) (k:Int) (h0:0≤k) (h1:k≤1099511627776):FnOk Tryz.prog 25 [A43 raw,I8 k] (fun rs=>rs=[I8 (y5 raw k)]):=by
 refine FnOk.intro Tryz.func25 (by decide) Z Z Z Z ?_
 refine A12 (t:=0) rfl (.pure _ _ _ _) fun hlen=>?_
 refine k2 ?_
 refine A3 (A2 (A5 Z Z) Z (A6 ?_))
 refine k1 (k2 ?_)
 refine A3 (A2 (A4 Z Z) Z (A2 (C3 Z Z (by omega)) Z (A2 (r8 Z) Z (A2 (D46 Z Z) Z (A2 (A5 Z Z) Z (A6 ?_))))))
 refine M8 ?_
 refine s9 [(0,D5 Int 1 o7 raw),(1,D2 k),(5,J4 (.int .u64 (at1 raw k)))] [] ?_ ?_
 ·refine k2 ?_
  refine A3 (A2 (A4 Z Z) Z (A2 (E1 Z (.pure _ _ _ _)) Z (A2 (L1 Z Z) Z (A6 ?_))))
  refine k1 ?_
  refine B4 rfl (fun ht=>?_) (fun ht=>?_)
  ·have hpos:0 < raw.length:=by have:=A0 ht;omega
   have hm0:0≤k.tmod raw.length:=Int.tmod_nonneg _ h0
   have hm1:k.tmod raw.length < raw.length:=Int.tmod_lt_of_pos _ (by omega)
   have hv:raw[(k.tmod raw.length).toNat]?=some (raw.getD (k.tmod raw.length).toNat 0):=by
    rw [G13,G09 (by omega)];rfl
   skip
   refine A3 (A2 (A4 Z Z) Z (A2 (A4 Z Z) Z (A2 (A4 Z Z) Z (A2 (A4 Z Z) Z (A2 (E1 Z (.pure _ _ _ _)) Z (A2 (A92 Z Z (by omega)) Z (A2 (B1 Z (.pure _ _ _ _) Z (by omega) hv) Z (A2 (B3 Z Z) Z (A2 (r8 Z) Z (A2 (C17 Z Z Z (fun _=>rfl)) Z (A2 (A5 Z Z) Z (A6 ?_))))))))))))
   refine k1 ?_
   rw [at1,if_pos hpos]
   exact F77 ⟨le1 rfl,le1 rfl,le1 rfl,trivial⟩ trivial
  ·have hpos:¬0 < raw.length:=by have:=A1 ht;omega
   refine k5 (k1 ?_)
   rw [at1,if_neg hpos]
   exact F77 ⟨le1 rfl,le1 rfl,le1 rfl,trivial⟩ trivial
 ·refine k2 ?_
  refine A3 (A2 (A4 Z Z) Z (A2 (A4 Z Z) Z (A2 (D90 Z Z (by omega)) Z (A2 (C17 Z Z Z (fun _=>rfl)) Z (A2 (D46 Z Z) Z (A2 (A5 Z Z) Z (A6 ?_)))))))
  refine k1 (k2 ?_)
  refine A3 (A2 (A4 Z Z) Z (A2 (A4 Z Z) Z (A2 (D90 Z Z (by omega)) Z (A2 (C17 Z Z Z (fun _=>rfl)) Z (A2 (D90 Z Z (by omega)) Z (A2 (r8 Z) Z (A2 (A5 Z Z) Z (A6 ?_))))))))
  refine k1 (k10 ?_)
  exact B5 (F5 rfl rfl rfl) rfl
def lineTab:List Str:=[[97],[98],[99],[97,98],[98,97],[],[97,97],[98,32,97],[120,43,121],[92]]
def y6 (k:Int):Str:=lineTab.getD (M2 k 10).toNat []
theorem E12:∀s∈lineTab,s.length≤3:=by decide
theorem A18 (k:Int):(y6 k).length≤3:=by
 unfold y6
 rw [G13]
 cases h:lineTab[(M2 k 10).toNat]? with
 | none=>simp
 | some s=>exact E12 s (G30 h)
theorem E13 (k:Int):FnOk Tryz.prog 24 [I8 k] (fun rs=>rs=[I1 (y6 k)]):=by
 refine FnOk.intro Tryz.func24 (by decide) Z Z Z Z ?_
 refine k2 ?_
 refine A3 (A2 (A5 Z Z) Z (A6 ?_))
 refine k1 (k2 ?_)
 have hm:=a8 k (n:=10) (by decide)
 have hv:lineTab[(M2 k 10).toNat]?=some (y6 k):=by
  unfold y6
  rw [G13,G09 (show (M2 k 10).toNat < lineTab.length by simp [lineTab];omega)];rfl
 refine A3 (A2 (E3 (c:=H0) (ys:=lineTab) (E6 Z Z Z Z (E6 Z Z Z Z (E6 Z Z Z Z (E6 Z Z Z Z (E6 Z Z Z Z (E6 Z Z Z Z (E6 Z Z Z Z (E6 Z Z Z Z (E6 Z Z Z Z (E6 Z Z Z Z I9)))))))))) Z Z Z) Z (A2 (A4 Z Z) Z (C2 (A60 k 10 (by decide) (by decide)) Z Z Z ?_)));rintro _ rfl;refine A2 (B1 Z (.pure _ _ _ _) Z (by omega) hv) Z (A2 (B3 Z Z) Z (A2 (A5 Z Z) Z (A6 ?_)))
 refine k1 (k10 ?_)
 exact B5 (F5 rfl rfl rfl) rfl
theorem ids_ok (fs:List (List Str)) (hfs:fs.flatten.length≤536870912) (hf1:fs.length≤536870912):FnOk Tryz.prog 101 [pStrss fs] (fun rs=>rs=[pIntss (fs.map (H3 (D6 fs)))]):=by
 refine FnOk.intro Tryz.func101 (by decide) Z Z Z Z ?_
 refine k2 ?_
 refine A3 (A2 (A5 Z Z) Z (A6 ?_))
 refine k1 (k2 ?_)
 refine A3 (A2 (A4 Z Z) Z (C2 (F58 fs hfs) Z Z Z ?_));rintro _ rfl;refine A2 (A5 Z Z) Z (A6 ?_)
 refine k1 (k2 ?_)
 refine A3 (C4 (X3 4 _ intsC Z) Z (A6 ?_))
 refine k1 (k2 (k2 ?_))
 refine A3 (A2 (A5 Z Z) Z (A6 ?_))
 refine k1 (k3 ?_)
 refine D8 (X:=Nat) (fun f=>([(0,D5 (List Str) 1 strsC fs),(3,D5 Str 1 H0 (D6 fs)),(4,.s (.one (.buf 4 (List Int) 1 intsC ((fs.take f).map (H3 (D6 fs)))))),(5,D2 f)],[(4,.spare ((fs.take f).map (H3 (D6 fs))).length 1 25)])) (fun f=>f≤fs.length) (fun f=>fs.length - f) 0 (by simp) (F77 ⟨le1 rfl,le1 rfl,le1 rfl,le1 rfl,trivial⟩ ⟨rfl,trivial⟩) ?_
 intro f hf
 dsimp only at hf ⊢
 refine k2 (k2 ?_)
 refine A3 (A2 (A4 Z Z) Z (A2 (A4 Z Z) Z (A2 (E1 Z (.pure _ _ _ _)) Z (A2 (E5 Z Z) Z (A6 ?_)))))
 refine k1 ?_
 have hfl:((fs.take f).map (H3 (D6 fs))).length=f:=by simp;omega
 refine B4 rfl (fun ht=>?_) (fun ht=>?_)
 ·have hlt:f < fs.length:=by have:=A0 ht;omega
  have hv:fs[f]?=some fs[f]:=by simp [hlt]
  have hle:=N5 fs (f+1)
  rw [Q0 fs f hlt,G07] at hle
  refine k5 (k1 (k2 (k3 (k2 ?_))))
  refine A3 (C4 (C26 16 (c:=o7) (ys:=[]) I9 Z Z Z (by first | rfl | (simp [G8,M4,Ob.free,SV.free,S1.free,TC.free]<;>rfl))) Z ?_);refine A2 (A5 Z Z) Z (A6 ?_)
  refine k1 (k2 (k2 ?_))
  refine A3 (A2 (A5 Z Z) Z (A6 ?_))
  refine k1 (k3 ?_)
  refine D8 (X:=Nat) (fun i=>([(0,D5 (List Str) 1 strsC fs),(3,D5 Str 1 H0 (D6 fs)),(4,.s (.one (.buf 4 (List Int) 1 intsC ((fs.take f).map (H3 (D6 fs)))))),(5,D2 f),(6,.s (.one (.buf 16 Int 1 o7 (H3 (D6 fs) (fs[f].take i))))),(7,D2 i)],[(4,.spare ((fs.take f).map (H3 (D6 fs))).length 1 25),(16,.spare (H3 (D6 fs) (fs[f].take i)).length 1 3)])) (fun i=>i≤fs[f].length) (fun i=>fs[f].length - i) 0 (by simp) (F77 ⟨le1 rfl,le1 rfl,le1 rfl,le1 rfl,le1 rfl,le1 rfl,trivial⟩ ⟨rfl,rfl,trivial⟩) ?_
  intro i hi
  dsimp only at hi ⊢
  have hil:(H3 (D6 fs) (fs[f].take i)).length=i:=by simp [H3];omega
  refine k2 (k2 ?_)
  refine A3 (A2 (A4 Z Z) Z (A2 (A4 Z Z) Z (A2 (A4 Z Z) Z (A2 (B1 Z (.pure _ _ _ _) Z (by omega) hv) Z (A2 (B3 Z Z) Z (A2 (E1 Z (.pure _ _ _ _)) Z (A2 (E5 Z Z) Z (A6 ?_))))))))
  refine k1 ?_
  refine B4 rfl (fun ht=>?_) (fun ht=>?_)
  ·have hlt2:i < fs[f].length:=by have:=A0 ht;omega
   have hvi:fs[f][i]?=some fs[f][i]:=by simp [hlt2]
   have hst:H3 (D6 fs) (fs[f].take (i+1))=H3 (D6 fs) (fs[f].take i)++[N0 (D6 fs) fs[f][i] 0]:=by
    unfold H3;rw [List.take_add_one,hvi,Option.toList_some,G27];rfl
   refine k5 (k1 (k2 (k3 ?_)))
   refine A3 (A2 (A4 Z Z) Z (A2 (A4 Z Z) Z (A2 (A4 Z Z) Z (A2 (A4 Z Z) Z (A2 (B1 Z (.pure _ _ _ _) Z (by omega) hv) Z (A2 (B3 Z Z) Z (A2 (A4 Z Z) Z (A2 (B1 Z (.pure _ _ _ _) Z (by omega) hvi) Z (A2 (B3 Z Z) Z (C2 (E10 _ _) Z Z Z ?_))))))))));rintro _ rfl;refine A2 (E3 (c:=o7) (ys:=[_]) (E6 Z Z Z Z I9) Z Z Z) Z (C4 (F4 Z Z Z (.pure _ _ _ _) (by (simp only [G10,G11];omega)) Z) Z (A2 (A5 Z Z) Z (A6 ?_)))
   refine k4 (k1 ?_)
   refine A3 (A2 (A4 Z Z) Z (A2 (C3 Z Z (by omega)) Z (A2 (A5 Z Z) Z (A6 ?_))))
   refine k1 ?_
   refine ⟨i+1,by omega,by omega,?_⟩
   rw [hst]
   exact F77 ⟨le1 rfl,le1 rfl,le1 rfl,le1 rfl,le1 rfl,le1 rfl,trivial⟩ ⟨rfl,rfl,trivial⟩
  ·have hi':i=fs[f].length:=by have:=A1 ht;omega
   have hst:(fs.take (f+1)).map (H3 (D6 fs))=(fs.take f).map (H3 (D6 fs))++[H3 (D6 fs) (fs[f].take i)]:=by
    rw [List.take_add_one,hv,Option.toList_some,G27,hi',G23];rfl
   refine k6 (k7 (k7 (k8 Z (k1 ?_))))
   refine A3 (A2 (A4 Z Z) Z (A2 (A4 Z Z) Z (A2 (E3 (c:=intsC) (ys:=[_]) (E6 Z Z Z Z I9) Z Z Z) Z (C4 (F4 Z Z Z (.pure _ _ _ _) (by (simp only [G10,G11];omega)) Z) Z (A2 (A5 Z Z) Z (A6 ?_))))))
   refine k4 (k1 ?_)
   refine A3 (A2 (A4 Z Z) Z (A2 (C3 Z Z (by omega)) Z (A2 (A5 Z Z) Z (A6 ?_))))
   refine k1 ?_
   refine ⟨f+1,by omega,by omega,?_⟩
   rw [hst]
   exact F77 ⟨le1 rfl,le1 rfl,le1 rfl,le1 rfl,trivial⟩ ⟨rfl,trivial⟩
 ·have hk':f=fs.length:=by have:=A1 ht;omega
  subst hk'
  refine k6 (k2 ?_)
  refine A3 (A2 (A4 Z Z) Z (A2 (A5 Z Z) Z (A6 ?_)))
  refine k1 (k10 ?_)
  exact B5 (F5 rfl rfl rfl) (by rw [G23])
def Y9 (raw:List Int) (from':Int) (kinds:Int) (m:Nat):Str:=((List.range m).map fun (i:Nat)=>y6 (M2 (y5 raw (from'+1+(i:Int))) kinds)++[10]).flatten
def B13 (raw:List Int) (from' n kinds:Int):Str :=
 let s:=Y9 raw from' kinds (M2 (y5 raw from') (n+1)).toNat
 if ((y5 raw (from'+90)).tmod 4=0∧(1:Int) < s.length)∧((s.getD (s.length - 2) 0).toNat:Int)≠10 then s.take (s.length - 1) else s
theorem A61 (raw:List Int) (from' kinds:Int) (m:Nat):Y9 raw from' kinds (m+1)=Y9 raw from' kinds m++y6 (M2 (y5 raw (from'+1+(m:Int))) kinds)++[10]:=by
 unfold Y9;rw [List.range_succ,G27,G20];simp
theorem A96 (raw:List Int) (from' kinds:Int) (m:Nat):(Y9 raw from' kinds m).length≤4*m:=by
 induction m with
 | zero=>simp [Y9]
 | succ m ih=>have:=A18 (M2 (y5 raw (from'+1+(m:Int))) kinds);rw [A61];simp only [G07,G10,G11];omega
theorem F13 (raw:List Int) (from' n kinds:Int) (h0:0≤from'∧from'≤1073741824) (h1:0≤n∧n≤1048576) (h2:1≤kinds∧kinds≤1048576) :
  FnOk Tryz.prog 64 [A43 raw,I8 from',I8 n,I8 kinds] (fun rs=>rs=[I1 (B13 raw from' n kinds)]):=by
 obtain ⟨m,hm⟩:∃m:Nat,M2 (y5 raw from') (n+1)=m:=⟨(M2 (y5 raw from') (n+1)).toNat,by have:=a8 (y5 raw from') (n:=n+1) (by omega);omega⟩
 have hmi:=a8 (y5 raw from') (n:=n+1) (by omega)
 have hml:m≤1048576:=by omega
 refine FnOk.intro Tryz.func64 (by decide) Z Z Z Z ?_
 refine k2 ?_
 refine A3 (A2 (A5 Z Z) Z (A6 ?_))
 refine k1 (k2 ?_)
 refine A3 (A2 (A4 Z Z) Z (A2 (A4 Z Z) Z (C2 (E11 raw from' (by omega) (by omega)) Z Z Z ?_)));rintro _ rfl;refine A2 (A4 Z Z) Z (A2 (C3 Z Z (by omega)) Z (C2 (A60 _ (n+1) (by omega) (by omega)) Z Z Z ?_));rintro _ rfl;refine A2 (A5 Z Z) Z (A6 ?_)
 refine k1 (k2 ?_)
 rw [hm]
 refine A3 (A2 (A5 Z Z) Z (A6 ?_))
 refine k1 (k2 (k2 ?_))
 refine A3 (A2 (A5 Z Z) Z (A6 ?_))
 refine k1 (k3 ?_)
 refine D8 (X:=Nat) (fun i=>([(0,D5 Int 1 o7 raw),(1,D2 from'),(2,D2 m),(3,D2 kinds),(9,P8 (Y9 raw from' kinds i)),(10,D2 i)],[])) (fun i=>i≤m) (fun i=>m - i) 0 (Nat.zero_le _) (F77 ⟨le1 rfl,le1 rfl,le1 rfl,le1 rfl,le1 rfl,le1 rfl,trivial⟩ trivial) ?_
 intro i hi
 dsimp only at hi ⊢
 have hbl:=A96 raw from' kinds i
 refine k2 (k2 ?_)
 refine A3 (A2 (A4 Z Z) Z (A2 (A4 Z Z) Z (A2 (E5 Z Z) Z (A6 ?_))))
 refine k1 ?_
 refine B4 rfl (fun ht=>?_) (fun ht=>?_)
 ·have hlt:i < m:=by have:=A0 ht;omega
  have hll:=A18 (M2 (y5 raw (from'+1+(i:Int))) kinds)
  refine k5 (k1 (k2 (k3 ?_)))
  refine A3 (A2 (A4 Z Z) Z (A2 (A4 Z Z) Z (A2 (A4 Z Z) Z (A2 (C3 Z Z (by omega)) Z (A2 (A4 Z Z) Z (A2 (C3 Z Z (by omega)) Z (C2 (E11 raw _ (by omega) (by omega)) Z Z Z ?_)))))));rintro _ rfl;refine A2 (A4 Z Z) Z (C2 (A60 _ kinds (by omega) (by omega)) Z Z Z ?_);rintro _ rfl;refine C2 (E13 _) Z Z Z ?_;rintro _ rfl;refine A2 (F2 Z Z (by omega)) Z (A2 (F2 Z Z (by (simp only [G07,G10,G11];omega))) Z (A2 (A5 Z Z) Z (A6 ?_)))
  refine k4 (k1 ?_)
  refine A3 (A2 (A4 Z Z) Z (A2 (C3 Z Z (by omega)) Z (A2 (A5 Z Z) Z (A6 ?_))))
  refine k1 ?_
  refine ⟨i+1,by omega,by omega,?_⟩
  rw [A61]
  exact F77 ⟨le1 rfl,le1 rfl,le1 rfl,le1 rfl,le1 rfl,le1 rfl,trivial⟩ trivial
 ·have hi':i=m:=by have:=A1 ht;omega
  subst hi'
  obtain ⟨s,hs⟩:∃s,s=Y9 raw from' kinds i:=⟨_,rfl⟩
  have hv:(1:Int) < s.length→s[((s.length:Int) - 2).toNat]?=some (s.getD (s.length - 2) 0):=fun h=>by
   rw [show ((s.length:Int) - 2).toNat=s.length - 2 by omega,G13,G09 (by omega)];rfl
  have hbo:B13 raw from' n kinds=if ((y5 raw (from'+90)).tmod 4=0∧(1:Int) < s.length)∧((s.getD (s.length - 2) 0).toNat:Int)≠10 then s.take (s.length - 1) else s:=by
   simp only [B13,hm,G46,←hs]
  rw [←hs] at hbl
  refine k6 (k2 (k2 ?_))
  rw [←hs]
  refine A3 (A2 (A4 Z Z) Z (A2 (A4 Z Z) Z (A2 (C3 Z Z (by omega)) Z (C2 (E11 raw _ (by omega) (by omega)) Z Z Z ?_))));rintro _ rfl;refine A2 (A92 Z Z (by omega)) Z (A2 (J9 Z Z) Z (A2 (A4 Z Z) Z (A8 Z Z Z Z (fun hg=>by rw [hg];exact A4 Z Z) ?_)));refine A8 Z Z Z Z (fun hg=>by rw [hg];exact H7 Z) ?_;refine A8 Z Z Z Z (fun hg=>by rw [hg];exact L1 Z Z) ?_;refine A2 (B2 Z (fun h=>by first | rfl | (rw [h];rfl)) (fun h=>by first | rfl | (rw [h];rfl))) Z ?_;refine A2 (A4 Z Z) Z (A8 Z Z Z Z (fun hg=>by rw [hg];exact A4 Z Z) ?_);refine A8 Z Z Z Z (fun hg=>by rw [hg];exact A4 Z Z) ?_;refine A8 Z Z Z Z (fun hg=>by rw [hg];exact H7 Z) ?_;refine A8 Z Z Z Z (fun hg=>by have hq:=hg;(try simp at hq);rw [hg];exact N6 Z Z (by omega)) ?_;refine A8 Z Z Z Z (fun hg=>by have hq:=hg;(try simp at hq);rw [hg];exact Y3 Z Z (by omega) (hv (by omega))) ?_;refine A8 Z Z Z Z (fun hg=>by rw [hg];exact H8 Z Z) ?_;refine A2 (B2 Z (fun h=>by first | rfl | (rw [h];rfl)) (fun h=>by first | rfl | (rw [h];rfl))) Z ?_;refine A6 ?_
  refine k1 ?_
  refine B4 rfl (fun ht=>?_) (fun ht=>?_)
  ·simp only [J6] at ht
   have h:=A0 ht
   skip
   refine A3 (A2 (A4 Z Z) Z (A2 (A4 Z Z) Z (A2 (H7 Z) Z (A2 (N6 Z Z (by omega)) Z (A2 (E98 Z Z (by omega) (by omega)) Z (A2 (A5 Z Z) Z (A6 ?_)))))))
   refine k1 (k2 ?_)
   refine A3 (A2 (A4 Z Z) Z (A2 (A5 Z Z) Z (A6 ?_)))
   refine k1 (k10 ?_)
   exact B5 (F5 rfl rfl rfl) (by rw [hbo,if_pos h,show ((s.length:Int) - 1).toNat=s.length - 1 by omega])
  ·simp only [J6] at ht
   have h:=A1 ht
   refine k5 (k1 (k2 ?_))
   refine A3 (A2 (A4 Z Z) Z (A2 (A5 Z Z) Z (A6 ?_)))
   refine k1 (k10 ?_)
   exact B5 (F5 rfl rfl rfl) (by rw [hbo,if_neg h])
theorem E68 (raw:List Int) (from' n kinds:Int) (h1:0≤n):((B13 raw from' n kinds).length:Int)≤4*n:=by
 have h:=a8 (y5 raw from') (n:=n+1) (by omega)
 have h2:=A96 raw from' kinds (M2 (y5 raw from') (n+1)).toNat
 unfold B13
 simp only
 split
 ·simp only [G17];omega
 ·omega
def u0 (raw:List Int) (from':Int) (i:Nat) (s:Str):List Str→Str
 | []=>s
 | x::r=>if (y5 raw (from'+(i:Int))).tmod 6=0 then u0 raw from' (i+1) s r
  else if (y5 raw (from'+(i:Int))).tmod 6=1 then u0 raw from' (i+1) (s++y6 (y5 raw (from'+40+(i:Int)))++[10]++x) r
  else u0 raw from' (i+1) (s++x) r
def B14 (blob:Str) (raw:List Int) (from':Int):Str:=u0 raw from' 0 [] (B6 blob)
theorem A19 (raw:List Int) (from':Int):∀(l:List Str) (i:Nat) (s:Str),(u0 raw from' i s l).length≤s.length+l.flatten.length+4*l.length
 | [],i,s=>by simp [u0]
 | x::r,i,s=>by
  have h1:=A19 raw from' r (i+1) s
  have h2:=A19 raw from' r (i+1) (s++y6 (y5 raw (from'+40+(i:Int)))++[10]++x)
  have h3:=A19 raw from' r (i+1) (s++x)
  have h4:=A18 (y5 raw (from'+40+(i:Int)))
  simp only [G07,G10,G11,G29] at *
  unfold u0
  split
  ·omega
  ·split<;>omega
theorem B70 (s cur:Str):(F1 cur s).flatten=cur++s:=by
 induction s generalizing cur with
 | nil=>unfold F1;split<;>simp [*]
 | cons c r ih=>unfold F1;split<;>simp [ih]
theorem X5 (s:Str):(B6 s).flatten=s:=B70 s []
theorem F14 (blob:Str) (raw:List Int) (from':Int) (hb:blob.length≤16777216) (h0:0≤from'∧from'≤1073741824) :
  FnOk Tryz.prog 26 [I1 blob,A43 raw,I8 from'] (fun rs=>rs=[I1 (B14 blob raw from')]):=by
 have hll:=O9 blob
 have hlf:=X5 blob
 have hlf':(B6 blob).flatten.length=blob.length:=by rw [hlf]
 refine FnOk.intro Tryz.func26 (by decide) Z Z Z Z ?_
 refine k2 ?_
 refine A3 (A2 (A5 Z Z) Z (A6 ?_))
 refine k1 (k2 ?_)
 refine A3 (A2 (A4 Z Z) Z (C2 (B41 blob (by omega)) Z Z Z ?_));rintro _ rfl;refine A2 (A5 Z Z) Z (A6 ?_)
 refine k1 (k2 ?_)
 obtain ⟨l,hl⟩:∃l,l=B6 blob:=⟨_,rfl⟩
 have hno:B14 blob raw from'=u0 raw from' 0 [] l:=by rw [B14,hl]
 rw [←hl] at hll hlf' ⊢
 refine A3 (A2 (A5 Z Z) Z (A6 ?_))
 refine k1 (k2 (k2 ?_))
 refine A3 (A2 (A5 Z Z) Z (A6 ?_))
 refine k1 (k3 ?_)
 refine D8 (X:=Nat × Str) (fun x=>([(1,D5 Int 1 o7 raw),(2,D2 from'),(7,D5 Str 1 H0 l),(8,P8 x.2),(9,D2 x.1)],[])) (fun x=>x.1≤l.length∧x.2.length≤(l.take x.1).flatten.length+4*x.1∧u0 raw from' x.1 x.2 (l.drop x.1)=u0 raw from' 0 [] l) (fun x=>l.length - x.1) (0,[]) (by simp) (F77 ⟨le1 rfl,le1 rfl,le1 rfl,le1 rfl,le1 rfl,trivial⟩ trivial) ?_
 rintro ⟨i,s⟩ ⟨hi,hs,hp⟩
 dsimp only at hi hs hp ⊢
 have hle:=N5 l i
 refine k2 (k2 ?_)
 refine A3 (A2 (A4 Z Z) Z (A2 (A4 Z Z) Z (A2 (E1 Z (.pure _ _ _ _)) Z (A2 (E5 Z Z) Z (A6 ?_)))))
 refine k1 ?_
 refine B4 rfl (fun ht=>?_) (fun ht=>?_)
 ·have hlt:i < l.length:=by have:=A0 ht;omega
  have hv:l[i]?=some l[i]:=by simp [hlt]
  have hle2:=N5 l (i+1)
  have hst:=Q0 l i hlt
  rw [hst,G07] at hle2
  rw [G12 hlt,u0] at hp
  refine k5 (k1 (k2 (k3 (k2 (k2 ?_)))))
  refine A3 (A2 (A4 Z Z) Z (A2 (A4 Z Z) Z (A2 (A4 Z Z) Z (A2 (C3 Z Z (by omega)) Z (C2 (E11 raw _ (by omega) (by omega)) Z Z Z ?_)))));rintro _ rfl;refine A2 (A92 Z Z (by omega)) Z (A6 ?_)
  refine k1 (k3 (k2 ?_))
  refine A3 (A2 (J9 Z Z) Z (A2 (A5 Z Z) Z (A6 ?_)))
  refine k1 ?_
  refine B4 rfl (fun ht=>?_) (fun ht=>?_)
  ·rw [if_pos (A0 ht)] at hp
   refine k6 (k9 Z (k7 (k8 Z (k1 ?_))))
   refine A3 (A2 (A4 Z Z) Z (A2 (C3 Z Z (by omega)) Z (A2 (A5 Z Z) Z (A6 ?_))))
   refine k1 ?_
   exact ⟨(i+1,s),⟨by dsimp only;omega,by dsimp only;rw [hst,G07];omega,hp⟩,by dsimp only;omega,F77 ⟨le1 rfl,le1 rfl,le1 rfl,le1 rfl,le1 rfl,trivial⟩ trivial⟩
  ·rw [if_neg (A1 ht)] at hp
   refine k2 ?_
   refine A3 (A2 (J9 Z Z) Z (A2 (A5 Z Z) Z (A6 ?_)))
   refine k1 ?_
   refine B4 rfl (fun ht=>?_) (fun ht=>?_)
   ·rw [if_pos (A0 ht)] at hp
    have h4:=A18 (y5 raw (from'+40+(i:Int)))
    skip
    refine A3 (A2 (A4 Z Z) Z (A2 (A4 Z Z) Z (A2 (A4 Z Z) Z (A2 (C3 Z Z (by omega)) Z (A2 (A4 Z Z) Z (A2 (C3 Z Z (by omega)) Z (C2 (E11 raw _ (by omega) (by omega)) Z Z Z ?_)))))));rintro _ rfl;refine C2 (E13 _) Z Z Z ?_;rintro _ rfl;refine A2 (F2 Z Z (by omega)) Z (A2 (F2 Z Z (by (simp only [G07,G10,G11];omega))) Z (A2 (A5 Z Z) Z (A6 ?_)))
    refine k4 (k1 ?_)
    refine A3 (A2 (A4 Z Z) Z (A2 (A4 Z Z) Z (A2 (A4 Z Z) Z (A2 (B1 Z (.pure _ _ _ _) Z (by omega) hv) Z (A2 (B3 Z Z) Z (A2 (F2 Z Z (by (simp only [G07,G10,G11];omega))) Z (A2 (A5 Z Z) Z (A6 ?_))))))))
    refine k4 (k1 ?_)
    refine A3 (A2 (A4 Z Z) Z (A2 (C3 Z Z (by omega)) Z (A2 (A5 Z Z) Z (A6 ?_))))
    refine k1 ?_
    exact ⟨(i+1,s++y6 (y5 raw (from'+40+(i:Int)))++[10]++l[i]),⟨by dsimp only;omega,by dsimp only;rw [hst];simp only [G07,G10,G11];omega,hp⟩,by dsimp only;omega,F77 ⟨le1 rfl,le1 rfl,le1 rfl,le1 rfl,le1 rfl,trivial⟩ trivial⟩
   ·rw [if_neg (A1 ht)] at hp
    refine k5 (k4 (k1 ?_))
    refine A3 (A2 (A4 Z Z) Z (A2 (A4 Z Z) Z (A2 (A4 Z Z) Z (A2 (B1 Z (.pure _ _ _ _) Z (by omega) hv) Z (A2 (B3 Z Z) Z (A2 (F2 Z Z (by omega)) Z (A2 (A5 Z Z) Z (A6 ?_))))))))
    refine k4 (k1 ?_)
    refine A3 (A2 (A4 Z Z) Z (A2 (C3 Z Z (by omega)) Z (A2 (A5 Z Z) Z (A6 ?_))))
    refine k1 ?_
    exact ⟨(i+1,s++l[i]),⟨by dsimp only;omega,by dsimp only;rw [hst,G07,G07];omega,hp⟩,by dsimp only;omega,F77 ⟨le1 rfl,le1 rfl,le1 rfl,le1 rfl,le1 rfl,trivial⟩ trivial⟩
 ·have hi':i=l.length:=by have:=A1 ht;omega
  rw [hi',G18 (Nat.le_refl _)] at hp
  refine k6 (k2 ?_)
  refine A3 (A2 (A4 Z Z) Z (A2 (A5 Z Z) Z (A6 ?_)))
  refine k1 (k10 ?_)
  exact B5 (F5 rfl rfl rfl) (by rw [hno,←hp];rfl)
end Go.Proofs.YtbiadkkamhpdnaaGreatDoor
namespace Go.Proofs.YtbiadkkamhpdnaaGreatDoor
open Go Go.AL
set_option maxRecDepth 100000
theorem D19 (s:Str):(ByteArray.mk s.toArray).size=s.length:=by simp [ByteArray.size]
theorem D61 (s p:Str) (hs:s.length≤1099511627776):FnOk Tryz.prog 200 [I1 s,I1 p] (fun rs=>rs=[O8 (Lib.hasSuffix s p)]) :=
 F81 (xs:=[.string ⟨s.toArray⟩,.string ⟨p.toArray⟩]) ⟨_,rfl,rfl,rfl⟩ rfl fun w=>by simpa using Tryz.strings_HasSuffix ⟨s.toArray⟩ ⟨p.toArray⟩ w (by rw [D19];omega)
theorem C88 (s p:Str) (hs:s.length≤1099511627776):FnOk Tryz.prog 225 [I1 s,I1 p] (fun rs=>rs=[I1 (Lib.trimSuffix s p)]) :=
 F81 (xs:=[.string ⟨s.toArray⟩,.string ⟨p.toArray⟩]) ⟨_,rfl,rfl,rfl⟩ rfl fun w=>by simpa using Tryz.strings_TrimSuffix ⟨s.toArray⟩ ⟨p.toArray⟩ w (by rw [D19];omega)
theorem D62 (s:Str) (c:UInt8):FnOk Tryz.prog 125 [I1 s,.one (.v (.int .u8 c.toNat))] (fun rs=>rs=[I8 (Lib.indexByte s c)]) :=
 F81 (xs:=[.string ⟨s.toArray⟩,.int .u8 c.toNat]) ⟨_,rfl,rfl,rfl⟩ rfl fun w=>by simpa using Tryz.strings_IndexByte ⟨s.toArray⟩ c.toNat w
theorem D63 (s:Str) (c:UInt8):FnOk Tryz.prog 209 [I1 s,I1 [c]] (fun rs=>rs=[O8 (decide (0≤Lib.indexByte s c))]) :=
 F81 (xs:=[.string ⟨s.toArray⟩,.string ⟨#[c]⟩]) ⟨_,rfl,rfl,rfl⟩ rfl fun w=>by simpa using Tryz.strings_Contains_one ⟨s.toArray⟩ c w
theorem F60 (l:List Str) (hl:l.length≤536870912) (hf:l.flatten.length≤536870912):FnOk Tryz.prog 126 [T9 l,I1 []] (fun rs=>rs=[I1 l.flatten]):=by
 have hmap:(l.map fun s=>(⟨s.toArray⟩:ByteArray)).map (·.data.toList)=l:=by rw [G43];simp [Function.comp_def]
 refine F97 ⟨_,rfl,rfl,rfl⟩ (fun h a c w=>?_) (fun b o c w hne hc hb hcap=>?_)
 ·subst h;exact Tryz.strings_Join_none a c _ w
 ·have:=Tryz.strings_Join b o c (l.map fun s=>(⟨s.toArray⟩:ByteArray)) ⟨#[]⟩ w hc hb (by rw [G35];omega) (by rw [G35];exact hcap) (by rw [hmap];show (Lib.join l []).length≤_;rw [E36];omega)
  rw [G35,hmap] at this
  have e:Lib.join l (⟨#[]⟩:ByteArray).data.toList=l.flatten:=E36 l
  rw [e] at this
  exact this
theorem A80 (s:Str) (hs:s.length≤1099511627776):FnOk Tryz.prog 137 [I1 s] (fun rs=>rs=[O8 (ended s)]):=by
 refine FnOk.intro Tryz.func137 (by decide) Z Z Z Z ?_
 refine k2 ?_
 refine A3 (A2 (A5 Z Z) Z (A6 ?_))
 refine k1 (k2 ?_)
 refine A3 (A2 (A4 Z Z) Z (C2 (D61 s [10] hs) Z Z Z ?_));rintro _ rfl;refine A2 (A5 Z Z) Z (A6 ?_)
 rw [B45]
 refine k1 (k10 ?_)
 exact B5 (F5 rfl rfl rfl) rfl
theorem F61 (s:Str) (hs:s.length≤1099511627776):FnOk Tryz.prog 210 [I1 s] (fun rs=>rs=[I1 (A63 s)]):=by
 refine FnOk.intro Tryz.func210 (by decide) Z Z Z Z ?_
 refine k2 ?_
 refine A3 (A2 (A5 Z Z) Z (A6 ?_))
 refine k1 (k2 ?_)
 refine A3 (A2 (A4 Z Z) Z (C2 (C88 s [10] hs) Z Z Z ?_));rintro _ rfl;refine A2 (A5 Z Z) Z (A6 ?_)
 rw [C94]
 refine k1 (k10 ?_)
 exact B5 (F5 rfl rfl rfl) rfl
theorem F62 (l:List Str) (hf:l.flatten.length≤536870911) (hll:l.length≤536870911):FnOk Tryz.prog 68 [T9 l] (fun rs=>rs=[I1 (S6 l).1,I8 (S6 l).2]):=by
 refine FnOk.intro Tryz.func68 (by decide) Z Z Z Z ?_
 refine k2 ?_
 refine A3 (A2 (A5 Z Z) Z (A2 (A5 Z Z) Z (A6 ?_)))
 refine k1 (k2 ?_)
 refine A3 (A2 (A5 Z Z) Z (A6 ?_))
 refine k1 (k2 (k2 ?_))
 refine A3 (A2 (A4 Z Z) Z (A2 (E1 Z (.pure _ _ _ _)) Z (A2 (A4 Z Z) Z (A6 ?_))))
 refine k1 (k3 ?_)
 refine D8 (X:=Nat) (fun i=>([(0,D5 Str 1 H0 l),(4,D2 (l.take i).flatten.length),(8,D5 Str 1 H0 l),(9,D2 l.length),(10,D2 i)],[])) (fun i=>i≤l.length∧P5 l=P5 (l.drop i)) (fun i=>l.length - i) 0 ⟨Nat.zero_le _,by simp⟩ (F77 ⟨le1 rfl,le1 rfl,le1 rfl,le1 rfl,le1 rfl,trivial⟩ trivial) ?_
 rintro i ⟨hi,hp⟩
 dsimp only at hi hp ⊢
 have hfl:=N5 l i
 refine k2 ?_
 refine A3 (A2 (E5 Z Z) Z (A6 ?_))
 refine k1 (k2 ?_)
 refine B4 rfl (fun ht=>?_) (fun ht=>?_)
 ·have hlt:i < l.length:=by have:=A0 ht;omega
  have hv:l[i]?=some l[i]:=by simp [hlt]
  have hfl2:=N5 l (i+1)
  have hst:(l.take (i+1)).flatten.length=(l.take i).flatten.length+l[i].length:=by rw [Q0 l i hlt,G07]
  have hbad:=E34 l[i] (l.drop (i+1))
  rw [G12 hlt,E35] at hp
  have hemp:(l.drop (i+1)).isEmpty=decide (l.length≤i+1):=by rw [Bool.eq_iff_iff];simp
  rw [hemp] at hbad
  unfold D74 at hbad
  refine k5 (k1 (k2 (k3 (k2 ?_))))
  refine A3 (A2 (A4 Z Z) Z (A2 (B1 Z (.pure _ _ _ _) Z (by omega) hv) Z (A2 (B3 Z Z) Z (A2 (A5 Z Z) Z (A2 (A5 Z Z) Z (A6 ?_))))))
  refine k1 (k2 ?_)
  refine A3 (A2 (A4 Z Z) Z (C2 (D62 l[i] 10) Z Z Z ?_));rintro _ rfl;refine A2 (A5 Z Z) Z (A6 ?_)
  refine k1 (k2 (k2 ?_))
  refine A3 (A2 (A4 Z Z) Z (A2 (u7 Z Z) Z (A2 (A4 Z Z) Z (A8 Z Z Z Z (fun hg=>by rw [hg];exact A4 Z Z) ?_))));refine A8 Z Z Z Z (fun hg=>by rw [hg];exact B80 Z Z) ?_;refine A8 Z Z Z Z (fun hg=>by rw [hg];exact A4 Z Z) ?_;refine I0 Z Z Z (.gd (.val _)) Z (fun hg=>by obtain ⟨hg1,hg2⟩:=Q8 hg;(try rw [hg1]);(try rw [hg2]);exact A4 Z Z) ?_;refine I0 Z Z Z (.gd (.val _)) Z (fun hg=>by obtain ⟨hg1,hg2⟩:=Q8 hg;(try rw [hg1]);(try rw [hg2]);exact A4 Z Z) ?_;refine I0 Z Z Z (.gd (.val _)) Z (fun hg=>by obtain ⟨hg1,hg2⟩:=Q8 hg;(try rw [hg1]);(try rw [hg2]);exact H7 Z) ?_;refine I0 Z Z Z (.gd (.val _)) Z (fun hg=>by have hq:=hg;(try simp at hq);obtain ⟨hg1,hg2⟩:=Q8 hg;(try rw [hg1]);(try rw [hg2]);exact N6 Z Z (by omega)) ?_;refine I0 Z Z Z (.gd (.val _)) Z (fun hg=>by obtain ⟨hg1,hg2⟩:=Q8 hg;(try rw [hg1]);(try rw [hg2]);exact E5 Z Z) ?_;refine A8 Z Z Z Z (fun hg=>by rw [hg];exact B2 Z (fun h=>by first | rfl | (rw [h];rfl)) (fun h=>by first | rfl | (rw [h];rfl))) ?_;refine A2 (B2 Z (fun h=>by first | rfl | (rw [h];rfl)) (fun h=>by first | rfl | (rw [h];rfl))) Z ?_;refine A2 (A4 Z Z) Z (A8 Z Z Z Z (fun hg=>by rw [hg];exact A4 Z Z) ?_);refine A8 Z Z Z Z (fun hg=>by rw [hg];exact E5 Z Z) ?_;refine A8 Z Z Z Z (fun hg=>by rw [hg];exact A4 Z Z) ?_;refine I0 Z Z Z (.gd (.val _)) Z (fun hg=>by obtain ⟨hg1,hg2⟩:=Q8 hg;(try rw [hg1]);(try rw [hg2]);exact A4 Z Z) ?_;refine I0 Z Z Z (.gd (.val _)) Z (fun hg=>by obtain ⟨hg1,hg2⟩:=Q8 hg;(try rw [hg1]);(try rw [hg2]);exact A4 Z Z) ?_;refine I0 Z Z Z (.gd (.val _)) Z (fun hg=>by obtain ⟨hg1,hg2⟩:=Q8 hg;(try rw [hg1]);(try rw [hg2]);exact E1 Z (.pure _ _ _ _)) ?_;refine I0 Z Z Z (.gd (.val _)) Z (fun hg=>by have hq:=hg;(try simp at hq);obtain ⟨hg1,hg2⟩:=Q8 hg;(try rw [hg1]);(try rw [hg2]);exact N6 Z Z (by omega)) ?_;refine I0 Z Z Z (.gd (.val _)) Z (fun hg=>by obtain ⟨hg1,hg2⟩:=Q8 hg;(try rw [hg1]);(try rw [hg2]);exact E5 Z Z) ?_;refine A8 Z Z Z Z (fun hg=>by rw [hg];exact B2 Z (fun h=>by first | rfl | (rw [h];rfl)) (fun h=>by first | rfl | (rw [h];rfl))) ?_;refine A2 (B2 Z (fun h=>by first | rfl | (rw [h];rfl)) (fun h=>by first | rfl | (rw [h];rfl))) Z ?_;refine A6 ?_
  refine k1 ?_
  refine B4 rfl (fun ht=>?_) (fun ht=>?_)
  ·simp only [J6,or_pick] at ht
   have h1:=A0 ht
   have h2:=hbad.1 (by
    rcases h1 with (h | h) | h
    ·exact .inl h
    ·exact .inr (.inl h)
    ·exact .inr (.inr ⟨h.1,by simp only [decide_eq_false_iff_not];omega⟩))
   rw [hemp,h2,Bool.false_and] at hp
   refine k2 ?_
   refine A3 (A2 (A5 Z Z) Z (A2 (A5 Z Z) Z (A6 ?_)))
   refine k1 (k10 (k11 (k12 (k11 (k11 (k12 (k11 ?_)))))))
   exact B5 (Z9 rfl rfl rfl rfl rfl) (by rw [S6,if_pos hp])
  ·simp only [J6,or_pick] at ht
   have h1:=A1 ht
   have h2:(I2 l[i]&&(decide (l.length≤i+1)||ended l[i]))=true:=by
    cases h3:(I2 l[i]&&(decide (l.length≤i+1)||ended l[i]))
    ·have h4:=hbad.2 h3
     simp only [decide_eq_false_iff_not] at h4
     refine absurd ?_ h1
     rcases h4 with h | h | h
     ·exact .inl (.inl h)
     ·exact .inl (.inr h)
     ·exact .inr ⟨h.1,by omega⟩
    ·rfl
   rw [hemp,h2,Bool.true_and] at hp
   refine k5 (k1 ?_)
   refine A3 (A2 (A4 Z Z) Z (A2 (A4 Z Z) Z (A2 (H7 Z) Z (A2 (C3 Z Z (by omega)) Z (A2 (A5 Z Z) Z (A6 ?_))))))
   refine k4 (k1 ?_)
   refine A3 (A2 (C3 Z Z (by omega)) Z (A2 (A4 Z Z) Z (A6 ?_)))
   refine k1 ?_
   refine ⟨i+1,⟨by omega,hp⟩,by omega,?_⟩
   rw [hst]
   exact F77 ⟨le1 rfl,le1 rfl,le1 rfl,le1 rfl,le1 rfl,trivial⟩ trivial
 ·have hil:i=l.length:=by have:=A1 ht;omega
  rw [hil,G23] at hfl ⊢
  rw [hil,G18 (Nat.le_refl _)] at hp
  refine k6 (k2 (k2 ?_))
  refine A3 (A2 (A4 Z Z) Z (A2 (L1 Z Z) Z (A2 (A4 Z Z) Z (A8 Z Z Z Z (fun hg=>by rw [hg];exact A4 Z Z) ?_))));refine A8 Z Z Z Z (fun hg=>by rw [hg];exact E1 Z (.pure _ _ _ _)) ?_;refine A8 Z Z Z Z (fun hg=>by rw [hg];exact L1 Z Z) ?_;refine A2 (B2 Z (fun h=>by first | rfl | (rw [h];rfl)) (fun h=>by first | rfl | (rw [h];rfl))) Z ?_;refine A6 ?_
  refine k1 ?_
  refine B4 rfl (fun ht=>?_) (fun ht=>?_)
  ·have h1:=A0 (or_pick.symm.trans ht)
   refine k2 ?_
   refine A3 (A2 (A5 Z Z) Z (A2 (A5 Z Z) Z (A6 ?_)))
   refine k1 (k10 (k11 ?_))
   exact B5 (Z9 rfl rfl rfl rfl rfl) (by rw [S6,if_neg (by rw [hp];simp [P5]),if_pos (by omega)])
  ·have h1:=A1 (or_pick.symm.trans ht)
   refine k5 (k1 (k2 ?_))
   refine A3 (A2 (A4 Z Z) Z (C2 (F60 l (by omega) (by omega)) Z Z Z ?_));rintro _ rfl;refine A2 (A5 Z Z) Z (A2 (A5 Z Z) Z (A6 ?_))
   refine k1 (k10 ?_)
   exact B5 (Z9 rfl rfl rfl rfl rfl) (by rw [S6,if_neg (by rw [hp];simp [P5]),if_neg (by omega)])
def isBld (ob:Obs) (xs:Str):Prop:=(∃a,(a=.p (.v (.pointer none))∨a=.ref 700 0)∧C8 ob 700=some (.tbx 124 [a,.buf 701 UInt8 1 u8C xs]))∧C8 ob 701=some (.spare xs.length 1 5)
abbrev bldObs (ob:Obs) (ys xs:Str):Obs:=(700,.tbx 124 [.ref 700 0,.buf 701 UInt8 1 u8C xs])::(701,.spare xs.length 1 5)::Obs.forget 701 ((700,.tbx 124 [.ref 700 0,.buf 701 UInt8 1 u8C ys])::ob)
def F15:Go.Shelf.Ren:=⟨fun | 240=>147 | 276=>204 | n=>n,fun | 72=>124 | 70=>122 | 164=>240 | 37=>115 | n=>n,fun n=>n⟩
theorem ccLays:Go.Proofs.Lays.n240 Tryz.prog F15:={
 mixed:=by kernel_rfl
 f240:=Tryz.func147.trans (congrArg some (by kernel_rfl))
 f276:=Tryz.func204.trans (congrArg some (by kernel_rfl))
 t0:=Tryz.underlying0
 a0:=Tryz.isAgg0
 z0:=Tryz.sizeOf0
 v0:=Tryz.zeroValue0
 t4:=Tryz.underlying4
 a4:=Tryz.isAgg4
 z4:=Tryz.sizeOf4
 v4:=Tryz.zeroValue4
 t9:=Tryz.underlying9
 a9:=Tryz.isAgg9
 z9:=Tryz.sizeOf9
 v9:=Tryz.zeroValue9
 t20:=Tryz.underlying20
 a20:=Tryz.isAgg20
 z20:=Tryz.sizeOf20
 v20:=Tryz.zeroValue20
 t70:=Tryz.underlying122
 a70:=Tryz.isAgg122
 z70:=Tryz.sizeOf122
 v70:=Tryz.zeroValue122
 t72:=Tryz.underlying124
 a72:=Tryz.isAgg124
 z72:=Tryz.sizeOf124
 v72:=Tryz.zeroValue124
 t164:=Tryz.underlying240
 a164:=Tryz.isAgg240
 z164:=Tryz.sizeOf240
 v164:=Tryz.zeroValue240 }
theorem ccX:Builder.X72 Tryz.prog F15:={
 sizeBuilder:=by kernel_rfl
 liesBuilder:=by kernel_rfl }
theorem A97 {gf:Fr} {ob:Obs} {a t:TC} (hk:C8 ob 700=some (.tbx 124 [a,t])) (ha:a=.p (.v (.pointer none))∨a=.ref 700 0) :
  AL.Met Tryz.prog 147 [.one (.ref 700 0)] gf ob [] (fun rs ob'=>rs=[]∧ob'=(700,.tbx 124 [.ref 700 0,t])::ob) :=
 AL.Met.copyCheck ⟨_,rfl,rfl,rfl⟩ (fun b w h1 h2 h3=>Any.Builder_copyCheck_fresh (ρ:=F15) ccLays ccX b w h1 h2 h3) (fun b w h=>Any.Builder_copyCheck_used (ρ:=F15) ccLays ccX b w h) hk ha
theorem T0 {gf:Fr} {ob:Obs} {xs s:Str} (hb:isBld ob xs) (hlen:xs.length+s.length≤1073741824) :
  AL.Met Tryz.prog 85 [.one (.ref 700 0),.one (.p (.v (.string ⟨s.toArray⟩)))] gf ob [701] (fun rs ob'=>rs=[.one (.p (.v (.int .i64 s.length))),.one (.p (.v .nilIface))]∧ob'=bldObs ob xs (xs++s)):=by
 obtain ⟨⟨a,ha,hk⟩,hk1⟩:=hb
 refine AL.Met.intro Tryz.func85 (by decide) Z Z Z ?_
 refine k2 ?_
 refine A3 (A2 (A5 Z Z) Z (A2 (A5 Z Z) Z (A6 ?_)))
 refine k1 (k2 ?_)
 refine A3 (A2 (A4 Z Z) Z (t6 (A97 hk ha) Z Z Z ?_));rintro _ _ ⟨rfl,rfl⟩;refine A6 ?_
 refine k1 (k2 ?_)
 refine A3 (A2 (A4 Z Z) Z (A2 (A4 Z Z) Z (A2 (G5 Z) Z (A2 (A7 Z) Z (A2 (B82 Z Z Z) Z (A2 (A4 Z Z) Z (C4 (C19 TyStr.out Z hk1 Z (by first | omega | (simp;omega)) Z) Z (A2 (G5 Z) Z (A2 (A7 Z) Z (F3 (B31 TySz.out Z Z Z Z Z Z) (A6 ?_)))))))))))
 refine k1 (k2 ?_)
 refine A3 (A2 (A4 Z Z) Z (A2 (H7 Z) Z (A2 (A5 Z Z) Z (A2 (A5 Z Z) Z (A6 ?_)))))
 refine k1 (k10 ?_)
 exact X4 (rets2 rfl rfl rfl) (by repeat (first | exact I4 | refine I5 rfl ?_ | refine K6 _ ?_)) (fun _ _ h=>h) ⟨rfl,rfl⟩
theorem y7 {gf:Fr} {ob:Obs} {xs:Str} {c:UInt8} (hb:isBld ob xs) (hlen:xs.length+1≤1073741824) :
  AL.Met Tryz.prog 136 [.one (.ref 700 0),.one (.p (.v (.int .u8 c.toNat)))] gf ob [701] (fun rs ob'=>rs=[.one (.p (.v .nilIface))]∧ob'=bldObs ob xs (xs++[c])):=by
 obtain ⟨⟨a,ha,hk⟩,hk1⟩:=hb
 refine AL.Met.intro Tryz.func136 (by decide) Z Z Z ?_
 refine k2 ?_
 refine A3 (A2 (A5 Z Z) Z (A6 ?_))
 refine k1 (k2 ?_)
 refine A3 (A2 (A4 Z Z) Z (t6 (A97 hk ha) Z Z Z ?_));rintro _ _ ⟨rfl,rfl⟩;refine A6 ?_
 refine k1 (k2 ?_)
 refine A3 (A2 (A4 Z Z) Z (A2 (A4 Z Z) Z (A2 (G5 Z) Z (A2 (A7 Z) Z (A2 (B82 Z Z Z) Z (A2 (A4 Z Z) Z (A2 (E3 (c:=u8C) (ys:=[c]) (E6 Z Z Z Z I9) Z Z Z) Z (C4 (F4 Z hk1 Z (.pure _ _ _ _) (by (simp;omega)) Z) Z (A2 (G5 Z) Z (A2 (A7 Z) Z (F3 (B31 TySz.out Z Z Z Z Z Z) (A6 ?_))))))))))))
 refine k1 (k2 ?_)
 refine A3 (A2 (A5 Z Z) Z (A6 ?_))
 refine k1 (k10 ?_)
 exact X4 (B32 rfl rfl) (by repeat (first | exact I4 | refine I5 rfl ?_ | refine K6 _ ?_)) (fun _ _ h=>h) ⟨rfl,rfl⟩
end Go.Proofs.YtbiadkkamhpdnaaGreatDoor
