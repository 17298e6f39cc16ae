/- Walks of the program's functions. -/
import Derived.Test.YtbiadkkamhpdnaaGreatDoorTy
import Derived.Test.YtbiadkkamhpdnaaGreatDoorFs
import Derived.Test.YtbiadkkamhpdnaaGreatDoorSh
namespace Go.Proofs.YtbiadkkamhpdnaaGreatDoor
open Go Go.AL
set_option maxRecDepth 100000
theorem B81 (p:Int):0≤IntKind.u64.wrap p:=by simp [IntKind.wrap,IntKind.signed,IntKind.bits];omega
theorem F62 (s:Str) (hs:s.length≤1099511627776):FnOk Tryz.prog 128 [L5 s] (fun rs=>rs=[I3 (ended s)]):=by
 refine FnOk.intro Tryz.func128 (by decide) Z Z Z Z ?_
 refine k2 ?_
 refine A3 (A2 (A5 Z Z) Z (A6 ?_))
 refine k1 (k2 ?_)
 have hl:s≠[]→s[((s.length:Int) - 1).toNat]?=some (s.getLastD 0):=by
  intro h
  have h1:0 < s.length:=List.length_pos_iff.2 h
  have h2:((s.length:Int) - 1).toNat=s.length - 1:=by omega
  rw [h2,←List.getLast?_eq_getElem?,List.getLast?_eq_some_getLast h,List.getLastD_eq_getLast?,List.getLast?_eq_some_getLast h]
  rfl
 refine A3 (A2 (A4 Z Z) Z (A2 (A49 Z Z) Z (A2 (A4 Z Z) Z (B1 Z Z Z Z (fun hg=>by rw [hg];exact A4 Z Z) ?_))));refine B1 Z Z Z Z (fun hg=>by rw [hg];exact A4 Z Z) ?_;refine B1 Z Z Z Z (fun hg=>by rw [hg];exact M1 Z) ?_;refine B1 Z Z Z Z (fun hg=>by have hq:=hg;(try simp at hq);rw [hg];exact P9 Z Z (by omega)) ?_;refine B1 Z Z Z Z (fun hg=>by have hq:=hg;(try simp at hq);have h1:=List.length_pos_iff.2 hq;rw [hg];exact c8 Z Z (by omega) (hl hq)) ?_;refine B1 Z Z Z Z (fun hg=>by rw [hg];exact J6 Z Z) ?_;refine A2 (B6 Z (fun h=>by first | rfl | (rw [h];rfl)) (fun h=>by first | rfl | (rw [h];rfl))) Z ?_;refine A2 (A5 Z Z) Z (A6 ?_)
 refine k1 (k10 ?_)
 refine B5 (F1 Z Z Z) ?_
 rw [I25]
theorem C15 (b:Str) (hb:b.length≤536870912):FnOk Tryz.prog 70 [L5 b] (fun rs=>rs=[j1 (C7 b)]):=by
 refine FnOk.intro Tryz.func70 (by decide) Z Z Z Z ?_
 refine k2 ?_
 refine A3 (A2 (A5 Z Z) Z (A6 ?_))
 refine k1 (k2 ?_)
 refine A3 (B9 (Q0 3 _ K6 Z) Z (A6 ?_))
 refine k1 (k2 ?_)
 refine A3 (A2 (A5 Z Z) Z (A6 ?_))
 refine k1 (k2 (k2 ?_))
 refine A3 (A2 (A5 Z Z) Z (A6 ?_))
 refine k1 (k3 ?_)
 refine C9 (X:=Nat × Nat × List Str) (fun x=>([(0,S7 b),(3,.s (.one (.buf 3 Str 1 K6 x.2.2))),(4,B8 x.2.1),(5,B8 x.1)],[(3,.spare x.2.2.length 1 9)]))
  (fun x=>x.1≤b.length∧x.2.1≤x.1∧x.2.2.length≤x.1∧(x.1=b.length→x.2.1=x.1)∧x.2.2++I4 ((b.drop x.2.1).take (x.1 - x.2.1)) (b.drop x.1)=C7 b) (fun x=>b.length - x.1) (0,0,[]) (by simp [C7]) ?_ ?_
 ·exact I45 ⟨⟨_,rfl,.same _⟩,⟨_,rfl,.same _⟩,⟨_,rfl,.same _⟩,⟨_,rfl,.same _⟩,trivial⟩ ⟨rfl,trivial⟩
 ·rintro ⟨i,from',out⟩ ⟨hi,hf,ho,he,hp⟩
  dsimp only at hi hf ho he hp ⊢
  refine k2 (k2 ?_)
  refine A3 (A2 (A4 Z Z) Z (A2 (A4 Z Z) Z (A2 (M1 Z) Z (A2 (D7 Z Z) Z (A6 ?_)))))
  refine k1 ?_
  refine B3 rfl (fun ht=>?_) (fun ht=>?_)
  ·have hlt:i < b.length:=by simpa using ht
   have hv:b[i]?=some b[i]:=by simp [hlt]
   refine k5 (k1 (k2 (k3 (k2 ?_))))
   refine A3 (A2 (A4 Z Z) Z (A2 (A4 Z Z) Z (A2 (c8 Z Z (by omega) hv) Z (A2 (J6 Z Z) Z (A2 (A4 Z Z) Z (B1 Z Z Z Z (fun hg=>by rw [hg];exact A4 Z Z) ?_))))));refine B1 Z Z Z Z (fun hg=>by have hq:=hg;(try simp at hq);rw [hg];exact C0 Z Z (by omega)) ?_;refine B1 Z Z Z Z (fun hg=>by rw [hg];exact A4 Z Z) ?_;refine B1 Z Z Z Z (fun hg=>by rw [hg];exact M1 Z) ?_;refine B1 Z Z Z Z (fun hg=>by rw [hg];exact J6 Z Z) ?_;refine A2 (B6 Z (fun h=>by first | rfl | (rw [h];rfl)) (fun h=>by first | rfl | (rw [h];rfl))) Z ?_;refine A6 ?_
   refine k1 ?_
   refine B3 rfl (fun ht2=>?_) (fun ht2=>?_)
   ·refine k2 ?_
    refine A3 (A2 (A4 Z Z) Z (A2 (A4 Z Z) Z (A2 (A4 Z Z) Z (A2 (A4 Z Z) Z (A2 (C0 Z Z (by omega)) Z (A2 (q9 Z Z Z (by omega) (by omega) (by omega)) Z (A2 (C4 (c:=K6) (ys:=[_]) (D5 Z Z Z Z E7) Z Z Z) Z (B9 (F0 Z Z Z (.pure _ _ _ _) (by simp;omega) Z) Z (A2 (A5 Z Z) Z (A6 ?_))))))))))
    refine k1 ?_
    refine A3 (A2 (A4 Z Z) Z (A2 (C0 Z Z (by omega)) Z (A2 (A5 Z Z) Z (A6 ?_))))
    refine k4 (k1 ?_)
    refine A3 (A2 (A4 Z Z) Z (A2 (C0 Z Z (by omega)) Z (A2 (A5 Z Z) Z (A6 ?_))))
    refine k1 ?_
    refine ⟨(i+1,i+1,_),⟨?_,?_,?_,?_,?_⟩,?_,I45 ⟨⟨_,rfl,.same _⟩,⟨_,rfl,.same _⟩,⟨_,rfl,.same _⟩,⟨_,rfl,.same _⟩,trivial⟩ ⟨rfl,trivial⟩⟩
    all_goals dsimp only
    ·omega
    ·omega
    ·simp;omega
    ·omega
    ·have hc:b[i]=10∨i+1=b.length:=by
      simp only [E62] at ht2
      by_cases h:b[i]=10
      ·exact .inl h
      ·simp [h] at ht2;exact .inr (by omega)
     rw [G68,I85,Nat.sub_self,List.take_zero,←E63 b from' i hf hlt,I88,←hp,I84 hlt,A33]
     rcases hc with h | h
     ·rw [if_pos h];rfl
     ·have hd:b.drop (i+1)=[]:=I87 (by omega)
      rw [hd]
      split
      ·rfl
      ·rw [show I4 ([]:Str) []=[] from rfl,F18 _ (by simp)];simp
    ·omega
   ·refine k5 (k4 (k1 ?_))
    refine A3 (A2 (A4 Z Z) Z (A2 (C0 Z Z (by omega)) Z (A2 (A5 Z Z) Z (A6 ?_))))
    refine k1 ?_
    refine ⟨(i+1,from',out),⟨?_,?_,?_,?_,?_⟩,?_,I45 ⟨⟨_,rfl,.same _⟩,⟨_,rfl,.same _⟩,⟨_,rfl,.same _⟩,⟨_,rfl,.same _⟩,trivial⟩ ⟨rfl,trivial⟩⟩
    all_goals dsimp only
    ·omega
    ·omega
    ·omega
    ·intro h
     simp [show (i:Int)+1=(b.length:Int) by omega] at ht2
    ·have hc:b[i]≠10:=fun h=>by simp [h] at ht2
     rw [←E63 b from' i hf hlt,←hp,I84 hlt,A33,if_neg hc]
    ·omega
  ·refine k6 (k2 ?_)
   refine A3 (A2 (A4 Z Z) Z (A2 (A5 Z Z) Z (A6 ?_)))
   refine k1 (k10 ?_)
   refine B5 (F1 Z Z Z) ?_
   have hi':i=b.length:=by simp at ht;omega
   subst hi'
   have:=he rfl
   subst this
   rw [Nat.sub_self,List.take_zero,I87 (Nat.le_refl _)] at hp
   rw [←hp];simp [I4]
theorem F63 (b:Str) (hb:b.length≤1099511627776):FnOk Tryz.prog 99 [L5 b] (fun rs=>rs=[G1 (Y1 b)]):=by
 refine FnOk.intro Tryz.func99 (by decide) Z Z Z Z ?_
 refine k2 ?_
 refine A3 (A2 (A5 Z Z) Z (A6 ?_))
 refine k1 (k2 (k2 ?_))
 refine A3 (A2 (A4 Z Z) Z (A2 (M1 Z) Z (A2 (M4 Z Z) Z (A2 (A4 Z Z) Z (B1 Z Z Z Z (fun hg=>by rw [hg];exact A4 Z Z) ?_)))));refine B1 Z Z Z Z (fun hg=>by have hq:=hg;(try simp at hq);rw [hg];exact H6 (C15 b (by omega)) Z Z) ?_;refine B1 Z Z Z Z (fun hg=>by rw [hg];exact D4 Z (.pure _ _ _ _)) ?_;refine B1 Z Z Z Z (fun hg=>by rw [hg];exact M4 Z Z) ?_;refine A2 (B6 Z (fun h=>by first | rfl | (rw [h];rfl)) (fun h=>by first | rfl | (rw [h];rfl))) Z ?_;refine A6 ?_
 refine k1 ?_
 refine B3 rfl (fun ht=>?_) (fun ht=>?_)
 ·have h:=A0 (or_pick.symm.trans ht)
  refine k2 ?_
  refine A3 (A2 (A5 Z Z) Z (A6 ?_))
  refine k1 (k10 (k11 ?_))
  exact B5 (F1 rfl rfl rfl) (by rw [Y1,if_pos (by omega)])
 ·have h:=A1 (or_pick.symm.trans ht)
  refine k5 (k1 (k2 ?_))
  refine A3 (A2 (A5 Z Z) Z (A6 ?_))
  refine k1 (k10 ?_)
  exact B5 (F1 rfl rfl rfl) (by rw [Y1,if_neg (by omega)])
theorem list_ok (l:List Str) (hl:∀s∈l,s.length≤1099511627776):FnOk Tryz.prog 72 [j1 l] (fun rs=>rs=[I3 (Y7 l)]):=by
 refine FnOk.intro Tryz.func72 (by decide) Z Z Z Z ?_
 refine A07 (t:=0) rfl (.pure _ _ _ _) fun hlen=>?_
 refine k2 ?_
 refine A3 (A2 (A5 Z Z) Z (A6 ?_))
 refine k1 (k2 (k2 ?_))
 refine A3 (A2 (A5 Z Z) Z (A6 ?_))
 refine k1 (k3 ?_)
 refine C9 (X:=Nat) (fun i=>([(0,C1 Str 1 K6 l),(3,B8 i)],[])) (fun i=>i≤l.length∧Y7 l=Y7 (l.drop i)) (fun i=>l.length - i) 0 (by simp) (I45 ⟨le1 rfl,le1 rfl,trivial⟩ trivial) ?_
 rintro i ⟨hi,hp⟩
 dsimp only at hi hp ⊢
 refine k2 (k2 ?_)
 refine A3 (A2 (A4 Z Z) Z (A2 (A4 Z Z) Z (A2 (D4 Z (.pure _ _ _ _)) Z (A2 (D7 Z Z) Z (A6 ?_)))))
 refine k1 ?_
 refine B3 rfl (fun ht=>?_) (fun ht=>?_)
 ·have hlt:i < l.length:=by simpa using ht
  have hv:l[i]?=some l[i]:=by simp [hlt]
  have hs:=hl l[i] (I90 hlt)
  rw [I84 hlt] at hp
  refine k5 (k1 (k2 (k3 (k2 (k2 ?_)))))
  refine A3 (A2 (A5 Z Z) Z (A6 ?_))
  refine k1 (k3 ?_)
  refine C9 (X:=Nat) (fun k=>([(0,C1 Str 1 K6 l),(3,B8 i),(4,B8 k)],[])) (fun k=>k≤l[i].length∧K0 l[i]=((l[i].dropLast.drop k).all (·≠10)&&l[i] != [])) (fun k=>l[i].length - k) 0 (by simp [K0]) (I45 ⟨le1 rfl,le1 rfl,le1 rfl,trivial⟩ trivial) ?_
  intro k hk
  dsimp only at hk ⊢
  refine k2 (k2 ?_)
  refine A3 (A2 (A4 Z Z) Z (A2 (C0 Z Z (by omega)) Z (A2 (A4 Z Z) Z (A2 (A4 Z Z) Z (A2 (B0 Z (.pure _ _ _ _) Z (by omega) hv) Z (A2 (B2 Z Z) Z (A2 (M1 Z) Z (A2 (D7 Z Z) Z (A6 ?_)))))))))
  refine k1 ?_
  refine B3 rfl (fun ht=>?_) (fun ht=>?_)
  ·have hk2:k+1 < l[i].length:=by have:=A0 ht;omega
   have hvk:l[i][k]?=some (l[i][k]'(by omega)):=I80 (by omega)
   have hd:l[i].dropLast.drop k=l[i][k]'(by omega)::l[i].dropLast.drop (k+1):=by
    rw [I84 (by simp;omega)];simp
   rw [hd,List.all_cons] at hk
   refine k5 (k1 (k2 (k3 (k2 ?_))))
   refine A3 (A2 (A4 Z Z) Z (A2 (A4 Z Z) Z (A2 (B0 Z (.pure _ _ _ _) Z (by omega) hv) Z (A2 (B2 Z Z) Z (A2 (A4 Z Z) Z (A2 (c8 Z Z (by omega) hvk) Z (A2 (J6 Z Z) Z (A6 ?_))))))))
   refine k1 ?_
   refine B3 rfl (fun ht=>?_) (fun ht=>?_)
   ·have h10:=(E62 _).1 (A0 ht)
    refine k2 ?_
    refine A3 (A2 (A5 Z Z) Z (A6 ?_))
    refine k1 (k10 (k12 (k11 (k11 (k12 (k11 (k12 (k11 (k11 (k12 (k11 ?_)))))))))))
    exact B5 (F1 rfl rfl rfl) (by rw [hp,Y7,hk.2];simp [h10])
   ·have h10:l[i][k]'(by omega)≠10:=fun h=>A1 ht ((E62 _).2 h)
    refine k5 (k4 (k1 ?_))
    refine A3 (A2 (A4 Z Z) Z (A2 (C0 Z Z (by omega)) Z (A2 (A5 Z Z) Z (A6 ?_))))
    refine k1 ?_
    exact ⟨k+1,⟨by omega,by rw [hk.2];simp [h10]⟩,by omega,I45 ⟨le1 rfl,le1 rfl,le1 rfl,trivial⟩ trivial⟩
  ·have hk2:l[i].length≤k+1:=by have:=A1 ht;omega
   have hlo:K0 l[i]=(l[i] != []):=by rw [hk.2,I87 (by simp;omega)];rfl
   refine k6 (k2 ?_)
   refine A3 (A2 (A4 Z Z) Z (A2 (A4 Z Z) Z (A2 (B0 Z (.pure _ _ _ _) Z (by omega) hv) Z (A2 (B2 Z Z) Z (A2 (B98 Z Z) Z (A2 (A4 Z Z) Z (B1 Z Z Z Z (fun hg=>by rw [hg];exact A4 Z Z) ?_)))))));refine B1 Z Z Z Z (fun hg=>by have hq:=hg;(try simp at hq);rw [hg];exact C0 Z Z (by omega)) ?_;refine B1 Z Z Z Z (fun hg=>by rw [hg];exact A4 Z Z) ?_;refine B1 Z Z Z Z (fun hg=>by rw [hg];exact D4 Z (.pure _ _ _ _)) ?_;refine B1 Z Z Z Z (fun hg=>by rw [hg];exact D7 Z Z) ?_;refine B1 Z Z Z Z (fun hg=>by rw [hg];exact A4 Z Z) ?_;refine G8 Z Z Z (.gd (.val _)) Z (fun hg=>by obtain ⟨hg1,hg2⟩:=M2 hg;(try rw [hg1]);(try rw [hg2]);exact A4 Z Z) ?_;refine G8 Z Z Z (.gd (.val _)) Z (fun hg=>by obtain ⟨hg1,hg2⟩:=M2 hg;(try rw [hg1]);(try rw [hg2]);exact A4 Z Z) ?_;refine G8 Z Z Z (.gd (.val _)) Z (fun hg=>by have hq:=hg;(try simp at hq);obtain ⟨hg1,hg2⟩:=M2 hg;(try rw [hg1]);(try rw [hg2]);exact B0 Z (.pure _ _ _ _) Z (by omega) hv) ?_;refine G8 Z Z Z (.gd (.val _)) Z (fun hg=>by obtain ⟨hg1,hg2⟩:=M2 hg;(try rw [hg1]);(try rw [hg2]);exact B2 Z Z) ?_;refine G8 Z Z Z (.gd (.val _)) Z (fun hg=>by have hq:=hg;(try simp at hq);obtain ⟨hg1,hg2⟩:=M2 hg;(try rw [hg1]);(try rw [hg2]);exact H6 (F62 l[i] hs) Z Z) ?_;refine G8 Z Z Z (.gd (.val _)) Z (fun hg=>by obtain ⟨hg1,hg2⟩:=M2 hg;(try rw [hg1]);(try rw [hg2]);exact J2 Z) ?_;refine B1 Z Z Z Z (fun hg=>by rw [hg];exact B6 Z (fun h=>by first | rfl | (rw [h];rfl)) (fun h=>by first | rfl | (rw [h];rfl))) ?_;refine A2 (B6 Z (fun h=>by first | rfl | (rw [h];rfl)) (fun h=>by first | rfl | (rw [h];rfl))) Z ?_;refine A6 ?_
   refine k1 ?_
   have he:(l.drop (i+1)).isEmpty=decide (l.length≤i+1):=by
    rw [Bool.eq_iff_iff];simp
   rw [Y7,hlo,he] at hp
   refine B3 rfl (fun ht=>?_) (fun ht=>?_)
   ·refine k2 ?_
    refine A3 (A2 (A5 Z Z) Z (A6 ?_))
    refine k1 (k10 (k12 (k11 (k11 (k12 (k11 ?_))))))
    refine B5 (F1 Z Z Z) ?_
    have:Y7 l=false:=by
     rw [hp]
     by_cases h:l[i]=[]
     ·simp [h]
     ·rw [if_neg (by simpa using h)] at ht
      by_cases h2:(i:Int)+1 < l.length
      ·rw [if_pos (by simpa using h2)] at ht
       have h3:¬(l.length≤i+1):=by omega
       simp only [Bool.not_eq_true'] at ht
       simp [ht,h3]
      ·rw [if_neg (by simpa using h2)] at ht;cases ht
    rw [this]
   ·refine k5 (k4 (k1 ?_))
    refine A3 (A2 (A4 Z Z) Z (A2 (C0 Z Z (by omega)) Z (A2 (A5 Z Z) Z (A6 ?_))))
    refine k1 ?_
    refine ⟨i+1,⟨by omega,?_⟩,by omega,I45 ⟨le1 rfl,le1 rfl,trivial⟩ trivial⟩
    rw [hp]
    by_cases h:l[i]=[]
    ·rw [if_pos (by simpa using h)] at ht;cases ht
    ·rw [if_neg (by simpa using h)] at ht
     by_cases h2:(i:Int)+1 < l.length
     ·rw [if_pos (by simpa using h2)] at ht
      simp only [Bool.not_eq_false'] at ht
      simp [ht,h]
     ·have h3:l.length≤i+1:=by omega
      simp [h,h3]
 ·have:i=l.length:=by have:=A1 ht;omega
  subst this
  refine k6 (k2 ?_)
  refine A3 (A2 (A5 Z Z) Z (A6 ?_))
  refine k1 (k10 ?_)
  exact B5 (F1 rfl rfl rfl) (by rw [hp];simp [Y7])
theorem all_ok (l:List Str) (hl:l.flatten.length≤536870912):FnOk Tryz.prog 129 [j1 l] (fun rs=>rs=[L5 l.flatten]):=by
 refine FnOk.intro Tryz.func129 (by decide) Z Z Z Z ?_
 refine A07 (t:=0) rfl (.pure _ _ _ _) fun hlen=>?_
 refine k2 ?_
 refine A3 (A2 (A5 Z Z) Z (A6 ?_))
 refine k1 (k2 ?_)
 refine A3 (B9 (Q0 3 _ u8C Z) Z (A6 ?_))
 refine k1 (k2 (k2 ?_))
 refine A3 (A2 (A5 Z Z) Z (A6 ?_))
 refine k1 (k3 ?_)
 refine C9 (X:=Nat) (fun i=>([(0,C1 Str 1 K6 l),(3,.s (.one (.buf 3 UInt8 1 u8C (l.take i).flatten))),(4,B8 i)],[(3,.spare (l.take i).flatten.length 1 5)])) (fun i=>i≤l.length) (fun i=>l.length - i) 0 (by simp) (I45 ⟨le1 rfl,le1 rfl,le1 rfl,trivial⟩ ⟨rfl,trivial⟩) ?_
 intro i hi
 dsimp only at hi ⊢
 refine k2 (k2 ?_)
 refine A3 (A2 (A4 Z Z) Z (A2 (A4 Z Z) Z (A2 (D4 Z (.pure _ _ _ _)) Z (A2 (D7 Z Z) Z (A6 ?_)))))
 refine k1 ?_
 refine B3 rfl (fun ht=>?_) (fun ht=>?_)
 ·have hlt:i < l.length:=by simpa using ht
  have hv:l[i]?=some l[i]:=by simp [hlt]
  have hf:=T3 l i hlt
  have hle:=V5 l (i+1)
  rw [hf,I78] at hle
  refine k5 (k1 (k2 (k3 ?_)))
  refine A3 (A2 (A4 Z Z) Z (A2 (A4 Z Z) Z (A2 (A4 Z Z) Z (A2 (B0 Z (.pure _ _ _ _) Z (by omega) hv) Z (A2 (B2 Z Z) Z (B9 (A50 TyStr.out Z Z Z (by omega) Z) Z (A2 (A5 Z Z) Z (A6 ?_))))))))
  refine k4 (k1 ?_)
  refine A3 (A2 (A4 Z Z) Z (A2 (C0 Z Z (by omega)) Z (A2 (A5 Z Z) Z (A6 ?_))))
  refine k1 ?_
  refine ⟨i+1,by omega,by omega,?_⟩
  dsimp only
  rw [hf]
  exact I45 ⟨le1 rfl,le1 rfl,le1 rfl,trivial⟩ ⟨rfl,trivial⟩
 ·have:i=l.length:=by simp at ht;omega
  subst this
  refine k6 (k2 ?_)
  refine A3 (A2 (A4 Z Z) Z (A2 (X0 TyStr.out Z (.buf _ _ _ _ _)) Z (A2 (A5 Z Z) Z (A6 ?_))))
  refine k1 (k10 ?_)
  exact B5 (F1 rfl rfl rfl) (by simp)
theorem line_ok (s:Str) (hs:s.length≤1099511627776):FnOk Tryz.prog 142 [L5 s] (fun rs=>rs=[I3 (K0 s)]):=by
 refine FnOk.intro Tryz.func142 (by decide) Z Z Z Z ?_
 refine k2 ?_
 refine A3 (A2 (A5 Z Z) Z (A6 ?_))
 refine k1 (k2 (k2 ?_))
 refine A3 (A2 (A5 Z Z) Z (A6 ?_))
 refine k1 (k3 ?_)
 refine C9 (X:=Nat) (fun k=>([(0,S7 s),(3,B8 k)],[])) (fun k=>k≤s.length∧K0 s=((s.dropLast.drop k).all (·≠10)&&s != [])) (fun k=>s.length - k) 0 (by simp [K0]) (I45 ⟨le1 rfl,le1 rfl,trivial⟩ trivial) ?_
 intro k hk
 dsimp only at hk ⊢
 refine k2 (k2 ?_)
 refine A3 (A2 (A4 Z Z) Z (A2 (C0 Z Z (by omega)) Z (A2 (A4 Z Z) Z (A2 (M1 Z) Z (A2 (D7 Z Z) Z (A6 ?_))))))
 refine k1 ?_
 refine B3 rfl (fun ht=>?_) (fun ht=>?_)
 ·have hk2:k+1 < s.length:=by have:=A0 ht;omega
  have hvk:s[k]?=some (s[k]'(by omega)):=I80 (by omega)
  have hd:s.dropLast.drop k=s[k]'(by omega)::s.dropLast.drop (k+1):=by
   rw [I84 (by simp;omega)];simp
  rw [hd,List.all_cons] at hk
  refine k5 (k1 (k2 (k3 (k2 ?_))))
  refine A3 (A2 (A4 Z Z) Z (A2 (A4 Z Z) Z (A2 (c8 Z Z (by omega) hvk) Z (A2 (J6 Z Z) Z (A6 ?_)))))
  refine k1 ?_
  refine B3 rfl (fun ht=>?_) (fun ht=>?_)
  ·have h10:=(E62 _).1 (A0 ht)
   refine k2 ?_
   refine A3 (A2 (A5 Z Z) Z (A6 ?_))
   refine k1 (k10 (k12 (k11 (k11 (k12 (k11 ?_))))))
   exact B5 (F1 rfl rfl rfl) (by rw [hk.2];simp [h10])
  ·have h10:s[k]'(by omega)≠10:=fun h=>A1 ht ((E62 _).2 h)
   refine k5 (k4 (k1 ?_))
   refine A3 (A2 (A4 Z Z) Z (A2 (C0 Z Z (by omega)) Z (A2 (A5 Z Z) Z (A6 ?_))))
   refine k1 ?_
   exact ⟨k+1,⟨by omega,by rw [hk.2];simp [h10]⟩,by omega,I45 ⟨le1 rfl,le1 rfl,trivial⟩ trivial⟩
 ·have hk2:s.length≤k+1:=by have:=A1 ht;omega
  have hlo:K0 s=(s != []):=by rw [hk.2,I87 (by simp;omega)];rfl
  refine k6 (k2 ?_)
  refine A3 (A2 (A4 Z Z) Z (A2 (A49 Z Z) Z (A2 (A5 Z Z) Z (A6 ?_))))
  refine k1 (k10 ?_)
  exact B5 (F1 rfl rfl rfl) (by rw [hlo];by_cases h:s=[]<;>simp [h])
theorem F64 (l:List Str) (s:Str):FnOk Tryz.prog 167 [j1 l,L5 s] (fun rs=>rs=[G1 (I1 l s 0)]):=by
 refine FnOk.intro Tryz.func167 (by decide) Z Z Z Z ?_
 refine A07 (t:=0) rfl (.pure _ _ _ _) fun hlen=>?_
 refine k2 ?_
 refine A3 (A2 (A5 Z Z) Z (A6 ?_))
 refine k1 (k2 (k2 ?_))
 refine A3 (A2 (A5 Z Z) Z (A6 ?_))
 refine k1 (k3 ?_)
 refine C9 (X:=Nat) (fun i=>([(0,C1 Str 1 K6 l),(1,S7 s),(5,B8 i)],[])) (fun i=>i≤l.length∧I1 l s 0=I1 (l.drop i) s i) (fun i=>l.length - i) 0 (by simp) (I45 ⟨le1 rfl,le1 rfl,le1 rfl,trivial⟩ trivial) ?_
 rintro i ⟨hi,hp⟩
 dsimp only at hi hp ⊢
 refine k2 (k2 ?_)
 refine A3 (A2 (A4 Z Z) Z (A2 (A4 Z Z) Z (A2 (D4 Z (.pure _ _ _ _)) Z (A2 (D7 Z Z) Z (A6 ?_)))))
 refine k1 ?_
 refine B3 rfl (fun ht=>?_) (fun ht=>?_)
 ·have hlt:i < l.length:=by simpa using ht
  have hv:l[i]?=some l[i]:=by simp [hlt]
  rw [F19 l s i hlt] at hp
  refine k5 (k1 (k2 (k3 (k2 ?_))))
  refine A3 (A2 (A4 Z Z) Z (A2 (A4 Z Z) Z (A2 (B0 Z (.pure _ _ _ _) Z (by omega) hv) Z (A2 (B2 Z Z) Z (A2 (A4 Z Z) Z (A2 (B98 Z Z) Z (A6 ?_)))))))
  refine k1 ?_
  refine B3 rfl (fun ht=>?_) (fun ht=>?_)
  ·rw [if_pos (by simpa using ht)] at hp
   refine k2 ?_
   refine A3 (A2 (A4 Z Z) Z (A2 (A5 Z Z) Z (A6 ?_)))
   refine k1 (k10 (k12 (k11 (k11 (k12 (k11 ?_))))))
   exact B5 (F1 rfl rfl rfl) (by rw [hp])
  ·rw [if_neg (by simpa using ht)] at hp
   refine k5 (k4 (k1 ?_))
   refine A3 (A2 (A4 Z Z) Z (A2 (C0 Z Z (by omega)) Z (A2 (A5 Z Z) Z (A6 ?_))))
   refine k1 ?_
   exact ⟨i+1,⟨by omega,by simpa using hp⟩,by omega,I45 ⟨le1 rfl,le1 rfl,le1 rfl,trivial⟩ trivial⟩
 ·have:i=l.length:=by simp at ht;omega
  subst this
  refine k6 (k2 ?_)
  refine A3 (A2 (A5 Z Z) Z (A6 ?_))
  refine k1 (k10 ?_)
  exact B5 (F1 rfl rfl rfl) (by rw [hp];simp [I1])
theorem F65 (fs:List (List Str)) (hfs:fs.flatten.length≤536870912):FnOk Tryz.prog 100 [pStrss fs] (fun rs=>rs=[j1 (E2 fs)]):=by
 refine FnOk.intro Tryz.func100 (by decide) Z Z Z Z ?_
 refine A07 (t:=0) rfl (.pure _ _ _ _) fun hlen=>?_
 refine k2 ?_
 refine A3 (A2 (A5 Z Z) Z (A6 ?_))
 refine k1 (k2 ?_)
 refine A3 (B9 (Q0 3 _ K6 Z) Z (A6 ?_))
 refine k1 (k2 (k2 ?_))
 refine A3 (A2 (A5 Z Z) Z (A6 ?_))
 refine k1 (k3 ?_)
 refine C9 (X:=Nat) (fun f=>([(0,C1 (List Str) 1 strsC fs),(3,.s (.one (.buf 3 Str 1 K6 (E2 (fs.take f))))),(4,B8 f)],[(3,.spare (E2 (fs.take f)).length 1 9)])) (fun f=>f≤fs.length) (fun f=>fs.length - f) 0 (by simp) (I45 ⟨le1 rfl,le1 rfl,le1 rfl,trivial⟩ ⟨rfl,trivial⟩) ?_
 intro f hf
 dsimp only at hf ⊢
 refine k2 (k2 ?_)
 refine A3 (A2 (A4 Z Z) Z (A2 (A4 Z Z) Z (A2 (D4 Z (.pure _ _ _ _)) Z (A2 (D7 Z Z) Z (A6 ?_)))))
 refine k1 ?_
 refine B3 rfl (fun ht=>?_) (fun ht=>?_)
 ·have hlt:f < fs.length:=by have:=A0 ht;omega
  have hv:fs[f]?=some fs[f]:=by simp [hlt]
  have hfl:=T3 fs f hlt
  have hle:=V5 fs (f+1)
  rw [hfl,I78] at hle
  have hn0:=B26 (fs.take f)
  refine k5 (k1 (k2 (k3 (k2 ?_))))
  refine A3 (A2 (A5 Z Z) Z (A6 ?_))
  refine k1 (k3 ?_)
  refine C9 (X:=Nat) (fun i=>([(0,C1 (List Str) 1 strsC fs),(3,.s (.one (.buf 3 Str 1 K6 ((fs[f].take i).foldl H4 (E2 (fs.take f)))))),(4,B8 f),(5,B8 i)],[(3,.spare ((fs[f].take i).foldl H4 (E2 (fs.take f))).length 1 9)])) (fun i=>i≤fs[f].length) (fun i=>fs[f].length - i) 0 (by simp) (I45 ⟨le1 rfl,le1 rfl,le1 rfl,le1 rfl,trivial⟩ ⟨rfl,trivial⟩) ?_
  intro i hi
  dsimp only at hi ⊢
  have hni:=y8 (fs[f].take i) (E2 (fs.take f))
  rw [I93] at hni
  refine k2 (k2 ?_)
  refine A3 (A2 (A4 Z Z) Z (A2 (A4 Z Z) Z (A2 (A4 Z Z) Z (A2 (B0 Z (.pure _ _ _ _) Z (by omega) hv) Z (A2 (B2 Z Z) Z (A2 (D4 Z (.pure _ _ _ _)) Z (A2 (D7 Z Z) Z (A6 ?_))))))))
  refine k1 ?_
  refine B3 rfl (fun ht=>?_) (fun ht=>?_)
  ·have hlt2:i < fs[f].length:=by have:=A0 ht;omega
   have hvi:fs[f][i]?=some fs[f][i]:=by simp [hlt2]
   have hst:(fs[f].take (i+1)).foldl H4 (E2 (fs.take f))=H4 ((fs[f].take i).foldl H4 (E2 (fs.take f))) fs[f][i]:=by
    rw [List.take_add_one,hvi,Option.toList_some,J07];rfl
   refine k5 (k1 (k2 (k3 (k2 ?_))))
   refine A3 (A2 (A4 Z Z) Z (A2 (A4 Z Z) Z (A2 (A4 Z Z) Z (A2 (B0 Z (.pure _ _ _ _) Z (by omega) hv) Z (A2 (B2 Z Z) Z (A2 (A4 Z Z) Z (A2 (B0 Z (.pure _ _ _ _) Z (by omega) hvi) Z (A2 (B2 Z Z) Z (C2 (F64 _ _) Z Z Z ?_)))))))));rintro _ rfl;refine A2 (D7 Z Z) Z (A6 ?_)
   refine k1 ?_
   have hpl:=F96 ((fs[f].take i).foldl H4 (E2 (fs.take f))) fs[f][i] 0 (Int.le_refl _)
   refine B3 rfl (fun ht=>?_) (fun ht=>?_)
   ·have hnot:=hpl.1 (A0 ht)
    skip
    refine A3 (A2 (A4 Z Z) Z (A2 (A4 Z Z) Z (A2 (A4 Z Z) Z (A2 (B0 Z (.pure _ _ _ _) Z (by omega) hv) Z (A2 (B2 Z Z) Z (A2 (A4 Z Z) Z (A2 (B0 Z (.pure _ _ _ _) Z (by omega) hvi) Z (A2 (B2 Z Z) Z (A2 (C4 (c:=K6) (ys:=[_]) (D5 Z Z Z Z E7) Z Z Z) Z (B9 (F0 Z Z Z (.pure _ _ _ _) (by simp;omega) Z) Z (A2 (A5 Z Z) Z (A6 ?_))))))))))))
    refine k4 (k1 ?_)
    refine A3 (A2 (A4 Z Z) Z (A2 (C0 Z Z (by omega)) Z (A2 (A5 Z Z) Z (A6 ?_))))
    refine k1 ?_
    refine ⟨i+1,by omega,by omega,?_⟩
    rw [hst,H4,if_neg hnot]
    exact I45 ⟨le1 rfl,le1 rfl,le1 rfl,le1 rfl,trivial⟩ ⟨rfl,trivial⟩
   ·have hin:fs[f][i]∈(fs[f].take i).foldl H4 (E2 (fs.take f)):=Classical.byContradiction fun h=>A1 ht (hpl.2 h)
    refine k5 (k4 (k1 ?_))
    refine A3 (A2 (A4 Z Z) Z (A2 (C0 Z Z (by omega)) Z (A2 (A5 Z Z) Z (A6 ?_))))
    refine k1 ?_
    refine ⟨i+1,by omega,by omega,?_⟩
    rw [hst,H4,if_pos hin]
    exact I45 ⟨le1 rfl,le1 rfl,le1 rfl,le1 rfl,trivial⟩ ⟨rfl,trivial⟩
  ·have hi':i=fs[f].length:=by have:=A1 ht;omega
   subst hi'
   refine k6 (k7 (k7 (k8 Z (k4 (k1 ?_)))))
   have:E2 (fs.take (f+1))=(fs[f].take fs[f].length).foldl H4 (E2 (fs.take f)):=by
    rw [E2,hfl,J07,I94];rfl
   refine A3 (A2 (A4 Z Z) Z (A2 (C0 Z Z (by omega)) Z (A2 (A5 Z Z) Z (A6 ?_))))
   refine k1 ?_
   refine ⟨f+1,by omega,by omega,?_⟩
   rw [this]
   exact I45 ⟨le1 rfl,le1 rfl,le1 rfl,trivial⟩ ⟨rfl,trivial⟩
 ·have:f=fs.length:=by have:=A1 ht;omega
  subst this
  refine k6 (k2 ?_)
  refine A3 (A2 (A4 Z Z) Z (A2 (A5 Z Z) Z (A6 ?_)))
  refine k1 (k10 ?_)
  exact B5 (F1 rfl rfl rfl) (by simp)
theorem made_ok (p:List Span) (m n:Int) (hp:p.length≤536870912) (hb:∀s∈p,-1099511627776≤s.From∧s.From≤1099511627776 ∧ -1099511627776≤s.To∧s.To≤1099511627776)
  (hm:-1099511627776≤m∧m≤1099511627776 ∧ -1099511627776≤n∧n≤1099511627776) :
  FnOk Tryz.prog 169 [pSpans p,G1 m,G1 n] (fun rs=>rs=[pChanges (Y8 p m n)]):=by
 refine FnOk.intro Tryz.func169 (by decide) Z Z Z Z ?_
 refine k2 ?_
 refine A3 (A2 (A5 Z Z) Z (A6 ?_))
 refine k1 (k2 ?_)
 refine A3 (B9 (Q0 7 _ changeC Z) Z (A6 ?_))
 refine k1 (k2 ?_)
 refine A3 (A2 (A5 Z Z) Z (A2 (A5 Z Z) Z (A6 ?_)))
 refine k1 (k2 (k2 ?_))
 refine A3 (A2 (A5 Z Z) Z (A6 ?_))
 refine k1 (k3 ?_)
 refine C9 (X:=Nat × Int × Int × List Change) (fun x=>([(0,C1 Span 2 spanC p),(1,B8 m),(2,B8 n),(7,.s (.one (.buf 7 Change 4 changeC x.2.2.2))),(8,B8 x.2.1),(9,B8 x.2.2.1),(10,B8 x.1)],[(7,.spare x.2.2.2.length 4 146)]))
  (fun x=>x.1≤p.length+1∧x.2.2.2.length≤x.1∧(-1099511627776≤x.2.1∧x.2.1≤1099511627777 ∧ -1099511627776≤x.2.2.1∧x.2.2.1≤1099511627777)∧(x.1≤p.length→x.2.2.2++O5 x.2.1 x.2.2.1 (p.drop x.1) m n=Y8 p m n)∧(x.1=p.length+1→x.2.2.2=Y8 p m n))
  (fun x=>p.length+1 - x.1) (0,0,0,[]) (by simp [Y8]) (I45 ⟨le1 rfl,le1 rfl,le1 rfl,le1 rfl,le1 rfl,le1 rfl,le1 rfl,trivial⟩ ⟨rfl,trivial⟩) ?_
 rintro ⟨k,i,j,out⟩ ⟨hk,ho,hij,h1,h2⟩
 dsimp only at hk ho hij h1 h2 ⊢
 refine k2 (k2 ?_)
 refine A3 (A2 (A4 Z Z) Z (A2 (A4 Z Z) Z (A2 (D4 Z (.pure _ _ _ _)) Z (A2 (i6 Z Z) Z (A6 ?_)))))
 refine k1 ?_
 refine B3 rfl (fun ht=>?_) (fun ht=>?_)
 ·have hk':k≤p.length:=by have:=A0 ht;omega
  have hpp:=h1 hk'
  refine k5 (k1 (k2 (k3 (k2 ?_))))
  refine A3 (A2 (A4 Z Z) Z (A2 (A4 Z Z) Z (A2 (F3 Z) Z (B9 (F5 11 Z) Z (E6 (B7 TySz.out Z Z Z Z Z Z) (A6 ?_))))))
  refine J7 ?_
  obtain ⟨x,hx⟩:∃x,x=p.getD k ⟨m,n⟩:=⟨_,rfl⟩
  have hxb:-1099511627776≤x.From∧x.From≤1099511627776 ∧ -1099511627776≤x.To∧x.To≤1099511627776:=by
   rw [hx,I82]
   by_cases h:k < p.length
   ·rw [I80 h];exact hb _ (I90 h)
   ·rw [J08 (by omega)];exact hm
  have hmade:O5 i j (p.drop k) m n=(if x.From > i∨x.To > j then [⟨i,x.From - i,j,x.To - j⟩] else [])++(if k < p.length then O5 (x.From+1) (x.To+1) (p.drop (k+1)) m n else []):=by
   by_cases h:k < p.length
   ·rw [I84 h,if_pos h,hx,I82,I80 h];rfl
   ·rw [I87 (by omega),if_neg h,hx,I82,J08 (by omega)];simp [O5]
  refine n4 [(0,C1 Span 2 spanC p),(1,B8 m),(2,B8 n),(7,.s (.one (.buf 7 Change 4 changeC out))),(8,B8 i),(9,B8 j),(10,B8 k),(11,.s (.one (.ref 11 0)))] [(11,.box [.p (.v (.int .i64 x.From)),.p (.v (.int .i64 x.To))]),(7,.spare out.length 4 146)] ?_ ?_
  ·refine k2 ?_
   refine A3 (A2 (A4 Z Z) Z (A2 (A4 Z Z) Z (A2 (D4 Z (.pure _ _ _ _)) Z (A2 (D7 Z Z) Z (A6 ?_)))))
   refine k1 ?_
   refine B3 rfl (fun ht=>?_) (fun ht=>?_)
   ·have hlt:k < p.length:=by have:=A0 ht;omega
    have hv:p[k]?=some p[k]:=by simp [hlt]
    have:x=p[k]:=by rw [hx,I82,hv];rfl
    subst this
    skip
    refine A3 (A2 (A4 Z Z) Z (A2 (A4 Z Z) Z (A2 (B0 Z (.pure _ _ _ _) Z (by omega) hv) Z (A2 (E1 Z Z) Z (E6 (B7 TySz.out Z Z Z Z Z Z) (A6 ?_))))))
    refine k1 ?_
    exact I45 ⟨le1 rfl,le1 rfl,le1 rfl,le1 rfl,le1 rfl,le1 rfl,le1 rfl,le1 rfl,trivial⟩ ⟨rfl,rfl,trivial⟩
   ·have hlt:¬k < p.length:=by have:=A1 ht;omega
    have:x=⟨m,n⟩:=by rw [hx,I82,J08 (by omega)];rfl
    subst this
    refine k5 (k1 ?_)
    exact I45 ⟨le1 rfl,le1 rfl,le1 rfl,le1 rfl,le1 rfl,le1 rfl,le1 rfl,le1 rfl,trivial⟩ ⟨rfl,rfl,trivial⟩
  ·obtain ⟨out',hout'⟩:∃o,o=out++(if x.From > i∨x.To > j then [⟨i,x.From - i,j,x.To - j⟩] else []):=⟨_,rfl⟩
   have hol:out'.length≤k+1:=by rw [hout',I78];split<;>simp<;>omega
   refine n4 [(0,C1 Span 2 spanC p),(1,B8 m),(2,B8 n),(7,.s (.one (.buf 7 Change 4 changeC out'))),(10,B8 k),(11,.s (.one (.ref 11 0)))] [(11,.box [.p (.v (.int .i64 x.From)),.p (.v (.int .i64 x.To))]),(7,.spare out'.length 4 146)] ?_ ?_
   ·refine k2 ?_
    refine A3 (A2 (A7 Z) Z (A2 (A8 Z Z Z) Z (A2 (A4 Z Z) Z (A2 (M4 Z Z) Z (A2 (A4 Z Z) Z (B1 Z Z Z Z (fun hg=>by rw [hg];exact A7 Z) ?_))))));refine B1 Z Z Z Z (fun hg=>by rw [hg];exact A8 Z Z Z) ?_;refine B1 Z Z Z Z (fun hg=>by rw [hg];exact A4 Z Z) ?_;refine B1 Z Z Z Z (fun hg=>by rw [hg];exact M4 Z Z) ?_;refine A2 (B6 Z (fun h=>by first | rfl | (rw [h];rfl)) (fun h=>by first | rfl | (rw [h];rfl))) Z ?_;refine A6 ?_
    refine k1 ?_
    refine B3 rfl (fun ht=>?_) (fun ht=>?_)
    ·have h:=A0 (or_pick.symm.trans ht)
     rw [if_pos h] at hout'
     subst hout'
     skip
     refine A3 (A2 (A4 Z Z) Z (A2 (A4 Z Z) Z (A2 (A7 Z) Z (A2 (A8 Z Z Z) Z (A2 (A4 Z Z) Z (A2 (P9 Z Z (by omega)) Z (A2 (A4 Z Z) Z (A2 (A7 Z) Z (A2 (A8 Z Z Z) Z (A2 (A4 Z Z) Z (A2 (P9 Z Z (by omega)) Z (A2 (F3 Z) Z (A2 (C4 (c:=changeC) (ys:=[⟨_,_,_,_⟩]) (D5 Z Z Z Z E7) Z Z Z) Z (B9 (F0 Z Z Z (.pure _ _ _ _) (by simp;omega) Z) Z (A2 (A5 Z Z) Z (A6 ?_))))))))))))))))
     refine k1 ?_
     exact I45 ⟨le1 rfl,le1 rfl,le1 rfl,le1 rfl,le1 rfl,le1 rfl,trivial⟩ ⟨rfl,rfl,trivial⟩
    ·have h:=A1 (or_pick.symm.trans ht)
     rw [if_neg h,I97] at hout'
     subst hout'
     refine k5 (k1 ?_)
     exact I45 ⟨le1 rfl,le1 rfl,le1 rfl,le1 rfl,le1 rfl,le1 rfl,trivial⟩ ⟨rfl,rfl,trivial⟩
   ·skip
    refine D2 (by kernel_rfl) (by kernel_rfl) (A9 (A7 Z) Z Z (A9 (A8 Z Z Z) Z Z (A9 (C0 Z Z (by omega)) Z Z (A9 (A7 Z) Z Z (A9 (A8 Z Z Z) Z Z (A9 (C0 Z Z (by omega)) Z Z (A9 (A5 Z Z) Z Z (A9 (A5 Z Z) Z Z (K7 ?_)))))))))
    refine k4 (k1 ?_)
    refine A3 (A2 (A4 Z Z) Z (A2 (C0 Z Z (by omega)) Z (A2 (A5 Z Z) Z (A6 ?_))))
    refine k1 ?_
    refine ⟨(k+1,x.From+1,x.To+1,out'),⟨by dsimp only;omega,hol,by dsimp only;omega,?_,?_⟩,by dsimp only;omega,I45 ⟨le1 rfl,le1 rfl,le1 rfl,le1 rfl,le1 rfl,le1 rfl,le1 rfl,trivial⟩ ⟨rfl,trivial⟩⟩
    ·intro hk2
     dsimp only at hk2 ⊢
     rw [←hpp,hmade,if_pos (show k < p.length by omega),hout'];simp
    ·intro hk2
     dsimp only at hk2 ⊢
     rw [←hpp,hmade,if_neg (show ¬k < p.length by omega),hout'];simp
 ·have hk':k=p.length+1:=by have:=A1 ht;omega
  refine k6 (k2 ?_)
  refine A3 (A2 (A4 Z Z) Z (A2 (A5 Z Z) Z (A6 ?_)))
  refine k1 (k10 ?_)
  exact B5 (F1 rfl rfl rfl) (by rw [h2 hk'])
theorem long_ok (a b:List Int):FnOk Tryz.prog 249 [N5 a,N5 b] (fun rs=>rs=[I3 (decide (4096 < a.length∨4096 < b.length))]):=by
 refine FnOk.intro Tryz.func249 (by decide) Z Z Z Z ?_
 refine k2 ?_
 refine A3 (A2 (A5 Z Z) Z (A6 ?_))
 refine k1 (k2 ?_)
 refine A3 (A2 (A4 Z Z) Z (A2 (D4 Z (.pure _ _ _ _)) Z (A2 (M4 Z Z) Z (A2 (A4 Z Z) Z (B1 Z Z Z Z (fun hg=>by rw [hg];exact A4 Z Z) ?_)))));refine B1 Z Z Z Z (fun hg=>by rw [hg];exact D4 Z (.pure _ _ _ _)) ?_;refine B1 Z Z Z Z (fun hg=>by rw [hg];exact M4 Z Z) ?_;refine A2 (B6 Z (fun h=>by first | rfl | (rw [h];rfl)) (fun h=>by first | rfl | (rw [h];rfl))) Z ?_;refine A2 (A5 Z Z) Z (A6 ?_)
 refine k1 (k10 ?_)
 refine B5 (F1 Z Z Z) ?_
 rw [or_pick]
 simp only [List.cons.injEq,and_true,PV.one.injEq,Cell.v.injEq,Value.bool.injEq,decide_eq_decide]
 omega
theorem E47 (l:List Merged) (hl:l.length≤536870912):FnOk Tryz.prog 214 [pMerged l] (fun rs=>rs=[N5 (F7 l)]):=by
 refine FnOk.intro Tryz.func214 (by decide) Z Z Z Z ?_
 refine k2 ?_
 refine A3 (A2 (A5 Z Z) Z (A6 ?_))
 refine k1 (k2 ?_)
 refine A3 (B9 (Q0 3 _ F9 Z) Z (A6 ?_))
 refine k1 (k2 (k2 ?_))
 refine A3 (A2 (A5 Z Z) Z (A6 ?_))
 refine k1 (k3 ?_)
 refine C9 (X:=Nat) (fun i=>([(0,C1 Merged 2 mergedC l),(3,.s (.one (.buf 3 Int 1 F9 (F7 (l.take i))))),(4,B8 i)],[(3,.spare (F7 (l.take i)).length 1 3)])) (fun i=>i≤l.length) (fun i=>l.length - i) 0 (by simp) (I45 ⟨le1 rfl,le1 rfl,le1 rfl,trivial⟩ ⟨rfl,trivial⟩) ?_
 intro i hi
 dsimp only at hi ⊢
 refine k2 (k2 ?_)
 refine A3 (A2 (A4 Z Z) Z (A2 (A4 Z Z) Z (A2 (D4 Z (.pure _ _ _ _)) Z (A2 (D7 Z Z) Z (A6 ?_)))))
 refine k1 ?_
 have hlen:(F7 (l.take i)).length=i:=by simp [F7];omega
 refine B3 rfl (fun ht=>?_) (fun ht=>?_)
 ·have hlt:i < l.length:=by have:=A0 ht;omega
  have hv:l[i]?=some l[i]:=by simp [hlt]
  have hst:F7 (l.take (i+1))=F7 (l.take i)++[l[i].Line]:=by
   unfold F7;rw [List.take_add_one,hv,Option.toList_some,I92];rfl
  refine k5 (k1 (k2 (k3 ?_)))
  refine A3 (A2 (A4 Z Z) Z (A2 (A4 Z Z) Z (A2 (A4 Z Z) Z (A2 (B0 Z (.pure _ _ _ _) Z (by omega) hv) Z (A2 (D8 Z) Z (A2 (B2 Z Z) Z (A2 (C4 (c:=F9) (ys:=[_]) (D5 Z Z Z Z E7) Z Z Z) Z (B9 (F0 Z Z Z (.pure _ _ _ _) (by simp;omega) Z) Z (A2 (A5 Z Z) Z (A6 ?_))))))))))
  refine k4 (k1 ?_)
  refine A3 (A2 (A4 Z Z) Z (A2 (C0 Z Z (by omega)) Z (A2 (A5 Z Z) Z (A6 ?_))))
  refine k1 ?_
  refine ⟨i+1,by omega,by omega,?_⟩
  rw [hst]
  exact I45 ⟨le1 rfl,le1 rfl,le1 rfl,trivial⟩ ⟨rfl,trivial⟩
 ·have:i=l.length:=by have:=A1 ht;omega
  subst this
  refine k6 (k2 ?_)
  refine A3 (A2 (A4 Z Z) Z (A2 (A5 Z Z) Z (A6 ?_)))
  refine k1 (k10 ?_)
  exact B5 (F1 rfl rfl rfl) (by simp)
theorem I06 (a b:List Int) (ha:a.length≤536870912) (hb:b.length≤536870912):FnOk Tryz.prog 168 [N5 a,N5 b] (fun rs=>rs=[pIntss (B50 a b)]):=by
 refine FnOk.intro Tryz.func168 (by decide) Z Z Z Z ?_
 refine k2 ?_
 refine A3 (A2 (A5 Z Z) Z (A6 ?_))
 refine k1 (k2 ?_)
 refine A3 (A2 (A4 Z Z) Z (A2 (D4 Z (.pure _ _ _ _)) Z (A2 (C0 Z Z (by omega)) Z (B9 (U0 5 (List Int) intsC [] Z Z (by omega) (by omega) (fun _=>by first | exact ⟨⟨rfl,rfl⟩,trivial⟩ | exact ⟨N3 _ _ _,trivial⟩) (by first | rfl | (simp [H0,H3,Ob.free,SV.free,S1.free,TC.free]<;>rfl))) Z ?_))));refine A2 (A5 Z Z) Z (A6 ?_)
 refine k1 (k2 (k2 ?_))
 refine A3 (A2 (A4 Z Z) Z (A2 (D4 Z (.pure _ _ _ _)) Z (A2 (A5 Z Z) Z (A6 ?_))))
 refine k1 (k3 ?_)
 refine C9 (X:=Nat) (fun i=>([(0,C1 Int 1 F9 a),(1,C1 Int 1 F9 b),(5,.s (.one (.mut 5))),(6,B8 ((i:Int) - 1))],[(5,.arr (List Int) 1 intsC (O6 a b i))])) (fun i=>i≤a.length+1) (fun i=>i) (a.length+1) (Nat.le_refl _) ?_ ?_
 ·refine I45 ⟨⟨_,rfl,.same _⟩,⟨_,rfl,.same _⟩,⟨_,rfl,.same _⟩,⟨_,rfl,.eq (by simp)⟩,trivial⟩ ⟨?_,trivial⟩
  rw [←E23];rfl
 intro i hi
 dsimp only at hi ⊢
 refine k2 (k2 ?_)
 refine A3 (A2 (A4 Z Z) Z (A2 (A05 Z Z) Z (A6 ?_)))
 refine k1 ?_
 refine B3 rfl (fun ht=>?_) (fun ht=>?_)
 ·obtain ⟨i,rfl⟩:∃r,i=r+1:=⟨i - 1,by have:=A0 ht;omega⟩
  refine L0 [(0,C1 Int 1 F9 a),(1,C1 Int 1 F9 b),(5,.s (.one (.mut 5))),(6,B8 i)] [(5,.arr (List Int) 1 intsC (O6 a b (i+1)))] (I45 ⟨le1 rfl,le1 rfl,le1 rfl,leE Z (by first | (simp;done) | (simp;omega)),trivial⟩ ⟨rfl,trivial⟩) ?_
  refine F8 (I60 5 Z) ?_
  have hTl:((O6 a b (i+1)).map fun x=>TC.p (intsC x 0)).length=a.length+1:=by simp [u7]
  have hRs:=u7 a b (i+1)
  refine k5 (k1 (k2 (k3 (k2 ?_))))
  refine A3 (A2 (A4 Z Z) Z (A2 (A4 Z Z) Z (A2 (A4 Z Z) Z (A2 (D4 Z (.pure _ _ _ _)) Z (A2 (C0 Z Z (by omega)) Z (B9 (U0 23 Int F9 0 Z Z (by omega) (by omega) (fun _=>by first | exact ⟨⟨rfl,rfl⟩,trivial⟩ | exact ⟨N3 _ _ _,trivial⟩) (by first | rfl | (simp [H0,H3,Ob.free,SV.free,S1.free,TC.free]<;>rfl))) Z ?_))))));refine A2 (G9 Z Z Z (by omega) (by omega)) Z (E6 (j3 TySz.out Z Z (by (rw [hTl];simp;omega)) Z Z) ?_);refine A6 ?_
  refine k1 (k2 ?_)
  refine A3 (A2 (A4 Z Z) Z (A2 (D4 Z (.pure _ _ _ _)) Z (A2 (A5 Z Z) Z (A6 ?_))))
  refine k1 (k3 ?_)
  obtain ⟨T,hT⟩:∃T,T=((O6 a b (i+1)).map fun x=>TC.p (intsC x 0)).set i (.mut 23):=⟨_,rfl⟩
  have hTi:T[i]?=some (.mut 23):=by rw [hT,List.getElem?_set_self (by rw [hTl];omega)]
  have hTn:i+1≤a.length→T[i+1]?=some (.p (intsC (Q1 a b (i+1) 0) 0)):=fun h=>by
   rw [hT,List.getElem?_set_ne (by omega),J03,A65 a b (i+1) (i+1) (Nat.le_refl _) h];rfl
  refine C9 (X:=Nat) (fun j=>([(0,C1 Int 1 F9 a),(1,C1 Int 1 F9 b),(5,.s (.one (.mut 5))),(6,B8 i),(7,B8 ((j:Int) - 1))],[(5,.tarr (O6 a b (i+1)).length 1 T),(23,.arr Int 1 F9 (Q1 a b i j))])) (fun j=>j≤b.length+1) (fun j=>j) (b.length+1) (Nat.le_refl _) ?_ ?_
  ·refine I45 ⟨⟨_,rfl,.same _⟩,⟨_,rfl,.same _⟩,⟨_,rfl,.same _⟩,⟨_,rfl,.same _⟩,⟨_,rfl,.eq (by simp)⟩,trivial⟩ ⟨by rw [hT];rfl,?_,trivial⟩
   rw [←F20];rfl
  intro j hj
  dsimp only at hj ⊢
  refine k2 (k2 ?_)
  refine A3 (A2 (A4 Z Z) Z (A2 (A05 Z Z) Z (A6 ?_)))
  refine k1 ?_
  refine B3 rfl (fun ht=>?_) (fun ht=>?_)
  ·obtain ⟨j,rfl⟩:∃r,j=r+1:=⟨j - 1,by have:=A0 ht;omega⟩
   refine L0 [(0,C1 Int 1 F9 a),(1,C1 Int 1 F9 b),(5,.s (.one (.mut 5))),(6,B8 i),(7,B8 j)] [(5,.tarr (O6 a b (i+1)).length 1 T),(23,.arr Int 1 F9 (Q1 a b i (j+1)))] (I45 ⟨le1 rfl,le1 rfl,le1 rfl,le1 rfl,leE Z (by first | (simp;done) | (simp;omega)),trivial⟩ ⟨rfl,rfl,trivial⟩) ?_
   have hRl:=D69 a b i (j+1)
   have hst:=F97 a b i j
   refine E84 ?_
   refine J7 ?_
   refine n4 [(0,C1 Int 1 F9 a),(1,C1 Int 1 F9 b),(5,.s (.one (.mut 5))),(6,B8 i),(7,B8 j)] [(5,.tarr (O6 a b (i+1)).length 1 T),(23,.arr Int 1 F9 (Q1 a b i j))] ?_ ?_
   ·refine k3 (k3 (k2 ?_))
    refine A3 (A2 (A4 Z Z) Z (A2 (A4 Z Z) Z (A2 (D4 Z (.pure _ _ _ _)) Z (A2 (J6 Z Z) Z (A2 (A5 Z Z) Z (A6 ?_))))))
    refine k1 ?_
    refine B3 rfl (fun ht=>?_) (fun ht=>?_)
    ·have hia:i=a.length:=by have:=A0 ht;omega
     have hd:(dist (a.drop i) (b.drop j):Int)=b.length - j:=by rw [hia,I87 (Nat.le_refl _),dist,I95];omega
     rw [hd] at hst
     skip
     refine A3 (A2 (A4 Z Z) Z (A2 (A4 Z Z) Z (A2 (G9 Z Z Z (by omega) (by omega)) Z (A2 (L8 Z Z hTi) Z (A2 (A4 Z Z) Z (A2 (A4 Z Z) Z (A2 (D4 Z (.pure _ _ _ _)) Z (A2 (A4 Z Z) Z (A2 (P9 Z Z (by omega)) Z (A2 (D9 Z Z Z (by omega) (by omega)) Z (E6 (G5 TySz.out Z Z (by (rw [hRl];simp;omega)) Z Z) ?_)))))))))));refine A6 ?_
     refine k4 (k4 (k1 ?_))
     rw [←hst]
     exact I45 ⟨le1 rfl,le1 rfl,le1 rfl,le1 rfl,le1 rfl,trivial⟩ ⟨rfl,rfl,trivial⟩
    ·have hia:i < a.length:=by have:=A1 ht;omega
     refine k2 ?_
     refine A3 (A2 (A4 Z Z) Z (A2 (A4 Z Z) Z (A2 (D4 Z (.pure _ _ _ _)) Z (A2 (J6 Z Z) Z (A2 (A5 Z Z) Z (A6 ?_))))))
     refine k1 ?_
     refine B3 rfl (fun ht=>?_) (fun ht=>?_)
     ·have hjb:j=b.length:=by have:=A0 ht;omega
      have hd:(dist (a.drop i) (b.drop j):Int)=a.length - i:=by rw [hjb,I87 (Nat.le_refl b.length),z6,I95];omega
      rw [hd] at hst
      skip
      refine A3 (A2 (A4 Z Z) Z (A2 (A4 Z Z) Z (A2 (G9 Z Z Z (by omega) (by omega)) Z (A2 (L8 Z Z hTi) Z (A2 (A4 Z Z) Z (A2 (A4 Z Z) Z (A2 (D4 Z (.pure _ _ _ _)) Z (A2 (A4 Z Z) Z (A2 (P9 Z Z (by omega)) Z (A2 (D9 Z Z Z (by omega) (by omega)) Z (E6 (G5 TySz.out Z Z (by (rw [hRl];simp;omega)) Z Z) ?_)))))))))));refine A6 ?_
      refine k4 (k4 (k1 ?_))
      rw [←hst]
      exact I45 ⟨le1 rfl,le1 rfl,le1 rfl,le1 rfl,le1 rfl,trivial⟩ ⟨rfl,rfl,trivial⟩
     ·have hjb:j < b.length:=by have:=A1 ht;omega
      have hva:a[i]?=some a[i]:=by simp [hia]
      have hvb:b[j]?=some b[j]:=by simp [hjb]
      have hdd:=E64 a b i j hia hjb
      have hTn':=hTn hia
      refine k2 ?_
      refine D2 (by kernel_rfl) (by kernel_rfl) (A9 (A4 Z Z) Z Z (A9 (A4 Z Z) Z Z (A9 (B0 Z (.pure _ _ _ _) Z (by omega) hva) Z Z (A9 (B2 Z Z) Z Z (A9 (A4 Z Z) Z Z (A9 (A4 Z Z) Z Z (A9 (B0 Z (.pure _ _ _ _) Z (by omega) hvb) Z Z (A9 (B2 Z Z) Z Z (A9 (J6 Z Z) Z Z (A9 (A5 Z Z) Z Z (K7 ?_)))))))))))
      refine k1 ?_
      refine B3 rfl (fun ht=>?_) (fun ht=>?_)
      ·rw [if_pos (A0 ht)] at hdd
       have hg:=s9 a b (i+1) 0 (j+1) (Nat.zero_le _) hjb
       rw [hdd] at hst
       skip
       refine D2 (by kernel_rfl) (by kernel_rfl) (A9 (A4 Z Z) Z Z (A9 (A4 Z Z) Z Z (A9 (G9 Z Z Z (by omega) (by omega)) Z Z (A9 (L8 Z Z hTi) Z Z (A9 (A4 Z Z) Z Z (A9 (A4 Z Z) Z Z (A9 (A4 Z Z) Z Z (A9 (C0 Z Z (by omega)) Z Z (A9 (G9 Z Z Z (by omega) (by omega)) Z Z (A9 (L8 Z Z hTn') Z Z (A9 (A4 Z Z) Z Z (A9 (C0 Z Z (by omega)) Z Z (A9 (B0 Z (.pure _ _ _ _) Z (by omega) hg) Z Z (A9 (B2 Z Z) Z Z (A9 (D9 Z Z Z (by omega) (by omega)) Z Z (A08 (G5 TySz.out Z Z (by (rw [hRl];simp;omega)) Z Z) Z ?_))))))))))))))));refine K7 ?_
       refine k4 (k4 (k1 ?_))
       rw [←hst]
       exact I45 ⟨le1 rfl,le1 rfl,le1 rfl,le1 rfl,le1 rfl,trivial⟩ ⟨rfl,rfl,trivial⟩
      ·rw [if_neg (A1 ht)] at hdd
       have hg1:=s9 a b (i+1) 0 j (Nat.zero_le _) (by omega)
       have hg2:=s9 a b i (j+1) (j+1) (Nat.le_refl _) (by omega)
       have hl1:=B49 (a.drop (i+1)) (b.drop j)
       have hl2:=B49 (a.drop i) (b.drop (j+1))
       simp only [I95] at hl1 hl2
       have hval:(1:Int)+(if (dist (a.drop i) (b.drop (j+1)):Int) < (dist (a.drop (i+1)) (b.drop j):Int) then (dist (a.drop i) (b.drop (j+1)):Int) else (dist (a.drop (i+1)) (b.drop j):Int))=(dist (a.drop i) (b.drop j):Int):=by
        rw [hdd];split<;>omega
       rw [←hval] at hst
       skip
       refine D2 (by kernel_rfl) (by kernel_rfl) (A9 (A4 Z Z) Z Z (A9 (A4 Z Z) Z Z (A9 (G9 Z Z Z (by omega) (by omega)) Z Z (A9 (L8 Z Z hTi) Z Z (A9 (A4 Z Z) Z Z (A9 (A4 Z Z) Z Z (A9 (A4 Z Z) Z Z (A9 (C0 Z Z (by omega)) Z Z (A9 (G9 Z Z Z (by omega) (by omega)) Z Z (A9 (L8 Z Z hTn') Z Z (A9 (A4 Z Z) Z Z (A9 (B0 Z (.pure _ _ _ _) Z (by omega) hg1) Z Z (A9 (B2 Z Z) Z Z (A9 (A4 Z Z) Z Z (A9 (A4 Z Z) Z Z (A9 (G9 Z Z Z (by omega) (by omega)) Z Z (A9 (L8 Z Z hTi) Z Z (A9 (A4 Z Z) Z Z (A9 (C0 Z Z (by omega)) Z Z (A9 (D9 Z Z Z (by omega) (by omega)) Z Z (A9 (M6 Z Z hg2 Z) Z Z (A9 (G97 Z Z) Z Z (A9 (C0 Z Z (by (constructor<;>split<;>omega))) Z Z ?_)))))))))))))))))))))));refine A9 (D9 Z Z Z (by omega) (by omega)) Z Z (A08 (G5 TySz.out Z Z (by (rw [hRl];simp;omega)) Z Z) Z ?_);refine K7 ?_
       refine k4 (k4 (k1 ?_))
       rw [←hst]
       exact I45 ⟨le1 rfl,le1 rfl,le1 rfl,le1 rfl,le1 rfl,trivial⟩ ⟨rfl,rfl,trivial⟩
   ·skip
    refine A3 (A2 (A4 Z Z) Z (A2 (P9 Z Z (by omega)) Z (A2 (A5 Z Z) Z (A6 ?_))))
    refine k1 ?_
    exact ⟨j,by omega,by omega,I45 ⟨le1 rfl,le1 rfl,le1 rfl,le1 rfl,le1 rfl,trivial⟩ ⟨rfl,rfl,trivial⟩⟩
  ·obtain rfl:j=0:=by have:=A1 ht;omega
   refine F8 (Sees.freeze (k:=23) Z) ?_
   refine F8 (I61 5 (O6 a b i) Z (by simp [u7]) (by rw [hT,G34 (y:=Q1 a b i 0) rfl,F21])) ?_
   refine k6 (k7 (k7 (k8 Z (k4 (k1 ?_)))))
   refine A3 (A2 (A4 Z Z) Z (A2 (P9 Z Z (by omega)) Z (A2 (A5 Z Z) Z (A6 ?_))))
   refine k1 ?_
   exact ⟨i,by omega,by omega,I45 ⟨le1 rfl,le1 rfl,le1 rfl,le1 rfl,trivial⟩ ⟨rfl,trivial⟩⟩
 ·obtain rfl:i=0:=by have:=A1 ht;omega
  refine F8 (Sees.freeze (k:=5) Z) ?_
  refine k6 (k2 ?_)
  refine A3 (A2 (A4 Z Z) Z (A2 (A5 Z Z) Z (A6 ?_)))
  refine k1 (k10 ?_)
  exact B5 (F1 rfl rfl rfl) rfl
theorem C16 (a b:List Int):∀(p q:Int),∀s∈F6 p q a b,p≤s.From∧s.From < p+a.length∧q≤s.To∧s.To < q+b.length:=by
 induction a generalizing b with
 | nil=>intro p q s hs;simp [F6] at hs
 | cons x a iha =>
  induction b with
  | nil=>intro p q s hs;simp [F6] at hs
  | cons y b ihb =>
   intro p q s hs
   rw [F6] at hs
   simp only [I79]
   split at hs
   ·rcases List.mem_cons.1 hs with rfl | hs
    ·simp only;omega
    ·have:=iha b (p+1) (q+1) s hs;omega
   ·split at hs
    ·have:=iha (y::b) (p+1) q s hs;simp only [I79] at this;omega
    ·have:=ihb p (q+1) s hs;simp only [I79] at this;omega
theorem H04 (a b:List Int) (ha:a.length≤536870911) (hb:b.length≤536870911):FnOk Tryz.prog 102 [N5 a,N5 b] (fun rs=>rs=[pChanges (L6 a b)]):=by
 refine FnOk.intro Tryz.func102 (by decide) Z Z Z Z ?_
 refine k2 ?_
 refine A3 (A2 (A5 Z Z) Z (A6 ?_))
 refine k1 (k2 ?_)
 refine A3 (A2 (A4 Z Z) Z (A2 (A4 Z Z) Z (C2 (I06 a b (by omega) (by omega)) Z Z Z ?_)));rintro _ rfl;refine A2 (A5 Z Z) Z (A6 ?_)
 refine k1 (k2 ?_)
 refine A3 (B9 (Q0 6 _ spanC Z) Z (A6 ?_))
 refine k1 (k2 ?_)
 refine A3 (A2 (A5 Z Z) Z (A2 (A5 Z Z) Z (A6 ?_)))
 refine k1 (k2 (k3 ?_))
 refine C9 (X:=Nat × Nat × List Span) (fun x=>([(0,C1 Int 1 F9 a),(1,C1 Int 1 F9 b),(5,C1 (List Int) 1 intsC (B50 a b)),(6,.s (.one (.buf 6 Span 2 spanC x.2.2))),(7,B8 x.1),(8,B8 x.2.1)],[(6,.spare x.2.2.length 2 88)]))
  (fun x=>x.1≤a.length∧x.2.1≤b.length∧x.2.2.length≤x.1∧x.2.2++F6 x.1 x.2.1 (a.drop x.1) (b.drop x.2.1)=F6 0 0 a b) (fun x=>a.length+b.length - x.1 - x.2.1) (0,0,[]) (by simp) (I45 ⟨le1 rfl,le1 rfl,le1 rfl,le1 rfl,le1 rfl,le1 rfl,trivial⟩ ⟨rfl,trivial⟩) ?_
 rintro ⟨i,j,out⟩ ⟨hi,hj,ho,hp⟩
 dsimp only at hi hj ho hp ⊢
 refine k2 (k2 ?_)
 refine A3 (A2 (A4 Z Z) Z (A2 (A4 Z Z) Z (A2 (D4 Z (.pure _ _ _ _)) Z (A2 (D7 Z Z) Z (A2 (A4 Z Z) Z (B1 Z Z Z Z (fun hg=>by rw [hg];exact A4 Z Z) ?_))))));refine B1 Z Z Z Z (fun hg=>by rw [hg];exact A4 Z Z) ?_;refine B1 Z Z Z Z (fun hg=>by rw [hg];exact D4 Z (.pure _ _ _ _)) ?_;refine B1 Z Z Z Z (fun hg=>by rw [hg];exact D7 Z Z) ?_;refine A2 (B6 Z (fun h=>by first | rfl | (rw [h];rfl)) (fun h=>by first | rfl | (rw [h];rfl))) Z ?_;refine A6 ?_
 refine k1 ?_
 refine B3 rfl (fun ht=>?_) (fun ht=>?_)
 ·have hor:=A0 (or_pick.symm.trans ht)
  refine E84 ?_
  refine J7 ?_
  refine k3 (k3 (k2 ?_))
  have hTi:i < a.length→(B50 a b)[i]?=some (Q1 a b i 0):=fun h=>A65 a b 0 i (Nat.zero_le _) (by omega)
  have hTn:i < a.length→(B50 a b)[i+1]?=some (Q1 a b (i+1) 0):=fun h=>A65 a b 0 (i+1) (Nat.zero_le _) (by omega)
  have hva:i < a.length→a[i]?=some (a.getD i 0):=fun h=>by simp [I82,h]
  have hvb:j < b.length→b[j]?=some (b.getD j 0):=fun h=>by simp [I82,h]
  have hga:∀h:i < a.length,a.getD i 0=a[i]:=fun h=>by simp [I82,h]
  have hgb:∀h:j < b.length,b.getD j 0=b[j]:=fun h=>by simp [I82,h]
  refine D2 (by kernel_rfl) (by kernel_rfl) (A9 (A4 Z Z) Z Z (A9 (A4 Z Z) Z Z (A9 (D4 Z (.pure _ _ _ _)) Z Z (A9 (D7 Z Z) Z Z (A9 (A4 Z Z) Z Z (C6 Z Z (fun hg=>by rw [hg];exact A4 Z Z) Z Z ?_))))));refine C6 Z Z (fun hg=>by rw [hg];exact A4 Z Z) Z Z ?_;refine C6 Z Z (fun hg=>by rw [hg];exact D4 Z (.pure _ _ _ _)) Z Z ?_;refine C6 Z Z (fun hg=>by rw [hg];exact D7 Z Z) Z Z ?_;refine A9 (B6 Z (fun h=>by first | rfl | (rw [h];rfl)) (fun h=>by first | rfl | (rw [h];rfl))) Z Z ?_;refine A9 (A4 Z Z) Z Z (C6 Z Z (fun hg=>by rw [hg];exact A4 Z Z) Z Z ?_);refine C6 Z Z (fun hg=>by rw [hg];exact A4 Z Z) Z Z ?_;refine C6 Z Z (fun hg=>by have hq:=hg;(try simp at hq);rw [hg];exact B0 Z (.pure _ _ _ _) Z (by omega) (hva (by omega))) Z Z ?_;refine C6 Z Z (fun hg=>by rw [hg];exact B2 Z Z) Z Z ?_;refine C6 Z Z (fun hg=>by rw [hg];exact A4 Z Z) Z Z ?_;refine C6 Z Z (fun hg=>by rw [hg];exact A4 Z Z) Z Z ?_;refine C6 Z Z (fun hg=>by have hq:=hg;(try simp at hq);rw [hg];exact B0 Z (.pure _ _ _ _) Z (by omega) (hvb (by omega))) Z Z ?_;refine C6 Z Z (fun hg=>by rw [hg];exact B2 Z Z) Z Z ?_;refine C6 Z Z (fun hg=>by rw [hg];exact J6 Z Z) Z Z ?_;refine A9 (B6 Z (fun h=>by first | rfl | (rw [h];rfl)) (fun h=>by first | rfl | (rw [h];rfl))) Z Z ?_;refine A9 (A5 Z Z) Z Z (K7 ?_)
  refine k1 ?_
  refine B3 rfl (fun ht=>?_) (fun ht=>?_)
  ·simp only [P4] at ht
   obtain ⟨⟨hia,hjb⟩,heq⟩:=A0 ht
   have hia':i < a.length:=by omega
   have hjb':j < b.length:=by omega
   rw [hga hia',hgb hjb'] at heq
   rw [s8 a b i j hia' hjb',if_pos heq] at hp
   refine k2 ?_
   refine A3 (A2 (A4 Z Z) Z (A2 (A4 Z Z) Z (A2 (A4 Z Z) Z (A2 (F3 Z) Z (A2 (C4 (c:=spanC) (ys:=[⟨_,_⟩]) (D5 Z Z Z Z E7) Z Z Z) Z (B9 (F0 Z Z Z (.pure _ _ _ _) (by simp;omega) Z) Z (A2 (A5 Z Z) Z (A6 ?_))))))))
   refine k1 ?_
   refine A3 (A2 (A4 Z Z) Z (A2 (C0 Z Z (by omega)) Z (A2 (A4 Z Z) Z (A2 (C0 Z Z (by omega)) Z (A2 (A5 Z Z) Z (A2 (A5 Z Z) Z (A6 ?_)))))))
   refine k4 (k4 (k1 ?_))
   exact ⟨(i+1,j+1,out++[⟨i,j⟩]),⟨by dsimp only;omega,by dsimp only;omega,by dsimp only;simp;omega,by dsimp only;rw [I88];exact hp⟩,by dsimp only;omega,I45 ⟨le1 rfl,le1 rfl,le1 rfl,le1 rfl,le1 rfl,le1 rfl,trivial⟩ ⟨rfl,trivial⟩⟩
  ·have hne:∀(h1:i < a.length) (h2:j < b.length),a[i]≠b[j]:=fun h1 h2 h=>by
    simp only [P4] at ht
    exact A1 ht ⟨⟨by omega,by omega⟩,by rw [hga h1,hgb h2];exact h⟩
   refine k2 ?_
   refine D2 (by kernel_rfl) (by kernel_rfl) (A9 (A4 Z Z) Z Z (A9 (A4 Z Z) Z Z (A9 (D4 Z (.pure _ _ _ _)) Z Z (A9 (D7 Z Z) Z Z (A9 (A4 Z Z) Z Z (C6 Z Z (fun hg=>by rw [hg];exact A4 Z Z) Z Z ?_))))));refine C6 Z Z (fun hg=>by rw [hg];exact A4 Z Z) Z Z ?_;refine C6 Z Z (fun hg=>by have hq:=hg;(try simp at hq);rw [hg];exact C0 Z Z (by omega)) Z Z ?_;refine C6 Z Z (fun hg=>by have hq:=hg;(try simp at hq);rw [hg];exact B0 Z (.pure _ _ _ _) Z (by omega) (hTn (by omega))) Z Z ?_;refine C6 Z Z (fun hg=>by rw [hg];exact B2 Z Z) Z Z ?_;refine C6 Z Z (fun hg=>by rw [hg];exact A4 Z Z) Z Z ?_;refine C6 Z Z (fun hg=>by have hq:=hg;(try simp at hq);rw [hg];exact B0 Z (.pure _ _ _ _) Z (by omega) (s9 a b (i+1) 0 j (Nat.zero_le _) hj)) Z Z ?_;refine C6 Z Z (fun hg=>by rw [hg];exact B2 Z Z) Z Z ?_;refine C6 Z Z (fun hg=>by have hq:=hg;(try simp at hq);have h1:=B49 (a.drop (i+1)) (b.drop j);simp only [I95] at h1;rw [hg];exact C0 Z Z (by omega)) Z Z ?_;refine C6 Z Z (fun hg=>by rw [hg];exact A4 Z Z) Z Z ?_;refine C6 Z Z (fun hg=>by rw [hg];exact A4 Z Z) Z Z ?_;refine C6 Z Z (fun hg=>by have hq:=hg;(try simp at hq);rw [hg];exact B0 Z (.pure _ _ _ _) Z (by omega) (hTi (by omega))) Z Z ?_;refine C6 Z Z (fun hg=>by rw [hg];exact B2 Z Z) Z Z ?_;refine C6 Z Z (fun hg=>by rw [hg];exact A4 Z Z) Z Z ?_;refine C6 Z Z (fun hg=>by have hq:=hg;(try simp at hq);rw [hg];exact B0 Z (.pure _ _ _ _) Z (by omega) (s9 a b i 0 j (Nat.zero_le _) hj)) Z Z ?_;refine C6 Z Z (fun hg=>by rw [hg];exact B2 Z Z) Z Z ?_;refine C6 Z Z (fun hg=>by rw [hg];exact J6 Z Z) Z Z ?_;refine A9 (B6 Z (fun h=>by first | rfl | (rw [h];rfl)) (fun h=>by first | rfl | (rw [h];rfl))) Z Z ?_;refine A9 (A5 Z Z) Z Z (K7 ?_)
   refine k1 ?_
   refine B3 rfl (fun ht=>?_) (fun ht=>?_)
   ·rw [P4] at ht
    obtain ⟨hia,hd⟩:=A0 ht
    have hia':i < a.length:=by omega
    have hp':out++F6 (i+1:Nat) j (a.drop (i+1)) (b.drop j)=F6 0 0 a b:=by
     by_cases hjb:j < b.length
     ·rw [s8 a b i j hia' hjb,if_neg (hne hia' hjb),if_pos (by omega)] at hp
      exact hp
     ·rw [I87 (show b.length≤j by omega),Y2] at hp ⊢
      exact hp
    skip
    refine A3 (A2 (A4 Z Z) Z (A2 (C0 Z Z (by omega)) Z (A2 (A5 Z Z) Z (A6 ?_))))
    refine k4 (k4 (k1 ?_))
    exact ⟨(i+1,j,out),⟨by dsimp only;omega,by dsimp only;omega,by dsimp only;omega,hp'⟩,by dsimp only;omega,I45 ⟨le1 rfl,le1 rfl,le1 rfl,le1 rfl,le1 rfl,le1 rfl,trivial⟩ ⟨rfl,trivial⟩⟩
   ·rw [P4] at ht
    have hd:=A1 ht
    have hjb:j < b.length:=by
     refine Classical.byContradiction fun h=>?_
     have hjb:j=b.length:=by omega
     have hia:i < a.length:=by omega
     apply hd
     refine ⟨by omega,?_⟩
     rw [I87 (show b.length≤j by omega),z6,z6,I95,I95]
     omega
    have hp':out++F6 i (j+1:Nat) (a.drop i) (b.drop (j+1))=F6 0 0 a b:=by
     by_cases hia:i < a.length
     ·rw [s8 a b i j hia hjb,if_neg (hne hia hjb),if_neg (fun h=>hd ⟨by omega,by omega⟩)] at hp
      exact hp
     ·rw [I87 (show a.length≤i by omega),V6] at hp ⊢
      exact hp
    skip
    refine A3 (A2 (A4 Z Z) Z (A2 (C0 Z Z (by omega)) Z (A2 (A5 Z Z) Z (A6 ?_))))
    refine k4 (k4 (k1 ?_))
    exact ⟨(i,j+1,out),⟨by dsimp only;omega,by dsimp only;omega,by dsimp only;omega,hp'⟩,by dsimp only;omega,I45 ⟨le1 rfl,le1 rfl,le1 rfl,le1 rfl,le1 rfl,le1 rfl,trivial⟩ ⟨rfl,trivial⟩⟩
 ·have hor:=A1 (or_pick.symm.trans ht)
  have hi':i=a.length:=by omega
  have hj':j=b.length:=by omega
  rw [hi',I87 (Nat.le_refl a.length)] at hp
  have hout:out=F6 0 0 a b:=by rw [←hp];simp [F6]
  refine k6 (k2 ?_)
  refine A3 (A2 (A4 Z Z) Z (A2 (A4 Z Z) Z (A2 (D4 Z (.pure _ _ _ _)) Z (A2 (A4 Z Z) Z (A2 (D4 Z (.pure _ _ _ _)) Z (C2 (made_ok out a.length b.length (by omega) (fun s hs=>by have:=C16 a b 0 0 s (hout ▸ hs);omega) (by omega)) Z Z Z ?_))))));rintro _ rfl;refine A2 (A5 Z Z) Z (A6 ?_)
  refine k1 (k10 ?_)
  exact B5 (F1 rfl rfl rfl) (by rw [hout];rfl)
theorem E48 (a b:List Int):FnOk Tryz.prog 213 [N5 a,N5 b] (fun rs=>rs=if 4096 < a.length∨4096 < b.length then [pChanges [],G1 1] else [pChanges (L6 a b),G1 0]):=by
 refine FnOk.intro Tryz.func213 (by decide) Z Z Z Z ?_
 refine k2 ?_
 refine A3 (A2 (A5 Z Z) Z (A2 (A5 Z Z) Z (A6 ?_)))
 refine k1 (k2 (k2 ?_))
 refine A3 (A2 (A4 Z Z) Z (A2 (A4 Z Z) Z (C2 (long_ok a b) Z Z Z ?_)));rintro _ rfl;refine A6 ?_
 refine k1 ?_
 refine B3 rfl (fun ht=>?_) (fun ht=>?_)
 ·have h:=A0 ht
  refine k2 ?_
  refine A3 (A2 (J1 _ 4 changeC) Z (A2 (A5 Z Z) Z (A6 ?_)))
  refine k1 (k10 (k11 ?_))
  exact B5 (d7 rfl rfl rfl rfl rfl) (by rw [if_pos h])
 ·have h:=A1 ht
  refine k5 (k1 (k2 ?_))
  refine A3 (A2 (A4 Z Z) Z (A2 (A4 Z Z) Z (C2 (H04 a b (by omega) (by omega)) Z Z Z ?_)));rintro _ rfl;refine A2 (A5 Z Z) Z (A2 (A5 Z Z) Z (A6 ?_))
  refine k1 (k10 ?_)
  exact B5 (d7 rfl rfl rfl rfl rfl) (by rw [if_neg h])
theorem D47 (l:List Change) (m:Int) (hl:l.length≤1048576) (hm:m≤536870911) (hb:∀c∈l,c.Old≤536870911∧0≤c.OldLen∧c.OldLen≤1048576∧0≤c.NewLen∧c.NewLen≤1048576) :
  FnOk Tryz.prog 103 [pChanges l,G1 m] (fun rs=>rs=[pSpans (P5 l m)]):=by
 refine FnOk.intro Tryz.func103 (by decide) Z Z Z Z ?_
 refine k2 ?_
 refine A3 (A2 (A5 Z Z) Z (A6 ?_))
 refine k1 (k2 ?_)
 refine A3 (B9 (Q0 5 _ spanC Z) Z (A6 ?_))
 refine k1 (k2 ?_)
 refine A3 (A2 (A5 Z Z) Z (A2 (A5 Z Z) Z (A6 ?_)))
 refine k1 (k2 (k2 ?_))
 refine A3 (A2 (A5 Z Z) Z (A6 ?_))
 refine k1 (k3 ?_)
 refine C9 (X:=Nat × Int × Int × List Span) (fun x=>([(0,C1 Change 4 changeC l),(1,B8 m),(5,.s (.one (.buf 5 Span 2 spanC x.2.2.2))),(6,B8 x.2.1),(7,B8 x.2.2.1),(8,B8 x.1)],[(5,.spare x.2.2.2.length 2 88)]))
  (fun x=>x.1≤l.length∧0≤x.2.1∧(x.2.2.2.length:Int)≤x.2.1∧x.2.1≤536870911+x.1*1048576∧0≤x.2.2.1∧x.2.2.1≤536870911*(x.1+1)+x.1*1048576∧x.2.2.2.length≤536870911∧x.2.2.2++K1 x.2.1 x.2.2.1 (l.drop x.1) m=P5 l m)
  (fun x=>l.length - x.1) (0,0,0,[]) (by simp [P5]) (I45 ⟨le1 rfl,le1 rfl,le1 rfl,le1 rfl,le1 rfl,le1 rfl,trivial⟩ ⟨rfl,trivial⟩) ?_
 rintro ⟨k,i,j,out⟩ ⟨hk,hi,ho,hi2,hj,hj2,ho2,hp⟩
 dsimp only at hk hi ho hi2 hj hj2 ho2 hp ⊢
 refine k2 (k2 ?_)
 refine A3 (A2 (A4 Z Z) Z (A2 (A4 Z Z) Z (A2 (D4 Z (.pure _ _ _ _)) Z (A2 (D7 Z Z) Z (A6 ?_)))))
 refine k1 ?_
 refine B3 rfl (fun ht=>?_) (fun ht=>?_)
 ·have hlt:k < l.length:=by have:=A0 ht;omega
  have hv:l[k]?=some l[k]:=by simp [hlt]
  have hc:=hb l[k] (I90 hlt)
  rw [I84 hlt,K1] at hp
  refine k5 (k1 (k2 (k3 (k2 (k3 ?_)))))
  refine C9 (X:=Nat) (fun t=>([(0,C1 Change 4 changeC l),(1,B8 m),(5,.s (.one (.buf 5 Span 2 spanC (out++O1 i j t)))),(6,B8 (i+t)),(7,B8 (j+t)),(8,B8 k)],[(5,.spare (out++O1 i j t).length 2 88)]))
   (fun t=>t≤(l[k].Old - i).toNat) (fun t=>(l[k].Old - i).toNat - t) 0 (Nat.zero_le _) (by rw [l6,I97];exact I45 ⟨le1 rfl,le1 rfl,le1 rfl,leE rfl (by first | (simp;done) | (simp;omega)),leE rfl (by first | (simp;done) | (simp;omega)),le1 rfl,trivial⟩ ⟨rfl,trivial⟩) ?_
  intro t htl
  dsimp only at htl ⊢
  have hsl:=y9 i j t
  refine k2 (k2 ?_)
  have hol:out.length+t≤536870911:=by omega
  refine A3 (A2 (A4 Z Z) Z (A2 (A4 Z Z) Z (A2 (A4 Z Z) Z (A2 (B0 Z (.pure _ _ _ _) Z (by omega) hv) Z (A2 (D8 Z) Z (A2 (B2 Z Z) Z (A2 (D7 Z Z) Z (A6 ?_))))))))
  refine k1 ?_
  refine B3 rfl (fun ht=>?_) (fun ht=>?_)
  ·have h1:=A0 ht
   refine k5 (k1 (k3 (k2 ?_)))
   refine A3 (A2 (A4 Z Z) Z (A2 (A4 Z Z) Z (A2 (A4 Z Z) Z (A2 (F3 Z) Z (A2 (C4 (c:=spanC) (ys:=[⟨_,_⟩]) (D5 Z Z Z Z E7) Z Z Z) Z (B9 (F0 Z Z Z (.pure _ _ _ _) (by (simp;omega)) Z) Z (A2 (A5 Z Z) Z (A6 ?_))))))))
   refine k1 ?_
   refine A3 (A2 (A4 Z Z) Z (A2 (C0 Z Z (by omega)) Z (A2 (A4 Z Z) Z (A2 (C0 Z Z (by omega)) Z (A2 (A5 Z Z) Z (A2 (A5 Z Z) Z (A6 ?_)))))))
   refine k4 (k1 ?_)
   refine ⟨t+1,by omega,by omega,?_⟩
   rw [A66,←I88]
   exact I45 ⟨le1 rfl,le1 rfl,le1 rfl,leE rfl (by first | (simp;done) | (simp;omega)),leE rfl (by first | (simp;done) | (simp;omega)),le1 rfl,trivial⟩ ⟨rfl,trivial⟩
  ·have h1:=A1 ht
   have h2:t=(l[k].Old - i).toNat:=by omega
   rw [←h2] at hp
   have h3:max i l[k].Old=i+t:=by omega
   rw [h3] at hp
   refine k6 (k7 (k7 (k8 Z (k1 ?_))))
   refine D2 (by kernel_rfl) (by kernel_rfl) (A9 (A4 Z Z) Z Z (A9 (A4 Z Z) Z Z (A9 (A4 Z Z) Z Z (A9 (B0 Z (.pure _ _ _ _) Z (by omega) hv) Z Z (A9 (D8 Z) Z Z (A9 (B2 Z Z) Z Z (A9 (C0 Z Z (by omega)) Z Z (A9 (A4 Z Z) Z Z (A9 (A4 Z Z) Z Z (A9 (A4 Z Z) Z Z (A9 (B0 Z (.pure _ _ _ _) Z (by omega) hv) Z Z (A9 (D8 Z) Z Z (A9 (B2 Z Z) Z Z (A9 (C0 Z Z (by omega)) Z Z (A9 (A5 Z Z) Z Z (A9 (A5 Z Z) Z Z (K7 ?_)))))))))))))))))
   refine k4 (k1 ?_)
   refine A3 (A2 (A4 Z Z) Z (A2 (C0 Z Z (by omega)) Z (A2 (A5 Z Z) Z (A6 ?_))))
   refine k1 ?_
   exact ⟨(k+1,i+t+l[k].OldLen,j+t+l[k].NewLen,out++O1 i j t),⟨by dsimp only;omega,by dsimp only;omega,by dsimp only;rw [I78,hsl];omega,by dsimp only;omega,by dsimp only;omega,by dsimp only;omega,by dsimp only;rw [I78,hsl];omega,by dsimp only;rw [I88];exact hp⟩,by dsimp only;omega,I45 ⟨le1 rfl,le1 rfl,le1 rfl,le1 rfl,le1 rfl,le1 rfl,trivial⟩ ⟨rfl,trivial⟩⟩
 ·have hk':k=l.length:=by have:=A1 ht;omega
  rw [hk',I87 (Nat.le_refl _),K1] at hp
  refine k6 (k2 (k3 ?_))
  refine C9 (X:=Nat) (fun t=>([(1,B8 m),(5,.s (.one (.buf 5 Span 2 spanC (out++O1 i j t)))),(6,B8 (i+t)),(7,B8 (j+t))],[(5,.spare (out++O1 i j t).length 2 88)]))
   (fun t=>t≤(m - i).toNat) (fun t=>(m - i).toNat - t) 0 (Nat.zero_le _) (by rw [l6,I97];exact I45 ⟨le1 rfl,le1 rfl,leE rfl (by first | (simp;done) | (simp;omega)),leE rfl (by first | (simp;done) | (simp;omega)),trivial⟩ ⟨rfl,trivial⟩) ?_
  intro t htl
  dsimp only at htl ⊢
  have hsl:=y9 i j t
  have hol:out.length+t≤536870911:=by omega
  refine k2 (k2 ?_)
  refine A3 (A2 (A4 Z Z) Z (A2 (A4 Z Z) Z (A2 (D7 Z Z) Z (A6 ?_))))
  refine k1 ?_
  refine B3 rfl (fun ht=>?_) (fun ht=>?_)
  ·have h1:=A0 ht
   refine k5 (k1 (k3 (k2 ?_)))
   refine A3 (A2 (A4 Z Z) Z (A2 (A4 Z Z) Z (A2 (A4 Z Z) Z (A2 (F3 Z) Z (A2 (C4 (c:=spanC) (ys:=[⟨_,_⟩]) (D5 Z Z Z Z E7) Z Z Z) Z (B9 (F0 Z Z Z (.pure _ _ _ _) (by (simp;omega)) Z) Z (A2 (A5 Z Z) Z (A6 ?_))))))))
   refine k1 ?_
   refine A3 (A2 (A4 Z Z) Z (A2 (C0 Z Z (by omega)) Z (A2 (A4 Z Z) Z (A2 (C0 Z Z (by omega)) Z (A2 (A5 Z Z) Z (A2 (A5 Z Z) Z (A6 ?_)))))))
   refine k4 (k1 ?_)
   refine ⟨t+1,by omega,by omega,?_⟩
   rw [A66,←I88]
   exact I45 ⟨le1 rfl,le1 rfl,leE rfl (by first | (simp;done) | (simp;omega)),leE rfl (by first | (simp;done) | (simp;omega)),trivial⟩ ⟨rfl,trivial⟩
  ·have h1:=A1 ht
   have h2:t=(m - i).toNat:=by omega
   refine k6 (k2 ?_)
   refine A3 (A2 (A4 Z Z) Z (A2 (A5 Z Z) Z (A6 ?_)))
   refine k1 (k10 ?_)
   exact B5 (F1 rfl rfl rfl) (by rw [h2,hp])
theorem E49 (l:List Merged) (list:List Int) (p:Int) (hl:l.length≤536870912):FnOk Tryz.prog 170 [pMerged l,N5 list,G1 p] (fun rs=>rs=if 4096 < l.length∨4096 < list.length then [pMerged [],G1 1] else [pMerged (U2 l list p),G1 0]):=by
 refine FnOk.intro Tryz.func170 (by decide) Z Z Z Z ?_
 refine k2 ?_
 refine A3 (A2 (A5 Z Z) Z (A2 (A5 Z Z) Z (A6 ?_)))
 refine k1 (k2 ?_)
 have hlm:(F7 l).length=l.length:=by simp [F7]
 by_cases hbig:4096 < l.length∨4096 < list.length
 ·rw [if_pos hbig]
  refine A3 (A2 (A4 Z Z) Z (C2 (E47 l hl) Z Z Z ?_));rintro _ rfl;refine A2 (A4 Z Z) Z (C2 ((E48 (F7 l) list).mono (post':=fun rs=>rs=[pChanges [],G1 1]) (fun rs h=>by rw [if_pos (by rw [hlm];exact hbig)] at h;exact h)) Z Z Z ?_);rintro _ rfl;refine A2 (A4 Z Z) Z (A2 (C5 Z Z) Z (A2 (C5 Z Z) Z (A2 (A5 Z Z) Z (A2 (A5 Z Z) Z (A6 ?_)))))
  refine k1 (k2 (k2 ?_))
  refine A3 (A2 (A4 Z Z) Z (A2 (M5 Z Z) Z (A6 ?_)))
  refine k1 ?_
  refine B3 rfl (fun ht=>?_) (fun ht=>?_)
  ·refine k2 ?_
   refine A3 (A2 (J1 _ 2 mergedC) Z (A2 (A5 Z Z) Z (A6 ?_)))
   refine k1 (k10 (k11 ?_))
   exact B5 (d7 rfl rfl rfl rfl rfl) rfl
  ·cases A1 ht (by decide)
 ·rw [if_neg hbig]
  refine A3 (A2 (A4 Z Z) Z (C2 (E47 l hl) Z Z Z ?_));rintro _ rfl;refine A2 (A4 Z Z) Z (C2 ((E48 (F7 l) list).mono (post':=fun rs=>rs=[pChanges (L6 (F7 l) list),G1 0]) (fun rs h=>by rw [if_neg (by rw [hlm];exact hbig)] at h;exact h)) Z Z Z ?_);rintro _ rfl;refine A2 (A4 Z Z) Z (A2 (C5 Z Z) Z (A2 (C5 Z Z) Z (A2 (A5 Z Z) Z (A2 (A5 Z Z) Z (A6 ?_)))))
  refine k1 (k2 (k2 ?_))
  refine A3 (A2 (A4 Z Z) Z (A2 (M5 Z Z) Z (A6 ?_)))
  refine k1 ?_
  refine B3 rfl (fun ht=>?_) (fun ht=>?_)
  ·cases A0 ht rfl
  ·have hwb:=A68 (F7 l) list
   have hwl:(L6 (F7 l) list).length≤4097:=by
    have h1:=p9 (F6 0 0 (F7 l) list) 0 0 (F7 l).length list.length
    have h2:=T8 0 0 (F7 l) list
    unfold L6 Y8;omega
   have hmw:=A67 (F7 l) list
   have hasc:=X2 (F7 l) list 0 0
   rw [Int.zero_add,Int.zero_add] at hasc
   have hpl:=T8 0 0 (F7 l) list
   rw [hlm] at hmw hasc hpl
   obtain ⟨ps,hps⟩:∃ps,ps=F6 0 0 (F7 l) list:=⟨_,rfl⟩
   refine k5 (k1 (k2 ?_))
   refine A3 (A2 (A4 Z Z) Z (A2 (A4 Z Z) Z (A2 (D4 Z (.pure _ _ _ _)) Z (C2 (D47 (L6 (F7 l) list) l.length (by omega) (by omega) (fun c hc=>by have:=hwb c hc;rw [hlm] at this;omega)) Z Z Z ?_))));rintro _ rfl;refine A2 (A5 Z Z) Z (A6 ?_)
   refine k1 (k2 ?_)
   rw [hmw,←hps]
   rw [←hps] at hasc hpl
   refine A3 (B9 (Q0 11 _ mergedC Z) Z (A6 ?_))
   refine k1 (k2 ?_)
   refine A3 (A2 (A5 Z Z) Z (A2 (A5 Z Z) Z (A6 ?_)))
   refine k1 (k2 (k2 ?_))
   refine A3 (A2 (A5 Z Z) Z (A6 ?_))
   refine k1 (k3 ?_)
   have hlb:l.length≤4096∧list.length≤4096:=by omega
   have hwp:=B81 p
   refine C9 (X:=Nat × Nat × Nat × List Merged) (fun x=>([(0,C1 Merged 2 mergedC l),(1,C1 Int 1 F9 list),(2,B8 p),(10,C1 Span 2 spanC ps),(11,.s (.one (.buf 11 Merged 2 mergedC x.2.2.2))),(12,B8 x.2.1),(13,B8 x.2.2.1),(14,B8 x.1)],[(11,.spare x.2.2.2.length 2 151)]))
    (fun x=>x.1≤ps.length+1∧x.2.2.2.length≤x.2.1+x.2.2.1∧x.2.1≤l.length∧x.2.2.1≤list.length∧(x.1≤ps.length→Asc l.length list.length x.2.1 x.2.2.1 (ps.drop x.1)∧x.2.2.2++Q4 l list (I0 p) x.2.1 x.2.2.1 (ps.drop x.1)=Q4 l list (I0 p) 0 0 ps)∧(x.1=ps.length+1→x.2.2.2=Q4 l list (I0 p) 0 0 ps))
    (fun x=>ps.length+1 - x.1) (0,0,0,[]) (by simpa using hasc) (I45 ⟨le1 rfl,le1 rfl,le1 rfl,le1 rfl,le1 rfl,le1 rfl,le1 rfl,le1 rfl,trivial⟩ ⟨rfl,trivial⟩) ?_
   rintro ⟨k,i,j,out⟩ ⟨hk,ho,hi,hj,h1,h2⟩
   dsimp only at hk ho hi hj h1 h2 ⊢
   refine k2 (k2 ?_)
   refine A3 (A2 (A4 Z Z) Z (A2 (A4 Z Z) Z (A2 (D4 Z (.pure _ _ _ _)) Z (A2 (i6 Z Z) Z (A6 ?_)))))
   refine k1 ?_
   refine B3 rfl (fun ht=>?_) (fun ht=>?_)
   ·have hk':k≤ps.length:=by have:=A0 ht;omega
    obtain ⟨ha,hp⟩:=h1 hk'
    refine k5 (k1 (k2 (k3 (k2 ?_))))
    refine A3 (A2 (A4 Z Z) Z (A2 (D4 Z (.pure _ _ _ _)) Z (A2 (A4 Z Z) Z (A2 (D4 Z (.pure _ _ _ _)) Z (A2 (F3 Z) Z (B9 (F5 15 Z) Z (E6 (B7 TySz.out Z Z Z Z Z Z) (A6 ?_))))))))
    refine J7 ?_
    obtain ⟨x,hx⟩:∃x,x=ps.getD k ⟨l.length,list.length⟩:=⟨_,rfl⟩
    have hstep:(i:Int)≤x.From∧(j:Int)≤x.To∧x.From≤l.length∧x.To≤list.length∧(k < ps.length→x.From < l.length∧x.To < list.length∧Asc l.length list.length (x.From+1) (x.To+1) (ps.drop (k+1))) ∧
      Q4 l list (I0 p) i j (ps.drop k)=(l.drop i).take (x.From.toNat - i)++(((list.drop j).take (x.To.toNat - j)).map fun v=>⟨v,I0 p⟩)++(if k < ps.length then (l[x.From.toNat]?.map fun y=>(⟨y.Line,K4 y.Parents (I0 p)⟩:Merged)).toList++Q4 l list (I0 p) (x.From.toNat+1) (x.To.toNat+1) (ps.drop (k+1)) else []):=by
     by_cases h:k < ps.length
     ·have hxk:x=ps[k]:=by rw [hx,I82,I80 h];rfl
      rw [I84 h,←hxk] at ha
      obtain ⟨a1,a2,a3⟩:=ha
      have a4:=a3.le
      refine ⟨a1,a2,by omega,by omega,fun _=>⟨by omega,by omega,a3⟩,?_⟩
      rw [I84 h,←hxk,if_pos h];rfl
     ·have hxk:x=⟨l.length,list.length⟩:=by rw [hx,I82,J08 (by omega)];rfl
      rw [hxk,if_neg h,I87 (show ps.length≤k by omega)]
      refine ⟨by simp only;omega,by simp only;omega,Int.le_refl _,Int.le_refl _,fun h'=>absurd h' h,?_⟩
      simp [Q4]
    obtain ⟨hx1,hx2,hx3,hx4,hx5,hjg⟩:=hstep
    refine n4 [(0,C1 Merged 2 mergedC l),(1,C1 Int 1 F9 list),(2,B8 p),(10,C1 Span 2 spanC ps),(11,.s (.one (.buf 11 Merged 2 mergedC out))),(12,B8 i),(13,B8 j),(14,B8 k),(15,.s (.one (.ref 15 0)))] [(15,.box [.p (.v (.int .i64 x.From)),.p (.v (.int .i64 x.To))]),(11,.spare out.length 2 151)] ?_ ?_
    ·refine k2 ?_
     refine A3 (A2 (A4 Z Z) Z (A2 (A4 Z Z) Z (A2 (D4 Z (.pure _ _ _ _)) Z (A2 (D7 Z Z) Z (A6 ?_)))))
     refine k1 ?_
     refine B3 rfl (fun ht=>?_) (fun ht=>?_)
     ·have hlt:k < ps.length:=by have:=A0 ht;omega
      have hv:ps[k]?=some ps[k]:=by simp [hlt]
      have:x=ps[k]:=by rw [hx,I82,hv];rfl
      subst this
      skip
      refine A3 (A2 (A4 Z Z) Z (A2 (A4 Z Z) Z (A2 (B0 Z (.pure _ _ _ _) Z (by omega) hv) Z (A2 (E1 Z Z) Z (E6 (B7 TySz.out Z Z Z Z Z Z) (A6 ?_))))))
      refine k1 ?_
      exact I45 ⟨le1 rfl,le1 rfl,le1 rfl,le1 rfl,le1 rfl,le1 rfl,le1 rfl,le1 rfl,le1 rfl,trivial⟩ ⟨rfl,rfl,trivial⟩
     ·have hlt:¬k < ps.length:=by have:=A1 ht;omega
      have:x=⟨l.length,list.length⟩:=by rw [hx,I82,J08 (by omega)];rfl
      subst this
      refine k5 (k1 ?_)
      exact I45 ⟨le1 rfl,le1 rfl,le1 rfl,le1 rfl,le1 rfl,le1 rfl,le1 rfl,le1 rfl,le1 rfl,trivial⟩ ⟨rfl,rfl,trivial⟩
    ·obtain ⟨f,hf⟩:∃f:Nat,x.From=f:=⟨x.From.toNat,by omega⟩
     obtain ⟨g,hg⟩:∃g:Nat,x.To=g:=⟨x.To.toNat,by omega⟩
     rw [hf] at hx1 hx3 hx5 hjg
     rw [hg] at hx2 hx4 hx5 hjg
     simp only [I85] at hjg
     rw [hf,hg]
     refine k2 (k3 ?_)
     refine C9 (X:=Nat) (fun t=>([(0,C1 Merged 2 mergedC l),(1,C1 Int 1 F9 list),(2,B8 p),(10,C1 Span 2 spanC ps),(11,.s (.one (.buf 11 Merged 2 mergedC (out++(l.drop i).take t)))),(12,B8 ((i+t:Nat):Int)),(13,B8 j),(14,B8 k),(15,.s (.one (.ref 15 0)))],[(15,.box [.p (.v (.int .i64 f)),.p (.v (.int .i64 g))]),(11,.spare (out++(l.drop i).take t).length 2 151)]))
      (fun t=>t≤f - i) (fun t=>f - i - t) 0 (Nat.zero_le _) (by rw [List.take_zero,I97];exact I45 ⟨le1 rfl,le1 rfl,le1 rfl,le1 rfl,le1 rfl,le1 rfl,le1 rfl,le1 rfl,le1 rfl,trivial⟩ ⟨rfl,rfl,trivial⟩) ?_
     intro t htl
     dsimp only at htl ⊢
     have hb1:(out++(l.drop i).take t).length≤i+j+t:=by simp;omega
     refine k2 (k2 ?_)
     refine A3 (A2 (A4 Z Z) Z (A2 (A7 Z) Z (A2 (A8 Z Z Z) Z (A2 (D7 Z Z) Z (A6 ?_)))))
     refine k1 ?_
     refine B3 rfl (fun ht=>?_) (fun ht=>?_)
     ·have hlt:i+t < f:=by have:=A0 ht;omega
      have hv:l[i+t]?=some (l[i+t]'(by omega)):=I80 (by omega)
      refine k5 (k1 (k3 (k2 ?_)))
      refine A3 (A2 (A4 Z Z) Z (A2 (A4 Z Z) Z (A2 (A4 Z Z) Z (A2 (B0 Z (.pure _ _ _ _) Z (by omega) hv) Z (A2 (E1 Z Z) Z (A2 (C4 (c:=mergedC) (ys:=[⟨_,_⟩]) (D5 Z Z Z Z E7) Z Z Z) Z (B9 (F0 Z Z Z (.pure _ _ _ _) (by (simp only [I79,I81];omega)) Z) Z (A2 (A5 Z Z) Z (A6 ?_)))))))))
      refine k1 ?_
      refine A3 (A2 (A4 Z Z) Z (A2 (C0 Z Z (by omega)) Z (A2 (A5 Z Z) Z (A6 ?_))))
      refine k4 (k1 ?_)
      refine ⟨t+1,by omega,by omega,?_⟩
      rw [z7 l i t (by omega),←I88]
      exact I45 ⟨le1 rfl,le1 rfl,le1 rfl,le1 rfl,le1 rfl,le1 rfl,le1 rfl,le1 rfl,le1 rfl,trivial⟩ ⟨rfl,rfl,trivial⟩
     ·have hte:i+t=f:=by have:=A1 ht;omega
      rw [hte]
      rw [show t=f - i by omega]
      rw [show t=f - i by omega] at hb1
      obtain ⟨o1,ho1⟩:∃o1,o1=out++(l.drop i).take (f - i):=⟨_,rfl⟩
      rw [←ho1] at hb1 ⊢
      refine k6 (k2 (k3 ?_))
      refine C9 (X:=Nat) (fun t=>([(0,C1 Merged 2 mergedC l),(1,C1 Int 1 F9 list),(2,B8 p),(10,C1 Span 2 spanC ps),(11,.s (.one (.buf 11 Merged 2 mergedC (o1++((list.drop j).take t).map fun v=>⟨v,I0 p⟩)))),(12,B8 f),(13,B8 ((j+t:Nat):Int)),(14,B8 k),(15,.s (.one (.ref 15 0)))],[(15,.box [.p (.v (.int .i64 f)),.p (.v (.int .i64 g))]),(11,.spare (o1++((list.drop j).take t).map fun v=>(⟨v,I0 p⟩:Merged)).length 2 151)]))
       (fun t=>t≤g - j) (fun t=>g - j - t) 0 (Nat.zero_le _) (by rw [List.take_zero,J09,I97];exact I45 ⟨le1 rfl,le1 rfl,le1 rfl,le1 rfl,le1 rfl,le1 rfl,le1 rfl,le1 rfl,le1 rfl,trivial⟩ ⟨rfl,rfl,trivial⟩) ?_
      intro t htl
      dsimp only at htl ⊢
      have hb2:(o1++((list.drop j).take t).map fun v=>(⟨v,I0 p⟩:Merged)).length≤i+j+(f - i)+t:=by simp;omega
      refine k2 (k2 ?_)
      refine A3 (A2 (A4 Z Z) Z (A2 (A7 Z) Z (A2 (A8 Z Z Z) Z (A2 (D7 Z Z) Z (A6 ?_)))))
      refine k1 ?_
      refine B3 rfl (fun ht=>?_) (fun ht=>?_)
      ·have hlt:j+t < g:=by have:=A0 ht;omega
       have hv:list[j+t]?=some (list[j+t]'(by omega)):=I80 (by omega)
       refine k5 (k1 (k3 (k2 ?_)))
       refine A3 (A2 (A4 Z Z) Z (A2 (A4 Z Z) Z (A2 (A4 Z Z) Z (A2 (B0 Z (.pure _ _ _ _) Z (by omega) hv) Z (A2 (B2 Z Z) Z (A2 (A4 Z Z) Z (A2 (N0 Z) Z (A2 (E32 Z Z (by omega)) Z (A2 (F3 Z) Z (A2 (C4 (c:=mergedC) (ys:=[⟨_,_⟩]) (D5 Z Z Z Z E7) Z Z Z) Z (B9 (F0 Z Z Z (.pure _ _ _ _) (by (simp only [I79,I81];omega)) Z) Z (A2 (A5 Z Z) Z (A6 ?_)))))))))))))
       refine k1 ?_
       refine A3 (A2 (A4 Z Z) Z (A2 (C0 Z Z (by omega)) Z (A2 (A5 Z Z) Z (A6 ?_))))
       refine k4 (k1 ?_)
       refine ⟨t+1,by omega,by omega,?_⟩
       rw [z7 list j t (by omega),I92,←I88]
       simp only [I89,J09]
       exact I45 ⟨le1 rfl,le1 rfl,le1 rfl,le1 rfl,le1 rfl,le1 rfl,le1 rfl,le1 rfl,le1 rfl,trivial⟩ ⟨rfl,rfl,trivial⟩
      ·have hte:j+t=g:=by have:=A1 ht;omega
       rw [hte]
       rw [show t=g - j by omega]
       rw [show t=g - j by omega] at hb2
       obtain ⟨o2,ho2⟩:∃o2,o2=o1++((list.drop j).take (g - j)).map fun v=>(⟨v,I0 p⟩:Merged):=⟨_,rfl⟩
       rw [←ho2] at hb2 ⊢
       have hout:out++Q4 l list (I0 p) i j (ps.drop k)=o2++(if k < ps.length then (l[f]?.map fun y=>(⟨y.Line,K4 y.Parents (I0 p)⟩:Merged)).toList++Q4 l list (I0 p) (f+1) (g+1) (ps.drop (k+1)) else []):=by
        rw [hjg,ho2,ho1];simp only [I88]
       rw [hout] at hp
       refine k6 (k2 ?_)
       refine A3 (A2 (A4 Z Z) Z (A2 (A4 Z Z) Z (A2 (D4 Z (.pure _ _ _ _)) Z (A2 (D7 Z Z) Z (A6 ?_)))))
       refine k1 ?_
       refine B3 rfl (fun ht=>?_) (fun ht=>?_)
       ·have hlt:k < ps.length:=by have:=A0 ht;omega
        obtain ⟨hf1,hg1,hasc'⟩:=hx5 hlt
        have hfl:f < l.length:=by omega
        have hv:l[f]?=some l[f]:=I80 hfl
        rw [if_pos hlt,hv] at hp
        refine k2 ?_
        refine D2 (by kernel_rfl) (by kernel_rfl) (A9 (A4 Z Z) Z Z (A9 (A4 Z Z) Z Z (A9 (A4 Z Z) Z Z (A9 (B0 Z (.pure _ _ _ _) Z (by omega) hv) Z Z (A9 (D8 Z) Z Z (A9 (B2 Z Z) Z Z (A9 (A4 Z Z) Z Z (A9 (A4 Z Z) Z Z (A9 (B0 Z (.pure _ _ _ _) Z (by omega) hv) Z Z (A9 (D8 Z) Z Z (A9 (B2 Z Z) Z Z (A9 (A4 Z Z) Z Z (A9 (N0 Z) Z Z (A9 (E32 Z Z (by omega)) Z Z (A9 (U9 Z Z Z (fun _=>rfl)) Z Z (A9 (F3 Z) Z Z (A9 (C4 (c:=mergedC) (ys:=[⟨l[f].Line,K4 l[f].Parents (I0 p)⟩]) (D5 Z Z Z Z E7) Z Z Z) Z Z (B75 (F0 Z Z Z (.pure _ _ _ _) (by (simp only [I79,I81];omega)) Z) Z Z (A9 (A5 Z Z) Z Z (K7 ?_))))))))))))))))))))
        refine k1 ?_
        refine A3 (A2 (A4 Z Z) Z (A2 (C0 Z Z (by omega)) Z (A2 (A4 Z Z) Z (A2 (C0 Z Z (by omega)) Z (A2 (A5 Z Z) Z (A2 (A5 Z Z) Z (A6 ?_)))))))
        refine k4 (k1 ?_)
        refine A3 (A2 (A4 Z Z) Z (A2 (C0 Z Z (by omega)) Z (A2 (A5 Z Z) Z (A6 ?_))))
        refine k1 ?_
        refine ⟨(k+1,f+1,g+1,o2++[⟨l[f].Line,K4 l[f].Parents (I0 p)⟩]),⟨by dsimp only;omega,by dsimp only;simp only [I78,I79,I81];omega,by dsimp only;omega,by dsimp only;omega,fun _=>⟨hasc',?_⟩,fun h=>?_⟩,by dsimp only;omega,I45 ⟨le1 rfl,le1 rfl,le1 rfl,le1 rfl,le1 rfl,le1 rfl,le1 rfl,le1 rfl,trivial⟩ ⟨rfl,trivial⟩⟩
        ·rw [←hp];simp
        ·dsimp only at h ⊢
         omega
       ·have hlt:¬k < ps.length:=by have:=A1 ht;omega
        rw [if_neg hlt,I97] at hp
        refine k5 (k4 (k1 ?_))
        refine A3 (A2 (A4 Z Z) Z (A2 (C0 Z Z (by omega)) Z (A2 (A5 Z Z) Z (A6 ?_))))
        refine k1 ?_
        exact ⟨(k+1,f,g,o2),⟨by dsimp only;omega,by dsimp only;omega,by dsimp only;omega,by dsimp only;omega,fun h=>by dsimp only at h;omega,fun _=>hp⟩,by dsimp only;omega,I45 ⟨le1 rfl,le1 rfl,le1 rfl,le1 rfl,le1 rfl,le1 rfl,le1 rfl,le1 rfl,trivial⟩ ⟨rfl,trivial⟩⟩
   ·have hk':k=ps.length+1:=by have:=A1 ht;omega
    refine k6 (k2 ?_)
    refine A3 (A2 (A4 Z Z) Z (A2 (A5 Z Z) Z (A2 (A5 Z Z) Z (A6 ?_))))
    refine k1 (k10 ?_)
    exact B5 (d7 rfl rfl rfl rfl rfl) (by rw [h2 hk',hps];rfl)
theorem E15 (l:List Merged) (list:List Int) (p:Int) (h1:l.length≤4096) (h2:list.length≤4096):(U2 l list p).length≤536870912:=by
 have h3:=B70 l list (I0 p) (F6 0 0 (F7 l) list) 0 0
 have h4:=T8 0 0 (F7 l) list
 have h5:(F7 l).length=l.length:=by simp [F7]
 unfold U2
 have h6:l.length*((F6 0 0 (F7 l) list).length+1)≤4096*4097:=Nat.mul_le_mul h1 (by omega)
 have h7:list.length*((F6 0 0 (F7 l) list).length+1)≤4096*4097:=Nat.mul_le_mul h2 (by omega)
 omega
theorem F66 (ls:List (List Int)):FnOk Tryz.prog 104 [pIntss ls] (fun rs=>rs=[pMerged (F2 ls).1,G1 (F2 ls).2]):=by
 refine FnOk.intro Tryz.func104 (by decide) Z Z Z Z ?_
 refine k2 ?_
 refine A3 (A2 (A5 Z Z) Z (A2 (A5 Z Z) Z (A6 ?_)))
 refine k1 (k2 (k2 ?_))
 refine A3 (A2 (A4 Z Z) Z (A2 (D4 Z (.pure _ _ _ _)) Z (A2 (M4 Z Z) Z (A6 ?_))))
 refine k1 ?_
 refine B3 rfl (fun ht=>?_) (fun ht=>?_)
 ·have h:=A0 ht
  refine k2 ?_
  refine A3 (A2 (J1 _ 2 mergedC) Z (A2 (A5 Z Z) Z (A6 ?_)))
  refine k1 (k10 (k11 ?_))
  exact B5 (d7 rfl rfl rfl rfl rfl) (by rw [F2,if_pos (by omega)])
 ·have h:=A1 ht
  have hco:F2 ls=J3 [] 0 ls:=by rw [F2,if_neg (by omega)]
  rw [hco]
  refine k5 (k1 (k2 ?_))
  refine A3 (A2 (J1 _ 2 mergedC) Z (A6 ?_))
  refine k1 (k2 (k2 ?_))
  refine A3 (A2 (A5 Z Z) Z (A6 ?_))
  refine k1 (k3 ?_)
  refine C9 (X:=Nat × List Merged) (fun x=>([(0,C1 (List Int) 1 intsC ls),(4,C1 Merged 2 mergedC x.2),(5,B8 x.1)],[])) (fun x=>x.1≤ls.length∧x.2.length≤536870912∧J3 [] 0 ls=J3 x.2 x.1 (ls.drop x.1)) (fun x=>ls.length - x.1) (0,[]) (by simp) (I45 ⟨le1 rfl,le1 rfl,le1 rfl,trivial⟩ trivial) ?_
  rintro ⟨k,acc⟩ ⟨hk,hacc,hp⟩
  dsimp only at hk hacc hp ⊢
  refine k2 (k2 ?_)
  refine A3 (A2 (A4 Z Z) Z (A2 (A4 Z Z) Z (A2 (D4 Z (.pure _ _ _ _)) Z (A2 (D7 Z Z) Z (A6 ?_)))))
  refine k1 ?_
  refine B3 rfl (fun ht=>?_) (fun ht=>?_)
  ·have hlt:k < ls.length:=by have:=A0 ht;omega
   have hv:ls[k]?=some ls[k]:=by simp [hlt]
   rw [I84 hlt,J3] at hp
   by_cases hbig:4096 < acc.length∨4096 < ls[k].length
   ·rw [if_pos hbig] at hp
    refine k5 (k1 (k2 (k3 (k2 ?_))))
    refine A3 (A2 (A4 Z Z) Z (A2 (A4 Z Z) Z (A2 (A4 Z Z) Z (A2 (B0 Z (.pure _ _ _ _) Z (by omega) hv) Z (A2 (B2 Z Z) Z (A2 (A4 Z Z) Z (C2 ((E49 acc ls[k] k hacc).mono (post':=fun rs=>rs=[pMerged [],G1 1]) (fun rs h=>by rw [if_pos hbig] at h;exact h)) Z Z Z ?_)))))));rintro _ rfl;refine A2 (A4 Z Z) Z (A2 (C5 Z Z) Z (A2 (C5 Z Z) Z (A2 (A5 Z Z) Z (A2 (A5 Z Z) Z (A6 ?_)))))
    refine k1 (k2 (k2 ?_))
    refine A3 (A2 (A4 Z Z) Z (A2 (M5 Z Z) Z (A6 ?_)))
    refine k1 ?_
    refine B3 rfl (fun ht=>?_) (fun ht=>?_)
    ·refine k2 ?_
     refine A3 (A2 (A4 Z Z) Z (A2 (J1 _ 2 mergedC) Z (A2 (A5 Z Z) Z (A6 ?_))))
     refine k1 (k10 (k11 (k12 (k11 (k11 (k12 (k11 ?_)))))))
     exact B5 (d7 rfl rfl rfl rfl rfl) (by rw [hp])
    ·cases A1 ht (by decide)
   ·rw [if_neg hbig] at hp
    have hjl:=E15 acc ls[k] k (by omega) (by omega)
    refine k5 (k1 (k2 (k3 (k2 ?_))))
    refine A3 (A2 (A4 Z Z) Z (A2 (A4 Z Z) Z (A2 (A4 Z Z) Z (A2 (B0 Z (.pure _ _ _ _) Z (by omega) hv) Z (A2 (B2 Z Z) Z (A2 (A4 Z Z) Z (C2 ((E49 acc ls[k] k hacc).mono (post':=fun rs=>rs=[pMerged (U2 acc ls[k] k),G1 0]) (fun rs h=>by rw [if_neg hbig] at h;exact h)) Z Z Z ?_)))))));rintro _ rfl;refine A2 (A4 Z Z) Z (A2 (C5 Z Z) Z (A2 (C5 Z Z) Z (A2 (A5 Z Z) Z (A2 (A5 Z Z) Z (A6 ?_)))))
    refine k1 (k2 (k2 ?_))
    refine A3 (A2 (A4 Z Z) Z (A2 (M5 Z Z) Z (A6 ?_)))
    refine k1 ?_
    refine B3 rfl (fun ht=>?_) (fun ht=>?_)
    ·cases A0 ht rfl
    ·refine k5 (k1 ?_)
     refine A3 (A2 (A4 Z Z) Z (A2 (A5 Z Z) Z (A6 ?_)))
     refine k4 (k1 ?_)
     refine A3 (A2 (A4 Z Z) Z (A2 (C0 Z Z (by omega)) Z (A2 (A5 Z Z) Z (A6 ?_))))
     refine k1 ?_
     exact ⟨(k+1,U2 acc ls[k] k),⟨by dsimp only;omega,hjl,hp⟩,by dsimp only;omega,I45 ⟨le1 rfl,le1 rfl,le1 rfl,trivial⟩ trivial⟩
  ·have hk':k=ls.length:=by have:=A1 ht;omega
   rw [hk',I87 (Nat.le_refl _)] at hp
   refine k6 (k2 ?_)
   refine A3 (A2 (A4 Z Z) Z (A2 (A5 Z Z) Z (A2 (A5 Z Z) Z (A6 ?_))))
   refine k1 (k10 ?_)
   exact B5 (d7 rfl rfl rfl rfl rfl) (by rw [hp];rfl)
theorem u64_in {n:Int} (h:0≤n∧n < 18446744073709551616):IntKind.u64.wrap n=n:=by simp [IntKind.wrap,IntKind.signed,IntKind.bits];omega
def Q5 (a n:Int):Int:=IntKind.u64.wrap a % n
theorem j7 (a:Int) {n:Int} (h:1≤n):0≤Q5 a n∧Q5 a n < n:=⟨Int.emod_nonneg _ (by omega),Int.emod_lt_of_pos _ (by omega)⟩
theorem C48 (a n:Int) (hn:1≤n) (hn':n≤9223372036854775807):FnOk Tryz.prog 18 [G1 a,G1 n] (fun rs=>rs=[G1 (Q5 a n)]):=by
 refine FnOk.intro Tryz.func18 (by decide) Z Z Z Z ?_
 refine k2 ?_
 refine A3 (A2 (A5 Z Z) Z (A6 ?_))
 refine k1 (k2 ?_)
 have h1:IntKind.u64.wrap n=n:=u64_in (by omega)
 refine A3 (A2 (A4 Z Z) Z (A2 (N0 Z) Z (A2 (A4 Z Z) Z (A2 (N0 Z) Z (A2 (B07 Z Z (by (rw [h1];omega))) Z ?_)))));refine A2 (N0 Z) Z (A2 (A5 Z Z) Z (A6 ?_))
 refine k1 (k10 ?_)
 refine B5 (F1 Z Z Z) ?_
 have h2:=B81 a
 have h3:(IntKind.u64.wrap a).tmod n=IntKind.u64.wrap a % n:=Int.tmod_eq_emod_of_nonneg h2
 have h4:=j7 a hn
 unfold Q5 at *
 rw [h1,h3,C70 ⟨by omega,by omega⟩]
def xor64 (a b:Int):Int:=IntKind.u64.wrap ((BitVec.ofInt IntKind.u64.bits a ^^^ BitVec.ofInt IntKind.u64.bits b).toNat:Int)
def shr64 (a n:Int):Int:=a.fdiv (2 ^ (min n.toNat IntKind.u64.bits))
def at0 (k:Int):Int:=IntKind.u64.wrap (IntKind.u64.wrap (k+1)*11400714819323198485)
def at1 (raw:List Int) (k:Int):Int:=if 0 < raw.length then xor64 (at0 k) (IntKind.u64.wrap (raw.getD (k.tmod raw.length).toNat 0)) else at0 k
def at2 (x:Int):Int:=IntKind.u64.wrap (xor64 x (shr64 x 31)*13787848793156543929)
def j8 (raw:List Int) (k:Int):Int:=IntKind.i64.wrap (shr64 (xor64 (at2 (at1 raw k)) (shr64 (at2 (at1 raw k)) 29)) 1)
theorem E50 (raw:List Int) (k:Int) (h0:0≤k) (h1:k≤1099511627776):FnOk Tryz.prog 25 [N5 raw,G1 k] (fun rs=>rs=[G1 (j8 raw k)]):=by
 refine FnOk.intro Tryz.func25 (by decide) Z Z Z Z ?_
 refine A07 (t:=0) rfl (.pure _ _ _ _) fun hlen=>?_
 refine k2 ?_
 refine A3 (A2 (A5 Z Z) Z (A6 ?_))
 refine k1 (k2 ?_)
 refine A3 (A2 (A4 Z Z) Z (A2 (C0 Z Z (by omega)) Z (A2 (N0 Z) Z (A2 (E86 Z Z) Z (A2 (A5 Z Z) Z (A6 ?_))))))
 refine J7 ?_
 refine n4 [(0,C1 Int 1 F9 raw),(1,B8 k),(5,I9 (.int .u64 (at1 raw k)))] [] ?_ ?_
 ·refine k2 ?_
  refine A3 (A2 (A4 Z Z) Z (A2 (D4 Z (.pure _ _ _ _)) Z (A2 (M4 Z Z) Z (A6 ?_))))
  refine k1 ?_
  refine B3 rfl (fun ht=>?_) (fun ht=>?_)
  ·have hpos:0 < raw.length:=by have:=A0 ht;omega
   have hm0:0≤k.tmod raw.length:=Int.tmod_nonneg _ h0
   have hm1:k.tmod raw.length < raw.length:=Int.tmod_lt_of_pos _ (by omega)
   have hv:raw[(k.tmod raw.length).toNat]?=some (raw.getD (k.tmod raw.length).toNat 0):=by
    rw [I82,I80 (by omega)];rfl
   skip
   refine A3 (A2 (A4 Z Z) Z (A2 (A4 Z Z) Z (A2 (A4 Z Z) Z (A2 (A4 Z Z) Z (A2 (D4 Z (.pure _ _ _ _)) Z (A2 (B07 Z Z (by omega)) Z (A2 (B0 Z (.pure _ _ _ _) Z (by omega) hv) Z (A2 (B2 Z Z) Z (A2 (N0 Z) Z (A2 (U9 Z Z Z (fun _=>rfl)) Z (A2 (A5 Z Z) Z (A6 ?_))))))))))))
   refine k1 ?_
   rw [at1,if_pos hpos]
   exact I45 ⟨le1 rfl,le1 rfl,le1 rfl,trivial⟩ trivial
  ·have hpos:¬0 < raw.length:=by have:=A1 ht;omega
   refine k5 (k1 ?_)
   rw [at1,if_neg hpos]
   exact I45 ⟨le1 rfl,le1 rfl,le1 rfl,trivial⟩ trivial
 ·refine k2 ?_
  refine A3 (A2 (A4 Z Z) Z (A2 (A4 Z Z) Z (A2 (A04 Z Z (by omega)) Z (A2 (U9 Z Z Z (fun _=>rfl)) Z (A2 (E86 Z Z) Z (A2 (A5 Z Z) Z (A6 ?_)))))))
  refine k1 (k2 ?_)
  refine A3 (A2 (A4 Z Z) Z (A2 (A4 Z Z) Z (A2 (A04 Z Z (by omega)) Z (A2 (U9 Z Z Z (fun _=>rfl)) Z (A2 (A04 Z Z (by omega)) Z (A2 (N0 Z) Z (A2 (A5 Z Z) Z (A6 ?_))))))))
  refine k1 (k10 ?_)
  exact B5 (F1 rfl rfl rfl) rfl
def lineTab:List Str:=[[97],[98],[99],[97,98],[98,97],[],[97,97],[98,32,97],[120,43,121],[92]]
def n5 (k:Int):Str:=lineTab.getD (Q5 k 10).toNat []
theorem F67:∀s∈lineTab,s.length≤3:=by decide
theorem A60 (k:Int):(n5 k).length≤3:=by
 unfold n5
 rw [I82]
 cases h:lineTab[(Q5 k 10).toNat]? with
 | none=>simp
 | some s=>exact F67 s (I98 h)
theorem F68 (k:Int):FnOk Tryz.prog 24 [G1 k] (fun rs=>rs=[L5 (n5 k)]):=by
 refine FnOk.intro Tryz.func24 (by decide) Z Z Z Z ?_
 refine k2 ?_
 refine A3 (A2 (A5 Z Z) Z (A6 ?_))
 refine k1 (k2 ?_)
 have hm:=j7 k (n:=10) (by decide)
 have hv:lineTab[(Q5 k 10).toNat]?=some (n5 k):=by
  unfold n5
  rw [I82,I80 (show (Q5 k 10).toNat < lineTab.length by simp [lineTab];omega)];rfl
 refine A3 (A2 (C4 (c:=K6) (ys:=lineTab) (D5 Z Z Z Z (D5 Z Z Z Z (D5 Z Z Z Z (D5 Z Z Z Z (D5 Z Z Z Z (D5 Z Z Z Z (D5 Z Z Z Z (D5 Z Z Z Z (D5 Z Z Z Z (D5 Z Z Z Z E7)))))))))) Z Z Z) Z (A2 (A4 Z Z) Z (C2 (C48 k 10 (by decide) (by decide)) Z Z Z ?_)));rintro _ rfl;refine A2 (B0 Z (.pure _ _ _ _) Z (by omega) hv) Z (A2 (B2 Z Z) Z (A2 (A5 Z Z) Z (A6 ?_)))
 refine k1 (k10 ?_)
 exact B5 (F1 rfl rfl rfl) rfl
theorem ids_ok (fs:List (List Str)) (hfs:fs.flatten.length≤536870912) (hf1:fs.length≤536870912):FnOk Tryz.prog 101 [pStrss fs] (fun rs=>rs=[pIntss (fs.map (L3 (E2 fs)))]):=by
 refine FnOk.intro Tryz.func101 (by decide) Z Z Z Z ?_
 refine k2 ?_
 refine A3 (A2 (A5 Z Z) Z (A6 ?_))
 refine k1 (k2 ?_)
 refine A3 (A2 (A4 Z Z) Z (C2 (F65 fs hfs) Z Z Z ?_));rintro _ rfl;refine A2 (A5 Z Z) Z (A6 ?_)
 refine k1 (k2 ?_)
 refine A3 (B9 (Q0 4 _ intsC Z) Z (A6 ?_))
 refine k1 (k2 (k2 ?_))
 refine A3 (A2 (A5 Z Z) Z (A6 ?_))
 refine k1 (k3 ?_)
 refine C9 (X:=Nat) (fun f=>([(0,C1 (List Str) 1 strsC fs),(3,C1 Str 1 K6 (E2 fs)),(4,.s (.one (.buf 4 (List Int) 1 intsC ((fs.take f).map (L3 (E2 fs)))))),(5,B8 f)],[(4,.spare ((fs.take f).map (L3 (E2 fs))).length 1 25)])) (fun f=>f≤fs.length) (fun f=>fs.length - f) 0 (by simp) (I45 ⟨le1 rfl,le1 rfl,le1 rfl,le1 rfl,trivial⟩ ⟨rfl,trivial⟩) ?_
 intro f hf
 dsimp only at hf ⊢
 refine k2 (k2 ?_)
 refine A3 (A2 (A4 Z Z) Z (A2 (A4 Z Z) Z (A2 (D4 Z (.pure _ _ _ _)) Z (A2 (D7 Z Z) Z (A6 ?_)))))
 refine k1 ?_
 have hfl:((fs.take f).map (L3 (E2 fs))).length=f:=by simp;omega
 refine B3 rfl (fun ht=>?_) (fun ht=>?_)
 ·have hlt:f < fs.length:=by have:=A0 ht;omega
  have hv:fs[f]?=some fs[f]:=by simp [hlt]
  have hle:=V5 fs (f+1)
  rw [T3 fs f hlt,I78] at hle
  refine k5 (k1 (k2 (k3 (k2 ?_))))
  refine A3 (B9 (A54 16 (c:=F9) (ys:=[]) E7 Z Z Z (by first | rfl | (simp [H0,H3,Ob.free,SV.free,S1.free,TC.free]<;>rfl))) Z ?_);refine A2 (A5 Z Z) Z (A6 ?_)
  refine k1 (k2 (k2 ?_))
  refine A3 (A2 (A5 Z Z) Z (A6 ?_))
  refine k1 (k3 ?_)
  refine C9 (X:=Nat) (fun i=>([(0,C1 (List Str) 1 strsC fs),(3,C1 Str 1 K6 (E2 fs)),(4,.s (.one (.buf 4 (List Int) 1 intsC ((fs.take f).map (L3 (E2 fs)))))),(5,B8 f),(6,.s (.one (.buf 16 Int 1 F9 (L3 (E2 fs) (fs[f].take i))))),(7,B8 i)],[(4,.spare ((fs.take f).map (L3 (E2 fs))).length 1 25),(16,.spare (L3 (E2 fs) (fs[f].take i)).length 1 3)])) (fun i=>i≤fs[f].length) (fun i=>fs[f].length - i) 0 (by simp) (I45 ⟨le1 rfl,le1 rfl,le1 rfl,le1 rfl,le1 rfl,le1 rfl,trivial⟩ ⟨rfl,rfl,trivial⟩) ?_
  intro i hi
  dsimp only at hi ⊢
  have hil:(L3 (E2 fs) (fs[f].take i)).length=i:=by simp [L3];omega
  refine k2 (k2 ?_)
  refine A3 (A2 (A4 Z Z) Z (A2 (A4 Z Z) Z (A2 (A4 Z Z) Z (A2 (B0 Z (.pure _ _ _ _) Z (by omega) hv) Z (A2 (B2 Z Z) Z (A2 (D4 Z (.pure _ _ _ _)) Z (A2 (D7 Z Z) Z (A6 ?_))))))))
  refine k1 ?_
  refine B3 rfl (fun ht=>?_) (fun ht=>?_)
  ·have hlt2:i < fs[f].length:=by have:=A0 ht;omega
   have hvi:fs[f][i]?=some fs[f][i]:=by simp [hlt2]
   have hst:L3 (E2 fs) (fs[f].take (i+1))=L3 (E2 fs) (fs[f].take i)++[I1 (E2 fs) fs[f][i] 0]:=by
    unfold L3;rw [List.take_add_one,hvi,Option.toList_some,I92];rfl
   refine k5 (k1 (k2 (k3 ?_)))
   refine A3 (A2 (A4 Z Z) Z (A2 (A4 Z Z) Z (A2 (A4 Z Z) Z (A2 (A4 Z Z) Z (A2 (B0 Z (.pure _ _ _ _) Z (by omega) hv) Z (A2 (B2 Z Z) Z (A2 (A4 Z Z) Z (A2 (B0 Z (.pure _ _ _ _) Z (by omega) hvi) Z (A2 (B2 Z Z) Z (C2 (F64 _ _) Z Z Z ?_))))))))));rintro _ rfl;refine A2 (C4 (c:=F9) (ys:=[_]) (D5 Z Z Z Z E7) Z Z Z) Z (B9 (F0 Z Z Z (.pure _ _ _ _) (by (simp only [I79,I81];omega)) Z) Z (A2 (A5 Z Z) Z (A6 ?_)))
   refine k4 (k1 ?_)
   refine A3 (A2 (A4 Z Z) Z (A2 (C0 Z Z (by omega)) Z (A2 (A5 Z Z) Z (A6 ?_))))
   refine k1 ?_
   refine ⟨i+1,by omega,by omega,?_⟩
   rw [hst]
   exact I45 ⟨le1 rfl,le1 rfl,le1 rfl,le1 rfl,le1 rfl,le1 rfl,trivial⟩ ⟨rfl,rfl,trivial⟩
  ·have hi':i=fs[f].length:=by have:=A1 ht;omega
   have hst:(fs.take (f+1)).map (L3 (E2 fs))=(fs.take f).map (L3 (E2 fs))++[L3 (E2 fs) (fs[f].take i)]:=by
    rw [List.take_add_one,hv,Option.toList_some,I92,hi',I94];rfl
   refine k6 (k7 (k7 (k8 Z (k1 ?_))))
   refine A3 (A2 (A4 Z Z) Z (A2 (A4 Z Z) Z (A2 (C4 (c:=intsC) (ys:=[_]) (D5 Z Z Z Z E7) Z Z Z) Z (B9 (F0 Z Z Z (.pure _ _ _ _) (by (simp only [I79,I81];omega)) Z) Z (A2 (A5 Z Z) Z (A6 ?_))))))
   refine k4 (k1 ?_)
   refine A3 (A2 (A4 Z Z) Z (A2 (C0 Z Z (by omega)) Z (A2 (A5 Z Z) Z (A6 ?_))))
   refine k1 ?_
   refine ⟨f+1,by omega,by omega,?_⟩
   rw [hst]
   exact I45 ⟨le1 rfl,le1 rfl,le1 rfl,le1 rfl,trivial⟩ ⟨rfl,trivial⟩
 ·have hk':f=fs.length:=by have:=A1 ht;omega
  subst hk'
  refine k6 (k2 ?_)
  refine A3 (A2 (A4 Z Z) Z (A2 (A5 Z Z) Z (A6 ?_)))
  refine k1 (k10 ?_)
  exact B5 (F1 rfl rfl rfl) (by rw [I94])
def S5 (raw:List Int) (from':Int) (kinds:Int) (m:Nat):Str:=((List.range m).map fun (i:Nat)=>n5 (Q5 (j8 raw (from'+1+(i:Int))) kinds)++[10]).flatten
def W2 (raw:List Int) (from' n kinds:Int):Str :=
 let s:=S5 raw from' kinds (Q5 (j8 raw from') (n+1)).toNat
 if ((j8 raw (from'+90)).tmod 4=0∧(1:Int) < s.length)∧((s.getD (s.length - 2) 0).toNat:Int)≠10 then s.take (s.length - 1) else s
theorem y4 (raw:List Int) (from' kinds:Int) (m:Nat):S5 raw from' kinds (m+1)=S5 raw from' kinds m++n5 (Q5 (j8 raw (from'+1+(m:Int))) kinds)++[10]:=by
 unfold S5;rw [J15,I92,J04];simp
theorem B66 (raw:List Int) (from' kinds:Int) (m:Nat):(S5 raw from' kinds m).length≤4*m:=by
 induction m with
 | zero=>simp [S5]
 | succ m ih=>have:=A60 (Q5 (j8 raw (from'+1+(m:Int))) kinds);rw [y4];simp only [I78,I79,I81];omega
theorem H05 (raw:List Int) (from' n kinds:Int) (h0:0≤from'∧from'≤1073741824) (h1:0≤n∧n≤1048576) (h2:1≤kinds∧kinds≤1048576) :
  FnOk Tryz.prog 64 [N5 raw,G1 from',G1 n,G1 kinds] (fun rs=>rs=[L5 (W2 raw from' n kinds)]):=by
 obtain ⟨m,hm⟩:∃m:Nat,Q5 (j8 raw from') (n+1)=m:=⟨(Q5 (j8 raw from') (n+1)).toNat,by have:=j7 (j8 raw from') (n:=n+1) (by omega);omega⟩
 have hmi:=j7 (j8 raw from') (n:=n+1) (by omega)
 have hml:m≤1048576:=by omega
 refine FnOk.intro Tryz.func64 (by decide) Z Z Z Z ?_
 refine k2 ?_
 refine A3 (A2 (A5 Z Z) Z (A6 ?_))
 refine k1 (k2 ?_)
 refine A3 (A2 (A4 Z Z) Z (A2 (A4 Z Z) Z (C2 (E50 raw from' (by omega) (by omega)) Z Z Z ?_)));rintro _ rfl;refine A2 (A4 Z Z) Z (A2 (C0 Z Z (by omega)) Z (C2 (C48 _ (n+1) (by omega) (by omega)) Z Z Z ?_));rintro _ rfl;refine A2 (A5 Z Z) Z (A6 ?_)
 refine k1 (k2 ?_)
 rw [hm]
 refine A3 (A2 (A5 Z Z) Z (A6 ?_))
 refine k1 (k2 (k2 ?_))
 refine A3 (A2 (A5 Z Z) Z (A6 ?_))
 refine k1 (k3 ?_)
 refine C9 (X:=Nat) (fun i=>([(0,C1 Int 1 F9 raw),(1,B8 from'),(2,B8 m),(3,B8 kinds),(9,S7 (S5 raw from' kinds i)),(10,B8 i)],[])) (fun i=>i≤m) (fun i=>m - i) 0 (Nat.zero_le _) (I45 ⟨le1 rfl,le1 rfl,le1 rfl,le1 rfl,le1 rfl,le1 rfl,trivial⟩ trivial) ?_
 intro i hi
 dsimp only at hi ⊢
 have hbl:=B66 raw from' kinds i
 refine k2 (k2 ?_)
 refine A3 (A2 (A4 Z Z) Z (A2 (A4 Z Z) Z (A2 (D7 Z Z) Z (A6 ?_))))
 refine k1 ?_
 refine B3 rfl (fun ht=>?_) (fun ht=>?_)
 ·have hlt:i < m:=by have:=A0 ht;omega
  have hll:=A60 (Q5 (j8 raw (from'+1+(i:Int))) kinds)
  refine k5 (k1 (k2 (k3 ?_)))
  refine A3 (A2 (A4 Z Z) Z (A2 (A4 Z Z) Z (A2 (A4 Z Z) Z (A2 (C0 Z Z (by omega)) Z (A2 (A4 Z Z) Z (A2 (C0 Z Z (by omega)) Z (C2 (E50 raw _ (by omega) (by omega)) Z Z Z ?_)))))));rintro _ rfl;refine A2 (A4 Z Z) Z (C2 (C48 _ kinds (by omega) (by omega)) Z Z Z ?_);rintro _ rfl;refine C2 (F68 _) Z Z Z ?_;rintro _ rfl;refine A2 (F4 Z Z (by omega)) Z (A2 (F4 Z Z (by (simp only [I78,I79,I81];omega))) Z (A2 (A5 Z Z) Z (A6 ?_)))
  refine k4 (k1 ?_)
  refine A3 (A2 (A4 Z Z) Z (A2 (C0 Z Z (by omega)) Z (A2 (A5 Z Z) Z (A6 ?_))))
  refine k1 ?_
  refine ⟨i+1,by omega,by omega,?_⟩
  rw [y4]
  exact I45 ⟨le1 rfl,le1 rfl,le1 rfl,le1 rfl,le1 rfl,le1 rfl,trivial⟩ trivial
 ·have hi':i=m:=by have:=A1 ht;omega
  subst hi'
  obtain ⟨s,hs⟩:∃s,s=S5 raw from' kinds i:=⟨_,rfl⟩
  have hv:(1:Int) < s.length→s[((s.length:Int) - 2).toNat]?=some (s.getD (s.length - 2) 0):=fun h=>by
   rw [show ((s.length:Int) - 2).toNat=s.length - 2 by omega,I82,I80 (by omega)];rfl
  have hbo:W2 raw from' n kinds=if ((j8 raw (from'+90)).tmod 4=0∧(1:Int) < s.length)∧((s.getD (s.length - 2) 0).toNat:Int)≠10 then s.take (s.length - 1) else s:=by
   simp only [W2,hm,I85,←hs]
  rw [←hs] at hbl
  refine k6 (k2 (k2 ?_))
  rw [←hs]
  refine A3 (A2 (A4 Z Z) Z (A2 (A4 Z Z) Z (A2 (C0 Z Z (by omega)) Z (C2 (E50 raw _ (by omega) (by omega)) Z Z Z ?_))));rintro _ rfl;refine A2 (B07 Z Z (by omega)) Z (A2 (J6 Z Z) Z (A2 (A4 Z Z) Z (B1 Z Z Z Z (fun hg=>by rw [hg];exact A4 Z Z) ?_)));refine B1 Z Z Z Z (fun hg=>by rw [hg];exact M1 Z) ?_;refine B1 Z Z Z Z (fun hg=>by rw [hg];exact M4 Z Z) ?_;refine A2 (B6 Z (fun h=>by first | rfl | (rw [h];rfl)) (fun h=>by first | rfl | (rw [h];rfl))) Z ?_;refine A2 (A4 Z Z) Z (B1 Z Z Z Z (fun hg=>by rw [hg];exact A4 Z Z) ?_);refine B1 Z Z Z Z (fun hg=>by rw [hg];exact A4 Z Z) ?_;refine B1 Z Z Z Z (fun hg=>by rw [hg];exact M1 Z) ?_;refine B1 Z Z Z Z (fun hg=>by have hq:=hg;(try simp at hq);rw [hg];exact P9 Z Z (by omega)) ?_;refine B1 Z Z Z Z (fun hg=>by have hq:=hg;(try simp at hq);rw [hg];exact c8 Z Z (by omega) (hv (by omega))) ?_;refine B1 Z Z Z Z (fun hg=>by rw [hg];exact M5 Z Z) ?_;refine A2 (B6 Z (fun h=>by first | rfl | (rw [h];rfl)) (fun h=>by first | rfl | (rw [h];rfl))) Z ?_;refine A6 ?_
  refine k1 ?_
  refine B3 rfl (fun ht=>?_) (fun ht=>?_)
  ·simp only [P4] at ht
   have h:=A0 ht
   skip
   refine A3 (A2 (A4 Z Z) Z (A2 (A4 Z Z) Z (A2 (M1 Z) Z (A2 (P9 Z Z (by omega)) Z (A2 (G96 Z Z (by omega) (by omega)) Z (A2 (A5 Z Z) Z (A6 ?_)))))))
   refine k1 (k2 ?_)
   refine A3 (A2 (A4 Z Z) Z (A2 (A5 Z Z) Z (A6 ?_)))
   refine k1 (k10 ?_)
   exact B5 (F1 rfl rfl rfl) (by rw [hbo,if_pos h,show ((s.length:Int) - 1).toNat=s.length - 1 by omega])
  ·simp only [P4] at ht
   have h:=A1 ht
   refine k5 (k1 (k2 ?_))
   refine A3 (A2 (A4 Z Z) Z (A2 (A5 Z Z) Z (A6 ?_)))
   refine k1 (k10 ?_)
   exact B5 (F1 rfl rfl rfl) (by rw [hbo,if_neg h])
theorem B82 (raw:List Int) (from' n kinds:Int) (h1:0≤n):((W2 raw from' n kinds).length:Int)≤4*n:=by
 have h:=j7 (j8 raw from') (n:=n+1) (by omega)
 have h2:=B66 raw from' kinds (Q5 (j8 raw from') (n+1)).toNat
 unfold W2
 simp only
 split
 ·simp only [I93];omega
 ·omega
def j9 (raw:List Int) (from':Int) (i:Nat) (s:Str):List Str→Str
 | []=>s
 | x::r=>if (j8 raw (from'+(i:Int))).tmod 6=0 then j9 raw from' (i+1) s r
  else if (j8 raw (from'+(i:Int))).tmod 6=1 then j9 raw from' (i+1) (s++n5 (j8 raw (from'+40+(i:Int)))++[10]++x) r
  else j9 raw from' (i+1) (s++x) r
def B83 (blob:Str) (raw:List Int) (from':Int):Str:=j9 raw from' 0 [] (C7 blob)
theorem A61 (raw:List Int) (from':Int):∀(l:List Str) (i:Nat) (s:Str),(j9 raw from' i s l).length≤s.length+l.flatten.length+4*l.length
 | [],i,s=>by simp [j9]
 | x::r,i,s=>by
  have h1:=A61 raw from' r (i+1) s
  have h2:=A61 raw from' r (i+1) (s++n5 (j8 raw (from'+40+(i:Int)))++[10]++x)
  have h3:=A61 raw from' r (i+1) (s++x)
  have h4:=A60 (j8 raw (from'+40+(i:Int)))
  simp only [I78,I79,I81,I96] at *
  unfold j9
  split
  ·omega
  ·split<;>omega
theorem C49 (s cur:Str):(I4 cur s).flatten=cur++s:=by
 induction s generalizing cur with
 | nil=>unfold I4;split<;>simp [*]
 | cons c r ih=>unfold I4;split<;>simp [ih]
theorem V4 (s:Str):(C7 s).flatten=s:=C49 s []
theorem near_ok (blob:Str) (raw:List Int) (from':Int) (hb:blob.length≤16777216) (h0:0≤from'∧from'≤1073741824) :
  FnOk Tryz.prog 26 [L5 blob,N5 raw,G1 from'] (fun rs=>rs=[L5 (B83 blob raw from')]):=by
 have hll:=R6 blob
 have hlf:=V4 blob
 have hlf':(C7 blob).flatten.length=blob.length:=by rw [hlf]
 refine FnOk.intro Tryz.func26 (by decide) Z Z Z Z ?_
 refine k2 ?_
 refine A3 (A2 (A5 Z Z) Z (A6 ?_))
 refine k1 (k2 ?_)
 refine A3 (A2 (A4 Z Z) Z (C2 (C15 blob (by omega)) Z Z Z ?_));rintro _ rfl;refine A2 (A5 Z Z) Z (A6 ?_)
 refine k1 (k2 ?_)
 obtain ⟨l,hl⟩:∃l,l=C7 blob:=⟨_,rfl⟩
 have hno:B83 blob raw from'=j9 raw from' 0 [] l:=by rw [B83,hl]
 rw [←hl] at hll hlf' ⊢
 refine A3 (A2 (A5 Z Z) Z (A6 ?_))
 refine k1 (k2 (k2 ?_))
 refine A3 (A2 (A5 Z Z) Z (A6 ?_))
 refine k1 (k3 ?_)
 refine C9 (X:=Nat × Str) (fun x=>([(1,C1 Int 1 F9 raw),(2,B8 from'),(7,C1 Str 1 K6 l),(8,S7 x.2),(9,B8 x.1)],[])) (fun x=>x.1≤l.length∧x.2.length≤(l.take x.1).flatten.length+4*x.1∧j9 raw from' x.1 x.2 (l.drop x.1)=j9 raw from' 0 [] l) (fun x=>l.length - x.1) (0,[]) (by simp) (I45 ⟨le1 rfl,le1 rfl,le1 rfl,le1 rfl,le1 rfl,trivial⟩ trivial) ?_
 rintro ⟨i,s⟩ ⟨hi,hs,hp⟩
 dsimp only at hi hs hp ⊢
 have hle:=V5 l i
 refine k2 (k2 ?_)
 refine A3 (A2 (A4 Z Z) Z (A2 (A4 Z Z) Z (A2 (D4 Z (.pure _ _ _ _)) Z (A2 (D7 Z Z) Z (A6 ?_)))))
 refine k1 ?_
 refine B3 rfl (fun ht=>?_) (fun ht=>?_)
 ·have hlt:i < l.length:=by have:=A0 ht;omega
  have hv:l[i]?=some l[i]:=by simp [hlt]
  have hle2:=V5 l (i+1)
  have hst:=T3 l i hlt
  rw [hst,I78] at hle2
  rw [I84 hlt,j9] at hp
  refine k5 (k1 (k2 (k3 (k2 (k2 ?_)))))
  refine A3 (A2 (A4 Z Z) Z (A2 (A4 Z Z) Z (A2 (A4 Z Z) Z (A2 (C0 Z Z (by omega)) Z (C2 (E50 raw _ (by omega) (by omega)) Z Z Z ?_)))));rintro _ rfl;refine A2 (B07 Z Z (by omega)) Z (A6 ?_)
  refine k1 (k3 (k2 ?_))
  refine A3 (A2 (J6 Z Z) Z (A2 (A5 Z Z) Z (A6 ?_)))
  refine k1 ?_
  refine B3 rfl (fun ht=>?_) (fun ht=>?_)
  ·rw [if_pos (A0 ht)] at hp
   refine k6 (k9 Z (k7 (k8 Z (k1 ?_))))
   refine A3 (A2 (A4 Z Z) Z (A2 (C0 Z Z (by omega)) Z (A2 (A5 Z Z) Z (A6 ?_))))
   refine k1 ?_
   exact ⟨(i+1,s),⟨by dsimp only;omega,by dsimp only;rw [hst,I78];omega,hp⟩,by dsimp only;omega,I45 ⟨le1 rfl,le1 rfl,le1 rfl,le1 rfl,le1 rfl,trivial⟩ trivial⟩
  ·rw [if_neg (A1 ht)] at hp
   refine k2 ?_
   refine A3 (A2 (J6 Z Z) Z (A2 (A5 Z Z) Z (A6 ?_)))
   refine k1 ?_
   refine B3 rfl (fun ht=>?_) (fun ht=>?_)
   ·rw [if_pos (A0 ht)] at hp
    have h4:=A60 (j8 raw (from'+40+(i:Int)))
    skip
    refine A3 (A2 (A4 Z Z) Z (A2 (A4 Z Z) Z (A2 (A4 Z Z) Z (A2 (C0 Z Z (by omega)) Z (A2 (A4 Z Z) Z (A2 (C0 Z Z (by omega)) Z (C2 (E50 raw _ (by omega) (by omega)) Z Z Z ?_)))))));rintro _ rfl;refine C2 (F68 _) Z Z Z ?_;rintro _ rfl;refine A2 (F4 Z Z (by omega)) Z (A2 (F4 Z Z (by (simp only [I78,I79,I81];omega))) Z (A2 (A5 Z Z) Z (A6 ?_)))
    refine k4 (k1 ?_)
    refine A3 (A2 (A4 Z Z) Z (A2 (A4 Z Z) Z (A2 (A4 Z Z) Z (A2 (B0 Z (.pure _ _ _ _) Z (by omega) hv) Z (A2 (B2 Z Z) Z (A2 (F4 Z Z (by (simp only [I78,I79,I81];omega))) Z (A2 (A5 Z Z) Z (A6 ?_))))))))
    refine k4 (k1 ?_)
    refine A3 (A2 (A4 Z Z) Z (A2 (C0 Z Z (by omega)) Z (A2 (A5 Z Z) Z (A6 ?_))))
    refine k1 ?_
    exact ⟨(i+1,s++n5 (j8 raw (from'+40+(i:Int)))++[10]++l[i]),⟨by dsimp only;omega,by dsimp only;rw [hst];simp only [I78,I79,I81];omega,hp⟩,by dsimp only;omega,I45 ⟨le1 rfl,le1 rfl,le1 rfl,le1 rfl,le1 rfl,trivial⟩ trivial⟩
   ·rw [if_neg (A1 ht)] at hp
    refine k5 (k4 (k1 ?_))
    refine A3 (A2 (A4 Z Z) Z (A2 (A4 Z Z) Z (A2 (A4 Z Z) Z (A2 (B0 Z (.pure _ _ _ _) Z (by omega) hv) Z (A2 (B2 Z Z) Z (A2 (F4 Z Z (by omega)) Z (A2 (A5 Z Z) Z (A6 ?_))))))))
    refine k4 (k1 ?_)
    refine A3 (A2 (A4 Z Z) Z (A2 (C0 Z Z (by omega)) Z (A2 (A5 Z Z) Z (A6 ?_))))
    refine k1 ?_
    exact ⟨(i+1,s++l[i]),⟨by dsimp only;omega,by dsimp only;rw [hst,I78,I78];omega,hp⟩,by dsimp only;omega,I45 ⟨le1 rfl,le1 rfl,le1 rfl,le1 rfl,le1 rfl,trivial⟩ trivial⟩
 ·have hi':i=l.length:=by have:=A1 ht;omega
  rw [hi',I87 (Nat.le_refl _)] at hp
  refine k6 (k2 ?_)
  refine A3 (A2 (A4 Z Z) Z (A2 (A5 Z Z) Z (A6 ?_)))
  refine k1 (k10 ?_)
  exact B5 (F1 rfl rfl rfl) (by rw [hno,←hp];rfl)
def n6 (raw:List Int) (lines:Int) (p:Nat):Str :=
 if (j8 raw (500+(p:Int))).tmod 5=0 then W2 raw (600+50*(p:Int)) lines 4 else if (j8 raw (500+(p:Int))).tmod 5=1 then W2 raw 0 lines 5 else B83 (W2 raw 0 lines 5) raw (600+50*(p:Int))
def X9 (raw:List Int) (n:Nat) (lines:Int):List Str:=(List.range n).map (n6 raw lines)
theorem D48 (raw:List Int) (lines:Int) (p:Nat) (h:0≤lines):((n6 raw lines p).length:Int)≤20*lines:=by
 have h1:=B82 raw (600+50*(p:Int)) lines 4 h
 have h2:=B82 raw 0 lines 5 h
 have h3:=A61 raw (600+50*(p:Int)) (C7 (W2 raw 0 lines 5)) 0 []
 have h4:=R6 (W2 raw 0 lines 5)
 rw [V4] at h3
 simp only [I81] at h3
 unfold n6 B83
 split
 ·omega
 ·split<;>omega
theorem I07 (raw:List Int) (n:Nat) (lines:Int) (h1:n≤1024) (h2:0≤lines∧lines≤524288):FnOk Tryz.prog 61 [N5 raw,G1 n,G1 lines] (fun rs=>rs=[j1 (X9 raw n lines)]):=by
 have hfl:=B82 raw 0 lines 5 h2.1
 refine FnOk.intro Tryz.func61 (by decide) Z Z Z Z ?_
 refine k2 ?_
 refine A3 (A2 (A5 Z Z) Z (A6 ?_))
 refine k1 (k2 ?_)
 refine A3 (A2 (A4 Z Z) Z (A2 (A4 Z Z) Z (C2 (H05 raw 0 lines 5 (by omega) (by omega) (by omega)) Z Z Z ?_)));rintro _ rfl;refine A2 (A5 Z Z) Z (A6 ?_)
 refine k1 (k2 ?_)
 refine A3 (B9 (A54 13 (c:=K6) (ys:=[]) E7 Z Z Z (by first | rfl | (simp [H0,H3,Ob.free,SV.free,S1.free,TC.free]<;>rfl))) Z ?_);refine A2 (A5 Z Z) Z (A6 ?_)
 refine k1 (k2 (k2 ?_))
 refine A3 (A2 (A5 Z Z) Z (A6 ?_))
 refine k1 (k3 ?_)
 refine C9 (X:=Nat) (fun p=>([(0,C1 Int 1 F9 raw),(1,B8 n),(2,B8 lines),(7,S7 (W2 raw 0 lines 5)),(8,.s (.one (.buf 13 Str 1 K6 (X9 raw p lines)))),(9,B8 p)],[(13,.spare (X9 raw p lines).length 1 9)])) (fun p=>p≤n) (fun p=>n - p) 0 (Nat.zero_le _) (I45 ⟨le1 rfl,le1 rfl,le1 rfl,le1 rfl,le1 rfl,le1 rfl,trivial⟩ ⟨rfl,trivial⟩) ?_
 intro p hp
 dsimp only at hp ⊢
 have hst:X9 raw (p+1) lines=X9 raw p lines++[n6 raw lines p]:=by unfold X9;rw [J15,I92];rfl
 have hbl:(X9 raw p lines).length=p:=by simp [X9]
 refine k2 (k2 ?_)
 refine A3 (A2 (A4 Z Z) Z (A2 (A4 Z Z) Z (A2 (D7 Z Z) Z (A6 ?_))))
 refine k1 ?_
 refine B3 rfl (fun ht=>?_) (fun ht=>?_)
 ·have hlt:p < n:=by have:=A0 ht;omega
  refine k5 (k1 (k2 (k3 (k2 ?_))))
  refine A3 (A2 (A4 Z Z) Z (A2 (A4 Z Z) Z (A2 (C0 Z Z (by omega)) Z (C2 (E50 raw _ (by omega) (by omega)) Z Z Z ?_))));rintro _ rfl;refine A2 (B07 Z Z (by omega)) Z (A6 ?_)
  refine k1 (k3 (k2 ?_))
  refine A3 (A2 (J6 Z Z) Z (A2 (A5 Z Z) Z (A6 ?_)))
  refine k1 ?_
  refine B3 rfl (fun ht=>?_) (fun ht=>?_)
  ·have hb:n6 raw lines p=W2 raw (600+50*(p:Int)) lines 4:=by rw [n6,if_pos (A0 ht)]
   skip
   refine A3 (A2 (A4 Z Z) Z (A2 (A4 Z Z) Z (A2 (A4 Z Z) Z (A2 (B96 Z Z (by omega)) Z (A2 (C0 Z Z (by omega)) Z (A2 (A4 Z Z) Z (C2 (H05 raw _ lines 4 (by omega) (by omega) (by omega)) Z Z Z ?_)))))));rintro _ rfl;refine A2 (C4 (c:=K6) (ys:=[_]) (D5 Z Z Z Z E7) Z Z Z) Z (B9 (F0 Z Z Z (.pure _ _ _ _) (by (simp only [I79,I81];omega)) Z) Z (A2 (A5 Z Z) Z (A6 ?_)))
   refine k4 (k4 (k1 ?_))
   refine A3 (A2 (A4 Z Z) Z (A2 (C0 Z Z (by omega)) Z (A2 (A5 Z Z) Z (A6 ?_))))
   refine k1 ?_
   refine ⟨p+1,by omega,by omega,?_⟩
   rw [hst,hb]
   exact I45 ⟨le1 rfl,le1 rfl,le1 rfl,le1 rfl,le1 rfl,le1 rfl,trivial⟩ ⟨rfl,trivial⟩
  ·have h5:=A1 ht
   refine k2 ?_
   refine A3 (A2 (J6 Z Z) Z (A2 (A5 Z Z) Z (A6 ?_)))
   refine k1 ?_
   refine B3 rfl (fun ht=>?_) (fun ht=>?_)
   ·have hb:n6 raw lines p=W2 raw 0 lines 5:=by rw [n6,if_neg h5,if_pos (A0 ht)]
    skip
    refine A3 (A2 (A4 Z Z) Z (A2 (A4 Z Z) Z (A2 (C4 (c:=K6) (ys:=[_]) (D5 Z Z Z Z E7) Z Z Z) Z (B9 (F0 Z Z Z (.pure _ _ _ _) (by (simp only [I79,I81];omega)) Z) Z (A2 (A5 Z Z) Z (A6 ?_))))))
    refine k4 (k4 (k1 ?_))
    refine A3 (A2 (A4 Z Z) Z (A2 (C0 Z Z (by omega)) Z (A2 (A5 Z Z) Z (A6 ?_))))
    refine k1 ?_
    refine ⟨p+1,by omega,by omega,?_⟩
    rw [hst,hb]
    exact I45 ⟨le1 rfl,le1 rfl,le1 rfl,le1 rfl,le1 rfl,le1 rfl,trivial⟩ ⟨rfl,trivial⟩
   ·have hb:n6 raw lines p=B83 (W2 raw 0 lines 5) raw (600+50*(p:Int)):=by rw [n6,if_neg h5,if_neg (A1 ht)]
    skip
    refine A3 (A2 (A4 Z Z) Z (A2 (A4 Z Z) Z (A2 (A4 Z Z) Z (A2 (A4 Z Z) Z (A2 (B96 Z Z (by omega)) Z (A2 (C0 Z Z (by omega)) Z (C2 (near_ok _ raw _ (by omega) (by omega)) Z Z Z ?_)))))));rintro _ rfl;refine A2 (C4 (c:=K6) (ys:=[_]) (D5 Z Z Z Z E7) Z Z Z) Z (B9 (F0 Z Z Z (.pure _ _ _ _) (by (simp only [I79,I81];omega)) Z) Z (A2 (A5 Z Z) Z (A6 ?_)))
    refine k4 (k4 (k1 ?_))
    refine A3 (A2 (A4 Z Z) Z (A2 (C0 Z Z (by omega)) Z (A2 (A5 Z Z) Z (A6 ?_))))
    refine k1 ?_
    refine ⟨p+1,by omega,by omega,?_⟩
    rw [hst,hb]
    exact I45 ⟨le1 rfl,le1 rfl,le1 rfl,le1 rfl,le1 rfl,le1 rfl,trivial⟩ ⟨rfl,trivial⟩
 ·have hp':p=n:=by have:=A1 ht;omega
  refine k6 (k2 ?_)
  refine A3 (A2 (A4 Z Z) Z (A2 (A5 Z Z) Z (A6 ?_)))
  refine k1 (k10 ?_)
  exact B5 (F1 rfl rfl rfl) (by rw [hp'])
theorem F01 (r:Row) (c:Int) (hr:0≤r.Marks∧r.Marks < 4294967296):FnOk Tryz.prog 50 [pRow r,G1 c] (fun rs=>rs=[I3 (X3 r c)]):=by
 refine FnOk.intro Tryz.func50 (by decide) Z Z Z Z ?_
 refine k2 ?_
 refine A3 (B9 (N7 2 Z Z Z) Z (A2 (A5 Z Z) Z (A6 ?_)))
 refine k1 (k2 (k3 (k2 ?_)))
 refine A3 (A2 (A4 Z Z) Z (A2 (J6 Z Z) Z (A2 (A5 Z Z) Z (A6 ?_))))
 refine k1 ?_
 refine B3 rfl (fun ht=>?_) (fun ht=>?_)
 ·have h:=A0 ht
  refine k2 ?_
  refine A3 (A2 (A7 Z) Z (A2 (A8 Z Z Z) Z (A2 (J2 Z) Z (A2 (A5 Z Z) Z (A6 ?_)))))
  refine k1 (k10 (k12 (k11 ?_)))
  exact B5 (F1 rfl rfl rfl) (by rw [X3,if_pos h])
 ·have h:=A1 ht
  refine k2 ?_
  refine A3 (A2 (A4 Z Z) Z (A2 (D7 Z Z) Z (A2 (A4 Z Z) Z (B1 Z Z Z Z (fun hg=>by rw [hg];exact A4 Z Z) ?_))));refine B1 Z Z Z Z (fun hg=>by rw [hg];exact A05 Z Z) ?_;refine A2 (B6 Z (fun h=>by first | rfl | (rw [h];rfl)) (fun h=>by first | rfl | (rw [h];rfl))) Z ?_;refine A2 (A5 Z Z) Z (A6 ?_)
  refine k1 ?_
  refine B3 rfl (fun ht=>?_) (fun ht=>?_)
  ·have h2:=A0 (or_pick.symm.trans ht)
   refine k2 ?_
   refine A3 (A2 (A5 Z Z) Z (A6 ?_))
   refine k1 (k10 (k12 (k11 ?_)))
   exact B5 (F1 rfl rfl rfl) (by rw [X3,if_neg h,if_pos h2])
  ·have h2:=A1 (or_pick.symm.trans ht)
   have hc:0≤c∧c < 32:=by omega
   refine k5 (k2 ?_)
   refine A3 (A2 (A7 Z) Z (A2 (A8 Z Z Z) Z (A2 (A4 Z Z) Z (A2 (N0 Z) Z (A2 (A04 Z Z (by (rw [A34 (by omega)];omega))) Z ?_)))));refine A2 (U9 Z Z Z (fun _=>rfl)) Z (A2 (J6 Z Z) Z (A2 (A7 Z) Z (A2 (A8 Z Z Z) Z (A2 (G95 Z Z TyBool.out) Z (A2 (A5 Z Z) Z (A6 ?_))))))
   refine k1 (k10 ?_)
   refine B5 (F1 Z Z Z) ?_
   have h3:0≤r.Marks / 2 ^ c.toNat:=Int.ediv_nonneg hr.1 (Int.pow_nonneg (by decide))
   have h4:r.Marks / 2 ^ c.toNat≤r.Marks:=Int.ediv_le_self _ hr.1
   rw [X3,if_neg h,if_neg h2,A34 (by omega),D71 r.Marks c (by omega),B27 _ (by omega)]
   rfl
theorem A14 (rows:List Row) (c:Int) (hr:H8 rows) (hl:rows.length≤536870911):FnOk Tryz.prog 145 [pRows rows,G1 c] (fun rs=>rs=[j1 (M8 rows c)]):=by
 refine FnOk.intro Tryz.func145 (by decide) Z Z Z Z ?_
 refine k2 ?_
 refine A3 (A2 (A5 Z Z) Z (A6 ?_))
 refine k1 (k2 ?_)
 refine A3 (B9 (Q0 5 _ K6 Z) Z (A6 ?_))
 refine k1 (k2 (k2 ?_))
 refine A3 (A2 (A5 Z Z) Z (A6 ?_))
 refine k1 (k3 ?_)
 refine C9 (X:=Nat) (fun i=>([(0,C1 Row 3 rowC rows),(1,B8 c),(5,.s (.one (.buf 5 Str 1 K6 (M8 (rows.take i) c)))),(6,B8 i)],[(5,.spare (M8 (rows.take i) c).length 1 9)])) (fun i=>i≤rows.length) (fun i=>rows.length - i) 0 (Nat.zero_le _) (I45 ⟨le1 rfl,le1 rfl,le1 rfl,le1 rfl,trivial⟩ ⟨rfl,trivial⟩) ?_
 intro i hi
 dsimp only at hi ⊢
 have hcl:=B51 (rows.take i) c
 rw [I93] at hcl
 refine k2 (k2 ?_)
 refine A3 (A2 (A4 Z Z) Z (A2 (A4 Z Z) Z (A2 (D4 Z (.pure _ _ _ _)) Z (A2 (D7 Z Z) Z (A6 ?_)))))
 refine k1 ?_
 refine B3 rfl (fun ht=>?_) (fun ht=>?_)
 ·have hlt:i < rows.length:=by have:=A0 ht;omega
  have hv:rows[i]?=some rows[i]:=by simp [hlt]
  have hst:M8 (rows.take (i+1)) c=M8 (rows.take i) c++(if X3 rows[i] c=true then [rows[i].Text] else []):=by
   unfold M8
   rw [List.take_add_one,hv,Option.toList_some,J28,I92]
   congr 1
   by_cases h:X3 rows[i] c=true<;>simp [h]
  refine k5 (k1 (k2 (k3 (k2 ?_))))
  refine A3 (A2 (A4 Z Z) Z (A2 (A4 Z Z) Z (A2 (B0 Z (.pure _ _ _ _) Z (by omega) hv) Z (A2 (E1 Z Z) Z (A2 (A4 Z Z) Z (C2 (F01 rows[i] c (hr _ (I90 hlt))) Z Z Z ?_))))));rintro _ rfl;refine A6 ?_
  refine k1 ?_
  refine B3 rfl (fun ht=>?_) (fun ht=>?_)
  ·rw [ht,if_pos rfl] at hst
   skip
   refine A3 (A2 (A4 Z Z) Z (A2 (A4 Z Z) Z (A2 (A4 Z Z) Z (A2 (B0 Z (.pure _ _ _ _) Z (by omega) hv) Z (A2 (D8 Z) Z (A2 (B2 Z Z) Z (A2 (C4 (c:=K6) (ys:=[_]) (D5 Z Z Z Z E7) Z Z Z) Z (B9 (F0 Z Z Z (.pure _ _ _ _) (by (simp only [I79,I81];omega)) Z) Z (A2 (A5 Z Z) Z (A6 ?_))))))))))
   refine k4 (k1 ?_)
   refine A3 (A2 (A4 Z Z) Z (A2 (C0 Z Z (by omega)) Z (A2 (A5 Z Z) Z (A6 ?_))))
   refine k1 ?_
   refine ⟨i+1,by omega,by omega,?_⟩
   rw [hst]
   exact I45 ⟨le1 rfl,le1 rfl,le1 rfl,le1 rfl,trivial⟩ ⟨rfl,trivial⟩
  ·rw [ht,if_neg (by decide),I97] at hst
   refine k5 (k4 (k1 ?_))
   refine A3 (A2 (A4 Z Z) Z (A2 (C0 Z Z (by omega)) Z (A2 (A5 Z Z) Z (A6 ?_))))
   refine k1 ?_
   refine ⟨i+1,by omega,by omega,?_⟩
   rw [hst]
   exact I45 ⟨le1 rfl,le1 rfl,le1 rfl,le1 rfl,trivial⟩ ⟨rfl,trivial⟩
 ·have hi':i=rows.length:=by have:=A1 ht;omega
  refine k6 (k2 ?_)
  refine A3 (A2 (A4 Z Z) Z (A2 (A5 Z Z) Z (A6 ?_)))
  refine k1 (k10 ?_)
  exact B5 (F1 rfl rfl rfl) (by rw [hi',I94])
theorem D49 (rows:List Row) (n:Int) (hn:0≤n∧n≤32) (hr:H8 rows):FnOk Tryz.prog 159 [pRows rows,G1 n] (fun rs=>rs=[I3 (L4 rows n.toNat)]):=by
 refine FnOk.intro Tryz.func159 (by decide) Z Z Z Z ?_
 refine A07 (t:=0) rfl (.pure _ _ _ _) fun hlen=>?_
 refine k2 ?_
 refine A3 (A2 (A5 Z Z) Z (A6 ?_))
 refine k1 (k2 (k2 ?_))
 refine A3 (A2 (A5 Z Z) Z (A6 ?_))
 refine k1 (k3 ?_)
 refine C9 (X:=Nat) (fun i=>([(0,C1 Row 3 rowC rows),(1,B8 n),(5,B8 i)],[])) (fun i=>i≤rows.length∧L4 rows n.toNat=L4 (rows.drop i) n.toNat) (fun i=>rows.length - i) 0 (by simp) (I45 ⟨le1 rfl,le1 rfl,le1 rfl,trivial⟩ trivial) ?_
 rintro i ⟨hi,hp⟩
 dsimp only at hi hp ⊢
 refine k2 (k2 ?_)
 refine A3 (A2 (A4 Z Z) Z (A2 (A4 Z Z) Z (A2 (D4 Z (.pure _ _ _ _)) Z (A2 (D7 Z Z) Z (A6 ?_)))))
 refine k1 ?_
 refine B3 rfl (fun ht=>?_) (fun ht=>?_)
 ·have hlt:i < rows.length:=by have:=A0 ht;omega
  have hv:rows[i]?=some rows[i]:=by simp [hlt]
  have hm:=hr _ (I90 hlt)
  rw [I84 hlt,A69] at hp
  have hmk:V1 n.toNat rows[i]=!(if decide ((IntKind.u64.wrap rows[i].Marks).fdiv (2 ^ min (IntKind.u64.wrap n).toNat IntKind.u64.bits)≠0)=true then true else if rows[i].Lost=true then decide (rows[i].Marks=0) else false):=by
   rw [A34 (by omega),A34 (n:=n) (by omega),shr64' _ _ (by omega),V1]
   by_cases h1:rows[i].Marks / 2 ^ n.toNat=0
   ·cases h2:rows[i].Lost<;>simp [h1]
    by_cases h3:rows[i].Marks=0<;>simp [h3]
   ·simp [h1]
  refine k5 (k1 (k2 (k3 (k2 ?_))))
  refine A3 (A2 (A4 Z Z) Z (A2 (A4 Z Z) Z (A2 (B0 Z (.pure _ _ _ _) Z (by omega) hv) Z (A2 (D8 Z) Z (A2 (B2 Z Z) Z (A2 (N0 Z) Z (A2 (A4 Z Z) Z (A2 (N0 Z) Z (A2 (A04 Z Z (by (rw [A34 (by omega)];omega))) Z ?_)))))))));refine A2 (M5 Z Z) Z (A2 (A4 Z Z) Z (B1 Z Z Z Z (fun hg=>by rw [hg];exact A4 Z Z) ?_));refine B1 Z Z Z Z (fun hg=>by rw [hg];exact A4 Z Z) ?_;refine B1 Z Z Z Z (fun hg=>by have hq:=hg;(try simp at hq);rw [hg];exact B0 Z (.pure _ _ _ _) Z (by omega) hv) ?_;refine B1 Z Z Z Z (fun hg=>by rw [hg];exact D8 Z) ?_;refine B1 Z Z Z Z (fun hg=>by rw [hg];exact B2 Z Z) ?_;refine B1 Z Z Z Z (fun hg=>by rw [hg];exact A4 Z Z) ?_;refine G8 Z Z Z (.gd (.val _)) Z (fun hg=>by obtain ⟨hg1,hg2⟩:=M2 hg;(try rw [hg1]);(try rw [hg2]);exact A4 Z Z) ?_;refine G8 Z Z Z (.gd (.val _)) Z (fun hg=>by obtain ⟨hg1,hg2⟩:=M2 hg;(try rw [hg1]);(try rw [hg2]);exact A4 Z Z) ?_;refine G8 Z Z Z (.gd (.val _)) Z (fun hg=>by have hq:=hg;(try simp at hq);obtain ⟨hg1,hg2⟩:=M2 hg;(try rw [hg1]);(try rw [hg2]);exact B0 Z (.pure _ _ _ _) Z (by omega) hv) ?_;refine G8 Z Z Z (.gd (.val _)) Z (fun hg=>by obtain ⟨hg1,hg2⟩:=M2 hg;(try rw [hg1]);(try rw [hg2]);exact D8 Z) ?_;refine G8 Z Z Z (.gd (.val _)) Z (fun hg=>by obtain ⟨hg1,hg2⟩:=M2 hg;(try rw [hg1]);(try rw [hg2]);exact B2 Z Z) ?_;refine G8 Z Z Z (.gd (.val _)) Z (fun hg=>by obtain ⟨hg1,hg2⟩:=M2 hg;(try rw [hg1]);(try rw [hg2]);exact J6 Z Z) ?_;refine B1 Z Z Z Z (fun hg=>by rw [hg];exact B6 Z (fun h=>by first | rfl | (rw [h];rfl)) (fun h=>by first | rfl | (rw [h];rfl))) ?_;refine A2 (B6 Z (fun h=>by first | rfl | (rw [h];rfl)) (fun h=>by first | rfl | (rw [h];rfl))) Z ?_;refine A6 ?_
  refine k1 ?_
  refine B3 rfl (fun ht=>?_) (fun ht=>?_)
  ·rw [hmk,ht] at hp
   refine k2 ?_
   refine A3 (A2 (A5 Z Z) Z (A6 ?_))
   refine k1 (k10 (k12 (k11 (k11 (k12 (k11 ?_))))))
   exact B5 (F1 rfl rfl rfl) (by rw [hp];rfl)
  ·rw [hmk,ht] at hp
   refine k5 (k4 (k1 ?_))
   refine A3 (A2 (A4 Z Z) Z (A2 (C0 Z Z (by omega)) Z (A2 (A5 Z Z) Z (A6 ?_))))
   refine k1 ?_
   exact ⟨i+1,⟨by omega,by rw [hp];rfl⟩,by omega,I45 ⟨le1 rfl,le1 rfl,le1 rfl,trivial⟩ trivial⟩
 ·have hi':i=rows.length:=by have:=A1 ht;omega
  subst hi'
  refine k6 (k2 ?_)
  refine A3 (A2 (A5 Z Z) Z (A6 ?_))
  refine k1 (k10 ?_)
  exact B5 (F1 rfl rfl rfl) (by rw [hp];simp [L4])
theorem D50 (rows:List Row) (n:Int) (hn:0≤n∧n≤32) (hr:H8 rows) (hl:rows.length≤536870911) (hx:N8 rows≤536870912):FnOk Tryz.prog 160 [pRows rows,G1 n] (fun rs=>rs=[I3 (l7 rows n.toNat)]):=by
 obtain ⟨n,rfl⟩:∃m:Nat,n=m:=⟨n.toNat,by omega⟩
 rw [I85]
 refine FnOk.intro Tryz.func160 (by decide) Z Z Z Z ?_
 refine k2 ?_
 refine A3 (A2 (A5 Z Z) Z (A6 ?_))
 refine k1 (k2 (k2 ?_))
 refine A3 (A2 (A5 Z Z) Z (A6 ?_))
 refine k1 (k3 ?_)
 refine C9 (X:=Nat) (fun i=>([(0,C1 Row 3 rowC rows),(1,B8 n),(5,B8 i)],[])) (fun i=>i≤rows.length∧rows.all (fun r=>K0 r.Text)=(rows.drop i).all (fun r=>K0 r.Text)) (fun i=>rows.length - i) 0 (by simp) (I45 ⟨le1 rfl,le1 rfl,le1 rfl,trivial⟩ trivial) ?_
 rintro i ⟨hi,hp⟩
 dsimp only at hi hp ⊢
 refine k2 (k2 ?_)
 refine A3 (A2 (A4 Z Z) Z (A2 (A4 Z Z) Z (A2 (D4 Z (.pure _ _ _ _)) Z (A2 (D7 Z Z) Z (A6 ?_)))))
 refine k1 ?_
 refine B3 rfl (fun ht=>?_) (fun ht=>?_)
 ·have hlt:i < rows.length:=by have:=A0 ht;omega
  have hv:rows[i]?=some rows[i]:=by simp [hlt]
  have htl:=C22 rows _ (I90 hlt)
  rw [I84 hlt,List.all_cons] at hp
  refine k5 (k1 (k2 (k3 (k2 ?_))))
  refine A3 (A2 (A4 Z Z) Z (A2 (A4 Z Z) Z (A2 (B0 Z (.pure _ _ _ _) Z (by omega) hv) Z (A2 (D8 Z) Z (A2 (B2 Z Z) Z (C2 (line_ok rows[i].Text (by omega)) Z Z Z ?_))))));rintro _ rfl;refine A2 (J2 Z) Z (A6 ?_)
  refine k1 ?_
  refine B3 rfl (fun ht=>?_) (fun ht=>?_)
  ·have h:K0 rows[i].Text=false:=by simpa using ht
   rw [h] at hp
   refine k2 ?_
   refine A3 (A2 (A5 Z Z) Z (A6 ?_))
   refine k1 (k10 (k12 (k11 (k11 (k12 (k11 ?_))))))
   exact B5 (F1 rfl rfl rfl) (by rw [l7,hp];rfl)
  ·have h:K0 rows[i].Text=true:=by simpa using ht
   rw [h] at hp
   refine k5 (k4 (k1 ?_))
   refine A3 (A2 (A4 Z Z) Z (A2 (C0 Z Z (by omega)) Z (A2 (A5 Z Z) Z (A6 ?_))))
   refine k1 ?_
   exact ⟨i+1,⟨by omega,by rw [hp];rfl⟩,by omega,I45 ⟨le1 rfl,le1 rfl,le1 rfl,trivial⟩ trivial⟩
 ·have hi':i=rows.length:=by have:=A1 ht;omega
  rw [hi',I87 (Nat.le_refl _),List.all_nil] at hp
  refine k6 (k2 (k2 ?_))
  refine A3 (A2 (A5 Z Z) Z (A6 ?_))
  refine k1 (k3 ?_)
  refine C9 (X:=Nat) (fun k=>([(0,C1 Row 3 rowC rows),(1,B8 n),(6,B8 ((k:Int) - 1))],[])) (fun k=>k≤n+1∧(List.range (n+1)).all (fun k=>Y7 (M8 rows ((k:Int) - 1)))=((List.range (n+1)).drop k).all (fun k=>Y7 (M8 rows ((k:Int) - 1)))) (fun k=>n+1 - k) 0 (by simp) (I45 ⟨le1 rfl,le1 rfl,le1 rfl,trivial⟩ trivial) ?_
  rintro k ⟨hk,hq⟩
  dsimp only at hk hq ⊢
  refine k2 (k2 ?_)
  refine A3 (A2 (A4 Z Z) Z (A2 (A4 Z Z) Z (A2 (D7 Z Z) Z (A6 ?_))))
  refine k1 ?_
  refine B3 rfl (fun ht=>?_) (fun ht=>?_)
  ·have hlt:k < n+1:=by have:=A0 ht;omega
   have hfl:=G69 rows ((k:Int) - 1)
   rw [I84 (by simpa using hlt),List.all_cons,List.getElem_range] at hq
   refine k5 (k1 (k2 (k3 (k2 ?_))))
   refine A3 (A2 (A4 Z Z) Z (A2 (A4 Z Z) Z (C2 (A14 rows _ hr hl) Z Z Z ?_)));rintro _ rfl;refine C2 (list_ok _ (fun s hs=>by obtain ⟨r,hr1,rfl⟩:=H73 rows _ s hs;have:=C22 rows r hr1;omega)) Z Z Z ?_;rintro _ rfl;refine A2 (J2 Z) Z (A6 ?_)
   refine k1 ?_
   refine B3 rfl (fun ht=>?_) (fun ht=>?_)
   ·have h:Y7 (M8 rows ((k:Int) - 1))=false:=by simpa using ht
    rw [h] at hq
    refine k2 ?_
    refine A3 (A2 (A5 Z Z) Z (A6 ?_))
    refine k1 (k10 (k12 (k11 (k11 (k12 (k11 ?_))))))
    exact B5 (F1 rfl rfl rfl) (by rw [l7,hp,hq];rfl)
   ·have h:Y7 (M8 rows ((k:Int) - 1))=true:=by simpa using ht
    rw [h] at hq
    refine k5 (k4 (k1 ?_))
    refine A3 (A2 (A4 Z Z) Z (A2 (C0 Z Z (by omega)) Z (A2 (A5 Z Z) Z (A6 ?_))))
    refine k1 ?_
    exact ⟨k+1,⟨by omega,by rw [hq];rfl⟩,by omega,I45 ⟨le1 rfl,le1 rfl,leE rfl (by first | (simp;done) | (simp;omega)),trivial⟩ trivial⟩
  ·have hk':k=n+1:=by have:=A1 ht;omega
   rw [hk',I87 (by simp),List.all_nil] at hq
   refine k6 (k2 ?_)
   refine A3 (A2 (A5 Z Z) Z (A6 ?_))
   refine k1 (k10 ?_)
   exact B5 (F1 rfl rfl rfl) (by rw [l7,hp,hq];rfl)
theorem D51 (t:Table) (hr:H8 t.Rows) (hl:t.Rows.length≤536870911) (hx:N8 t.Rows≤536870912):FnOk Tryz.prog 144 [pTable t] (fun rs=>rs=[G1 (I7 t)]):=by
 refine FnOk.intro Tryz.func144 (by decide) Z Z Z Z ?_
 refine k2 ?_
 refine A3 (B9 (N7 1 Z Z Z) Z (A2 (A5 Z Z) Z (A6 ?_)))
 refine k1 (k2 (k3 (k2 ?_)))
 refine A3 (A2 (A7 Z) Z (A2 (A8 Z Z Z) Z (A2 (D7 Z Z) Z (A2 (A4 Z Z) Z (B1 Z Z Z Z (fun hg=>by rw [hg];exact A7 Z) ?_)))));refine B1 Z Z Z Z (fun hg=>by rw [hg];exact A8 Z Z Z) ?_;refine B1 Z Z Z Z (fun hg=>by rw [hg];exact M4 Z Z) ?_;refine A2 (B6 Z (fun h=>by first | rfl | (rw [h];rfl)) (fun h=>by first | rfl | (rw [h];rfl))) Z ?_;refine A2 (A5 Z Z) Z (A6 ?_)
 refine k1 ?_
 refine B3 rfl (fun ht=>?_) (fun ht=>?_)
 ·have h:=A0 (or_pick.symm.trans ht)
  refine k2 ?_
  refine A3 (A2 (A5 Z Z) Z (A6 ?_))
  refine k1 (k10 (k12 (k11 ?_)))
  exact B5 (F1 rfl rfl rfl) (by rw [I7,if_pos h])
 ·have h:=A1 (or_pick.symm.trans ht)
  refine k2 ?_
  refine A3 (A2 (A7 Z) Z (A2 (A8 Z Z Z) Z (A2 (A7 Z) Z (A2 (A8 Z Z Z) Z (C2 (D49 t.Rows t.Parents (by omega) hr) Z Z Z ?_)))));rintro _ rfl;refine A2 (J2 Z) Z (A2 (A5 Z Z) Z (A6 ?_))
  refine k1 ?_
  refine B3 rfl (fun ht=>?_) (fun ht=>?_)
  ·have h2:L4 t.Rows t.Parents.toNat=false:=by simpa using ht
   refine k2 ?_
   refine A3 (A2 (A5 Z Z) Z (A6 ?_))
   refine k1 (k10 (k12 (k11 ?_)))
   exact B5 (F1 rfl rfl rfl) (by rw [I7,if_neg h,if_pos h2])
  ·have h2:L4 t.Rows t.Parents.toNat=true:=by simpa using ht
   refine k2 ?_
   refine A3 (A2 (A7 Z) Z (A2 (A8 Z Z Z) Z (A2 (A7 Z) Z (A2 (A8 Z Z Z) Z (C2 (D50 t.Rows t.Parents (by omega) hr hl hx) Z Z Z ?_)))));rintro _ rfl;refine A2 (J2 Z) Z (A2 (A5 Z Z) Z (A6 ?_))
   refine k1 ?_
   refine B3 rfl (fun ht=>?_) (fun ht=>?_)
   ·have h3:l7 t.Rows t.Parents.toNat=false:=by simpa using ht
    refine k2 ?_
    refine A3 (A2 (A5 Z Z) Z (A6 ?_))
    refine k1 (k10 (k12 (k11 ?_)))
    exact B5 (F1 rfl rfl rfl) (by rw [I7,if_neg h,if_neg (by simp [h2]),if_pos h3])
   ·have h3:l7 t.Rows t.Parents.toNat=true:=by simpa using ht
    refine k5 (k2 ?_)
    refine A3 (A2 (A5 Z Z) Z (A6 ?_))
    refine k1 (k10 ?_)
    exact B5 (F1 rfl rfl rfl) (by rw [I7,if_neg h,if_neg (by simp [h2]),if_neg (by simp [h3])])
theorem E51 (s:Str):(ByteArray.mk s.toArray).size=s.length:=by simp [ByteArray.size]
theorem F02 (s p:Str) (hs:s.length≤1099511627776):FnOk Tryz.prog 200 [L5 s,L5 p] (fun rs=>rs=[I3 (Lib.hasSuffix s p)]) :=
 I52 (xs:=[.string ⟨s.toArray⟩,.string ⟨p.toArray⟩]) ⟨_,rfl,rfl,rfl⟩ rfl fun w=>by simpa using Tryz.strings_HasSuffix ⟨s.toArray⟩ ⟨p.toArray⟩ w (by rw [E51];omega)
theorem E16 (s p:Str) (hs:s.length≤1099511627776):FnOk Tryz.prog 225 [L5 s,L5 p] (fun rs=>rs=[L5 (Lib.trimSuffix s p)]) :=
 I52 (xs:=[.string ⟨s.toArray⟩,.string ⟨p.toArray⟩]) ⟨_,rfl,rfl,rfl⟩ rfl fun w=>by simpa using Tryz.strings_TrimSuffix ⟨s.toArray⟩ ⟨p.toArray⟩ w (by rw [E51];omega)
theorem F03 (s:Str) (c:UInt8):FnOk Tryz.prog 209 [L5 s,L5 [c]] (fun rs=>rs=[I3 (decide (0≤Lib.indexByte s c))]) :=
 I52 (xs:=[.string ⟨s.toArray⟩,.string ⟨#[c]⟩]) ⟨_,rfl,rfl,rfl⟩ rfl fun w=>by simpa using Tryz.strings_Contains_one ⟨s.toArray⟩ c w
theorem B47 (s:Str) (hs:s.length≤1099511627776):FnOk Tryz.prog 137 [L5 s] (fun rs=>rs=[I3 (ended s)]):=by
 refine FnOk.intro Tryz.func137 (by decide) Z Z Z Z ?_
 refine k2 ?_
 refine A3 (A2 (A5 Z Z) Z (A6 ?_))
 refine k1 (k2 ?_)
 refine A3 (A2 (A4 Z Z) Z (C2 (F02 s [10] hs) Z Z Z ?_));rintro _ rfl;refine A2 (A5 Z Z) Z (A6 ?_)
 rw [C23]
 refine k1 (k10 ?_)
 exact B5 (F1 rfl rfl rfl) rfl
theorem I08 (s:Str) (hs:s.length≤1099511627776):FnOk Tryz.prog 210 [L5 s] (fun rs=>rs=[L5 (B31 s)]):=by
 refine FnOk.intro Tryz.func210 (by decide) Z Z Z Z ?_
 refine k2 ?_
 refine A3 (A2 (A5 Z Z) Z (A6 ?_))
 refine k1 (k2 ?_)
 refine A3 (A2 (A4 Z Z) Z (C2 (E16 s [10] hs) Z Z Z ?_));rintro _ rfl;refine A2 (A5 Z Z) Z (A6 ?_)
 rw [E25]
 refine k1 (k10 ?_)
 exact B5 (F1 rfl rfl rfl) rfl
theorem F69 (r:Row) (c:Int) (hr:0≤r.Marks∧r.Marks < 4294967296):FnOk Tryz.prog 177 [pRow r,G1 c] (fun rs=>rs=[I3 (X3 r c)]):=by
 refine FnOk.intro Tryz.func177 (by decide) Z Z Z Z ?_
 refine k2 ?_
 refine A3 (B9 (N7 2 Z Z Z) Z (A2 (A5 Z Z) Z (A6 ?_)))
 refine k1 (k2 (k2 ?_))
 refine A3 (A2 (A4 Z Z) Z (A2 (D7 Z Z) Z (A2 (A4 Z Z) Z (B1 Z Z Z Z (fun hg=>by rw [hg];exact A4 Z Z) ?_))));refine B1 Z Z Z Z (fun hg=>by rw [hg];exact A05 Z Z) ?_;refine A2 (B6 Z (fun h=>by first | rfl | (rw [h];rfl)) (fun h=>by first | rfl | (rw [h];rfl))) Z ?_;refine A6 ?_
 refine k1 ?_
 refine B3 rfl (fun ht=>?_) (fun ht=>?_)
 ·have h:=A0 (or_pick.symm.trans ht)
  refine k2 ?_
  refine A3 (A2 (A5 Z Z) Z (A6 ?_))
  refine k1 (k10 (k11 ?_))
  exact B5 (F1 rfl rfl rfl) (by rw [X3,if_neg (by omega),if_pos (by omega)])
 ·have h:=A1 (or_pick.symm.trans ht)
  refine k5 (k1 (k2 (k2 ?_)))
  refine A3 (A2 (A4 Z Z) Z (A2 (D7 Z Z) Z (A6 ?_)))
  refine k1 ?_
  refine B3 rfl (fun ht=>?_) (fun ht=>?_)
  ·have h2:=A0 ht
   refine k2 ?_
   refine A3 (A2 (A7 Z) Z (A2 (A8 Z Z Z) Z (A2 (J2 Z) Z (A2 (A5 Z Z) Z (A6 ?_)))))
   refine k1 (k10 (k11 ?_))
   exact B5 (F1 rfl rfl rfl) (by rw [X3,if_pos (by omega)])
  ·have h2:=A1 ht
   refine k5 (k1 (k2 ?_))
   refine D2 (by kernel_rfl) (by kernel_rfl) (A9 (A7 Z) Z Z (A9 (A8 Z Z Z) Z Z (A9 (A7 Z) Z Z (A9 (A8 Z Z Z) Z Z (A9 (A4 Z Z) Z Z (A9 (A04 Z Z (by omega)) Z Z (A9 (U9 Z Z Z (fun _=>rfl)) Z Z (A9 (J6 Z Z) Z Z (A9 (G95 Z Z TyBool.out) Z Z (A9 (A5 Z Z) Z Z (K7 ?_)))))))))))
   refine k1 (k10 ?_)
   refine B5 (F1 Z Z Z) ?_
   have h3:0≤r.Marks / 2 ^ c.toNat:=Int.ediv_nonneg hr.1 (Int.pow_nonneg (by decide))
   have h4:r.Marks / 2 ^ c.toNat≤r.Marks:=Int.ediv_le_self _ hr.1
   rw [X3,if_neg (by omega),if_neg (by omega),D71 r.Marks c (by omega),B27 _ (by omega),Bool.beq_comm]
   rfl
theorem D52 (r:Row) (n:Int) (hn:1≤n∧n≤32) (hr:0≤r.Marks∧r.Marks < 4294967296):FnOk Tryz.prog 155 [pRow r,G1 n] (fun rs=>rs=[I3 (V1 n.toNat r)]):=by
 refine FnOk.intro Tryz.func155 (by decide) Z Z Z Z ?_
 refine k2 ?_
 refine A3 (B9 (N7 2 Z Z Z) Z (A2 (A5 Z Z) Z (A6 ?_)))
 refine k1 (k2 ?_)
 refine A3 (A2 (A7 Z) Z (A2 (A8 Z Z Z) Z (A2 (A04 Z Z (by omega)) Z (A2 (A4 Z Z) Z (A2 (P9 Z Z (by omega)) Z (A2 (A04 Z Z (by omega)) Z (A2 (J6 Z Z) Z (A2 (A4 Z Z) Z (B1 Z Z Z Z (fun hg=>by rw [hg];exact A7 Z) ?_)))))))));refine B1 Z Z Z Z (fun hg=>by rw [hg];exact A8 Z Z Z) ?_;refine B1 Z Z Z Z (fun hg=>by rw [hg];exact J2 Z) ?_;refine B1 Z Z Z Z (fun hg=>by rw [hg];exact A4 Z Z) ?_;refine G8 Z Z Z (.gd (.val _)) Z (fun hg=>by obtain ⟨hg1,hg2⟩:=M2 hg;(try rw [hg1]);(try rw [hg2]);exact A7 Z) ?_;refine G8 Z Z Z (.gd (.val _)) Z (fun hg=>by obtain ⟨hg1,hg2⟩:=M2 hg;(try rw [hg1]);(try rw [hg2]);exact A8 Z Z Z) ?_;refine G8 Z Z Z (.gd (.val _)) Z (fun hg=>by obtain ⟨hg1,hg2⟩:=M2 hg;(try rw [hg1]);(try rw [hg2]);exact M5 Z Z) ?_;refine B1 Z Z Z Z (fun hg=>by rw [hg];exact B6 Z (fun h=>by first | rfl | (rw [h];rfl)) (fun h=>by first | rfl | (rw [h];rfl))) ?_;refine A2 (B6 Z (fun h=>by first | rfl | (rw [h];rfl)) (fun h=>by first | rfl | (rw [h];rfl))) Z ?_;refine A2 (A5 Z Z) Z (A6 ?_)
 refine k1 (k10 ?_)
 refine B5 (F1 Z Z Z) ?_
 have h0:0≤r.Marks / 2 ^ n.toNat:=Int.ediv_nonneg hr.1 (Int.pow_nonneg (by decide))
 have e1:r.Marks.fdiv (2 ^ (min (1:Int).toNat IntKind.u32.bits))=r.Marks / 2:=by
  rw [D71 r.Marks 1 (by omega)];rfl
 have e2:(r.Marks / 2).fdiv (2 ^ (min (n - 1).toNat IntKind.u32.bits))=r.Marks / 2 ^ n.toNat:=by
  rw [D71 (r.Marks / 2) (n - 1) (by omega),Int.ediv_ediv_of_nonneg (by decide)]
  have:n.toNat=(n - 1).toNat+1:=by omega
  rw [this,Int.pow_succ,Int.mul_comm]
 have e3:(if decide ((r.Marks.fdiv (2 ^ (min (1:Int).toNat IntKind.u32.bits))).fdiv (2 ^ (min (n - 1).toNat IntKind.u32.bits))=0)=true then (if (!r.Lost)=true then true else decide (r.Marks≠0)) else false)=V1 n.toNat r:=by
  rw [e1,e2,V1]
  cases r.Lost<;>by_cases hz:r.Marks / 2 ^ n.toNat=0<;>by_cases hy:r.Marks=0<;>simp [hz,hy]
 rw [←e3]
theorem A62 (r:Row) (hs:r.Text.length≤1099511627776):FnOk Tryz.prog 157 [pRow r] (fun rs=>rs=[I3 (K0 r.Text)]):=by
 refine FnOk.intro Tryz.func157 (by decide) Z Z Z Z ?_
 refine k2 ?_
 refine A3 (B9 (N7 1 Z Z Z) Z (A2 (A5 Z Z) Z (A6 ?_)))
 refine k1 (k2 ?_)
 refine A3 (A2 (A7 Z) Z (A2 (A8 Z Z Z) Z (A2 (A49 Z Z) Z (A2 (A4 Z Z) Z (B1 Z Z Z Z (fun hg=>by rw [hg];exact A7 Z) ?_)))));refine B1 Z Z Z Z (fun hg=>by rw [hg];exact A8 Z Z Z) ?_;refine B1 Z Z Z Z (fun hg=>by have hq:=hg;(try simp at hq);rw [hg];exact H6 (I08 r.Text hs) Z Z) ?_;refine B1 Z Z Z Z (fun hg=>by have hq:=hg;(try simp at hq);rw [hg];exact H6 (F03 (B31 r.Text) 10) Z Z) ?_;refine B1 Z Z Z Z (fun hg=>by rw [hg];exact J2 Z) ?_;refine A2 (B6 Z (fun h=>by first | rfl | (rw [h];rfl)) (fun h=>by first | rfl | (rw [h];rfl))) Z ?_;refine A2 (A5 Z Z) Z (A6 ?_)
 refine k1 (k10 ?_)
 refine B5 (F1 Z Z Z) ?_
 rw [←H75]
theorem H06 (r:Row) (res:Bool) (par:Int) (hs:r.Text.length≤1099511627776) :
  FnIo Tryz.prog 158 [pRow r] [.v (.bool res),.v (.int .u32 par)] (fun rs cs=>rs=[I3 (B71 res par r)]∧cs=[.v (.bool (B32 res r)),.v (.int .u32 (B33 par r))]):=by
 refine FnIo.intro Tryz.func158 (by decide) Z Z Z Z ?_
 refine k2 ?_
 refine A3 (B9 (N7 3 Z Z Z) Z (A2 (A5 Z Z) Z (A6 ?_)))
 refine k1 (k2 ?_)
 refine A3 (A2 (A7 Z) Z (A2 (A8 Z Z Z) Z (A2 (A5 Z Z) Z (A6 ?_))))
 refine J7 ?_
 refine n4 [(3,.s (.one (.ref 3 0))),(0,.s (.one (.ref self 0))),(5,I9 (.int .u32 (E27 r)))] [(3,.box (pRow r).s1.cells),(self,.box [.p (.v (.bool res)),.p (.v (.int .u32 par))])] ?_ ?_
 ·refine k2 ?_
  refine A3 (A2 (A7 Z) Z (A2 (A8 Z Z Z) Z (A2 (J2 Z) Z (A6 ?_))))
  refine k1 ?_
  refine B3 rfl (fun ht=>?_) (fun ht=>?_)
  ·have h:r.Lost=false:=by simpa using ht
   skip
   refine A3 (A2 (A4 Z Z) Z (A2 (n_compl Z Z (fun _=>rfl)) Z (A2 (A5 Z Z) Z (A6 ?_))))
   refine k1 ?_
   rw [E27,if_neg (by rw [h];simp)]
   exact I45 ⟨le1 rfl,le1 rfl,le1 rfl,trivial⟩ ⟨rfl,rfl,trivial⟩
  ·have h:r.Lost=true:=by simpa using ht
   refine k5 (k1 ?_)
   rw [E27,if_pos h]
   exact I45 ⟨le1 rfl,le1 rfl,le1 rfl,trivial⟩ ⟨rfl,rfl,trivial⟩
 refine k2 ?_
 refine A3 (A2 (A4 Z Z) Z (A2 (D6 Z) Z (A2 (A7 Z) Z (A2 (A8 Z Z Z) Z (A2 (A4 Z Z) Z (A2 (U9 Z Z Z (fun _=>rfl)) Z (A2 (J6 Z Z) Z (A2 (A4 Z Z) Z (B1 Z Z Z Z (fun hg=>by rw [hg];exact A7 Z) ?_)))))))));refine B1 Z Z Z Z (fun hg=>by rw [hg];exact A8 Z Z Z) ?_;refine B1 Z Z Z Z (fun hg=>by rw [hg];exact A4 Z Z) ?_;refine G8 Z Z Z (.gd (.val _)) Z (fun hg=>by obtain ⟨hg1,hg2⟩:=M2 hg;(try rw [hg1]);(try rw [hg2]);exact A4 Z Z) ?_;refine G8 Z Z Z (.gd (.val _)) Z (fun hg=>by obtain ⟨hg1,hg2⟩:=M2 hg;(try rw [hg1]);(try rw [hg2]);exact D6 Z) ?_;refine G8 Z Z Z (.gd (.val _)) Z (fun hg=>by obtain ⟨hg1,hg2⟩:=M2 hg;(try rw [hg1]);(try rw [hg2]);exact A7 Z) ?_;refine G8 Z Z Z (.gd (.val _)) Z (fun hg=>by obtain ⟨hg1,hg2⟩:=M2 hg;(try rw [hg1]);(try rw [hg2]);exact A8 Z Z Z) ?_;refine G8 Z Z Z (.gd (.val _)) Z (fun hg=>by obtain ⟨hg1,hg2⟩:=M2 hg;(try rw [hg1]);(try rw [hg2]);exact J2 Z) ?_;refine B1 Z Z Z Z (fun hg=>by rw [hg];exact B6 Z (fun h=>by first | rfl | (rw [h];rfl)) (fun h=>by first | rfl | (rw [h];rfl))) ?_;refine A2 (B6 Z (fun h=>by first | rfl | (rw [h];rfl)) (fun h=>by first | rfl | (rw [h];rfl))) Z ?_;refine A2 (A5 Z Z) Z (A6 ?_)
 refine k1 (k2 (k2 ?_))
 refine A3 (A2 (A7 Z) Z (A2 (A8 Z Z Z) Z (C2 (B47 r.Text hs) Z Z Z ?_)));rintro _ rfl;refine A2 (J2 Z) Z (A6 ?_)
 have hok:(if decide (G01 par (E27 r)=0)=true then (if r.Lost=true then true else !res) else false)=B71 res par r:=by
  rw [B71]
  cases r.Lost<;>cases res<;>by_cases h:G01 par (E27 r)=0<;>simp [h]
 refine k1 ?_
 refine B3 rfl (fun ht=>?_) (fun ht=>?_)
 ·have h:ended r.Text=false:=by simpa using ht
  refine k2 ?_
  refine A3 (A2 (A4 Z Z) Z (A2 (D6 Z) Z (A2 (A7 Z) Z (A2 (A8 Z Z Z) Z (A2 (A4 Z Z) Z (A2 (U9 Z Z Z (fun _=>rfl)) Z (A2 (D6 Z) Z (A2 (A7 Z) Z (E6 (B7 TySz.out Z Z Z Z Z Z) (A6 ?_))))))))))
  refine k1 ?_
  refine A3 (A2 (A4 Z Z) Z (A2 (A4 Z Z) Z (A2 (D6 Z) Z (A2 (A7 Z) Z (A2 (A8 Z Z Z) Z (A2 (A4 Z Z) Z (B1 Z Z Z Z (fun hg=>by rw [hg];exact A7 Z) ?_)))))));refine B1 Z Z Z Z (fun hg=>by rw [hg];exact A8 Z Z Z) ?_;refine B1 Z Z Z Z (fun hg=>by rw [hg];exact J2 Z) ?_;refine A2 (B6 Z (fun h=>by first | rfl | (rw [h];rfl)) (fun h=>by first | rfl | (rw [h];rfl))) Z ?_;refine A2 (D6 Z) Z (A2 (A7 Z) Z (E6 (B7 TySz.out Z Z Z Z Z Z) (A6 ?_)))
  refine k1 (k2 ?_)
  refine A3 (A2 (A4 Z Z) Z (A2 (A5 Z Z) Z (A6 ?_)))
  refine k1 (k10 ?_)
  refine io_ret (F1 rfl rfl rfl) rfl rfl ⟨by rw [←hok];rfl,?_⟩
  have ea:B32 res r=(res||!r.Lost):=by rw [B32,h];rfl
  have ep:B33 par r=K4 par (E27 r):=by rw [B33,h];rfl
  rw [ea,ep]
  cases res<;>rfl
 ·have h:ended r.Text=true:=by simpa using ht
  refine k5 (k1 (k2 ?_))
  refine A3 (A2 (A4 Z Z) Z (A2 (A5 Z Z) Z (A6 ?_)))
  refine k1 (k10 ?_)
  exact io_ret (F1 rfl rfl rfl) rfl rfl ⟨by rw [←hok];rfl,by rw [B32,B33,if_pos h,if_pos h]⟩
theorem E52 (t:Table) (hr:H8 t.Rows) (hl:t.Rows.length≤536870911) (hx:N8 t.Rows≤536870912):FnOk Tryz.prog 116 [pTable t] (fun rs=>rs=[G1 (I7 t)]):=by
 refine FnOk.intro Tryz.func116 (by decide) Z Z Z Z ?_
 refine k2 ?_
 refine A3 (B9 (N7 1 Z Z Z) Z (A2 (A5 Z Z) Z (A6 ?_)))
 refine k1 (k2 (k2 ?_))
 refine A3 (A2 (A7 Z) Z (A2 (A8 Z Z Z) Z (A2 (D7 Z Z) Z (A2 (A4 Z Z) Z (B1 Z Z Z Z (fun hg=>by rw [hg];exact A7 Z) ?_)))));refine B1 Z Z Z Z (fun hg=>by rw [hg];exact A8 Z Z Z) ?_;refine B1 Z Z Z Z (fun hg=>by rw [hg];exact M4 Z Z) ?_;refine A2 (B6 Z (fun h=>by first | rfl | (rw [h];rfl)) (fun h=>by first | rfl | (rw [h];rfl))) Z ?_;refine A6 ?_
 refine k1 ?_
 refine B3 rfl (fun ht=>?_) (fun ht=>?_)
 ·have h:=A0 (or_pick.symm.trans ht)
  refine k2 ?_
  refine A3 (A2 (A5 Z Z) Z (A6 ?_))
  refine k1 (k10 (k11 ?_))
  exact B5 (F1 rfl rfl rfl) (by rw [I7,if_pos h])
 ·have h:=A1 (or_pick.symm.trans ht)
  refine L0 [(1,.s (.one (.ref 1 0)))] [(1,.box [.p (.v (.int .i64 t.Parents)),.p (.list Row 3 rowC t.Rows)])] (I45 ⟨le1 rfl,trivial⟩ ⟨rfl,trivial⟩) ?_
  refine k5 (k1 (k2 (k2 ?_)))
  refine A3 (A2 (A7 Z) Z (A2 (A8 Z Z Z) Z (A2 (D4 Z (.pure _ _ _ _)) Z (A2 (A4 Z Z) Z (A6 ?_)))))
  refine k1 (k3 ?_)
  refine C9 (X:=Nat) (fun i=>([(1,.s (.one (.ref 1 0))),(17,C1 Row 3 rowC t.Rows),(18,B8 t.Rows.length),(19,B8 i)],[(1,.box [.p (.v (.int .i64 t.Parents)),.p (.list Row 3 rowC t.Rows)])])) (fun i=>i≤t.Rows.length∧L4 t.Rows t.Parents.toNat=L4 (t.Rows.drop i) t.Parents.toNat) (fun i=>t.Rows.length - i) 0 ⟨Nat.zero_le _,rfl⟩ (I45 ⟨le1 rfl,le1 rfl,le1 rfl,le1 rfl,trivial⟩ ⟨rfl,trivial⟩) ?_
  rintro i ⟨hi,hp⟩
  dsimp only at hi hp ⊢
  refine k2 ?_
  refine A3 (A2 (D7 Z Z) Z (A6 ?_))
  refine k1 (k2 ?_)
  refine B3 rfl (fun ht=>?_) (fun ht=>?_)
  ·have hlt:i < t.Rows.length:=by have:=A0 ht;omega
   have hv:t.Rows[i]?=some t.Rows[i]:=by simp [hlt]
   rw [I84 hlt,A69] at hp
   refine k5 (k1 (k2 (k3 (k2 ?_))))
   refine A3 (A2 (B0 Z (.pure _ _ _ _) Z (by omega) hv) Z (A2 (E1 Z Z) Z (B9 (F5 4 Z) Z (E6 (B7 TySz.out Z Z Z Z Z Z) (A6 ?_)))))
   refine k1 (k2 ?_)
   refine A3 (A2 (C8 Z Z Z) Z (A2 (A7 Z) Z (A2 (A8 Z Z Z) Z (C2 (D52 t.Rows[i] t.Parents (by omega) (hr _ (I90 hlt))) Z Z Z ?_))));rintro _ rfl;refine A2 (J2 Z) Z (A6 ?_)
   refine k1 ?_
   refine B3 rfl (fun ht=>?_) (fun ht=>?_)
   ·have h2:V1 t.Parents.toNat t.Rows[i]=false:=by simpa using ht
    rw [h2,Bool.false_and] at hp
    refine k2 ?_
    refine A3 (A2 (A5 Z Z) Z (A6 ?_))
    refine k1 (k10 (k12 (k11 (k11 (k12 (k11 ?_))))))
    exact B5 (F1 rfl rfl rfl) (by rw [I7,if_neg h,if_pos hp])
   ·have h2:V1 t.Parents.toNat t.Rows[i]=true:=by simpa using ht
    rw [h2,Bool.true_and] at hp
    refine k5 (k4 (k1 ?_))
    refine A3 (A2 (C0 Z Z (by omega)) Z (A2 (A4 Z Z) Z (A6 ?_)))
    refine k1 ?_
    exact ⟨i+1,⟨by omega,hp⟩,by omega,I45 ⟨le1 rfl,le1 rfl,le1 rfl,le1 rfl,trivial⟩ ⟨rfl,trivial⟩⟩
  ·have hil:i=t.Rows.length:=by have:=A1 ht;omega
   rw [hil,I87 (Nat.le_refl _)] at hp
   have hm:L4 t.Rows t.Parents.toNat=true:=hp
   refine L0 [(1,.s (.one (.ref 1 0)))] [(1,.box [.p (.v (.int .i64 t.Parents)),.p (.list Row 3 rowC t.Rows)])] (I45 ⟨le1 rfl,trivial⟩ ⟨rfl,trivial⟩) ?_
   clear hil ht hp hi
   have hat:=D75 t.Rows t.Parents.toNat (by omega) hm hr
   refine k6 (k2 ?_)
   refine A3 (B9 (F5 5 Z) Z (A6 ?_))
   refine k1 (k2 (k2 ?_))
   refine A3 (A2 (A7 Z) Z (A2 (A8 Z Z Z) Z (A2 (D4 Z (.pure _ _ _ _)) Z (A2 (A4 Z Z) Z (A6 ?_)))))
   refine k1 (k3 ?_)
   refine C9 (X:=Nat × Bool × Int) (fun x=>([(1,.s (.one (.ref 1 0))),(5,.s (.one (.ref 5 0))),(30,C1 Row 3 rowC t.Rows),(31,B8 t.Rows.length),(32,B8 x.1)],[(1,.box [.p (.v (.int .i64 t.Parents)),.p (.list Row 3 rowC t.Rows)]),(5,.box [.p (.v (.bool x.2.1)),.p (.v (.int .u32 x.2.2))])])) (fun x=>x.1≤t.Rows.length∧R0 false 0 t.Rows=R0 x.2.1 x.2.2 (t.Rows.drop x.1)) (fun x=>t.Rows.length - x.1) (0,false,0) ⟨Nat.zero_le _,rfl⟩ (I45 ⟨le1 rfl,le1 rfl,le1 rfl,le1 rfl,le1 rfl,trivial⟩ ⟨rfl,rfl,trivial⟩) ?_
   rintro ⟨i,res,par⟩ ⟨hi,hp⟩
   dsimp only at hi hp ⊢
   refine k2 ?_
   refine A3 (A2 (D7 Z Z) Z (A6 ?_))
   refine k1 (k2 ?_)
   refine B3 rfl (fun ht=>?_) (fun ht=>?_)
   ·have hlt:i < t.Rows.length:=by have:=A0 ht;omega
    have hv:t.Rows[i]?=some t.Rows[i]:=by simp [hlt]
    have htl:=C22 t.Rows _ (I90 hlt)
    rw [I84 hlt,R0] at hp
    refine k5 (k1 (k2 (k3 (k2 ?_))))
    refine A3 (A2 (B0 Z (.pure _ _ _ _) Z (by omega) hv) Z (A2 (E1 Z Z) Z (B9 (F5 7 Z) Z (E6 (B7 TySz.out Z Z Z Z Z Z) (A6 ?_)))))
    refine k1 (k2 ?_)
    by_cases hs:K0 t.Rows[i].Text=true
    ·refine A3 (A2 (C8 Z Z Z) Z (C2 (A62 t.Rows[i] (by omega)) Z Z Z ?_));rintro _ rfl;refine A2 (J2 Z) Z (A2 (A4 Z Z) Z (L2 Z Z Z (by rw [hs];rfl) ?_));refine A2 (C8 Z Z Z) Z (L2 Z Z Z (by rw [hs];rfl) ?_);refine F47 (H06 t.Rows[i] res par (by omega)) Z Z Z Z Z Z ?_;rintro _ _ ⟨rfl,rfl⟩;refine B1 Z Z Z Z (fun hg=>by rw [hg];exact J2 Z) ?_;refine A2 (B6 Z (fun h=>by first | rfl | (rw [h];rfl)) (fun h=>by first | rfl | (rw [h];rfl))) Z ?_;refine A6 ?_
     refine k1 ?_
     refine B3 rfl (fun ht=>?_) (fun ht=>?_)
     ·have h2:B71 res par t.Rows[i]=false:=by rw [hs] at ht;simpa using ht
      rw [hs,h2,Bool.true_and,Bool.false_and] at hp
      refine k2 ?_
      refine A3 (A2 (A5 Z Z) Z (A6 ?_))
      refine k1 (k10 (k12 (k11 (k11 (k12 (k11 ?_))))))
      exact B5 (F1 rfl rfl rfl) (by rw [I7,if_neg h,if_neg (by simp [hm]),if_pos (by rw [←hat];exact hp)])
     ·have h2:B71 res par t.Rows[i]=true:=by rw [hs] at ht;simpa using ht
      rw [hs,h2,Bool.true_and,Bool.true_and] at hp
      refine k5 (k4 (k1 ?_))
      refine A3 (A2 (C0 Z Z (by omega)) Z (A2 (A4 Z Z) Z (A6 ?_)))
      refine k1 ?_
      exact ⟨(i+1,_,_),⟨by dsimp only;omega,hp⟩,by dsimp only;omega,I45 ⟨le1 rfl,le1 rfl,le1 rfl,le1 rfl,le1 rfl,trivial⟩ ⟨rfl,rfl,trivial⟩⟩
    ·have hs':K0 t.Rows[i].Text=false:=by simpa using hs
     refine A3 (A2 (C8 Z Z Z) Z (C2 (A62 t.Rows[i] (by omega)) Z Z Z ?_));rintro _ rfl;refine A2 (J2 Z) Z (A2 (A4 Z Z) Z (B1 Z Z Z Z (fun hg=>by rw [hg];exact C8 Z Z Z) ?_));refine O3 Z Z Z (by rw [hs'];decide) Z ?_;refine O3 Z Z Z (by rw [hs'];decide) Z ?_;refine A2 (B6 (q:=true) Z (fun h=>rfl) (fun h=>by rw [hs'] at h;cases h)) Z ?_;refine A6 ?_
     rw [hs',Bool.false_and,Bool.false_and] at hp
     refine k1 ?_
     refine B3 rfl (fun ht=>?_) (fun ht=>?_)
     ·refine k2 ?_
      refine A3 (A2 (A5 Z Z) Z (A6 ?_))
      refine k1 (k10 (k12 (k11 (k11 (k12 (k11 ?_))))))
      exact B5 (F1 rfl rfl rfl) (by rw [I7,if_neg h,if_neg (by simp [hm]),if_pos (by rw [←hat];exact hp)])
     ·rw [hs'] at ht;cases ht
   ·have hil:i=t.Rows.length:=by have:=A1 ht;omega
    rw [hil,I87 (Nat.le_refl _)] at hp
    have hp':R0 false 0 t.Rows=true:=hp
    refine k6 (k2 ?_)
    refine A3 (A2 (A5 Z Z) Z (A6 ?_))
    refine k1 (k10 ?_)
    exact B5 (F1 rfl rfl rfl) (by rw [I7,if_neg h,if_neg (by simp [hm]),if_neg (by rw [←hat,hp'];simp)])
def isBld (ob:Obs) (xs:Str):Prop:=(∃a,(a=.p (.v (.pointer none))∨a=.ref 700 0)∧C3 ob 700=some (.tbx 124 [a,.buf 701 UInt8 1 u8C xs]))∧C3 ob 701=some (.spare xs.length 1 5)
abbrev bldObs (ob:Obs) (ys xs:Str):Obs:=(700,.tbx 124 [.ref 700 0,.buf 701 UInt8 1 u8C xs])::(701,.spare xs.length 1 5)::Obs.forget 701 ((700,.tbx 124 [.ref 700 0,.buf 701 UInt8 1 u8C ys])::ob)
def H07:Go.Shelf.Ren:=⟨fun | 240=>147 | 276=>204 | n=>n,fun | 72=>124 | 70=>122 | 164=>240 | 37=>115 | n=>n,fun n=>n⟩
theorem ccLays:Go.Proofs.Lays.n240 Tryz.prog H07:={
 mixed:=by kernel_rfl
 f240:=Tryz.func147.trans (congrArg some (by kernel_rfl))
 f276:=Tryz.func204.trans (congrArg some (by kernel_rfl))
 t0:=Tryz.underlying0
 a0:=Tryz.isAgg0
 z0:=Tryz.sizeOf0
 v0:=Tryz.zeroValue0
 t4:=Tryz.underlying4
 a4:=Tryz.isAgg4
 z4:=Tryz.sizeOf4
 v4:=Tryz.zeroValue4
 t9:=Tryz.underlying9
 a9:=Tryz.isAgg9
 z9:=Tryz.sizeOf9
 v9:=Tryz.zeroValue9
 t20:=Tryz.underlying20
 a20:=Tryz.isAgg20
 z20:=Tryz.sizeOf20
 v20:=Tryz.zeroValue20
 t70:=Tryz.underlying122
 a70:=Tryz.isAgg122
 z70:=Tryz.sizeOf122
 v70:=Tryz.zeroValue122
 t72:=Tryz.underlying124
 a72:=Tryz.isAgg124
 z72:=Tryz.sizeOf124
 v72:=Tryz.zeroValue124
 t164:=Tryz.underlying240
 a164:=Tryz.isAgg240
 z164:=Tryz.sizeOf240
 v164:=Tryz.zeroValue240 }
theorem ccX:Builder.X72 Tryz.prog H07:={
 sizeBuilder:=by kernel_rfl
 liesBuilder:=by kernel_rfl }
theorem B67 {gf:Fr} {ob:Obs} {a t:TC} (hk:C3 ob 700=some (.tbx 124 [a,t])) (ha:a=.p (.v (.pointer none))∨a=.ref 700 0) :
  AL.Met Tryz.prog 147 [.one (.ref 700 0)] gf ob [] (fun rs ob'=>rs=[]∧ob'=(700,.tbx 124 [.ref 700 0,t])::ob) :=
 AL.Met.copyCheck ⟨_,rfl,rfl,rfl⟩ (fun b w h1 h2 h3=>Any.Builder_copyCheck_fresh (ρ:=H07) ccLays ccX b w h1 h2 h3) (fun b w h=>Any.Builder_copyCheck_used (ρ:=H07) ccLays ccX b w h) hk ha
theorem Q3 {gf:Fr} {ob:Obs} {xs s:Str} (hb:isBld ob xs) (hlen:xs.length+s.length≤1073741824) :
  AL.Met Tryz.prog 85 [.one (.ref 700 0),.one (.p (.v (.string ⟨s.toArray⟩)))] gf ob [701] (fun rs ob'=>rs=[.one (.p (.v (.int .i64 s.length))),.one (.p (.v .nilIface))]∧ob'=bldObs ob xs (xs++s)):=by
 obtain ⟨⟨a,ha,hk⟩,hk1⟩:=hb
 refine AL.Met.intro Tryz.func85 (by decide) Z Z Z ?_
 refine k2 ?_
 refine A3 (A2 (A5 Z Z) Z (A2 (A5 Z Z) Z (A6 ?_)))
 refine k1 (k2 ?_)
 refine A3 (A2 (A4 Z Z) Z (A11 (B67 hk ha) Z Z Z ?_));rintro _ _ ⟨rfl,rfl⟩;refine A6 ?_
 refine k1 (k2 ?_)
 refine A3 (A2 (A4 Z Z) Z (A2 (A4 Z Z) Z (A2 (D6 Z) Z (A2 (A7 Z) Z (A2 (C71 Z Z Z) Z (A2 (A4 Z Z) Z (B9 (A50 TyStr.out Z hk1 Z (by first | omega | (simp;omega)) Z) Z (A2 (D6 Z) Z (A2 (A7 Z) Z (E6 (C06 TySz.out Z Z Z Z Z Z) (A6 ?_)))))))))))
 refine k1 (k2 ?_)
 refine A3 (A2 (A4 Z Z) Z (A2 (M1 Z) Z (A2 (A5 Z Z) Z (A2 (A5 Z Z) Z (A6 ?_)))))
 refine k1 (k10 ?_)
 exact X8 (rets2 rfl rfl rfl) (by repeat (first | exact G3 | refine G4 rfl ?_ | refine M7 _ ?_)) (fun _ _ h=>h) ⟨rfl,rfl⟩
theorem B68 {gf:Fr} {ob:Obs} {xs:Str} {c:UInt8} (hb:isBld ob xs) (hlen:xs.length+1≤1073741824) :
  AL.Met Tryz.prog 136 [.one (.ref 700 0),.one (.p (.v (.int .u8 c.toNat)))] gf ob [701] (fun rs ob'=>rs=[.one (.p (.v .nilIface))]∧ob'=bldObs ob xs (xs++[c])):=by
 obtain ⟨⟨a,ha,hk⟩,hk1⟩:=hb
 refine AL.Met.intro Tryz.func136 (by decide) Z Z Z ?_
 refine k2 ?_
 refine A3 (A2 (A5 Z Z) Z (A6 ?_))
 refine k1 (k2 ?_)
 refine A3 (A2 (A4 Z Z) Z (A11 (B67 hk ha) Z Z Z ?_));rintro _ _ ⟨rfl,rfl⟩;refine A6 ?_
 refine k1 (k2 ?_)
 refine A3 (A2 (A4 Z Z) Z (A2 (A4 Z Z) Z (A2 (D6 Z) Z (A2 (A7 Z) Z (A2 (C71 Z Z Z) Z (A2 (A4 Z Z) Z (A2 (C4 (c:=u8C) (ys:=[c]) (D5 Z Z Z Z E7) Z Z Z) Z (B9 (F0 Z hk1 Z (.pure _ _ _ _) (by (simp;omega)) Z) Z (A2 (D6 Z) Z (A2 (A7 Z) Z (E6 (C06 TySz.out Z Z Z Z Z Z) (A6 ?_))))))))))))
 refine k1 (k2 ?_)
 refine A3 (A2 (A5 Z Z) Z (A6 ?_))
 refine k1 (k10 ?_)
 exact X8 (A91 rfl rfl) (by repeat (first | exact G3 | refine G4 rfl ?_ | refine M7 _ ?_)) (fun _ _ h=>h) ⟨rfl,rfl⟩
end Go.Proofs.YtbiadkkamhpdnaaGreatDoor
