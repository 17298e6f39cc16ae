/- Walks of the program's functions. -/
import Derived.Test.YtbiadkkamhpdnaaGreatDoorTy
import Derived.Test.YtbiadkkamhpdnaaGreatDoorFs
import Derived.Test.YtbiadkkamhpdnaaGreatDoorSh
set_option linter.unusedSimpArgs false
namespace Go.Proofs.YtbiadkkamhpdnaaGreatDoor
open Go Go.AL
set_option maxRecDepth 100000
theorem B16 (p:Int):0≤IntKind.u64.wrap p:=by simp [IntKind.wrap,IntKind.signed,IntKind.bits];omega
theorem G83 (s:Str) (hs:s.length≤1099511627776):FnOk Tryz.prog 128 [N2 s] (fun rs=>rs=[M3 (ended s)]):=by
 refine FnOk.intro Tryz.func128 (by decide) Z Z Z Z ?_
 refine k2 (A3 (A7 Z Z (A5 ?_)));refine k1 (k2 ?_)
 have hl:s≠[]→s[((s.length:Int) - 1).toNat]?=some (s.getLastD 0):=by
  intro h
  have h1:0 < s.length:=List.length_pos_iff.2 h
  have h2:((s.length:Int) - 1).toNat=s.length - 1:=by omega
  rw [h2,←List.getLast?_eq_getElem?,List.getLast?_eq_some_getLast h,List.getLastD_eq_getLast?,List.getLast?_eq_some_getLast h]
  rfl
 refine A3 (A4 Z Z (A6 (C11 Z Z) Z (A4 Z Z (B2 Z Z Z Z (fun hg=>by rw [hg];exact B7 Z Z) ?_))));refine B2 Z Z Z Z (fun hg=>by rw [hg];exact B7 Z Z) ?_;refine B2 Z Z Z Z (fun hg=>by rw [hg];exact N3 Z) ?_;refine B2 Z Z Z Z (fun hg=>by have hq:=hg;(try simp at hq);rw [hg];exact U0 Z Z (by omega)) ?_;refine B2 Z Z Z Z (fun hg=>by have hq:=hg;(try simp at hq);have h1:=List.length_pos_iff.2 hq;rw [hg];exact p6 Z Z (by omega) (hl hq)) ?_;refine B2 Z Z Z Z (fun hg=>by rw [hg];exact K0 Z Z) ?_;refine J4 Z Z ?_;refine A7 Z Z (A5 ?_);refine k1 (k10 (B6 (G6 Z Z Z) ?_))
 rw [J52]
theorem C94 (b:Str) (hb:b.length≤536870912):FnOk Tryz.prog 70 [N2 b] (fun rs=>rs=[x4 (C2 b)]):=by
 refine FnOk.intro Tryz.func70 (by decide) Z Z Z Z ?_
 refine k2 (A3 (A7 Z Z (A5 ?_)));refine k1 (k2 (A3 (C1 (V1 3 _ M5 Z) Z (A5 ?_))));refine k1 (k2 (A3 (A7 Z Z (A5 ?_))));refine k1 (k2 (k2 (A3 (A7 Z Z (A5 ?_)))));refine k1 (k3 ?_);refine D6 (X:=Nat × Nat × List Str) (fun x=>([(0,X6 b),(3,.s (.one (.buf 3 Str 1 M5 x.2.2))),(4,B9 x.2.1),(5,B9 x.1)],[(3,.spare x.2.2.length 1 9)]))
  (fun x=>x.1≤b.length∧x.2.1≤x.1∧x.2.2.length≤x.1∧(x.1=b.length→x.2.1=x.1)∧x.2.2++J3 ((b.drop x.2.1).take (x.1 - x.2.1)) (b.drop x.1)=C2 b) (fun x=>b.length - x.1) (0,0,[]) (by simp [C2]) ?_ ?_
 ·exact J69 ⟨⟨_,rfl,.same _⟩,⟨_,rfl,.same _⟩,⟨_,rfl,.same _⟩,⟨_,rfl,.same _⟩,trivial⟩ ⟨rfl,trivial⟩
 ·rintro ⟨i,from',out⟩ ⟨hi,hf,ho,he,hp⟩
  dsimp only at hi hf ho he hp ⊢
  refine k2 (k2 (A3 (A4 Z Z (A4 Z Z (A6 (N3 Z) Z (E4 Z Z Z (A5 ?_)))))));refine k1 ?_;refine B3 rfl (fun ht=>?_) (fun ht=>?_)
  ·have hlt:i < b.length:=by simpa using ht
   have hv:b[i]?=some b[i]:=by simp [hlt]
   refine k5 (k1 (k2 (k3 (k2 (A3 (A4 Z Z (A4 Z Z (A6 (p6 Z Z (by omega) hv) Z (A6 (K0 Z Z) Z (A4 Z Z (B2 Z Z Z Z (fun hg=>by rw [hg];exact B7 Z Z) ?_)))))))))));refine B2 Z Z Z Z (fun hg=>by have hq:=hg;(try simp at hq);rw [hg];exact V2 Z Z (by omega)) ?_;refine B2 Z Z Z Z (fun hg=>by rw [hg];exact B7 Z Z) ?_;refine B2 Z Z Z Z (fun hg=>by rw [hg];exact N3 Z) ?_;refine B2 Z Z Z Z (fun hg=>by rw [hg];exact K0 Z Z) ?_;refine J4 Z Z ?_;refine A5 ?_;refine k1 ?_;refine B3 rfl (fun ht2=>?_) (fun ht2=>?_)
   ·refine k2 (A3 (A4 Z Z (A4 Z Z (A4 Z Z (A4 Z Z (C6 Z Z Z (A6 (A06 Z Z Z (by omega) (by omega) (by omega)) Z (A6 (D5 (c:=M5) (ys:=[_]) (E0 Z Z Z Z F3) Z Z Z) Z (C1 (G4 Z Z Z (.pure _ _ _ _) (by simp;omega) Z) Z (A7 Z Z (A5 ?_)))))))))));refine k1 (A3 (A4 Z Z (C6 Z Z Z (A7 Z Z (A5 ?_)))));refine k4 (k1 (A3 (A4 Z Z (C6 Z Z Z (A7 Z Z (A5 ?_))))));refine k1 ?_;refine ⟨(i+1,i+1,_),⟨?_,?_,?_,?_,?_⟩,?_,J69 ⟨⟨_,rfl,.same _⟩,⟨_,rfl,.same _⟩,⟨_,rfl,.same _⟩,⟨_,rfl,.same _⟩,trivial⟩ ⟨rfl,trivial⟩⟩
    all_goals dsimp only
    ·omega
    ·omega
    ·simp;omega
    ·omega
    ·have hc:b[i]=10∨i+1=b.length:=by
      simp only [F75] at ht2
      by_cases h:b[i]=10
      ·exact .inl h
      ·simp [h] at ht2;exact .inr (by omega)
     rw [H92,K12,Nat.sub_self,List.take_zero,←F76 b from' i hf hlt,K18,←hp,K13 hlt,A01]
     rcases hc with h | h
     ·rw [if_pos h];rfl
     ·have hd:b.drop (i+1)=[]:=K15 (by omega)
      rw [hd]
      split
      ·rfl
      ·rw [show J3 ([]:Str) []=[] from rfl,G40 _ (by simp)];simp
    ·omega
   ·refine k5 (k4 (k1 (A3 (A4 Z Z (C6 Z Z Z (A7 Z Z (A5 ?_)))))));refine k1 ?_;refine ⟨(i+1,from',out),⟨?_,?_,?_,?_,?_⟩,?_,J69 ⟨⟨_,rfl,.same _⟩,⟨_,rfl,.same _⟩,⟨_,rfl,.same _⟩,⟨_,rfl,.same _⟩,trivial⟩ ⟨rfl,trivial⟩⟩
    all_goals dsimp only
    ·omega
    ·omega
    ·omega
    ·intro h
     simp [show (i:Int)+1=(b.length:Int) by omega] at ht2
    ·have hc:b[i]≠10:=fun h=>by simp [h] at ht2
     rw [←F76 b from' i hf hlt,←hp,K13 hlt,A01,if_neg hc]
    ·omega
  ·refine k6 (k2 (A3 (A4 Z Z (A7 Z Z (A5 ?_)))));refine k1 (k10 (B6 (G6 Z Z Z) ?_))
   have hi':i=b.length:=by simp at ht;omega
   subst hi'
   have:=he rfl
   subst this
   rw [Nat.sub_self,List.take_zero,K15 (Nat.le_refl _)] at hp
   rw [←hp];simp [J3]
theorem G84 (b:Str) (hb:b.length≤1099511627776):FnOk Tryz.prog 99 [N2 b] (fun rs=>rs=[H3 (d7 b)]):=by
 refine FnOk.intro Tryz.func99 (by decide) Z Z Z Z ?_
 refine k2 (A3 (A7 Z Z (A5 ?_)));refine k1 (k2 (k2 (A3 (A4 Z Z (A6 (N3 Z) Z (A6 (N5 Z Z) Z (A4 Z Z (B2 Z Z Z Z (fun hg=>by rw [hg];exact B7 Z Z) ?_))))))));refine B2 Z Z Z Z (fun hg=>by have hq:=hg;(try simp at hq);rw [hg];exact H2 (C94 b (by omega)) Z Z) ?_;refine B2 Z Z Z Z (fun hg=>by rw [hg];exact V3 Z (.pure _ _ _ _)) ?_;refine B2 Z Z Z Z (fun hg=>by rw [hg];exact N5 Z Z) ?_;refine J4 Z Z ?_;refine A5 ?_;refine k1 ?_;refine B3 rfl (fun ht=>?_) (fun ht=>?_)
 ·have h:=A0 (or_pick.symm.trans ht)
  refine k2 (A3 (A7 Z Z (A5 ?_)));refine k1 (k10 (k11 ?_))
  exact B6 (G6 rfl rfl rfl) (by rw [d7,if_pos (by omega)])
 ·have h:=A1 (or_pick.symm.trans ht)
  refine k5 (k1 (k2 (A3 (A7 Z Z (A5 ?_)))));refine k1 (k10 ?_)
  exact B6 (G6 rfl rfl rfl) (by rw [d7,if_neg (by omega)])
theorem list_ok (l:List Str) (hl:∀s∈l,s.length≤1099511627776):FnOk Tryz.prog 72 [x4 l] (fun rs=>rs=[M3 (Y4 l)]):=by
 refine FnOk.intro Tryz.func72 (by decide) Z Z Z Z ?_
 refine A60 (t:=0) rfl (.pure _ _ _ _) fun hlen=>?_
 refine k2 (A3 (A7 Z Z (A5 ?_)));refine k1 (k2 (k2 (A3 (A7 Z Z (A5 ?_)))));refine k1 (k3 (D6 (X:=Nat) (fun i=>([(0,C3 Str 1 M5 l),(3,B9 i)],[])) (fun i=>i≤l.length∧Y4 l=Y4 (l.drop i)) (fun i=>l.length - i) 0 (by simp) (J69 ⟨le1 rfl,le1 rfl,trivial⟩ trivial) ?_))
 rintro i ⟨hi,hp⟩
 dsimp only at hi hp ⊢
 refine k2 (k2 (A3 (A4 Z Z (A4 Z Z (E7 Z Z (E4 Z Z Z (A5 ?_)))))));refine k1 ?_;refine B3 rfl (fun ht=>?_) (fun ht=>?_)
 ·have hlt:i < l.length:=by simpa using ht
  have hv:l[i]?=some l[i]:=by simp [hlt]
  have hs:=hl l[i] (K17 hlt)
  rw [K13 hlt] at hp
  refine k5 (k1 (k2 (k3 (k2 (k2 (A3 (A7 Z Z (A5 ?_))))))));refine k1 (k3 (D6 (X:=Nat) (fun k=>([(0,C3 Str 1 M5 l),(3,B9 i),(4,B9 k)],[])) (fun k=>k≤l[i].length∧J5 l[i]=((l[i].dropLast.drop k).all (·≠10)&&l[i] != [])) (fun k=>l[i].length - k) 0 (by simp [J5]) (J69 ⟨le1 rfl,le1 rfl,le1 rfl,trivial⟩ trivial) ?_))
  intro k hk
  dsimp only at hk ⊢
  refine k2 (k2 (A3 (A4 Z Z (C6 Z Z Z (A4 Z Z (A4 Z Z (A6 (B0 Z (.pure _ _ _ _) Z (by omega) hv) Z (A6 (B1 Z Z) Z (A6 (N3 Z) Z (E4 Z Z Z (A5 ?_)))))))))));refine k1 ?_;refine B3 rfl (fun ht=>?_) (fun ht=>?_)
  ·have hk2:k+1 < l[i].length:=by have:=A0 ht;omega
   have hvk:l[i][k]?=some (l[i][k]'(by omega)):=K07 (by omega)
   have hd:l[i].dropLast.drop k=l[i][k]'(by omega)::l[i].dropLast.drop (k+1):=by
    rw [K13 (by simp;omega)];simp
   rw [hd,List.all_cons] at hk
   refine k5 (k1 (k2 (k3 (k2 (A3 (A4 Z Z (A4 Z Z (A6 (B0 Z (.pure _ _ _ _) Z (by omega) hv) Z (A6 (B1 Z Z) Z (A4 Z Z (A6 (p6 Z Z (by omega) hvk) Z (A6 (K0 Z Z) Z (A5 ?_)))))))))))));refine k1 ?_;refine B3 rfl (fun ht=>?_) (fun ht=>?_)
   ·have h10:=(F75 _).1 (A0 ht)
    refine k2 (A3 (A7 Z Z (A5 ?_)));refine k1 (k10 (k12 (k11 (k11 (k12 (k11 (k12 (k11 (k11 (k12 (k11 ?_)))))))))))
    exact B6 (G6 rfl rfl rfl) (by rw [hp,Y4,hk.2];simp [h10])
   ·have h10:l[i][k]'(by omega)≠10:=fun h=>A1 ht ((F75 _).2 h)
    refine k5 (k4 (k1 (A3 (A4 Z Z (C6 Z Z Z (A7 Z Z (A5 ?_)))))));refine k1 ?_
    exact ⟨k+1,⟨by omega,by rw [hk.2];simp [h10]⟩,by omega,J69 ⟨le1 rfl,le1 rfl,le1 rfl,trivial⟩ trivial⟩
  ·have hk2:l[i].length≤k+1:=by have:=A1 ht;omega
   have hlo:J5 l[i]=(l[i] != []):=by rw [hk.2,K15 (by simp;omega)];rfl
   refine k6 (k2 (A3 (A4 Z Z (A4 Z Z (A6 (B0 Z (.pure _ _ _ _) Z (by omega) hv) Z (A6 (B1 Z Z) Z (A6 (A30 Z Z) Z (A4 Z Z (B2 Z Z Z Z (fun hg=>by rw [hg];exact B7 Z Z) ?_)))))))));refine B2 Z Z Z Z (fun hg=>by have hq:=hg;(try simp at hq);rw [hg];exact V2 Z Z (by omega)) ?_;refine B2 Z Z Z Z (fun hg=>by rw [hg];exact B7 Z Z) ?_;refine B2 Z Z Z Z (fun hg=>by rw [hg];exact V3 Z (.pure _ _ _ _)) ?_;refine B2 Z Z Z Z (fun hg=>by rw [hg];exact A05 Z Z) ?_;refine B2 Z Z Z Z (fun hg=>by rw [hg];exact B7 Z Z) ?_;refine I0 Z Z Z (.gd (.val _)) Z (fun hg=>by obtain ⟨hg1,hg2⟩:=N7 hg;(try rw [hg1]);(try rw [hg2]);exact B7 Z Z) ?_;refine I0 Z Z Z (.gd (.val _)) Z (fun hg=>by obtain ⟨hg1,hg2⟩:=N7 hg;(try rw [hg1]);(try rw [hg2]);exact B7 Z Z) ?_;refine I0 Z Z Z (.gd (.val _)) Z (fun hg=>by have hq:=hg;(try simp at hq);obtain ⟨hg1,hg2⟩:=N7 hg;(try rw [hg1]);(try rw [hg2]);exact B0 Z (.pure _ _ _ _) Z (by omega) hv) ?_;refine I0 Z Z Z (.gd (.val _)) Z (fun hg=>by obtain ⟨hg1,hg2⟩:=N7 hg;(try rw [hg1]);(try rw [hg2]);exact B1 Z Z) ?_;refine I0 Z Z Z (.gd (.val _)) Z (fun hg=>by have hq:=hg;(try simp at hq);obtain ⟨hg1,hg2⟩:=N7 hg;(try rw [hg1]);(try rw [hg2]);exact H2 (G83 l[i] hs) Z Z) ?_;refine I0 Z Z Z (.gd (.val _)) Z (fun hg=>by obtain ⟨hg1,hg2⟩:=N7 hg;(try rw [hg1]);(try rw [hg2]);exact B56 Z) ?_;refine B2 Z Z Z Z (fun hg=>by rw [hg];exact F6 Z (fun h=>by first | rfl | (rw [h];rfl)) (fun h=>by first | rfl | (rw [h];rfl))) ?_;refine J4 Z Z ?_;refine A5 ?_;refine k1 ?_
   have he:(l.drop (i+1)).isEmpty=decide (l.length≤i+1):=by
    rw [Bool.eq_iff_iff];simp
   rw [Y4,hlo,he] at hp
   refine B3 rfl (fun ht=>?_) (fun ht=>?_)
   ·refine k2 (A3 (A7 Z Z (A5 ?_)));refine k1 (k10 (k12 (k11 (k11 (k12 (k11 (B6 (G6 Z Z Z) ?_)))))))
    have:Y4 l=false:=by
     rw [hp]
     by_cases h:l[i]=[]
     ·simp [h]
     ·rw [if_neg (by simpa using h)] at ht
      by_cases h2:(i:Int)+1 < l.length
      ·rw [if_pos (by simpa using h2)] at ht
       have h3:¬(l.length≤i+1):=by omega
       simp only [Bool.not_eq_true'] at ht
       simp [ht,h3]
      ·rw [if_neg (by simpa using h2)] at ht;cases ht
    rw [this]
   ·refine k5 (k4 (k1 (A3 (A4 Z Z (C6 Z Z Z (A7 Z Z (A5 ?_)))))));refine k1 ?_;refine ⟨i+1,⟨by omega,?_⟩,by omega,J69 ⟨le1 rfl,le1 rfl,trivial⟩ trivial⟩
    rw [hp]
    by_cases h:l[i]=[]
    ·rw [if_pos (by simpa using h)] at ht;cases ht
    ·rw [if_neg (by simpa using h)] at ht
     by_cases h2:(i:Int)+1 < l.length
     ·rw [if_pos (by simpa using h2)] at ht
      simp only [Bool.not_eq_false'] at ht
      simp [ht,h]
     ·have h3:l.length≤i+1:=by omega
      simp [h,h3]
 ·have:i=l.length:=by have:=A1 ht;omega
  subst this
  refine k6 (k2 (A3 (A7 Z Z (A5 ?_))));refine k1 (k10 ?_)
  exact B6 (G6 rfl rfl rfl) (by rw [hp];simp [Y4])
theorem all_ok (l:List Str) (hl:l.flatten.length≤536870912):FnOk Tryz.prog 129 [x4 l] (fun rs=>rs=[N2 l.flatten]):=by
 refine FnOk.intro Tryz.func129 (by decide) Z Z Z Z ?_
 refine A60 (t:=0) rfl (.pure _ _ _ _) fun hlen=>?_
 refine k2 (A3 (A7 Z Z (A5 ?_)));refine k1 (k2 (A3 (C1 (V1 3 _ u8C Z) Z (A5 ?_))));refine k1 (k2 (k2 (A3 (A7 Z Z (A5 ?_)))));refine k1 (k3 (D6 (X:=Nat) (fun i=>([(0,C3 Str 1 M5 l),(3,.s (.one (.buf 3 UInt8 1 u8C (l.take i).flatten))),(4,B9 i)],[(3,.spare (l.take i).flatten.length 1 5)])) (fun i=>i≤l.length) (fun i=>l.length - i) 0 (by simp) (J69 ⟨le1 rfl,le1 rfl,le1 rfl,trivial⟩ ⟨rfl,trivial⟩) ?_))
 intro i hi
 dsimp only at hi ⊢
 refine k2 (k2 (A3 (A4 Z Z (A4 Z Z (E7 Z Z (E4 Z Z Z (A5 ?_)))))));refine k1 ?_;refine B3 rfl (fun ht=>?_) (fun ht=>?_)
 ·have hlt:i < l.length:=by simpa using ht
  have hv:l[i]?=some l[i]:=by simp [hlt]
  have hf:=W3 l i hlt
  have hle:=Y8 l (i+1)
  rw [hf,K06] at hle
  refine k5 (k1 (k2 (k3 (A3 (A4 Z Z (A4 Z Z (A4 Z Z (A6 (B0 Z (.pure _ _ _ _) Z (by omega) hv) Z (A6 (B1 Z Z) Z (C1 (B03 TyStr.out Z Z Z (by omega) Z) Z (A7 Z Z (A5 ?_))))))))))));refine k4 (k1 (A3 (A4 Z Z (C6 Z Z Z (A7 Z Z (A5 ?_))))));refine k1 ?_;refine ⟨i+1,by omega,by omega,?_⟩
  dsimp only
  rw [hf]
  exact J69 ⟨le1 rfl,le1 rfl,le1 rfl,trivial⟩ ⟨rfl,trivial⟩
 ·have:i=l.length:=by simp at ht;omega
  subst this
  refine k6 (k2 (A3 (A4 Z Z (A6 (a6 TyStr.out Z (.buf _ _ _ _ _)) Z (A7 Z Z (A5 ?_))))));refine k1 (k10 ?_)
  exact B6 (G6 rfl rfl rfl) (by simp)
theorem line_ok (s:Str) (hs:s.length≤1099511627776):FnOk Tryz.prog 142 [N2 s] (fun rs=>rs=[M3 (J5 s)]):=by
 refine FnOk.intro Tryz.func142 (by decide) Z Z Z Z ?_
 refine k2 (A3 (A7 Z Z (A5 ?_)));refine k1 (k2 (k2 (A3 (A7 Z Z (A5 ?_)))));refine k1 (k3 (D6 (X:=Nat) (fun k=>([(0,X6 s),(3,B9 k)],[])) (fun k=>k≤s.length∧J5 s=((s.dropLast.drop k).all (·≠10)&&s != [])) (fun k=>s.length - k) 0 (by simp [J5]) (J69 ⟨le1 rfl,le1 rfl,trivial⟩ trivial) ?_))
 intro k hk
 dsimp only at hk ⊢
 refine k2 (k2 (A3 (A4 Z Z (C6 Z Z Z (A4 Z Z (A6 (N3 Z) Z (E4 Z Z Z (A5 ?_))))))));refine k1 ?_;refine B3 rfl (fun ht=>?_) (fun ht=>?_)
 ·have hk2:k+1 < s.length:=by have:=A0 ht;omega
  have hvk:s[k]?=some (s[k]'(by omega)):=K07 (by omega)
  have hd:s.dropLast.drop k=s[k]'(by omega)::s.dropLast.drop (k+1):=by
   rw [K13 (by simp;omega)];simp
  rw [hd,List.all_cons] at hk
  refine k5 (k1 (k2 (k3 (k2 (A3 (A4 Z Z (A4 Z Z (A6 (p6 Z Z (by omega) hvk) Z (A6 (K0 Z Z) Z (A5 ?_))))))))));refine k1 ?_;refine B3 rfl (fun ht=>?_) (fun ht=>?_)
  ·have h10:=(F75 _).1 (A0 ht)
   refine k2 (A3 (A7 Z Z (A5 ?_)));refine k1 (k10 (k12 (k11 (k11 (k12 (k11 ?_))))))
   exact B6 (G6 rfl rfl rfl) (by rw [hk.2];simp [h10])
  ·have h10:s[k]'(by omega)≠10:=fun h=>A1 ht ((F75 _).2 h)
   refine k5 (k4 (k1 (A3 (A4 Z Z (C6 Z Z Z (A7 Z Z (A5 ?_)))))));refine k1 ?_
   exact ⟨k+1,⟨by omega,by rw [hk.2];simp [h10]⟩,by omega,J69 ⟨le1 rfl,le1 rfl,trivial⟩ trivial⟩
 ·have hk2:s.length≤k+1:=by have:=A1 ht;omega
  have hlo:J5 s=(s != []):=by rw [hk.2,K15 (by simp;omega)];rfl
  refine k6 (k2 (A3 (A4 Z Z (A6 (C11 Z Z) Z (A7 Z Z (A5 ?_))))));refine k1 (k10 ?_)
  exact B6 (G6 rfl rfl rfl) (by rw [hlo];by_cases h:s=[]<;>simp [h])
theorem G85 (l:List Str) (s:Str):FnOk Tryz.prog 167 [x4 l,N2 s] (fun rs=>rs=[H3 (I5 l s 0)]):=by
 refine FnOk.intro Tryz.func167 (by decide) Z Z Z Z ?_
 refine A60 (t:=0) rfl (.pure _ _ _ _) fun hlen=>?_
 refine k2 (A3 (A7 Z Z (A5 ?_)));refine k1 (k2 (k2 (A3 (A7 Z Z (A5 ?_)))));refine k1 (k3 (D6 (X:=Nat) (fun i=>([(0,C3 Str 1 M5 l),(1,X6 s),(5,B9 i)],[])) (fun i=>i≤l.length∧I5 l s 0=I5 (l.drop i) s i) (fun i=>l.length - i) 0 (by simp) (J69 ⟨le1 rfl,le1 rfl,le1 rfl,trivial⟩ trivial) ?_))
 rintro i ⟨hi,hp⟩
 dsimp only at hi hp ⊢
 refine k2 (k2 (A3 (A4 Z Z (A4 Z Z (E7 Z Z (E4 Z Z Z (A5 ?_)))))));refine k1 ?_;refine B3 rfl (fun ht=>?_) (fun ht=>?_)
 ·have hlt:i < l.length:=by simpa using ht
  have hv:l[i]?=some l[i]:=by simp [hlt]
  rw [G41 l s i hlt] at hp
  refine k5 (k1 (k2 (k3 (k2 (A3 (A4 Z Z (A4 Z Z (A6 (B0 Z (.pure _ _ _ _) Z (by omega) hv) Z (A6 (B1 Z Z) Z (A4 Z Z (A6 (A30 Z Z) Z (A5 ?_))))))))))));refine k1 ?_;refine B3 rfl (fun ht=>?_) (fun ht=>?_)
  ·rw [if_pos (by simpa using ht)] at hp
   refine k2 (A3 (A4 Z Z (A7 Z Z (A5 ?_))));refine k1 (k10 (k12 (k11 (k11 (k12 (k11 ?_))))))
   exact B6 (G6 rfl rfl rfl) (by rw [hp])
  ·rw [if_neg (by simpa using ht)] at hp
   refine k5 (k4 (k1 (A3 (A4 Z Z (C6 Z Z Z (A7 Z Z (A5 ?_)))))));refine k1 ?_
   exact ⟨i+1,⟨by omega,by simpa using hp⟩,by omega,J69 ⟨le1 rfl,le1 rfl,le1 rfl,trivial⟩ trivial⟩
 ·have:i=l.length:=by simp at ht;omega
  subst this
  refine k6 (k2 (A3 (A7 Z Z (A5 ?_))));refine k1 (k10 ?_)
  exact B6 (G6 rfl rfl rfl) (by rw [hp];simp [I5])
theorem G86 (fs:List (List Str)) (hfs:fs.flatten.length≤536870912):FnOk Tryz.prog 100 [pStrss fs] (fun rs=>rs=[x4 (E5 fs)]):=by
 refine FnOk.intro Tryz.func100 (by decide) Z Z Z Z ?_
 refine A60 (t:=0) rfl (.pure _ _ _ _) fun hlen=>?_
 refine k2 (A3 (A7 Z Z (A5 ?_)));refine k1 (k2 (A3 (C1 (V1 3 _ M5 Z) Z (A5 ?_))));refine k1 (k2 (k2 (A3 (A7 Z Z (A5 ?_)))));refine k1 (k3 (D6 (X:=Nat) (fun f=>([(0,C3 (List Str) 1 strsC fs),(3,.s (.one (.buf 3 Str 1 M5 (E5 (fs.take f))))),(4,B9 f)],[(3,.spare (E5 (fs.take f)).length 1 9)])) (fun f=>f≤fs.length) (fun f=>fs.length - f) 0 (by simp) (J69 ⟨le1 rfl,le1 rfl,le1 rfl,trivial⟩ ⟨rfl,trivial⟩) ?_))
 intro f hf
 dsimp only at hf ⊢
 refine k2 (k2 (A3 (A4 Z Z (A4 Z Z (E7 Z Z (E4 Z Z Z (A5 ?_)))))));refine k1 ?_;refine B3 rfl (fun ht=>?_) (fun ht=>?_)
 ·have hlt:f < fs.length:=by have:=A0 ht;omega
  have hv:fs[f]?=some fs[f]:=by simp [hlt]
  have hfl:=W3 fs f hlt
  have hle:=Y8 fs (f+1)
  rw [hfl,K06] at hle
  have hn0:=B94 (fs.take f)
  refine k5 (k1 (k2 (k3 (k2 (A3 (A7 Z Z (A5 ?_)))))));refine k1 (k3 (D6 (X:=Nat) (fun i=>([(0,C3 (List Str) 1 strsC fs),(3,.s (.one (.buf 3 Str 1 M5 ((fs[f].take i).foldl J1 (E5 (fs.take f)))))),(4,B9 f),(5,B9 i)],[(3,.spare ((fs[f].take i).foldl J1 (E5 (fs.take f))).length 1 9)])) (fun i=>i≤fs[f].length) (fun i=>fs[f].length - i) 0 (by simp) (J69 ⟨le1 rfl,le1 rfl,le1 rfl,le1 rfl,trivial⟩ ⟨rfl,trivial⟩) ?_))
  intro i hi
  dsimp only at hi ⊢
  have hni:=A47 (fs[f].take i) (E5 (fs.take f))
  rw [K19] at hni
  refine k2 (k2 (A3 (A4 Z Z (A4 Z Z (A4 Z Z (A6 (B0 Z (.pure _ _ _ _) Z (by omega) hv) Z (A6 (B1 Z Z) Z (E7 Z Z (E4 Z Z Z (A5 ?_))))))))));refine k1 ?_;refine B3 rfl (fun ht=>?_) (fun ht=>?_)
  ·have hlt2:i < fs[f].length:=by have:=A0 ht;omega
   have hvi:fs[f][i]?=some fs[f][i]:=by simp [hlt2]
   have hst:(fs[f].take (i+1)).foldl J1 (E5 (fs.take f))=J1 ((fs[f].take i).foldl J1 (E5 (fs.take f))) fs[f][i]:=by
    rw [List.take_add_one,hvi,Option.toList_some,K43];rfl
   refine k5 (k1 (k2 (k3 (k2 (A3 (A4 Z Z (A4 Z Z (A4 Z Z (A6 (B0 Z (.pure _ _ _ _) Z (by omega) hv) Z (A6 (B1 Z Z) Z (A4 Z Z (A6 (B0 Z (.pure _ _ _ _) Z (by omega) hvi) Z (A6 (B1 Z Z) Z (C4 (G85 _ _) Z Z Z ?_))))))))))))));rintro _ rfl;refine E4 Z Z Z (A5 ?_);refine k1 ?_
   have hpl:=H11 ((fs[f].take i).foldl J1 (E5 (fs.take f))) fs[f][i] 0 (Int.le_refl _)
   refine B3 rfl (fun ht=>?_) (fun ht=>?_)
   ·have hnot:=hpl.1 (A0 ht)
    skip
    refine A3 (A4 Z Z (A4 Z Z (A4 Z Z (A6 (B0 Z (.pure _ _ _ _) Z (by omega) hv) Z (A6 (B1 Z Z) Z (A4 Z Z (A6 (B0 Z (.pure _ _ _ _) Z (by omega) hvi) Z (A6 (B1 Z Z) Z (A6 (D5 (c:=M5) (ys:=[_]) (E0 Z Z Z Z F3) Z Z Z) Z (C1 (G4 Z Z Z (.pure _ _ _ _) (by simp;omega) Z) Z (A7 Z Z (A5 ?_))))))))))));refine k4 (k1 (A3 (A4 Z Z (C6 Z Z Z (A7 Z Z (A5 ?_))))));refine k1 ?_;refine ⟨i+1,by omega,by omega,?_⟩
    rw [hst,J1,if_neg hnot]
    exact J69 ⟨le1 rfl,le1 rfl,le1 rfl,le1 rfl,trivial⟩ ⟨rfl,trivial⟩
   ·have hin:fs[f][i]∈(fs[f].take i).foldl J1 (E5 (fs.take f)):=Classical.byContradiction fun h=>A1 ht (hpl.2 h)
    refine k5 (k4 (k1 (A3 (A4 Z Z (C6 Z Z Z (A7 Z Z (A5 ?_)))))));refine k1 ?_;refine ⟨i+1,by omega,by omega,?_⟩
    rw [hst,J1,if_pos hin]
    exact J69 ⟨le1 rfl,le1 rfl,le1 rfl,le1 rfl,trivial⟩ ⟨rfl,trivial⟩
  ·have hi':i=fs[f].length:=by have:=A1 ht;omega
   subst hi'
   refine k6 (k7 (k7 (k8 Z (k4 (k1 ?_)))))
   have:E5 (fs.take (f+1))=(fs[f].take fs[f].length).foldl J1 (E5 (fs.take f)):=by
    rw [E5,hfl,K43,K28];rfl
   refine A3 (A4 Z Z (C6 Z Z Z (A7 Z Z (A5 ?_))));refine k1 ?_;refine ⟨f+1,by omega,by omega,?_⟩
   rw [this]
   exact J69 ⟨le1 rfl,le1 rfl,le1 rfl,trivial⟩ ⟨rfl,trivial⟩
 ·have:f=fs.length:=by have:=A1 ht;omega
  subst this
  refine k6 (k2 (A3 (A4 Z Z (A7 Z Z (A5 ?_)))));refine k1 (k10 ?_)
  exact B6 (G6 rfl rfl rfl) (by simp)
theorem made_ok (p:List Span) (m n:Int) (hp:p.length≤536870912) (hb:∀s∈p,-1099511627776≤s.From∧s.From≤1099511627776 ∧ -1099511627776≤s.To∧s.To≤1099511627776)
  (hm:-1099511627776≤m∧m≤1099511627776 ∧ -1099511627776≤n∧n≤1099511627776) :
  FnOk Tryz.prog 169 [pSpans p,H3 m,H3 n] (fun rs=>rs=[pChanges (i7 p m n)]):=by
 refine FnOk.intro Tryz.func169 (by decide) Z Z Z Z ?_
 refine k2 (A3 (A7 Z Z (A5 ?_)));refine k1 (k2 (A3 (C1 (V1 7 _ changeC Z) Z (A5 ?_))));refine k1 (k2 (A3 (A7 Z Z (A7 Z Z (A5 ?_)))));refine k1 (k2 (k2 (A3 (A7 Z Z (A5 ?_)))));refine k1 (k3 ?_);refine D6 (X:=Nat × Int × Int × List Change) (fun x=>([(0,C3 Span 2 spanC p),(1,B9 m),(2,B9 n),(7,.s (.one (.buf 7 Change 4 changeC x.2.2.2))),(8,B9 x.2.1),(9,B9 x.2.2.1),(10,B9 x.1)],[(7,.spare x.2.2.2.length 4 146)]))
  (fun x=>x.1≤p.length+1∧x.2.2.2.length≤x.1∧(-1099511627776≤x.2.1∧x.2.1≤1099511627777 ∧ -1099511627776≤x.2.2.1∧x.2.2.1≤1099511627777)∧(x.1≤p.length→x.2.2.2++O0 x.2.1 x.2.2.1 (p.drop x.1) m n=i7 p m n)∧(x.1=p.length+1→x.2.2.2=i7 p m n))
  (fun x=>p.length+1 - x.1) (0,0,0,[]) (by simp [i7]) (J69 ⟨le1 rfl,le1 rfl,le1 rfl,le1 rfl,le1 rfl,le1 rfl,le1 rfl,trivial⟩ ⟨rfl,trivial⟩) ?_
 rintro ⟨k,i,j,out⟩ ⟨hk,ho,hij,h1,h2⟩
 dsimp only at hk ho hij h1 h2 ⊢
 refine k2 (k2 (A3 (A4 Z Z (A4 Z Z (E7 Z Z (A6 (j6 Z Z) Z (A5 ?_)))))));refine k1 ?_;refine B3 rfl (fun ht=>?_) (fun ht=>?_)
 ·have hk':k≤p.length:=by have:=A0 ht;omega
  have hpp:=h1 hk'
  refine k5 (k1 (k2 (k3 (k2 (A3 (A4 Z Z (A4 Z Z (A6 (H1 Z) Z (C1 (I3 11 Z) Z (F8 (B8 TySz.out Z Z Z Z Z Z) (A5 ?_)))))))))));refine L0 ?_
  obtain ⟨x,hx⟩:∃x,x=p.getD k ⟨m,n⟩:=⟨_,rfl⟩
  have hxb:-1099511627776≤x.From∧x.From≤1099511627776 ∧ -1099511627776≤x.To∧x.To≤1099511627776:=by
   rw [hx,K09]
   by_cases h:k < p.length
   ·rw [K07 h];exact hb _ (K17 h)
   ·rw [K31 (by omega)];exact hm
  have hmade:O0 i j (p.drop k) m n=(if x.From > i∨x.To > j then [⟨i,x.From - i,j,x.To - j⟩] else [])++(if k < p.length then O0 (x.From+1) (x.To+1) (p.drop (k+1)) m n else []):=by
   by_cases h:k < p.length
   ·rw [K13 h,if_pos h,hx,K09,K07 h];rfl
   ·rw [K15 (by omega),if_neg h,hx,K09,K31 (by omega)];simp [O0]
  refine A21 [(0,C3 Span 2 spanC p),(1,B9 m),(2,B9 n),(7,.s (.one (.buf 7 Change 4 changeC out))),(8,B9 i),(9,B9 j),(10,B9 k),(11,.s (.one (.ref 11 0)))] [(11,.box [.p (.v (.int .i64 x.From)),.p (.v (.int .i64 x.To))]),(7,.spare out.length 4 146)] ?_ ?_
  ·refine k2 (A3 (A4 Z Z (A4 Z Z (E7 Z Z (E4 Z Z Z (A5 ?_))))));refine k1 ?_;refine B3 rfl (fun ht=>?_) (fun ht=>?_)
   ·have hlt:k < p.length:=by have:=A0 ht;omega
    have hv:p[k]?=some p[k]:=by simp [hlt]
    have:x=p[k]:=by rw [hx,K09,hv];rfl
    subst this
    skip
    refine A3 (A4 Z Z (A4 Z Z (A6 (B0 Z (.pure _ _ _ _) Z (by omega) hv) Z (A6 (G3 Z Z) Z (F8 (B8 TySz.out Z Z Z Z Z Z) (A5 ?_))))));refine k1 ?_
    exact J69 ⟨le1 rfl,le1 rfl,le1 rfl,le1 rfl,le1 rfl,le1 rfl,le1 rfl,le1 rfl,trivial⟩ ⟨rfl,rfl,trivial⟩
   ·have hlt:¬k < p.length:=by have:=A1 ht;omega
    have:x=⟨m,n⟩:=by rw [hx,K09,K31 (by omega)];rfl
    subst this
    refine k5 (k1 ?_)
    exact J69 ⟨le1 rfl,le1 rfl,le1 rfl,le1 rfl,le1 rfl,le1 rfl,le1 rfl,le1 rfl,trivial⟩ ⟨rfl,rfl,trivial⟩
  ·obtain ⟨out',hout'⟩:∃o,o=out++(if x.From > i∨x.To > j then [⟨i,x.From - i,j,x.To - j⟩] else []):=⟨_,rfl⟩
   have hol:out'.length≤k+1:=by rw [hout',K06];split<;>simp<;>omega
   refine A21 [(0,C3 Span 2 spanC p),(1,B9 m),(2,B9 n),(7,.s (.one (.buf 7 Change 4 changeC out'))),(10,B9 k),(11,.s (.one (.ref 11 0)))] [(11,.box [.p (.v (.int .i64 x.From)),.p (.v (.int .i64 x.To))]),(7,.spare out'.length 4 146)] ?_ ?_
   ·refine k2 (A3 (A6 (A8 Z) Z (E1 Z Z Z Z (A4 Z Z (A6 (N5 Z Z) Z (A4 Z Z (B2 Z Z Z Z (fun hg=>by rw [hg];exact A8 Z) ?_)))))));refine B2 Z Z Z Z (fun hg=>by rw [hg];exact B5 Z Z Z) ?_;refine B2 Z Z Z Z (fun hg=>by rw [hg];exact B7 Z Z) ?_;refine B2 Z Z Z Z (fun hg=>by rw [hg];exact N5 Z Z) ?_;refine J4 Z Z ?_;refine A5 ?_;refine k1 ?_;refine B3 rfl (fun ht=>?_) (fun ht=>?_)
    ·have h:=A0 (or_pick.symm.trans ht)
     rw [if_pos h] at hout'
     subst hout'
     skip
     refine A3 (A4 Z Z (A4 Z Z (A6 (A8 Z) Z (E1 Z Z Z Z (A4 Z Z (A6 (U0 Z Z (by omega)) Z (A4 Z Z (A6 (A8 Z) Z (E1 Z Z Z Z (A4 Z Z (A6 (U0 Z Z (by omega)) Z (A6 (H1 Z) Z (A6 (D5 (c:=changeC) (ys:=[⟨_,_,_,_⟩]) (E0 Z Z Z Z F3) Z Z Z) Z (C1 (G4 Z Z Z (.pure _ _ _ _) (by simp;omega) Z) Z (A7 Z Z (A5 ?_))))))))))))))));refine k1 ?_
     exact J69 ⟨le1 rfl,le1 rfl,le1 rfl,le1 rfl,le1 rfl,le1 rfl,trivial⟩ ⟨rfl,rfl,trivial⟩
    ·have h:=A1 (or_pick.symm.trans ht)
     rw [if_neg h,K29] at hout'
     subst hout'
     refine k5 (k1 ?_)
     exact J69 ⟨le1 rfl,le1 rfl,le1 rfl,le1 rfl,le1 rfl,le1 rfl,trivial⟩ ⟨rfl,rfl,trivial⟩
   ·skip
    refine C9 (by kernel_rfl) (by kernel_rfl) (A9 (A8 Z) Z Z (A9 (B5 Z Z Z) Z Z (A9 (V2 Z Z (by omega)) Z Z (A9 (A8 Z) Z Z (A9 (B5 Z Z Z) Z Z (A9 (V2 Z Z (by omega)) Z Z (A9 (J6 Z Z) Z Z (A9 (J6 Z Z) Z Z (L6 ?_)))))))));refine k4 (k1 (A3 (A4 Z Z (C6 Z Z Z (A7 Z Z (A5 ?_))))));refine k1 ?_;refine ⟨(k+1,x.From+1,x.To+1,out'),⟨by dsimp only;omega,hol,by dsimp only;omega,?_,?_⟩,by dsimp only;omega,J69 ⟨le1 rfl,le1 rfl,le1 rfl,le1 rfl,le1 rfl,le1 rfl,le1 rfl,trivial⟩ ⟨rfl,trivial⟩⟩
    ·intro hk2
     dsimp only at hk2 ⊢
     rw [←hpp,hmade,if_pos (show k < p.length by omega),hout'];simp
    ·intro hk2
     dsimp only at hk2 ⊢
     rw [←hpp,hmade,if_neg (show ¬k < p.length by omega),hout'];simp
 ·have hk':k=p.length+1:=by have:=A1 ht;omega
  refine k6 (k2 (A3 (A4 Z Z (A7 Z Z (A5 ?_)))));refine k1 (k10 ?_)
  exact B6 (G6 rfl rfl rfl) (by rw [h2 hk'])
theorem long_ok (a b:List Int):FnOk Tryz.prog 249 [P0 a,P0 b] (fun rs=>rs=[M3 (decide (4096 < a.length∨4096 < b.length))]):=by
 refine FnOk.intro Tryz.func249 (by decide) Z Z Z Z ?_
 refine k2 (A3 (A7 Z Z (A5 ?_)));refine k1 (k2 (A3 (A4 Z Z (E7 Z Z (A6 (N5 Z Z) Z (A4 Z Z (B2 Z Z Z Z (fun hg=>by rw [hg];exact B7 Z Z) ?_)))))));refine B2 Z Z Z Z (fun hg=>by rw [hg];exact V3 Z (.pure _ _ _ _)) ?_;refine B2 Z Z Z Z (fun hg=>by rw [hg];exact N5 Z Z) ?_;refine J4 Z Z ?_;refine A7 Z Z (A5 ?_);refine k1 (k10 (B6 (G6 Z Z Z) ?_))
 rw [or_pick]
 simp only [List.cons.injEq,and_true,PV.one.injEq,Cell.v.injEq,Value.bool.injEq,decide_eq_decide]
 omega
theorem F61 (l:List Merged) (hl:l.length≤536870912):FnOk Tryz.prog 214 [pMerged l] (fun rs=>rs=[P0 (F5 l)]):=by
 refine FnOk.intro Tryz.func214 (by decide) Z Z Z Z ?_
 refine k2 (A3 (A7 Z Z (A5 ?_)));refine k1 (k2 (A3 (C1 (V1 3 _ F7 Z) Z (A5 ?_))));refine k1 (k2 (k2 (A3 (A7 Z Z (A5 ?_)))));refine k1 (k3 (D6 (X:=Nat) (fun i=>([(0,C3 Merged 2 mergedC l),(3,.s (.one (.buf 3 Int 1 F7 (F5 (l.take i))))),(4,B9 i)],[(3,.spare (F5 (l.take i)).length 1 3)])) (fun i=>i≤l.length) (fun i=>l.length - i) 0 (by simp) (J69 ⟨le1 rfl,le1 rfl,le1 rfl,trivial⟩ ⟨rfl,trivial⟩) ?_))
 intro i hi
 dsimp only at hi ⊢
 refine k2 (k2 (A3 (A4 Z Z (A4 Z Z (E7 Z Z (E4 Z Z Z (A5 ?_)))))));refine k1 ?_
 have hlen:(F5 (l.take i)).length=i:=by simp [F5];omega
 refine B3 rfl (fun ht=>?_) (fun ht=>?_)
 ·have hlt:i < l.length:=by have:=A0 ht;omega
  have hv:l[i]?=some l[i]:=by simp [hlt]
  have hst:F5 (l.take (i+1))=F5 (l.take i)++[l[i].Line]:=by
   unfold F5;rw [List.take_add_one,hv,Option.toList_some,K20];rfl
  refine k5 (k1 (k2 (k3 (A3 (A4 Z Z (A4 Z Z (A4 Z Z (A6 (B0 Z (.pure _ _ _ _) Z (by omega) hv) Z (A6 (D4 Z) Z (A6 (B1 Z Z) Z (A6 (D5 (c:=F7) (ys:=[_]) (E0 Z Z Z Z F3) Z Z Z) Z (C1 (G4 Z Z Z (.pure _ _ _ _) (by simp;omega) Z) Z (A7 Z Z (A5 ?_))))))))))))));refine k4 (k1 (A3 (A4 Z Z (C6 Z Z Z (A7 Z Z (A5 ?_))))));refine k1 ?_;refine ⟨i+1,by omega,by omega,?_⟩
  rw [hst]
  exact J69 ⟨le1 rfl,le1 rfl,le1 rfl,trivial⟩ ⟨rfl,trivial⟩
 ·have:i=l.length:=by have:=A1 ht;omega
  subst this
  refine k6 (k2 (A3 (A4 Z Z (A7 Z Z (A5 ?_)))));refine k1 (k10 ?_)
  exact B6 (G6 rfl rfl rfl) (by simp)
theorem J35 (a b:List Int) (ha:a.length≤536870912) (hb:b.length≤536870912):FnOk Tryz.prog 168 [P0 a,P0 b] (fun rs=>rs=[pIntss (C23 a b)]):=by
 refine FnOk.intro Tryz.func168 (by decide) Z Z Z Z ?_
 refine k2 (A3 (A7 Z Z (A5 ?_)));refine k1 (k2 (A3 (A4 Z Z (E7 Z Z (C6 Z Z Z (C1 (Y0 5 (List Int) intsC [] Z Z (by omega) (by omega) (fun _=>by first | exact ⟨⟨rfl,rfl⟩,trivial⟩ | exact ⟨P6 _ _ _,trivial⟩) (by first | rfl | (simp [I1,I7,Ob.free,SV.free,S1.free,TC.free]<;>rfl))) Z ?_))))));refine A7 Z Z (A5 ?_);refine k1 (k2 (k2 (A3 (A4 Z Z (E7 Z Z (A7 Z Z (A5 ?_)))))));refine k1 (k3 ?_);refine D6 (X:=Nat) (fun i=>([(0,C3 Int 1 F7 a),(1,C3 Int 1 F7 b),(5,.s (.one (.mut 5))),(6,B9 ((i:Int) - 1))],[(5,.arr (List Int) 1 intsC (Q4 a b i))])) (fun i=>i≤a.length+1) (fun i=>i) (a.length+1) (Nat.le_refl _) ?_ ?_
 ·refine J69 ⟨⟨_,rfl,.same _⟩,⟨_,rfl,.same _⟩,⟨_,rfl,.same _⟩,⟨_,rfl,.eq (by simp)⟩,trivial⟩ ⟨?_,trivial⟩
  rw [←F33];rfl
 intro i hi
 dsimp only at hi ⊢
 refine k2 (k2 (A3 (A4 Z Z (A6 (A58 Z Z) Z (A5 ?_)))));refine k1 ?_;refine B3 rfl (fun ht=>?_) (fun ht=>?_)
 ·obtain ⟨i,rfl⟩:∃r,i=r+1:=⟨i - 1,by have:=A0 ht;omega⟩
  refine M9 [(0,C3 Int 1 F7 a),(1,C3 Int 1 F7 b),(5,.s (.one (.mut 5))),(6,B9 i)] [(5,.arr (List Int) 1 intsC (Q4 a b (i+1)))] (J69 ⟨le1 rfl,le1 rfl,le1 rfl,leE Z (by first | (simp;done) | (simp;omega)),trivial⟩ ⟨rfl,trivial⟩) ?_
  refine G5 (J87 5 Z) ?_
  have hTl:((Q4 a b (i+1)).map fun x=>TC.p (intsC x 0)).length=a.length+1:=by simp [A23]
  have hRs:=A23 a b (i+1)
  refine k5 (k1 (k2 (k3 (k2 (A3 (A4 Z Z (A4 Z Z (A4 Z Z (E7 Z Z (C6 Z Z Z (C1 (Y0 23 Int F7 0 Z Z (by omega) (by omega) (fun _=>by first | exact ⟨⟨rfl,rfl⟩,trivial⟩ | exact ⟨P6 _ _ _,trivial⟩) (by first | rfl | (simp [I1,I7,Ob.free,SV.free,S1.free,TC.free]<;>rfl))) Z ?_)))))))))));refine A6 (I4 Z Z Z (by omega) (by omega)) Z (F8 (s9 TySz.out Z Z (by (rw [hTl];simp;omega)) Z Z) ?_);refine A5 ?_;refine k1 (k2 (A3 (A4 Z Z (E7 Z Z (A7 Z Z (A5 ?_))))));refine k1 (k3 ?_)
  obtain ⟨T,hT⟩:∃T,T=((Q4 a b (i+1)).map fun x=>TC.p (intsC x 0)).set i (.mut 23):=⟨_,rfl⟩
  have hTi:T[i]?=some (.mut 23):=by rw [hT,K48 (by rw [hTl];omega)]
  have hTn:i+1≤a.length→T[i+1]?=some (.p (intsC (T0 a b (i+1) 0) 0)):=fun h=>by
   rw [hT,List.getElem?_set_ne (by omega),K34,B27 a b (i+1) (i+1) (Nat.le_refl _) h];rfl
  refine D6 (X:=Nat) (fun j=>([(0,C3 Int 1 F7 a),(1,C3 Int 1 F7 b),(5,.s (.one (.mut 5))),(6,B9 i),(7,B9 ((j:Int) - 1))],[(5,.tarr (Q4 a b (i+1)).length 1 T),(23,.arr Int 1 F7 (T0 a b i j))])) (fun j=>j≤b.length+1) (fun j=>j) (b.length+1) (Nat.le_refl _) ?_ ?_
  ·refine J69 ⟨⟨_,rfl,.same _⟩,⟨_,rfl,.same _⟩,⟨_,rfl,.same _⟩,⟨_,rfl,.same _⟩,⟨_,rfl,.eq (by simp)⟩,trivial⟩ ⟨by rw [hT];rfl,?_,trivial⟩
   rw [←G42];rfl
  intro j hj
  dsimp only at hj ⊢
  refine k2 (k2 (A3 (A4 Z Z (A6 (A58 Z Z) Z (A5 ?_)))));refine k1 ?_;refine B3 rfl (fun ht=>?_) (fun ht=>?_)
  ·obtain ⟨j,rfl⟩:∃r,j=r+1:=⟨j - 1,by have:=A0 ht;omega⟩
   refine M9 [(0,C3 Int 1 F7 a),(1,C3 Int 1 F7 b),(5,.s (.one (.mut 5))),(6,B9 i),(7,B9 j)] [(5,.tarr (Q4 a b (i+1)).length 1 T),(23,.arr Int 1 F7 (T0 a b i (j+1)))] (J69 ⟨le1 rfl,le1 rfl,le1 rfl,le1 rfl,leE Z (by first | (simp;done) | (simp;omega)),trivial⟩ ⟨rfl,rfl,trivial⟩) ?_
   have hRl:=E69 a b i (j+1)
   have hst:=H12 a b i j
   refine G05 ?_
   refine L0 ?_
   refine A21 [(0,C3 Int 1 F7 a),(1,C3 Int 1 F7 b),(5,.s (.one (.mut 5))),(6,B9 i),(7,B9 j)] [(5,.tarr (Q4 a b (i+1)).length 1 T),(23,.arr Int 1 F7 (T0 a b i j))] ?_ ?_
   ·refine k3 (k3 (k2 (A3 (A4 Z Z (A4 Z Z (E7 Z Z (A6 (K0 Z Z) Z (A7 Z Z (A5 ?_)))))))));refine k1 ?_;refine B3 rfl (fun ht=>?_) (fun ht=>?_)
    ·have hia:i=a.length:=by have:=A0 ht;omega
     have hd:(dist (a.drop i) (b.drop j):Int)=b.length - j:=by rw [hia,K15 (Nat.le_refl _),dist,K23];omega
     rw [hd] at hst
     skip
     refine A3 (A4 Z Z (A4 Z Z (A6 (I4 Z Z Z (by omega) (by omega)) Z (A6 (N4 Z Z hTi) Z (A4 Z Z (A4 Z Z (E7 Z Z (A4 Z Z (A6 (U0 Z Z (by omega)) Z (A6 (E3 Z Z Z (by omega) (by omega)) Z (F8 (I2 TySz.out Z Z (by (rw [hRl];simp;omega)) Z Z) ?_)))))))))));refine A5 ?_;refine k4 (k4 (k1 ?_))
     rw [←hst]
     exact J69 ⟨le1 rfl,le1 rfl,le1 rfl,le1 rfl,le1 rfl,trivial⟩ ⟨rfl,rfl,trivial⟩
    ·have hia:i < a.length:=by have:=A1 ht;omega
     refine k2 (A3 (A4 Z Z (A4 Z Z (E7 Z Z (A6 (K0 Z Z) Z (A7 Z Z (A5 ?_)))))));refine k1 ?_;refine B3 rfl (fun ht=>?_) (fun ht=>?_)
     ·have hjb:j=b.length:=by have:=A0 ht;omega
      have hd:(dist (a.drop i) (b.drop j):Int)=a.length - i:=by rw [hjb,K15 (Nat.le_refl b.length),A49,K23];omega
      rw [hd] at hst
      skip
      refine A3 (A4 Z Z (A4 Z Z (A6 (I4 Z Z Z (by omega) (by omega)) Z (A6 (N4 Z Z hTi) Z (A4 Z Z (A4 Z Z (E7 Z Z (A4 Z Z (A6 (U0 Z Z (by omega)) Z (A6 (E3 Z Z Z (by omega) (by omega)) Z (F8 (I2 TySz.out Z Z (by (rw [hRl];simp;omega)) Z Z) ?_)))))))))));refine A5 ?_;refine k4 (k4 (k1 ?_))
      rw [←hst]
      exact J69 ⟨le1 rfl,le1 rfl,le1 rfl,le1 rfl,le1 rfl,trivial⟩ ⟨rfl,rfl,trivial⟩
     ·have hjb:j < b.length:=by have:=A1 ht;omega
      have hva:a[i]?=some a[i]:=by simp [hia]
      have hvb:b[j]?=some b[j]:=by simp [hjb]
      have hdd:=F77 a b i j hia hjb
      have hTn':=hTn hia
      refine k2 (C9 (by kernel_rfl) (by kernel_rfl) (C8 Z Z (C8 Z Z (A9 (B0 Z (.pure _ _ _ _) Z (by omega) hva) Z Z (A9 (B1 Z Z) Z Z (C8 Z Z (C8 Z Z (A9 (B0 Z (.pure _ _ _ _) Z (by omega) hvb) Z Z (A9 (B1 Z Z) Z Z (A9 (K0 Z Z) Z Z (A9 (J6 Z Z) Z Z (L6 ?_))))))))))));refine k1 ?_;refine B3 rfl (fun ht=>?_) (fun ht=>?_)
      ·rw [if_pos (A0 ht)] at hdd
       have hg:=A16 a b (i+1) 0 (j+1) (Nat.zero_le _) hjb
       rw [hdd] at hst
       skip
       refine C9 (by kernel_rfl) (by kernel_rfl) (C8 Z Z (C8 Z Z (A9 (I4 Z Z Z (by omega) (by omega)) Z Z (A9 (N4 Z Z hTi) Z Z (C8 Z Z (C8 Z Z (C8 Z Z (A9 (V2 Z Z (by omega)) Z Z (A9 (I4 Z Z Z (by omega) (by omega)) Z Z (A9 (N4 Z Z hTn') Z Z (C8 Z Z (A9 (V2 Z Z (by omega)) Z Z (A9 (B0 Z (.pure _ _ _ _) Z (by omega) hg) Z Z (A9 (B1 Z Z) Z Z (A9 (E3 Z Z Z (by omega) (by omega)) Z Z (s7 (I2 TySz.out Z Z (by (rw [hRl];simp;omega)) Z Z) Z ?_))))))))))))))));refine L6 ?_;refine k4 (k4 (k1 ?_))
       rw [←hst]
       exact J69 ⟨le1 rfl,le1 rfl,le1 rfl,le1 rfl,le1 rfl,trivial⟩ ⟨rfl,rfl,trivial⟩
      ·rw [if_neg (A1 ht)] at hdd
       have hg1:=A16 a b (i+1) 0 j (Nat.zero_le _) (by omega)
       have hg2:=A16 a b i (j+1) (j+1) (Nat.le_refl _) (by omega)
       have hl1:=C22 (a.drop (i+1)) (b.drop j)
       have hl2:=C22 (a.drop i) (b.drop (j+1))
       simp only [K23] at hl1 hl2
       have hval:(1:Int)+(if (dist (a.drop i) (b.drop (j+1)):Int) < (dist (a.drop (i+1)) (b.drop j):Int) then (dist (a.drop i) (b.drop (j+1)):Int) else (dist (a.drop (i+1)) (b.drop j):Int))=(dist (a.drop i) (b.drop j):Int):=by
        rw [hdd];split<;>omega
       rw [←hval] at hst
       skip
       refine C9 (by kernel_rfl) (by kernel_rfl) (C8 Z Z (C8 Z Z (A9 (I4 Z Z Z (by omega) (by omega)) Z Z (A9 (N4 Z Z hTi) Z Z (C8 Z Z (C8 Z Z (C8 Z Z (A9 (V2 Z Z (by omega)) Z Z (A9 (I4 Z Z Z (by omega) (by omega)) Z Z (A9 (N4 Z Z hTn') Z Z (C8 Z Z (A9 (B0 Z (.pure _ _ _ _) Z (by omega) hg1) Z Z (A9 (B1 Z Z) Z Z (C8 Z Z (C8 Z Z (A9 (I4 Z Z Z (by omega) (by omega)) Z Z (A9 (N4 Z Z hTi) Z Z (C8 Z Z (A9 (V2 Z Z (by omega)) Z Z (A9 (E3 Z Z Z (by omega) (by omega)) Z Z (A9 (O1 Z Z hg2 Z) Z Z (A9 (n_min Z Z) Z Z (A9 (V2 Z Z (by (constructor<;>split<;>omega))) Z Z ?_)))))))))))))))))))))));refine A9 (E3 Z Z Z (by omega) (by omega)) Z Z (s7 (I2 TySz.out Z Z (by (rw [hRl];simp;omega)) Z Z) Z ?_);refine L6 ?_;refine k4 (k4 (k1 ?_))
       rw [←hst]
       exact J69 ⟨le1 rfl,le1 rfl,le1 rfl,le1 rfl,le1 rfl,trivial⟩ ⟨rfl,rfl,trivial⟩
   ·skip
    refine A3 (A4 Z Z (A6 (U0 Z Z (by omega)) Z (A7 Z Z (A5 ?_))));refine k1 ?_
    exact ⟨j,by omega,by omega,J69 ⟨le1 rfl,le1 rfl,le1 rfl,le1 rfl,le1 rfl,trivial⟩ ⟨rfl,rfl,trivial⟩⟩
  ·obtain rfl:j=0:=by have:=A1 ht;omega
   refine G5 (Sees.freeze (k:=23) Z) ?_
   refine G5 (J88 5 (Q4 a b i) Z (by simp [A23]) (by rw [hT,H60 (y:=T0 a b i 0) rfl,G43])) ?_
   refine k6 (k7 (k7 (k8 Z (k4 (k1 (A3 (A4 Z Z (A6 (U0 Z Z (by omega)) Z (A7 Z Z (A5 ?_))))))))));refine k1 ?_
   exact ⟨i,by omega,by omega,J69 ⟨le1 rfl,le1 rfl,le1 rfl,le1 rfl,trivial⟩ ⟨rfl,trivial⟩⟩
 ·obtain rfl:i=0:=by have:=A1 ht;omega
  refine G5 (Sees.freeze (k:=5) Z) ?_
  refine k6 (k2 (A3 (A4 Z Z (A7 Z Z (A5 ?_)))));refine k1 (k10 ?_)
  exact B6 (G6 rfl rfl rfl) rfl
theorem C95 (a b:List Int):∀(p q:Int),∀s∈F9 p q a b,p≤s.From∧s.From < p+a.length∧q≤s.To∧s.To < q+b.length:=by
 induction a generalizing b with
 | nil=>intro p q s hs;simp [F9] at hs
 | cons x a iha =>
  induction b with
  | nil=>intro p q s hs;simp [F9] at hs
  | cons y b ihb =>
   intro p q s hs
   rw [F9] at hs
   simp only [K08]
   split at hs
   ·rcases List.mem_cons.1 hs with rfl | hs
    ·simp only;omega
    ·have:=iha b (p+1) (q+1) s hs;omega
   ·split at hs
    ·have:=iha (y::b) (p+1) q s hs;simp only [K08] at this;omega
    ·have:=ihb p (q+1) s hs;simp only [K08] at this;omega
theorem I33 (a b:List Int) (ha:a.length≤536870911) (hb:b.length≤536870911):FnOk Tryz.prog 102 [P0 a,P0 b] (fun rs=>rs=[pChanges (L3 a b)]):=by
 refine FnOk.intro Tryz.func102 (by decide) Z Z Z Z ?_
 refine k2 (A3 (A7 Z Z (A5 ?_)));refine k1 (k2 (A3 (A4 Z Z (A4 Z Z (C4 (J35 a b (by omega) (by omega)) Z Z Z ?_)))));rintro _ rfl;refine A7 Z Z (A5 ?_);refine k1 (k2 (A3 (C1 (V1 6 _ spanC Z) Z (A5 ?_))));refine k1 (k2 (A3 (A7 Z Z (A7 Z Z (A5 ?_)))));refine k1 (k2 (k3 ?_));refine D6 (X:=Nat × Nat × List Span) (fun x=>([(0,C3 Int 1 F7 a),(1,C3 Int 1 F7 b),(5,C3 (List Int) 1 intsC (C23 a b)),(6,.s (.one (.buf 6 Span 2 spanC x.2.2))),(7,B9 x.1),(8,B9 x.2.1)],[(6,.spare x.2.2.length 2 88)]))
  (fun x=>x.1≤a.length∧x.2.1≤b.length∧x.2.2.length≤x.1∧x.2.2++F9 x.1 x.2.1 (a.drop x.1) (b.drop x.2.1)=F9 0 0 a b) (fun x=>a.length+b.length - x.1 - x.2.1) (0,0,[]) (by simp) (J69 ⟨le1 rfl,le1 rfl,le1 rfl,le1 rfl,le1 rfl,le1 rfl,trivial⟩ ⟨rfl,trivial⟩) ?_
 rintro ⟨i,j,out⟩ ⟨hi,hj,ho,hp⟩
 dsimp only at hi hj ho hp ⊢
 refine k2 (k2 (A3 (A4 Z Z (A4 Z Z (E7 Z Z (E4 Z Z Z (A4 Z Z (B2 Z Z Z Z (fun hg=>by rw [hg];exact B7 Z Z) ?_))))))));refine B2 Z Z Z Z (fun hg=>by rw [hg];exact B7 Z Z) ?_;refine B2 Z Z Z Z (fun hg=>by rw [hg];exact V3 Z (.pure _ _ _ _)) ?_;refine B2 Z Z Z Z (fun hg=>by rw [hg];exact A05 Z Z) ?_;refine J4 Z Z ?_;refine A5 ?_;refine k1 ?_;refine B3 rfl (fun ht=>?_) (fun ht=>?_)
 ·have hor:=A0 (or_pick.symm.trans ht)
  refine G05 ?_
  refine L0 ?_
  refine k3 (k3 (k2 ?_))
  have hTi:i < a.length→(C23 a b)[i]?=some (T0 a b i 0):=fun h=>B27 a b 0 i (Nat.zero_le _) (by omega)
  have hTn:i < a.length→(C23 a b)[i+1]?=some (T0 a b (i+1) 0):=fun h=>B27 a b 0 (i+1) (Nat.zero_le _) (by omega)
  have hva:i < a.length→a[i]?=some (a.getD i 0):=fun h=>by simp [K09,h]
  have hvb:j < b.length→b[j]?=some (b.getD j 0):=fun h=>by simp [K09,h]
  have hga:∀h:i < a.length,a.getD i 0=a[i]:=fun h=>by simp [K09,h]
  have hgb:∀h:j < b.length,b.getD j 0=b[j]:=fun h=>by simp [K09,h]
  refine C9 (by kernel_rfl) (by kernel_rfl) (C8 Z Z (C8 Z Z (A9 (V3 Z (.pure _ _ _ _)) Z Z (A9 (A05 Z Z) Z Z (C8 Z Z (C0 Z Z (fun hg=>by rw [hg];exact B7 Z Z) Z Z ?_))))));refine C0 Z Z (fun hg=>by rw [hg];exact B7 Z Z) Z Z ?_;refine C0 Z Z (fun hg=>by rw [hg];exact V3 Z (.pure _ _ _ _)) Z Z ?_;refine C0 Z Z (fun hg=>by rw [hg];exact A05 Z Z) Z Z ?_;refine A9 (F6 Z (fun h=>by first | rfl | (rw [h];rfl)) (fun h=>by first | rfl | (rw [h];rfl))) Z Z ?_;refine C8 Z Z (C0 Z Z (fun hg=>by rw [hg];exact B7 Z Z) Z Z ?_);refine C0 Z Z (fun hg=>by rw [hg];exact B7 Z Z) Z Z ?_;refine C0 Z Z (fun hg=>by have hq:=hg;(try simp at hq);rw [hg];exact B0 Z (.pure _ _ _ _) Z (by omega) (hva (by omega))) Z Z ?_;refine C0 Z Z (fun hg=>by rw [hg];exact B1 Z Z) Z Z ?_;refine C0 Z Z (fun hg=>by rw [hg];exact B7 Z Z) Z Z ?_;refine C0 Z Z (fun hg=>by rw [hg];exact B7 Z Z) Z Z ?_;refine C0 Z Z (fun hg=>by have hq:=hg;(try simp at hq);rw [hg];exact B0 Z (.pure _ _ _ _) Z (by omega) (hvb (by omega))) Z Z ?_;refine C0 Z Z (fun hg=>by rw [hg];exact B1 Z Z) Z Z ?_;refine C0 Z Z (fun hg=>by rw [hg];exact K0 Z Z) Z Z ?_;refine A9 (F6 Z (fun h=>by first | rfl | (rw [h];rfl)) (fun h=>by first | rfl | (rw [h];rfl))) Z Z ?_;refine A9 (J6 Z Z) Z Z (L6 ?_);refine k1 ?_;refine B3 rfl (fun ht=>?_) (fun ht=>?_)
  ·simp only [R7] at ht
   obtain ⟨⟨hia,hjb⟩,heq⟩:=A0 ht
   have hia':i < a.length:=by omega
   have hjb':j < b.length:=by omega
   rw [hga hia',hgb hjb'] at heq
   rw [A15 a b i j hia' hjb',if_pos heq] at hp
   refine k2 (A3 (A4 Z Z (A4 Z Z (A4 Z Z (A6 (H1 Z) Z (A6 (D5 (c:=spanC) (ys:=[⟨_,_⟩]) (E0 Z Z Z Z F3) Z Z Z) Z (C1 (G4 Z Z Z (.pure _ _ _ _) (by simp;omega) Z) Z (A7 Z Z (A5 ?_)))))))));refine k1 (A3 (A4 Z Z (C6 Z Z Z (A4 Z Z (C6 Z Z Z (A7 Z Z (A7 Z Z (A5 ?_))))))));refine k4 (k4 (k1 ?_))
   exact ⟨(i+1,j+1,out++[⟨i,j⟩]),⟨by dsimp only;omega,by dsimp only;omega,by dsimp only;simp;omega,by dsimp only;rw [K18];exact hp⟩,by dsimp only;omega,J69 ⟨le1 rfl,le1 rfl,le1 rfl,le1 rfl,le1 rfl,le1 rfl,trivial⟩ ⟨rfl,trivial⟩⟩
  ·have hne:∀(h1:i < a.length) (h2:j < b.length),a[i]≠b[j]:=fun h1 h2 h=>by
    simp only [R7] at ht
    exact A1 ht ⟨⟨by omega,by omega⟩,by rw [hga h1,hgb h2];exact h⟩
   refine k2 (C9 (by kernel_rfl) (by kernel_rfl) (C8 Z Z (C8 Z Z (A9 (V3 Z (.pure _ _ _ _)) Z Z (A9 (A05 Z Z) Z Z (C8 Z Z (C0 Z Z (fun hg=>by rw [hg];exact B7 Z Z) Z Z ?_)))))));refine C0 Z Z (fun hg=>by rw [hg];exact B7 Z Z) Z Z ?_;refine C0 Z Z (fun hg=>by have hq:=hg;(try simp at hq);rw [hg];exact V2 Z Z (by omega)) Z Z ?_;refine C0 Z Z (fun hg=>by have hq:=hg;(try simp at hq);rw [hg];exact B0 Z (.pure _ _ _ _) Z (by omega) (hTn (by omega))) Z Z ?_;refine C0 Z Z (fun hg=>by rw [hg];exact B1 Z Z) Z Z ?_;refine C0 Z Z (fun hg=>by rw [hg];exact B7 Z Z) Z Z ?_;refine C0 Z Z (fun hg=>by have hq:=hg;(try simp at hq);rw [hg];exact B0 Z (.pure _ _ _ _) Z (by omega) (A16 a b (i+1) 0 j (Nat.zero_le _) hj)) Z Z ?_;refine C0 Z Z (fun hg=>by rw [hg];exact B1 Z Z) Z Z ?_;refine C0 Z Z (fun hg=>by have hq:=hg;(try simp at hq);have h1:=C22 (a.drop (i+1)) (b.drop j);simp only [K23] at h1;rw [hg];exact V2 Z Z (by omega)) Z Z ?_;refine C0 Z Z (fun hg=>by rw [hg];exact B7 Z Z) Z Z ?_;refine C0 Z Z (fun hg=>by rw [hg];exact B7 Z Z) Z Z ?_;refine C0 Z Z (fun hg=>by have hq:=hg;(try simp at hq);rw [hg];exact B0 Z (.pure _ _ _ _) Z (by omega) (hTi (by omega))) Z Z ?_;refine C0 Z Z (fun hg=>by rw [hg];exact B1 Z Z) Z Z ?_;refine C0 Z Z (fun hg=>by rw [hg];exact B7 Z Z) Z Z ?_;refine C0 Z Z (fun hg=>by have hq:=hg;(try simp at hq);rw [hg];exact B0 Z (.pure _ _ _ _) Z (by omega) (A16 a b i 0 j (Nat.zero_le _) hj)) Z Z ?_;refine C0 Z Z (fun hg=>by rw [hg];exact B1 Z Z) Z Z ?_;refine C0 Z Z (fun hg=>by rw [hg];exact K0 Z Z) Z Z ?_;refine A9 (F6 Z (fun h=>by first | rfl | (rw [h];rfl)) (fun h=>by first | rfl | (rw [h];rfl))) Z Z ?_;refine A9 (J6 Z Z) Z Z (L6 ?_);refine k1 ?_;refine B3 rfl (fun ht=>?_) (fun ht=>?_)
   ·rw [R7] at ht
    obtain ⟨hia,hd⟩:=A0 ht
    have hia':i < a.length:=by omega
    have hp':out++F9 (i+1:Nat) j (a.drop (i+1)) (b.drop j)=F9 0 0 a b:=by
     by_cases hjb:j < b.length
     ·rw [A15 a b i j hia' hjb,if_neg (hne hia' hjb),if_pos (by omega)] at hp
      exact hp
     ·rw [K15 (show b.length≤j by omega),d8] at hp ⊢
      exact hp
    skip
    refine A3 (A4 Z Z (C6 Z Z Z (A7 Z Z (A5 ?_))));refine k4 (k4 (k1 ?_))
    exact ⟨(i+1,j,out),⟨by dsimp only;omega,by dsimp only;omega,by dsimp only;omega,hp'⟩,by dsimp only;omega,J69 ⟨le1 rfl,le1 rfl,le1 rfl,le1 rfl,le1 rfl,le1 rfl,trivial⟩ ⟨rfl,trivial⟩⟩
   ·rw [R7] at ht
    have hd:=A1 ht
    have hjb:j < b.length:=by
     refine Classical.byContradiction fun h=>?_
     have hjb:j=b.length:=by omega
     have hia:i < a.length:=by omega
     apply hd
     refine ⟨by omega,?_⟩
     rw [K15 (show b.length≤j by omega),A49,A49,K23,K23]
     omega
    have hp':out++F9 i (j+1:Nat) (a.drop i) (b.drop (j+1))=F9 0 0 a b:=by
     by_cases hia:i < a.length
     ·rw [A15 a b i j hia hjb,if_neg (hne hia hjb),if_neg (fun h=>hd ⟨by omega,by omega⟩)] at hp
      exact hp
     ·rw [K15 (show a.length≤i by omega),Y9] at hp ⊢
      exact hp
    skip
    refine A3 (A4 Z Z (C6 Z Z Z (A7 Z Z (A5 ?_))));refine k4 (k4 (k1 ?_))
    exact ⟨(i,j+1,out),⟨by dsimp only;omega,by dsimp only;omega,by dsimp only;omega,hp'⟩,by dsimp only;omega,J69 ⟨le1 rfl,le1 rfl,le1 rfl,le1 rfl,le1 rfl,le1 rfl,trivial⟩ ⟨rfl,trivial⟩⟩
 ·have hor:=A1 (or_pick.symm.trans ht)
  have hi':i=a.length:=by omega
  have hj':j=b.length:=by omega
  rw [hi',K15 (Nat.le_refl a.length)] at hp
  have hout:out=F9 0 0 a b:=by rw [←hp];simp [F9]
  refine k6 (k2 (A3 (A4 Z Z (A4 Z Z (E7 Z Z (A4 Z Z (E7 Z Z (C4 (made_ok out a.length b.length (by omega) (fun s hs=>by have:=C95 a b 0 0 s (hout ▸ hs);omega) (by omega)) Z Z Z ?_))))))));rintro _ rfl;refine A7 Z Z (A5 ?_);refine k1 (k10 ?_)
  exact B6 (G6 rfl rfl rfl) (by rw [hout];rfl)
theorem F62 (a b:List Int):FnOk Tryz.prog 213 [P0 a,P0 b] (fun rs=>rs=if 4096 < a.length∨4096 < b.length then [pChanges [],H3 1] else [pChanges (L3 a b),H3 0]):=by
 refine FnOk.intro Tryz.func213 (by decide) Z Z Z Z ?_
 refine k2 (A3 (A7 Z Z (A7 Z Z (A5 ?_))));refine k1 (k2 (k2 (A3 (A4 Z Z (A4 Z Z (C4 (long_ok a b) Z Z Z ?_))))));rintro _ rfl;refine A5 ?_;refine k1 ?_;refine B3 rfl (fun ht=>?_) (fun ht=>?_)
 ·have h:=A0 ht
  refine k2 (A3 (A6 (M8 _ 4 changeC) Z (A7 Z Z (A5 ?_))));refine k1 (k10 (k11 ?_))
  exact B6 (s6 rfl rfl rfl rfl rfl) (by rw [if_pos h])
 ·have h:=A1 ht
  refine k5 (k1 (k2 (A3 (A4 Z Z (A4 Z Z (C4 (I33 a b (by omega) (by omega)) Z Z Z ?_))))));rintro _ rfl;refine A7 Z Z (A7 Z Z (A5 ?_));refine k1 (k10 ?_)
  exact B6 (s6 rfl rfl rfl rfl rfl) (by rw [if_neg h])
theorem E47 (l:List Change) (m:Int) (hl:l.length≤1048576) (hm:m≤536870911) (hb:∀c∈l,c.Old≤536870911∧0≤c.OldLen∧c.OldLen≤1048576∧0≤c.NewLen∧c.NewLen≤1048576) :
  FnOk Tryz.prog 103 [pChanges l,H3 m] (fun rs=>rs=[pSpans (S2 l m)]):=by
 refine FnOk.intro Tryz.func103 (by decide) Z Z Z Z ?_
 refine k2 (A3 (A7 Z Z (A5 ?_)));refine k1 (k2 (A3 (C1 (V1 5 _ spanC Z) Z (A5 ?_))));refine k1 (k2 (A3 (A7 Z Z (A7 Z Z (A5 ?_)))));refine k1 (k2 (k2 (A3 (A7 Z Z (A5 ?_)))));refine k1 (k3 ?_);refine D6 (X:=Nat × Int × Int × List Span) (fun x=>([(0,C3 Change 4 changeC l),(1,B9 m),(5,.s (.one (.buf 5 Span 2 spanC x.2.2.2))),(6,B9 x.2.1),(7,B9 x.2.2.1),(8,B9 x.1)],[(5,.spare x.2.2.2.length 2 88)]))
  (fun x=>x.1≤l.length∧0≤x.2.1∧(x.2.2.2.length:Int)≤x.2.1∧x.2.1≤536870911+x.1*1048576∧0≤x.2.2.1∧x.2.2.1≤536870911*(x.1+1)+x.1*1048576∧x.2.2.2.length≤536870911∧x.2.2.2++L9 x.2.1 x.2.2.1 (l.drop x.1) m=S2 l m)
  (fun x=>l.length - x.1) (0,0,0,[]) (by simp [S2]) (J69 ⟨le1 rfl,le1 rfl,le1 rfl,le1 rfl,le1 rfl,le1 rfl,trivial⟩ ⟨rfl,trivial⟩) ?_
 rintro ⟨k,i,j,out⟩ ⟨hk,hi,ho,hi2,hj,hj2,ho2,hp⟩
 dsimp only at hk hi ho hi2 hj hj2 ho2 hp ⊢
 refine k2 (k2 (A3 (A4 Z Z (A4 Z Z (E7 Z Z (E4 Z Z Z (A5 ?_)))))));refine k1 ?_;refine B3 rfl (fun ht=>?_) (fun ht=>?_)
 ·have hlt:k < l.length:=by have:=A0 ht;omega
  have hv:l[k]?=some l[k]:=by simp [hlt]
  have hc:=hb l[k] (K17 hlt)
  rw [K13 hlt,L9] at hp
  refine k5 (k1 (k2 (k3 (k2 (k3 ?_)))));refine D6 (X:=Nat) (fun t=>([(0,C3 Change 4 changeC l),(1,B9 m),(5,.s (.one (.buf 5 Span 2 spanC (out++P7 i j t)))),(6,B9 (i+t)),(7,B9 (j+t)),(8,B9 k)],[(5,.spare (out++P7 i j t).length 2 88)]))
   (fun t=>t≤(l[k].Old - i).toNat) (fun t=>(l[k].Old - i).toNat - t) 0 (Nat.zero_le _) (by rw [u9,K29];exact J69 ⟨le1 rfl,le1 rfl,le1 rfl,leE rfl (by first | (simp;done) | (simp;omega)),leE rfl (by first | (simp;done) | (simp;omega)),le1 rfl,trivial⟩ ⟨rfl,trivial⟩) ?_
  intro t htl
  dsimp only at htl ⊢
  have hsl:=A48 i j t
  refine k2 (k2 ?_)
  have hol:out.length+t≤536870911:=by omega
  refine A3 (A4 Z Z (A4 Z Z (A4 Z Z (A6 (B0 Z (.pure _ _ _ _) Z (by omega) hv) Z (A6 (D4 Z) Z (A6 (B1 Z Z) Z (E4 Z Z Z (A5 ?_))))))));refine k1 ?_;refine B3 rfl (fun ht=>?_) (fun ht=>?_)
  ·have h1:=A0 ht
   refine k5 (k1 (k3 (k2 (A3 (A4 Z Z (A4 Z Z (A4 Z Z (A6 (H1 Z) Z (A6 (D5 (c:=spanC) (ys:=[⟨_,_⟩]) (E0 Z Z Z Z F3) Z Z Z) Z (C1 (G4 Z Z Z (.pure _ _ _ _) (by (simp;omega)) Z) Z (A7 Z Z (A5 ?_))))))))))));refine k1 (A3 (A4 Z Z (C6 Z Z Z (A4 Z Z (C6 Z Z Z (A7 Z Z (A7 Z Z (A5 ?_))))))));refine k4 (k1 ?_);refine ⟨t+1,by omega,by omega,?_⟩
   rw [B28,←K18]
   exact J69 ⟨le1 rfl,le1 rfl,le1 rfl,leE rfl (by first | (simp;done) | (simp;omega)),leE rfl (by first | (simp;done) | (simp;omega)),le1 rfl,trivial⟩ ⟨rfl,trivial⟩
  ·have h1:=A1 ht
   have h2:t=(l[k].Old - i).toNat:=by omega
   rw [←h2] at hp
   have h3:max i l[k].Old=i+t:=by omega
   rw [h3] at hp
   refine k6 (k7 (k7 (k8 Z (k1 (C9 (by kernel_rfl) (by kernel_rfl) (C8 Z Z (C8 Z Z (C8 Z Z (A9 (B0 Z (.pure _ _ _ _) Z (by omega) hv) Z Z (A9 (D4 Z) Z Z (A9 (B1 Z Z) Z Z (A9 (V2 Z Z (by omega)) Z Z (C8 Z Z (C8 Z Z (C8 Z Z (A9 (B0 Z (.pure _ _ _ _) Z (by omega) hv) Z Z (A9 (D4 Z) Z Z (A9 (B1 Z Z) Z Z (A9 (V2 Z Z (by omega)) Z Z (A9 (J6 Z Z) Z Z (A9 (J6 Z Z) Z Z (L6 ?_))))))))))))))))))))));refine k4 (k1 (A3 (A4 Z Z (C6 Z Z Z (A7 Z Z (A5 ?_))))));refine k1 ?_
   exact ⟨(k+1,i+t+l[k].OldLen,j+t+l[k].NewLen,out++P7 i j t),⟨by dsimp only;omega,by dsimp only;omega,by dsimp only;rw [K06,hsl];omega,by dsimp only;omega,by dsimp only;omega,by dsimp only;omega,by dsimp only;rw [K06,hsl];omega,by dsimp only;rw [K18];exact hp⟩,by dsimp only;omega,J69 ⟨le1 rfl,le1 rfl,le1 rfl,le1 rfl,le1 rfl,le1 rfl,trivial⟩ ⟨rfl,trivial⟩⟩
 ·have hk':k=l.length:=by have:=A1 ht;omega
  rw [hk',K15 (Nat.le_refl _),L9] at hp
  refine k6 (k2 (k3 ?_));refine D6 (X:=Nat) (fun t=>([(1,B9 m),(5,.s (.one (.buf 5 Span 2 spanC (out++P7 i j t)))),(6,B9 (i+t)),(7,B9 (j+t))],[(5,.spare (out++P7 i j t).length 2 88)]))
   (fun t=>t≤(m - i).toNat) (fun t=>(m - i).toNat - t) 0 (Nat.zero_le _) (by rw [u9,K29];exact J69 ⟨le1 rfl,le1 rfl,leE rfl (by first | (simp;done) | (simp;omega)),leE rfl (by first | (simp;done) | (simp;omega)),trivial⟩ ⟨rfl,trivial⟩) ?_
  intro t htl
  dsimp only at htl ⊢
  have hsl:=A48 i j t
  have hol:out.length+t≤536870911:=by omega
  refine k2 (k2 (A3 (A4 Z Z (A4 Z Z (E4 Z Z Z (A5 ?_))))));refine k1 ?_;refine B3 rfl (fun ht=>?_) (fun ht=>?_)
  ·have h1:=A0 ht
   refine k5 (k1 (k3 (k2 (A3 (A4 Z Z (A4 Z Z (A4 Z Z (A6 (H1 Z) Z (A6 (D5 (c:=spanC) (ys:=[⟨_,_⟩]) (E0 Z Z Z Z F3) Z Z Z) Z (C1 (G4 Z Z Z (.pure _ _ _ _) (by (simp;omega)) Z) Z (A7 Z Z (A5 ?_))))))))))));refine k1 (A3 (A4 Z Z (C6 Z Z Z (A4 Z Z (C6 Z Z Z (A7 Z Z (A7 Z Z (A5 ?_))))))));refine k4 (k1 ?_);refine ⟨t+1,by omega,by omega,?_⟩
   rw [B28,←K18]
   exact J69 ⟨le1 rfl,le1 rfl,leE rfl (by first | (simp;done) | (simp;omega)),leE rfl (by first | (simp;done) | (simp;omega)),trivial⟩ ⟨rfl,trivial⟩
  ·have h1:=A1 ht
   have h2:t=(m - i).toNat:=by omega
   refine k6 (k2 (A3 (A4 Z Z (A7 Z Z (A5 ?_)))));refine k1 (k10 ?_)
   exact B6 (G6 rfl rfl rfl) (by rw [h2,hp])
theorem F63 (l:List Merged) (list:List Int) (p:Int) (hl:l.length≤536870912):FnOk Tryz.prog 170 [pMerged l,P0 list,H3 p] (fun rs=>rs=if 4096 < l.length∨4096 < list.length then [pMerged [],H3 1] else [pMerged (R8 l list p),H3 0]):=by
 refine FnOk.intro Tryz.func170 (by decide) Z Z Z Z ?_
 refine k2 (A3 (A7 Z Z (A7 Z Z (A5 ?_))));refine k1 (k2 ?_)
 have hlm:(F5 l).length=l.length:=by simp [F5]
 by_cases hbig:4096 < l.length∨4096 < list.length
 ·rw [if_pos hbig]
  refine A3 (A4 Z Z (C4 (F61 l hl) Z Z Z ?_));rintro _ rfl;refine A4 Z Z (C4 ((F62 (F5 l) list).mono (post':=fun rs=>rs=[pChanges [],H3 1]) (fun rs h=>by rw [if_pos (by rw [hlm];exact hbig)] at h;exact h)) Z Z Z ?_);rintro _ rfl;refine A4 Z Z (H9 Z Z Z (H9 Z Z Z (A7 Z Z (A7 Z Z (A5 ?_)))));refine k1 (k2 (k2 (A3 (A4 Z Z (A6 (O9 Z Z) Z (A5 ?_))))));refine k1 ?_;refine B3 rfl (fun ht=>?_) (fun ht=>?_)
  ·refine k2 (A3 (A6 (M8 _ 2 mergedC) Z (A7 Z Z (A5 ?_))));refine k1 (k10 (k11 ?_))
   exact B6 (s6 rfl rfl rfl rfl rfl) rfl
  ·cases A1 ht (by decide)
 ·rw [if_neg hbig]
  refine A3 (A4 Z Z (C4 (F61 l hl) Z Z Z ?_));rintro _ rfl;refine A4 Z Z (C4 ((F62 (F5 l) list).mono (post':=fun rs=>rs=[pChanges (L3 (F5 l) list),H3 0]) (fun rs h=>by rw [if_neg (by rw [hlm];exact hbig)] at h;exact h)) Z Z Z ?_);rintro _ rfl;refine A4 Z Z (H9 Z Z Z (H9 Z Z Z (A7 Z Z (A7 Z Z (A5 ?_)))));refine k1 (k2 (k2 (A3 (A4 Z Z (A6 (O9 Z Z) Z (A5 ?_))))));refine k1 ?_;refine B3 rfl (fun ht=>?_) (fun ht=>?_)
  ·cases A0 ht rfl
  ·have hwb:=B30 (F5 l) list
   have hwl:(L3 (F5 l) list).length≤4097:=by
    have h1:=A02 (F9 0 0 (F5 l) list) 0 0 (F5 l).length list.length
    have h2:=W9 0 0 (F5 l) list
    unfold L3 i7;omega
   have hmw:=B29 (F5 l) list
   have hasc:=X0 (F5 l) list 0 0
   rw [Int.zero_add,Int.zero_add] at hasc
   have hpl:=W9 0 0 (F5 l) list
   rw [hlm] at hmw hasc hpl
   obtain ⟨ps,hps⟩:∃ps,ps=F9 0 0 (F5 l) list:=⟨_,rfl⟩
   refine k5 (k1 (k2 (A3 (A4 Z Z (A4 Z Z (E7 Z Z (C4 (E47 (L3 (F5 l) list) l.length (by omega) (by omega) (fun c hc=>by have:=hwb c hc;rw [hlm] at this;omega)) Z Z Z ?_)))))));rintro _ rfl;refine A7 Z Z (A5 ?_);refine k1 (k2 ?_)
   rw [hmw,←hps]
   rw [←hps] at hasc hpl
   refine A3 (C1 (V1 11 _ mergedC Z) Z (A5 ?_));refine k1 (k2 (A3 (A7 Z Z (A7 Z Z (A5 ?_)))));refine k1 (k2 (k2 (A3 (A7 Z Z (A5 ?_)))));refine k1 (k3 ?_)
   have hlb:l.length≤4096∧list.length≤4096:=by omega
   have hwp:=B16 p
   refine D6 (X:=Nat × Nat × Nat × List Merged) (fun x=>([(0,C3 Merged 2 mergedC l),(1,C3 Int 1 F7 list),(2,B9 p),(10,C3 Span 2 spanC ps),(11,.s (.one (.buf 11 Merged 2 mergedC x.2.2.2))),(12,B9 x.2.1),(13,B9 x.2.2.1),(14,B9 x.1)],[(11,.spare x.2.2.2.length 2 151)]))
    (fun x=>x.1≤ps.length+1∧x.2.2.2.length≤x.2.1+x.2.2.1∧x.2.1≤l.length∧x.2.2.1≤list.length∧(x.1≤ps.length→Asc l.length list.length x.2.1 x.2.2.1 (ps.drop x.1)∧x.2.2.2++P9 l list (H0 p) x.2.1 x.2.2.1 (ps.drop x.1)=P9 l list (H0 p) 0 0 ps)∧(x.1=ps.length+1→x.2.2.2=P9 l list (H0 p) 0 0 ps))
    (fun x=>ps.length+1 - x.1) (0,0,0,[]) (by simpa using hasc) (J69 ⟨le1 rfl,le1 rfl,le1 rfl,le1 rfl,le1 rfl,le1 rfl,le1 rfl,le1 rfl,trivial⟩ ⟨rfl,trivial⟩) ?_
   rintro ⟨k,i,j,out⟩ ⟨hk,ho,hi,hj,h1,h2⟩
   dsimp only at hk ho hi hj h1 h2 ⊢
   refine k2 (k2 (A3 (A4 Z Z (A4 Z Z (E7 Z Z (A6 (j6 Z Z) Z (A5 ?_)))))));refine k1 ?_;refine B3 rfl (fun ht=>?_) (fun ht=>?_)
   ·have hk':k≤ps.length:=by have:=A0 ht;omega
    obtain ⟨ha,hp⟩:=h1 hk'
    refine k5 (k1 (k2 (k3 (k2 (A3 (A4 Z Z (E7 Z Z (A4 Z Z (E7 Z Z (A6 (H1 Z) Z (C1 (I3 15 Z) Z (F8 (B8 TySz.out Z Z Z Z Z Z) (A5 ?_)))))))))))));refine L0 ?_
    obtain ⟨x,hx⟩:∃x,x=ps.getD k ⟨l.length,list.length⟩:=⟨_,rfl⟩
    have hstep:(i:Int)≤x.From∧(j:Int)≤x.To∧x.From≤l.length∧x.To≤list.length∧(k < ps.length→x.From < l.length∧x.To < list.length∧Asc l.length list.length (x.From+1) (x.To+1) (ps.drop (k+1))) ∧
      P9 l list (H0 p) i j (ps.drop k)=(l.drop i).take (x.From.toNat - i)++(((list.drop j).take (x.To.toNat - j)).map fun v=>⟨v,H0 p⟩)++(if k < ps.length then (l[x.From.toNat]?.map fun y=>(⟨y.Line,K6 y.Parents (H0 p)⟩:Merged)).toList++P9 l list (H0 p) (x.From.toNat+1) (x.To.toNat+1) (ps.drop (k+1)) else []):=by
     by_cases h:k < ps.length
     ·have hxk:x=ps[k]:=by rw [hx,K09,K07 h];rfl
      rw [K13 h,←hxk] at ha
      obtain ⟨a1,a2,a3⟩:=ha
      have a4:=a3.le
      refine ⟨a1,a2,by omega,by omega,fun _=>⟨by omega,by omega,a3⟩,?_⟩
      rw [K13 h,←hxk,if_pos h];rfl
     ·have hxk:x=⟨l.length,list.length⟩:=by rw [hx,K09,K31 (by omega)];rfl
      rw [hxk,if_neg h,K15 (show ps.length≤k by omega)]
      refine ⟨by simp only;omega,by simp only;omega,Int.le_refl _,Int.le_refl _,fun h'=>absurd h' h,?_⟩
      simp [P9]
    obtain ⟨hx1,hx2,hx3,hx4,hx5,hjg⟩:=hstep
    refine A21 [(0,C3 Merged 2 mergedC l),(1,C3 Int 1 F7 list),(2,B9 p),(10,C3 Span 2 spanC ps),(11,.s (.one (.buf 11 Merged 2 mergedC out))),(12,B9 i),(13,B9 j),(14,B9 k),(15,.s (.one (.ref 15 0)))] [(15,.box [.p (.v (.int .i64 x.From)),.p (.v (.int .i64 x.To))]),(11,.spare out.length 2 151)] ?_ ?_
    ·refine k2 (A3 (A4 Z Z (A4 Z Z (E7 Z Z (E4 Z Z Z (A5 ?_))))));refine k1 ?_;refine B3 rfl (fun ht=>?_) (fun ht=>?_)
     ·have hlt:k < ps.length:=by have:=A0 ht;omega
      have hv:ps[k]?=some ps[k]:=by simp [hlt]
      have:x=ps[k]:=by rw [hx,K09,hv];rfl
      subst this
      skip
      refine A3 (A4 Z Z (A4 Z Z (A6 (B0 Z (.pure _ _ _ _) Z (by omega) hv) Z (A6 (G3 Z Z) Z (F8 (B8 TySz.out Z Z Z Z Z Z) (A5 ?_))))));refine k1 ?_
      exact J69 ⟨le1 rfl,le1 rfl,le1 rfl,le1 rfl,le1 rfl,le1 rfl,le1 rfl,le1 rfl,le1 rfl,trivial⟩ ⟨rfl,rfl,trivial⟩
     ·have hlt:¬k < ps.length:=by have:=A1 ht;omega
      have:x=⟨l.length,list.length⟩:=by rw [hx,K09,K31 (by omega)];rfl
      subst this
      refine k5 (k1 ?_)
      exact J69 ⟨le1 rfl,le1 rfl,le1 rfl,le1 rfl,le1 rfl,le1 rfl,le1 rfl,le1 rfl,le1 rfl,trivial⟩ ⟨rfl,rfl,trivial⟩
    ·obtain ⟨f,hf⟩:∃f:Nat,x.From=f:=⟨x.From.toNat,by omega⟩
     obtain ⟨g,hg⟩:∃g:Nat,x.To=g:=⟨x.To.toNat,by omega⟩
     rw [hf] at hx1 hx3 hx5 hjg
     rw [hg] at hx2 hx4 hx5 hjg
     simp only [K12] at hjg
     rw [hf,hg]
     refine k2 (k3 ?_);refine D6 (X:=Nat) (fun t=>([(0,C3 Merged 2 mergedC l),(1,C3 Int 1 F7 list),(2,B9 p),(10,C3 Span 2 spanC ps),(11,.s (.one (.buf 11 Merged 2 mergedC (out++(l.drop i).take t)))),(12,B9 ((i+t:Nat):Int)),(13,B9 j),(14,B9 k),(15,.s (.one (.ref 15 0)))],[(15,.box [.p (.v (.int .i64 f)),.p (.v (.int .i64 g))]),(11,.spare (out++(l.drop i).take t).length 2 151)]))
      (fun t=>t≤f - i) (fun t=>f - i - t) 0 (Nat.zero_le _) (by rw [List.take_zero,K29];exact J69 ⟨le1 rfl,le1 rfl,le1 rfl,le1 rfl,le1 rfl,le1 rfl,le1 rfl,le1 rfl,le1 rfl,trivial⟩ ⟨rfl,rfl,trivial⟩) ?_
     intro t htl
     dsimp only at htl ⊢
     have hb1:(out++(l.drop i).take t).length≤i+j+t:=by simp;omega
     refine k2 (k2 (A3 (A4 Z Z (A6 (A8 Z) Z (E1 Z Z Z Z (E4 Z Z Z (A5 ?_)))))));refine k1 ?_;refine B3 rfl (fun ht=>?_) (fun ht=>?_)
     ·have hlt:i+t < f:=by have:=A0 ht;omega
      have hv:l[i+t]?=some (l[i+t]'(by omega)):=K07 (by omega)
      refine k5 (k1 (k3 (k2 (A3 (A4 Z Z (A4 Z Z (A4 Z Z (A6 (B0 Z (.pure _ _ _ _) Z (by omega) hv) Z (A6 (G3 Z Z) Z (A6 (D5 (c:=mergedC) (ys:=[⟨_,_⟩]) (E0 Z Z Z Z F3) Z Z Z) Z (C1 (G4 Z Z Z (.pure _ _ _ _) (by (simp only [K08,K11];omega)) Z) Z (A7 Z Z (A5 ?_)))))))))))));refine k1 (A3 (A4 Z Z (C6 Z Z Z (A7 Z Z (A5 ?_)))));refine k4 (k1 ?_);refine ⟨t+1,by omega,by omega,?_⟩
      rw [A50 l i t (by omega),←K18]
      exact J69 ⟨le1 rfl,le1 rfl,le1 rfl,le1 rfl,le1 rfl,le1 rfl,le1 rfl,le1 rfl,le1 rfl,trivial⟩ ⟨rfl,rfl,trivial⟩
     ·have hte:i+t=f:=by have:=A1 ht;omega
      rw [hte]
      rw [show t=f - i by omega]
      rw [show t=f - i by omega] at hb1
      obtain ⟨o1,ho1⟩:∃o1,o1=out++(l.drop i).take (f - i):=⟨_,rfl⟩
      rw [←ho1] at hb1 ⊢
      refine k6 (k2 (k3 ?_));refine D6 (X:=Nat) (fun t=>([(0,C3 Merged 2 mergedC l),(1,C3 Int 1 F7 list),(2,B9 p),(10,C3 Span 2 spanC ps),(11,.s (.one (.buf 11 Merged 2 mergedC (o1++((list.drop j).take t).map fun v=>⟨v,H0 p⟩)))),(12,B9 f),(13,B9 ((j+t:Nat):Int)),(14,B9 k),(15,.s (.one (.ref 15 0)))],[(15,.box [.p (.v (.int .i64 f)),.p (.v (.int .i64 g))]),(11,.spare (o1++((list.drop j).take t).map fun v=>(⟨v,H0 p⟩:Merged)).length 2 151)]))
       (fun t=>t≤g - j) (fun t=>g - j - t) 0 (Nat.zero_le _) (by rw [List.take_zero,K38,K29];exact J69 ⟨le1 rfl,le1 rfl,le1 rfl,le1 rfl,le1 rfl,le1 rfl,le1 rfl,le1 rfl,le1 rfl,trivial⟩ ⟨rfl,rfl,trivial⟩) ?_
      intro t htl
      dsimp only at htl ⊢
      have hb2:(o1++((list.drop j).take t).map fun v=>(⟨v,H0 p⟩:Merged)).length≤i+j+(f - i)+t:=by simp;omega
      refine k2 (k2 (A3 (A4 Z Z (A6 (A8 Z) Z (E1 Z Z Z Z (E4 Z Z Z (A5 ?_)))))));refine k1 ?_;refine B3 rfl (fun ht=>?_) (fun ht=>?_)
      ·have hlt:j+t < g:=by have:=A0 ht;omega
       have hv:list[j+t]?=some (list[j+t]'(by omega)):=K07 (by omega)
       refine k5 (k1 (k3 (k2 (A3 (A4 Z Z (A4 Z Z (A4 Z Z (A6 (B0 Z (.pure _ _ _ _) Z (by omega) hv) Z (A6 (B1 Z Z) Z (A4 Z Z (A6 (N6 Z) Z (A6 (E20 Z Z (by omega)) Z (A6 (H1 Z) Z (A6 (D5 (c:=mergedC) (ys:=[⟨_,_⟩]) (E0 Z Z Z Z F3) Z Z Z) Z (C1 (G4 Z Z Z (.pure _ _ _ _) (by (simp only [K08,K11];omega)) Z) Z (A7 Z Z (A5 ?_)))))))))))))))));refine k1 (A3 (A4 Z Z (C6 Z Z Z (A7 Z Z (A5 ?_)))));refine k4 (k1 ?_);refine ⟨t+1,by omega,by omega,?_⟩
       rw [A50 list j t (by omega),K20,←K18]
       simp only [K14,K38]
       exact J69 ⟨le1 rfl,le1 rfl,le1 rfl,le1 rfl,le1 rfl,le1 rfl,le1 rfl,le1 rfl,le1 rfl,trivial⟩ ⟨rfl,rfl,trivial⟩
      ·have hte:j+t=g:=by have:=A1 ht;omega
       rw [hte]
       rw [show t=g - j by omega]
       rw [show t=g - j by omega] at hb2
       obtain ⟨o2,ho2⟩:∃o2,o2=o1++((list.drop j).take (g - j)).map fun v=>(⟨v,H0 p⟩:Merged):=⟨_,rfl⟩
       rw [←ho2] at hb2 ⊢
       have hout:out++P9 l list (H0 p) i j (ps.drop k)=o2++(if k < ps.length then (l[f]?.map fun y=>(⟨y.Line,K6 y.Parents (H0 p)⟩:Merged)).toList++P9 l list (H0 p) (f+1) (g+1) (ps.drop (k+1)) else []):=by
        rw [hjg,ho2,ho1];simp only [K18]
       rw [hout] at hp
       refine k6 (k2 (A3 (A4 Z Z (A4 Z Z (E7 Z Z (E4 Z Z Z (A5 ?_)))))));refine k1 ?_;refine B3 rfl (fun ht=>?_) (fun ht=>?_)
       ·have hlt:k < ps.length:=by have:=A0 ht;omega
        obtain ⟨hf1,hg1,hasc'⟩:=hx5 hlt
        have hfl:f < l.length:=by omega
        have hv:l[f]?=some l[f]:=K07 hfl
        rw [if_pos hlt,hv] at hp
        refine k2 (C9 (by kernel_rfl) (by kernel_rfl) (C8 Z Z (C8 Z Z (C8 Z Z (A9 (B0 Z (.pure _ _ _ _) Z (by omega) hv) Z Z (A9 (D4 Z) Z Z (A9 (B1 Z Z) Z Z (C8 Z Z (C8 Z Z (A9 (B0 Z (.pure _ _ _ _) Z (by omega) hv) Z Z (A9 (D4 Z) Z Z (A9 (B1 Z Z) Z Z (C8 Z Z (A9 (N6 Z) Z Z (A9 (E20 Z Z (by omega)) Z Z (A9 (X9 Z Z Z (fun _=>rfl)) Z Z (A9 (H1 Z) Z Z (A9 (D5 (c:=mergedC) (ys:=[⟨l[f].Line,K6 l[f].Parents (H0 p)⟩]) (E0 Z Z Z Z F3) Z Z Z) Z Z (B09 (G4 Z Z Z (.pure _ _ _ _) (by (simp only [K08,K11];omega)) Z) Z Z (A9 (J6 Z Z) Z Z (L6 ?_)))))))))))))))))))));refine k1 (A3 (A4 Z Z (C6 Z Z Z (A4 Z Z (C6 Z Z Z (A7 Z Z (A7 Z Z (A5 ?_))))))));refine k4 (k1 (A3 (A4 Z Z (C6 Z Z Z (A7 Z Z (A5 ?_))))));refine k1 ?_;refine ⟨(k+1,f+1,g+1,o2++[⟨l[f].Line,K6 l[f].Parents (H0 p)⟩]),⟨by dsimp only;omega,by dsimp only;simp only [K06,K08,K11];omega,by dsimp only;omega,by dsimp only;omega,fun _=>⟨hasc',?_⟩,fun h=>?_⟩,by dsimp only;omega,J69 ⟨le1 rfl,le1 rfl,le1 rfl,le1 rfl,le1 rfl,le1 rfl,le1 rfl,le1 rfl,trivial⟩ ⟨rfl,trivial⟩⟩
        ·rw [←hp];simp
        ·dsimp only at h ⊢
         omega
       ·have hlt:¬k < ps.length:=by have:=A1 ht;omega
        rw [if_neg hlt,K29] at hp
        refine k5 (k4 (k1 (A3 (A4 Z Z (C6 Z Z Z (A7 Z Z (A5 ?_)))))));refine k1 ?_
        exact ⟨(k+1,f,g,o2),⟨by dsimp only;omega,by dsimp only;omega,by dsimp only;omega,by dsimp only;omega,fun h=>by dsimp only at h;omega,fun _=>hp⟩,by dsimp only;omega,J69 ⟨le1 rfl,le1 rfl,le1 rfl,le1 rfl,le1 rfl,le1 rfl,le1 rfl,le1 rfl,trivial⟩ ⟨rfl,trivial⟩⟩
   ·have hk':k=ps.length+1:=by have:=A1 ht;omega
    refine k6 (k2 (A3 (A4 Z Z (A7 Z Z (A7 Z Z (A5 ?_))))));refine k1 (k10 ?_)
    exact B6 (s6 rfl rfl rfl rfl rfl) (by rw [h2 hk',hps];rfl)
theorem F22 (l:List Merged) (list:List Int) (p:Int) (h1:l.length≤4096) (h2:list.length≤4096):(R8 l list p).length≤536870912:=by
 have h3:=C42 l list (H0 p) (F9 0 0 (F5 l) list) 0 0
 have h4:=W9 0 0 (F5 l) list
 have h5:(F5 l).length=l.length:=by simp [F5]
 unfold R8
 have h6:l.length*((F9 0 0 (F5 l) list).length+1)≤4096*4097:=Nat.mul_le_mul h1 (by omega)
 have h7:list.length*((F9 0 0 (F5 l) list).length+1)≤4096*4097:=Nat.mul_le_mul h2 (by omega)
 omega
theorem G87 (ls:List (List Int)):FnOk Tryz.prog 104 [pIntss ls] (fun rs=>rs=[pMerged (E6 ls).1,H3 (E6 ls).2]):=by
 refine FnOk.intro Tryz.func104 (by decide) Z Z Z Z ?_
 refine k2 (A3 (A7 Z Z (A7 Z Z (A5 ?_))));refine k1 (k2 (k2 (A3 (A4 Z Z (E7 Z Z (A6 (N5 Z Z) Z (A5 ?_)))))));refine k1 ?_;refine B3 rfl (fun ht=>?_) (fun ht=>?_)
 ·have h:=A0 ht
  refine k2 (A3 (A6 (M8 _ 2 mergedC) Z (A7 Z Z (A5 ?_))));refine k1 (k10 (k11 ?_))
  exact B6 (s6 rfl rfl rfl rfl rfl) (by rw [E6,if_pos (by omega)])
 ·have h:=A1 ht
  have hco:E6 ls=H8 [] 0 ls:=by rw [E6,if_neg (by omega)]
  rw [hco]
  refine k5 (k1 (k2 (A3 (A6 (M8 _ 2 mergedC) Z (A5 ?_)))));refine k1 (k2 (k2 (A3 (A7 Z Z (A5 ?_)))));refine k1 (k3 (D6 (X:=Nat × List Merged) (fun x=>([(0,C3 (List Int) 1 intsC ls),(4,C3 Merged 2 mergedC x.2),(5,B9 x.1)],[])) (fun x=>x.1≤ls.length∧x.2.length≤536870912∧H8 [] 0 ls=H8 x.2 x.1 (ls.drop x.1)) (fun x=>ls.length - x.1) (0,[]) (by simp) (J69 ⟨le1 rfl,le1 rfl,le1 rfl,trivial⟩ trivial) ?_))
  rintro ⟨k,acc⟩ ⟨hk,hacc,hp⟩
  dsimp only at hk hacc hp ⊢
  refine k2 (k2 (A3 (A4 Z Z (A4 Z Z (E7 Z Z (E4 Z Z Z (A5 ?_)))))));refine k1 ?_;refine B3 rfl (fun ht=>?_) (fun ht=>?_)
  ·have hlt:k < ls.length:=by have:=A0 ht;omega
   have hv:ls[k]?=some ls[k]:=by simp [hlt]
   rw [K13 hlt,H8] at hp
   by_cases hbig:4096 < acc.length∨4096 < ls[k].length
   ·rw [if_pos hbig] at hp
    refine k5 (k1 (k2 (k3 (k2 (A3 (A4 Z Z (A4 Z Z (A4 Z Z (A6 (B0 Z (.pure _ _ _ _) Z (by omega) hv) Z (A6 (B1 Z Z) Z (A4 Z Z (C4 ((F63 acc ls[k] k hacc).mono (post':=fun rs=>rs=[pMerged [],H3 1]) (fun rs h=>by rw [if_pos hbig] at h;exact h)) Z Z Z ?_))))))))))));rintro _ rfl;refine A4 Z Z (H9 Z Z Z (H9 Z Z Z (A7 Z Z (A7 Z Z (A5 ?_)))));refine k1 (k2 (k2 (A3 (A4 Z Z (A6 (O9 Z Z) Z (A5 ?_))))));refine k1 ?_;refine B3 rfl (fun ht=>?_) (fun ht=>?_)
    ·refine k2 (A3 (A4 Z Z (A6 (M8 _ 2 mergedC) Z (A7 Z Z (A5 ?_)))));refine k1 (k10 (k11 (k12 (k11 (k11 (k12 (k11 ?_)))))))
     exact B6 (s6 rfl rfl rfl rfl rfl) (by rw [hp])
    ·cases A1 ht (by decide)
   ·rw [if_neg hbig] at hp
    have hjl:=F22 acc ls[k] k (by omega) (by omega)
    refine k5 (k1 (k2 (k3 (k2 (A3 (A4 Z Z (A4 Z Z (A4 Z Z (A6 (B0 Z (.pure _ _ _ _) Z (by omega) hv) Z (A6 (B1 Z Z) Z (A4 Z Z (C4 ((F63 acc ls[k] k hacc).mono (post':=fun rs=>rs=[pMerged (R8 acc ls[k] k),H3 0]) (fun rs h=>by rw [if_neg hbig] at h;exact h)) Z Z Z ?_))))))))))));rintro _ rfl;refine A4 Z Z (H9 Z Z Z (H9 Z Z Z (A7 Z Z (A7 Z Z (A5 ?_)))));refine k1 (k2 (k2 (A3 (A4 Z Z (A6 (O9 Z Z) Z (A5 ?_))))));refine k1 ?_;refine B3 rfl (fun ht=>?_) (fun ht=>?_)
    ·cases A0 ht rfl
    ·refine k5 (k1 (A3 (A4 Z Z (A7 Z Z (A5 ?_)))));refine k4 (k1 (A3 (A4 Z Z (C6 Z Z Z (A7 Z Z (A5 ?_))))));refine k1 ?_
     exact ⟨(k+1,R8 acc ls[k] k),⟨by dsimp only;omega,hjl,hp⟩,by dsimp only;omega,J69 ⟨le1 rfl,le1 rfl,le1 rfl,trivial⟩ trivial⟩
  ·have hk':k=ls.length:=by have:=A1 ht;omega
   rw [hk',K15 (Nat.le_refl _)] at hp
   refine k6 (k2 (A3 (A4 Z Z (A7 Z Z (A7 Z Z (A5 ?_))))));refine k1 (k10 ?_)
   exact B6 (s6 rfl rfl rfl rfl rfl) (by rw [hp];rfl)
theorem u64_in {n:Int} (h:0≤n∧n < 18446744073709551616):IntKind.u64.wrap n=n:=by simp [IntKind.wrap,IntKind.signed,IntKind.bits];omega
def R5 (a n:Int):Int:=IntKind.u64.wrap a % n
theorem U4 (a:Int) {n:Int} (h:1≤n):0≤R5 a n∧R5 a n < n:=⟨Int.emod_nonneg _ (by omega),Int.emod_lt_of_pos _ (by omega)⟩
theorem A43 (a n:Int) (hn:1≤n) (hn':n≤9223372036854775807):FnOk Tryz.prog 18 [H3 a,H3 n] (fun rs=>rs=[H3 (R5 a n)]):=by
 refine FnOk.intro Tryz.func18 (by decide) Z Z Z Z ?_
 refine k2 (A3 (A7 Z Z (A5 ?_)));refine k1 (k2 ?_)
 have h1:IntKind.u64.wrap n=n:=u64_in (by omega)
 refine A3 (A4 Z Z (A6 (N6 Z) Z (A4 Z Z (A6 (N6 Z) Z (A6 (B70 Z Z (by (rw [h1];omega))) Z ?_)))));refine A6 (N6 Z) Z (A7 Z Z (A5 ?_));refine k1 (k10 (B6 (G6 Z Z Z) ?_))
 have h2:=B16 a
 have h3:(IntKind.u64.wrap a).tmod n=IntKind.u64.wrap a % n:=Int.tmod_eq_emod_of_nonneg h2
 have h4:=U4 a hn
 unfold R5 at *
 rw [h1,h3,D55 ⟨by omega,by omega⟩]
def xor64 (a b:Int):Int:=IntKind.u64.wrap ((BitVec.ofInt IntKind.u64.bits a ^^^ BitVec.ofInt IntKind.u64.bits b).toNat:Int)
def shr64 (a n:Int):Int:=a.fdiv (2 ^ (min n.toNat IntKind.u64.bits))
def at0 (k:Int):Int:=IntKind.u64.wrap (IntKind.u64.wrap (k+1)*11400714819323198485)
def at1 (raw:List Int) (k:Int):Int:=if 0 < raw.length then xor64 (at0 k) (IntKind.u64.wrap (raw.getD (k.tmod raw.length).toNat 0)) else at0 k
def at2 (x:Int):Int:=IntKind.u64.wrap (xor64 x (shr64 x 31)*13787848793156543929)
def u0 (raw:List Int) (k:Int):Int:=IntKind.i64.wrap (shr64 (xor64 (at2 (at1 raw k)) (shr64 (at2 (at1 raw k)) 29)) 1)
theorem F64 (raw:List Int) (k:Int) (h0:0≤k) (h1:k≤1099511627776):FnOk Tryz.prog 25 [P0 raw,H3 k] (fun rs=>rs=[H3 (u0 raw k)]):=by
 refine FnOk.intro Tryz.func25 (by decide) Z Z Z Z ?_
 refine A60 (t:=0) rfl (.pure _ _ _ _) fun hlen=>?_
 refine k2 (A3 (A7 Z Z (A5 ?_)));refine k1 (k2 (A3 (A4 Z Z (C6 Z Z Z (A6 (N6 Z) Z (A6 (G07 Z Z) Z (A7 Z Z (A5 ?_))))))));refine L0 ?_
 refine A21 [(0,C3 Int 1 F7 raw),(1,B9 k),(5,K3 (.int .u64 (at1 raw k)))] [] ?_ ?_
 ·refine k2 (A3 (A4 Z Z (E7 Z Z (A6 (N5 Z Z) Z (A5 ?_)))));refine k1 ?_;refine B3 rfl (fun ht=>?_) (fun ht=>?_)
  ·have hpos:0 < raw.length:=by have:=A0 ht;omega
   have hm0:0≤k.tmod raw.length:=Int.tmod_nonneg _ h0
   have hm1:k.tmod raw.length < raw.length:=Int.tmod_lt_of_pos _ (by omega)
   have hv:raw[(k.tmod raw.length).toNat]?=some (raw.getD (k.tmod raw.length).toNat 0):=by
    rw [K09,K07 (by omega)];rfl
   skip
   refine A3 (A4 Z Z (A4 Z Z (A4 Z Z (A4 Z Z (E7 Z Z (A6 (B70 Z Z (by omega)) Z (A6 (B0 Z (.pure _ _ _ _) Z (by omega) hv) Z (A6 (B1 Z Z) Z (A6 (N6 Z) Z (A6 (X9 Z Z Z (fun _=>rfl)) Z (A7 Z Z (A5 ?_))))))))))));refine k1 ?_
   rw [at1,if_pos hpos]
   exact J69 ⟨le1 rfl,le1 rfl,le1 rfl,trivial⟩ trivial
  ·have hpos:¬0 < raw.length:=by have:=A1 ht;omega
   refine k5 (k1 ?_)
   rw [at1,if_neg hpos]
   exact J69 ⟨le1 rfl,le1 rfl,le1 rfl,trivial⟩ trivial
 ·refine k2 (A3 (A4 Z Z (A4 Z Z (A6 (A89 Z Z (by omega)) Z (A6 (X9 Z Z Z (fun _=>rfl)) Z (A6 (G07 Z Z) Z (A7 Z Z (A5 ?_))))))));refine k1 (k2 (A3 (A4 Z Z (A4 Z Z (A6 (A89 Z Z (by omega)) Z (A6 (X9 Z Z Z (fun _=>rfl)) Z (A6 (A89 Z Z (by omega)) Z (A6 (N6 Z) Z (A7 Z Z (A5 ?_))))))))));refine k1 (k10 ?_)
  exact B6 (G6 rfl rfl rfl) rfl
def lineTab:List Str:=[[97],[98],[99],[97,98],[98,97],[],[97,97],[98,32,97],[120,43,121],[92]]
def x9 (k:Int):Str:=lineTab.getD (R5 k 10).toNat []
theorem G88:∀s∈lineTab,s.length≤3:=by decide
theorem B17 (k:Int):(x9 k).length≤3:=by
 unfold x9
 rw [K09]
 cases h:lineTab[(R5 k 10).toNat]? with
 | none=>simp
 | some s=>exact G88 s (K27 h)
theorem G89 (k:Int):FnOk Tryz.prog 24 [H3 k] (fun rs=>rs=[N2 (x9 k)]):=by
 refine FnOk.intro Tryz.func24 (by decide) Z Z Z Z ?_
 refine k2 (A3 (A7 Z Z (A5 ?_)));refine k1 (k2 ?_)
 have hm:=U4 k (n:=10) (by decide)
 have hv:lineTab[(R5 k 10).toNat]?=some (x9 k):=by
  unfold x9
  rw [K09,K07 (show (R5 k 10).toNat < lineTab.length by simp [lineTab];omega)];rfl
 refine A3 (A6 (D5 (c:=M5) (ys:=lineTab) (E0 Z Z Z Z (E0 Z Z Z Z (E0 Z Z Z Z (E0 Z Z Z Z (E0 Z Z Z Z (E0 Z Z Z Z (E0 Z Z Z Z (E0 Z Z Z Z (E0 Z Z Z Z (E0 Z Z Z Z F3)))))))))) Z Z Z) Z (A4 Z Z (C4 (A43 k 10 (by decide) (by decide)) Z Z Z ?_)));rintro _ rfl;refine A6 (B0 Z (.pure _ _ _ _) Z (by omega) hv) Z (A6 (B1 Z Z) Z (A7 Z Z (A5 ?_)));refine k1 (k10 ?_)
 exact B6 (G6 rfl rfl rfl) rfl
theorem ids_ok (fs:List (List Str)) (hfs:fs.flatten.length≤536870912) (hf1:fs.length≤536870912):FnOk Tryz.prog 101 [pStrss fs] (fun rs=>rs=[pIntss (fs.map (L2 (E5 fs)))]):=by
 refine FnOk.intro Tryz.func101 (by decide) Z Z Z Z ?_
 refine k2 (A3 (A7 Z Z (A5 ?_)));refine k1 (k2 (A3 (A4 Z Z (C4 (G86 fs hfs) Z Z Z ?_))));rintro _ rfl;refine A7 Z Z (A5 ?_);refine k1 (k2 (A3 (C1 (V1 4 _ intsC Z) Z (A5 ?_))));refine k1 (k2 (k2 (A3 (A7 Z Z (A5 ?_)))));refine k1 (k3 (D6 (X:=Nat) (fun f=>([(0,C3 (List Str) 1 strsC fs),(3,C3 Str 1 M5 (E5 fs)),(4,.s (.one (.buf 4 (List Int) 1 intsC ((fs.take f).map (L2 (E5 fs)))))),(5,B9 f)],[(4,.spare ((fs.take f).map (L2 (E5 fs))).length 1 25)])) (fun f=>f≤fs.length) (fun f=>fs.length - f) 0 (by simp) (J69 ⟨le1 rfl,le1 rfl,le1 rfl,le1 rfl,trivial⟩ ⟨rfl,trivial⟩) ?_))
 intro f hf
 dsimp only at hf ⊢
 refine k2 (k2 (A3 (A4 Z Z (A4 Z Z (E7 Z Z (E4 Z Z Z (A5 ?_)))))));refine k1 ?_
 have hfl:((fs.take f).map (L2 (E5 fs))).length=f:=by simp;omega
 refine B3 rfl (fun ht=>?_) (fun ht=>?_)
 ·have hlt:f < fs.length:=by have:=A0 ht;omega
  have hv:fs[f]?=some fs[f]:=by simp [hlt]
  have hle:=Y8 fs (f+1)
  rw [W3 fs f hlt,K06] at hle
  refine k5 (k1 (k2 (k3 (k2 (A3 (C1 (A42 16 (c:=F7) (ys:=[]) F3 Z Z Z (by first | rfl | (simp [I1,I7,Ob.free,SV.free,S1.free,TC.free]<;>rfl))) Z ?_))))));refine A7 Z Z (A5 ?_);refine k1 (k2 (k2 (A3 (A7 Z Z (A5 ?_)))));refine k1 (k3 (D6 (X:=Nat) (fun i=>([(0,C3 (List Str) 1 strsC fs),(3,C3 Str 1 M5 (E5 fs)),(4,.s (.one (.buf 4 (List Int) 1 intsC ((fs.take f).map (L2 (E5 fs)))))),(5,B9 f),(6,.s (.one (.buf 16 Int 1 F7 (L2 (E5 fs) (fs[f].take i))))),(7,B9 i)],[(4,.spare ((fs.take f).map (L2 (E5 fs))).length 1 25),(16,.spare (L2 (E5 fs) (fs[f].take i)).length 1 3)])) (fun i=>i≤fs[f].length) (fun i=>fs[f].length - i) 0 (by simp) (J69 ⟨le1 rfl,le1 rfl,le1 rfl,le1 rfl,le1 rfl,le1 rfl,trivial⟩ ⟨rfl,rfl,trivial⟩) ?_))
  intro i hi
  dsimp only at hi ⊢
  have hil:(L2 (E5 fs) (fs[f].take i)).length=i:=by simp [L2];omega
  refine k2 (k2 (A3 (A4 Z Z (A4 Z Z (A4 Z Z (A6 (B0 Z (.pure _ _ _ _) Z (by omega) hv) Z (A6 (B1 Z Z) Z (E7 Z Z (E4 Z Z Z (A5 ?_))))))))));refine k1 ?_;refine B3 rfl (fun ht=>?_) (fun ht=>?_)
  ·have hlt2:i < fs[f].length:=by have:=A0 ht;omega
   have hvi:fs[f][i]?=some fs[f][i]:=by simp [hlt2]
   have hst:L2 (E5 fs) (fs[f].take (i+1))=L2 (E5 fs) (fs[f].take i)++[I5 (E5 fs) fs[f][i] 0]:=by
    unfold L2;rw [List.take_add_one,hvi,Option.toList_some,K20];rfl
   refine k5 (k1 (k2 (k3 (A3 (A4 Z Z (A4 Z Z (A4 Z Z (A4 Z Z (A6 (B0 Z (.pure _ _ _ _) Z (by omega) hv) Z (A6 (B1 Z Z) Z (A4 Z Z (A6 (B0 Z (.pure _ _ _ _) Z (by omega) hvi) Z (A6 (B1 Z Z) Z (C4 (G85 _ _) Z Z Z ?_))))))))))))));rintro _ rfl;refine A6 (D5 (c:=F7) (ys:=[_]) (E0 Z Z Z Z F3) Z Z Z) Z (C1 (G4 Z Z Z (.pure _ _ _ _) (by (simp only [K08,K11];omega)) Z) Z (A7 Z Z (A5 ?_)));refine k4 (k1 (A3 (A4 Z Z (C6 Z Z Z (A7 Z Z (A5 ?_))))));refine k1 ?_;refine ⟨i+1,by omega,by omega,?_⟩
   rw [hst]
   exact J69 ⟨le1 rfl,le1 rfl,le1 rfl,le1 rfl,le1 rfl,le1 rfl,trivial⟩ ⟨rfl,rfl,trivial⟩
  ·have hi':i=fs[f].length:=by have:=A1 ht;omega
   have hst:(fs.take (f+1)).map (L2 (E5 fs))=(fs.take f).map (L2 (E5 fs))++[L2 (E5 fs) (fs[f].take i)]:=by
    rw [List.take_add_one,hv,Option.toList_some,K20,hi',K28];rfl
   refine k6 (k7 (k7 (k8 Z (k1 (A3 (A4 Z Z (A4 Z Z (A6 (D5 (c:=intsC) (ys:=[_]) (E0 Z Z Z Z F3) Z Z Z) Z (C1 (G4 Z Z Z (.pure _ _ _ _) (by (simp only [K08,K11];omega)) Z) Z (A7 Z Z (A5 ?_)))))))))));refine k4 (k1 (A3 (A4 Z Z (C6 Z Z Z (A7 Z Z (A5 ?_))))));refine k1 ?_;refine ⟨f+1,by omega,by omega,?_⟩
   rw [hst]
   exact J69 ⟨le1 rfl,le1 rfl,le1 rfl,le1 rfl,trivial⟩ ⟨rfl,trivial⟩
 ·have hk':f=fs.length:=by have:=A1 ht;omega
  subst hk'
  refine k6 (k2 (A3 (A4 Z Z (A7 Z Z (A5 ?_)))));refine k1 (k10 ?_)
  exact B6 (G6 rfl rfl rfl) (by rw [K28])
def V9 (raw:List Int) (from':Int) (kinds:Int) (m:Nat):Str:=((List.range m).map fun (i:Nat)=>x9 (R5 (u0 raw (from'+1+(i:Int))) kinds)++[10]).flatten
def Z4 (raw:List Int) (from' n kinds:Int):Str :=
 let s:=V9 raw from' kinds (R5 (u0 raw from') (n+1)).toNat
 if ((u0 raw (from'+90)).tmod 4=0∧(1:Int) < s.length)∧((s.getD (s.length - 2) 0).toNat:Int)≠10 then s.take (s.length - 1) else s
theorem A44 (raw:List Int) (from' kinds:Int) (m:Nat):V9 raw from' kinds (m+1)=V9 raw from' kinds m++x9 (R5 (u0 raw (from'+1+(m:Int))) kinds)++[10]:=by
 unfold V9;rw [K44,K20,K36];simp
theorem C38 (raw:List Int) (from' kinds:Int) (m:Nat):(V9 raw from' kinds m).length≤4*m:=by
 induction m with
 | zero=>simp [V9]
 | succ m ih=>have:=B17 (R5 (u0 raw (from'+1+(m:Int))) kinds);rw [A44];simp only [K06,K08,K11];omega
theorem I34 (raw:List Int) (from' n kinds:Int) (h0:0≤from'∧from'≤1073741824) (h1:0≤n∧n≤1048576) (h2:1≤kinds∧kinds≤1048576) :
  FnOk Tryz.prog 64 [P0 raw,H3 from',H3 n,H3 kinds] (fun rs=>rs=[N2 (Z4 raw from' n kinds)]):=by
 obtain ⟨m,hm⟩:∃m:Nat,R5 (u0 raw from') (n+1)=m:=⟨(R5 (u0 raw from') (n+1)).toNat,by have:=U4 (u0 raw from') (n:=n+1) (by omega);omega⟩
 have hmi:=U4 (u0 raw from') (n:=n+1) (by omega)
 have hml:m≤1048576:=by omega
 refine FnOk.intro Tryz.func64 (by decide) Z Z Z Z ?_
 refine k2 (A3 (A7 Z Z (A5 ?_)));refine k1 (k2 (A3 (A4 Z Z (A4 Z Z (C4 (F64 raw from' (by omega) (by omega)) Z Z Z ?_)))));rintro _ rfl;refine A4 Z Z (C6 Z Z Z (C4 (A43 _ (n+1) (by omega) (by omega)) Z Z Z ?_));rintro _ rfl;refine A7 Z Z (A5 ?_);refine k1 (k2 ?_)
 rw [hm]
 refine A3 (A7 Z Z (A5 ?_));refine k1 (k2 (k2 (A3 (A7 Z Z (A5 ?_)))));refine k1 (k3 (D6 (X:=Nat) (fun i=>([(0,C3 Int 1 F7 raw),(1,B9 from'),(2,B9 m),(3,B9 kinds),(9,X6 (V9 raw from' kinds i)),(10,B9 i)],[])) (fun i=>i≤m) (fun i=>m - i) 0 (Nat.zero_le _) (J69 ⟨le1 rfl,le1 rfl,le1 rfl,le1 rfl,le1 rfl,le1 rfl,trivial⟩ trivial) ?_))
 intro i hi
 dsimp only at hi ⊢
 have hbl:=C38 raw from' kinds i
 refine k2 (k2 (A3 (A4 Z Z (A4 Z Z (E4 Z Z Z (A5 ?_))))));refine k1 ?_;refine B3 rfl (fun ht=>?_) (fun ht=>?_)
 ·have hlt:i < m:=by have:=A0 ht;omega
  have hll:=B17 (R5 (u0 raw (from'+1+(i:Int))) kinds)
  refine k5 (k1 (k2 (k3 (A3 (A4 Z Z (A4 Z Z (A4 Z Z (C6 Z Z Z (A4 Z Z (C6 Z Z Z (C4 (F64 raw _ (by omega) (by omega)) Z Z Z ?_)))))))))));rintro _ rfl;refine A4 Z Z (C4 (A43 _ kinds (by omega) (by omega)) Z Z Z ?_);rintro _ rfl;refine C4 (G89 _) Z Z Z ?_;rintro _ rfl;refine A6 (G7 Z Z (by omega)) Z (A6 (G7 Z Z (by (simp only [K06,K08,K11];omega))) Z (A7 Z Z (A5 ?_)));refine k4 (k1 (A3 (A4 Z Z (C6 Z Z Z (A7 Z Z (A5 ?_))))));refine k1 ?_;refine ⟨i+1,by omega,by omega,?_⟩
  rw [A44]
  exact J69 ⟨le1 rfl,le1 rfl,le1 rfl,le1 rfl,le1 rfl,le1 rfl,trivial⟩ trivial
 ·have hi':i=m:=by have:=A1 ht;omega
  subst hi'
  obtain ⟨s,hs⟩:∃s,s=V9 raw from' kinds i:=⟨_,rfl⟩
  have hv:(1:Int) < s.length→s[((s.length:Int) - 2).toNat]?=some (s.getD (s.length - 2) 0):=fun h=>by
   rw [show ((s.length:Int) - 2).toNat=s.length - 2 by omega,K09,K07 (by omega)];rfl
  have hbo:Z4 raw from' n kinds=if ((u0 raw (from'+90)).tmod 4=0∧(1:Int) < s.length)∧((s.getD (s.length - 2) 0).toNat:Int)≠10 then s.take (s.length - 1) else s:=by
   simp only [Z4,hm,K12,←hs]
  rw [←hs] at hbl
  refine k6 (k2 (k2 ?_))
  rw [←hs]
  refine A3 (A4 Z Z (A4 Z Z (C6 Z Z Z (C4 (F64 raw _ (by omega) (by omega)) Z Z Z ?_))));rintro _ rfl;refine A6 (B70 Z Z (by omega)) Z (A6 (K0 Z Z) Z (A4 Z Z (B2 Z Z Z Z (fun hg=>by rw [hg];exact B7 Z Z) ?_)));refine B2 Z Z Z Z (fun hg=>by rw [hg];exact N3 Z) ?_;refine B2 Z Z Z Z (fun hg=>by rw [hg];exact N5 Z Z) ?_;refine J4 Z Z ?_;refine A4 Z Z (B2 Z Z Z Z (fun hg=>by rw [hg];exact B7 Z Z) ?_);refine B2 Z Z Z Z (fun hg=>by rw [hg];exact B7 Z Z) ?_;refine B2 Z Z Z Z (fun hg=>by rw [hg];exact N3 Z) ?_;refine B2 Z Z Z Z (fun hg=>by have hq:=hg;(try simp at hq);rw [hg];exact U0 Z Z (by omega)) ?_;refine B2 Z Z Z Z (fun hg=>by have hq:=hg;(try simp at hq);rw [hg];exact p6 Z Z (by omega) (hv (by omega))) ?_;refine B2 Z Z Z Z (fun hg=>by rw [hg];exact O9 Z Z) ?_;refine J4 Z Z ?_;refine A5 ?_;refine k1 ?_;refine B3 rfl (fun ht=>?_) (fun ht=>?_)
  ·simp only [R7] at ht
   have h:=A0 ht
   skip
   refine A3 (A4 Z Z (A4 Z Z (A6 (N3 Z) Z (A6 (U0 Z Z (by omega)) Z (A6 (G10 Z Z (by omega) (by omega)) Z (A7 Z Z (A5 ?_)))))));refine k1 (k2 (A3 (A4 Z Z (A7 Z Z (A5 ?_)))));refine k1 (k10 ?_)
   exact B6 (G6 rfl rfl rfl) (by rw [hbo,if_pos h,show ((s.length:Int) - 1).toNat=s.length - 1 by omega])
  ·simp only [R7] at ht
   have h:=A1 ht
   refine k5 (k1 (k2 (A3 (A4 Z Z (A7 Z Z (A5 ?_))))));refine k1 (k10 ?_)
   exact B6 (G6 rfl rfl rfl) (by rw [hbo,if_neg h])
theorem C54 (raw:List Int) (from' n kinds:Int) (h1:0≤n):((Z4 raw from' n kinds).length:Int)≤4*n:=by
 have h:=U4 (u0 raw from') (n:=n+1) (by omega)
 have h2:=C38 raw from' kinds (R5 (u0 raw from') (n+1)).toNat
 unfold Z4
 simp only
 split
 ·simp only [K19];omega
 ·omega
def u5 (raw:List Int) (from':Int) (i:Nat) (s:Str):List Str→Str
 | []=>s
 | x::r=>if (u0 raw (from'+(i:Int))).tmod 6=0 then u5 raw from' (i+1) s r
  else if (u0 raw (from'+(i:Int))).tmod 6=1 then u5 raw from' (i+1) (s++x9 (u0 raw (from'+40+(i:Int)))++[10]++x) r
  else u5 raw from' (i+1) (s++x) r
def C55 (blob:Str) (raw:List Int) (from':Int):Str:=u5 raw from' 0 [] (C2 blob)
theorem B18 (raw:List Int) (from':Int):∀(l:List Str) (i:Nat) (s:Str),(u5 raw from' i s l).length≤s.length+l.flatten.length+4*l.length
 | [],i,s=>by simp [u5]
 | x::r,i,s=>by
  have h1:=B18 raw from' r (i+1) s
  have h2:=B18 raw from' r (i+1) (s++x9 (u0 raw (from'+40+(i:Int)))++[10]++x)
  have h3:=B18 raw from' r (i+1) (s++x)
  have h4:=B17 (u0 raw (from'+40+(i:Int)))
  simp only [K06,K08,K11,K25] at *
  unfold u5
  split
  ·omega
  ·split<;>omega
theorem D34 (s cur:Str):(J3 cur s).flatten=cur++s:=by
 induction s generalizing cur with
 | nil=>unfold J3;split<;>simp [*]
 | cons c r ih=>unfold J3;split<;>simp [ih]
theorem Y7 (s:Str):(C2 s).flatten=s:=D34 s []
theorem near_ok (blob:Str) (raw:List Int) (from':Int) (hb:blob.length≤16777216) (h0:0≤from'∧from'≤1073741824) :
  FnOk Tryz.prog 26 [N2 blob,P0 raw,H3 from'] (fun rs=>rs=[N2 (C55 blob raw from')]):=by
 have hll:=U5 blob
 have hlf:=Y7 blob
 have hlf':(C2 blob).flatten.length=blob.length:=by rw [hlf]
 refine FnOk.intro Tryz.func26 (by decide) Z Z Z Z ?_
 refine k2 (A3 (A7 Z Z (A5 ?_)));refine k1 (k2 (A3 (A4 Z Z (C4 (C94 blob (by omega)) Z Z Z ?_))));rintro _ rfl;refine A7 Z Z (A5 ?_);refine k1 (k2 ?_)
 obtain ⟨l,hl⟩:∃l,l=C2 blob:=⟨_,rfl⟩
 have hno:C55 blob raw from'=u5 raw from' 0 [] l:=by rw [C55,hl]
 rw [←hl] at hll hlf' ⊢
 refine A3 (A7 Z Z (A5 ?_));refine k1 (k2 (k2 (A3 (A7 Z Z (A5 ?_)))));refine k1 (k3 (D6 (X:=Nat × Str) (fun x=>([(1,C3 Int 1 F7 raw),(2,B9 from'),(7,C3 Str 1 M5 l),(8,X6 x.2),(9,B9 x.1)],[])) (fun x=>x.1≤l.length∧x.2.length≤(l.take x.1).flatten.length+4*x.1∧u5 raw from' x.1 x.2 (l.drop x.1)=u5 raw from' 0 [] l) (fun x=>l.length - x.1) (0,[]) (by simp) (J69 ⟨le1 rfl,le1 rfl,le1 rfl,le1 rfl,le1 rfl,trivial⟩ trivial) ?_))
 rintro ⟨i,s⟩ ⟨hi,hs,hp⟩
 dsimp only at hi hs hp ⊢
 have hle:=Y8 l i
 refine k2 (k2 (A3 (A4 Z Z (A4 Z Z (E7 Z Z (E4 Z Z Z (A5 ?_)))))));refine k1 ?_;refine B3 rfl (fun ht=>?_) (fun ht=>?_)
 ·have hlt:i < l.length:=by have:=A0 ht;omega
  have hv:l[i]?=some l[i]:=by simp [hlt]
  have hle2:=Y8 l (i+1)
  have hst:=W3 l i hlt
  rw [hst,K06] at hle2
  rw [K13 hlt,u5] at hp
  refine k5 (k1 (k2 (k3 (k2 (k2 (A3 (A4 Z Z (A4 Z Z (A4 Z Z (C6 Z Z Z (C4 (F64 raw _ (by omega) (by omega)) Z Z Z ?_)))))))))));rintro _ rfl;refine A6 (B70 Z Z (by omega)) Z (A5 ?_);refine k1 (k3 (k2 (A3 (A6 (K0 Z Z) Z (A7 Z Z (A5 ?_))))));refine k1 ?_;refine B3 rfl (fun ht=>?_) (fun ht=>?_)
  ·rw [if_pos (A0 ht)] at hp
   refine k6 (k9 Z (k7 (k8 Z (k1 (A3 (A4 Z Z (C6 Z Z Z (A7 Z Z (A5 ?_)))))))));refine k1 ?_
   exact ⟨(i+1,s),⟨by dsimp only;omega,by dsimp only;rw [hst,K06];omega,hp⟩,by dsimp only;omega,J69 ⟨le1 rfl,le1 rfl,le1 rfl,le1 rfl,le1 rfl,trivial⟩ trivial⟩
  ·rw [if_neg (A1 ht)] at hp
   refine k2 (A3 (A6 (K0 Z Z) Z (A7 Z Z (A5 ?_))));refine k1 ?_;refine B3 rfl (fun ht=>?_) (fun ht=>?_)
   ·rw [if_pos (A0 ht)] at hp
    have h4:=B17 (u0 raw (from'+40+(i:Int)))
    skip
    refine A3 (A4 Z Z (A4 Z Z (A4 Z Z (C6 Z Z Z (A4 Z Z (C6 Z Z Z (C4 (F64 raw _ (by omega) (by omega)) Z Z Z ?_)))))));rintro _ rfl;refine C4 (G89 _) Z Z Z ?_;rintro _ rfl;refine A6 (G7 Z Z (by omega)) Z (A6 (G7 Z Z (by (simp only [K06,K08,K11];omega))) Z (A7 Z Z (A5 ?_)));refine k4 (k1 (A3 (A4 Z Z (A4 Z Z (A4 Z Z (A6 (B0 Z (.pure _ _ _ _) Z (by omega) hv) Z (A6 (B1 Z Z) Z (A6 (G7 Z Z (by (simp only [K06,K08,K11];omega))) Z (A7 Z Z (A5 ?_))))))))));refine k4 (k1 (A3 (A4 Z Z (C6 Z Z Z (A7 Z Z (A5 ?_))))));refine k1 ?_
    exact ⟨(i+1,s++x9 (u0 raw (from'+40+(i:Int)))++[10]++l[i]),⟨by dsimp only;omega,by dsimp only;rw [hst];simp only [K06,K08,K11];omega,hp⟩,by dsimp only;omega,J69 ⟨le1 rfl,le1 rfl,le1 rfl,le1 rfl,le1 rfl,trivial⟩ trivial⟩
   ·rw [if_neg (A1 ht)] at hp
    refine k5 (k4 (k1 (A3 (A4 Z Z (A4 Z Z (A4 Z Z (A6 (B0 Z (.pure _ _ _ _) Z (by omega) hv) Z (A6 (B1 Z Z) Z (A6 (G7 Z Z (by omega)) Z (A7 Z Z (A5 ?_)))))))))));refine k4 (k1 (A3 (A4 Z Z (C6 Z Z Z (A7 Z Z (A5 ?_))))));refine k1 ?_
    exact ⟨(i+1,s++l[i]),⟨by dsimp only;omega,by dsimp only;rw [hst,K06,K06];omega,hp⟩,by dsimp only;omega,J69 ⟨le1 rfl,le1 rfl,le1 rfl,le1 rfl,le1 rfl,trivial⟩ trivial⟩
 ·have hi':i=l.length:=by have:=A1 ht;omega
  rw [hi',K15 (Nat.le_refl _)] at hp
  refine k6 (k2 (A3 (A4 Z Z (A7 Z Z (A5 ?_)))));refine k1 (k10 ?_)
  exact B6 (G6 rfl rfl rfl) (by rw [hno,←hp];rfl)
def y4 (raw:List Int) (lines:Int) (p:Nat):Str :=
 if (u0 raw (500+(p:Int))).tmod 5=0 then Z4 raw (600+50*(p:Int)) lines 4 else if (u0 raw (500+(p:Int))).tmod 5=1 then Z4 raw 0 lines 5 else C55 (Z4 raw 0 lines 5) raw (600+50*(p:Int))
def c8 (raw:List Int) (n:Nat) (lines:Int):List Str:=(List.range n).map (y4 raw lines)
theorem E48 (raw:List Int) (lines:Int) (p:Nat) (h:0≤lines):((y4 raw lines p).length:Int)≤20*lines:=by
 have h1:=C54 raw (600+50*(p:Int)) lines 4 h
 have h2:=C54 raw 0 lines 5 h
 have h3:=B18 raw (600+50*(p:Int)) (C2 (Z4 raw 0 lines 5)) 0 []
 have h4:=U5 (Z4 raw 0 lines 5)
 rw [Y7] at h3
 simp only [K11] at h3
 unfold y4 C55
 split
 ·omega
 ·split<;>omega
theorem J36 (raw:List Int) (n:Nat) (lines:Int) (h1:n≤1024) (h2:0≤lines∧lines≤524288):FnOk Tryz.prog 61 [P0 raw,H3 n,H3 lines] (fun rs=>rs=[x4 (c8 raw n lines)]):=by
 have hfl:=C54 raw 0 lines 5 h2.1
 refine FnOk.intro Tryz.func61 (by decide) Z Z Z Z ?_
 refine k2 (A3 (A7 Z Z (A5 ?_)));refine k1 (k2 (A3 (A4 Z Z (A4 Z Z (C4 (I34 raw 0 lines 5 (by omega) (by omega) (by omega)) Z Z Z ?_)))));rintro _ rfl;refine A7 Z Z (A5 ?_);refine k1 (k2 (A3 (C1 (A42 13 (c:=M5) (ys:=[]) F3 Z Z Z (by first | rfl | (simp [I1,I7,Ob.free,SV.free,S1.free,TC.free]<;>rfl))) Z ?_)));refine A7 Z Z (A5 ?_);refine k1 (k2 (k2 (A3 (A7 Z Z (A5 ?_)))));refine k1 (k3 (D6 (X:=Nat) (fun p=>([(0,C3 Int 1 F7 raw),(1,B9 n),(2,B9 lines),(7,X6 (Z4 raw 0 lines 5)),(8,.s (.one (.buf 13 Str 1 M5 (c8 raw p lines)))),(9,B9 p)],[(13,.spare (c8 raw p lines).length 1 9)])) (fun p=>p≤n) (fun p=>n - p) 0 (Nat.zero_le _) (J69 ⟨le1 rfl,le1 rfl,le1 rfl,le1 rfl,le1 rfl,le1 rfl,trivial⟩ ⟨rfl,trivial⟩) ?_))
 intro p hp
 dsimp only at hp ⊢
 have hst:c8 raw (p+1) lines=c8 raw p lines++[y4 raw lines p]:=by unfold c8;rw [K44,K20];rfl
 have hbl:(c8 raw p lines).length=p:=by simp [c8]
 refine k2 (k2 (A3 (A4 Z Z (A4 Z Z (E4 Z Z Z (A5 ?_))))));refine k1 ?_;refine B3 rfl (fun ht=>?_) (fun ht=>?_)
 ·have hlt:p < n:=by have:=A0 ht;omega
  refine k5 (k1 (k2 (k3 (k2 (A3 (A4 Z Z (A4 Z Z (C6 Z Z Z (C4 (F64 raw _ (by omega) (by omega)) Z Z Z ?_)))))))));rintro _ rfl;refine A6 (B70 Z Z (by omega)) Z (A5 ?_);refine k1 (k3 (k2 (A3 (A6 (K0 Z Z) Z (A7 Z Z (A5 ?_))))));refine k1 ?_;refine B3 rfl (fun ht=>?_) (fun ht=>?_)
  ·have hb:y4 raw lines p=Z4 raw (600+50*(p:Int)) lines 4:=by rw [y4,if_pos (A0 ht)]
   skip
   refine A3 (A4 Z Z (A4 Z Z (A4 Z Z (A6 (C70 Z Z (by omega)) Z (C6 Z Z Z (A4 Z Z (C4 (I34 raw _ lines 4 (by omega) (by omega) (by omega)) Z Z Z ?_)))))));rintro _ rfl;refine A6 (D5 (c:=M5) (ys:=[_]) (E0 Z Z Z Z F3) Z Z Z) Z (C1 (G4 Z Z Z (.pure _ _ _ _) (by (simp only [K08,K11];omega)) Z) Z (A7 Z Z (A5 ?_)));refine k4 (k4 (k1 (A3 (A4 Z Z (C6 Z Z Z (A7 Z Z (A5 ?_)))))));refine k1 ?_;refine ⟨p+1,by omega,by omega,?_⟩
   rw [hst,hb]
   exact J69 ⟨le1 rfl,le1 rfl,le1 rfl,le1 rfl,le1 rfl,le1 rfl,trivial⟩ ⟨rfl,trivial⟩
  ·have h5:=A1 ht
   refine k2 (A3 (A6 (K0 Z Z) Z (A7 Z Z (A5 ?_))));refine k1 ?_;refine B3 rfl (fun ht=>?_) (fun ht=>?_)
   ·have hb:y4 raw lines p=Z4 raw 0 lines 5:=by rw [y4,if_neg h5,if_pos (A0 ht)]
    skip
    refine A3 (A4 Z Z (A4 Z Z (A6 (D5 (c:=M5) (ys:=[_]) (E0 Z Z Z Z F3) Z Z Z) Z (C1 (G4 Z Z Z (.pure _ _ _ _) (by (simp only [K08,K11];omega)) Z) Z (A7 Z Z (A5 ?_))))));refine k4 (k4 (k1 (A3 (A4 Z Z (C6 Z Z Z (A7 Z Z (A5 ?_)))))));refine k1 ?_;refine ⟨p+1,by omega,by omega,?_⟩
    rw [hst,hb]
    exact J69 ⟨le1 rfl,le1 rfl,le1 rfl,le1 rfl,le1 rfl,le1 rfl,trivial⟩ ⟨rfl,trivial⟩
   ·have hb:y4 raw lines p=C55 (Z4 raw 0 lines 5) raw (600+50*(p:Int)):=by rw [y4,if_neg h5,if_neg (A1 ht)]
    skip
    refine A3 (A4 Z Z (A4 Z Z (A4 Z Z (A4 Z Z (A6 (C70 Z Z (by omega)) Z (C6 Z Z Z (C4 (near_ok _ raw _ (by omega) (by omega)) Z Z Z ?_)))))));rintro _ rfl;refine A6 (D5 (c:=M5) (ys:=[_]) (E0 Z Z Z Z F3) Z Z Z) Z (C1 (G4 Z Z Z (.pure _ _ _ _) (by (simp only [K08,K11];omega)) Z) Z (A7 Z Z (A5 ?_)));refine k4 (k4 (k1 (A3 (A4 Z Z (C6 Z Z Z (A7 Z Z (A5 ?_)))))));refine k1 ?_;refine ⟨p+1,by omega,by omega,?_⟩
    rw [hst,hb]
    exact J69 ⟨le1 rfl,le1 rfl,le1 rfl,le1 rfl,le1 rfl,le1 rfl,trivial⟩ ⟨rfl,trivial⟩
 ·have hp':p=n:=by have:=A1 ht;omega
  refine k6 (k2 (A3 (A4 Z Z (A7 Z Z (A5 ?_)))));refine k1 (k10 ?_)
  exact B6 (G6 rfl rfl rfl) (by rw [hp'])
theorem G20 (r:Row) (c:Int) (hr:0≤r.Marks∧r.Marks < 4294967296):FnOk Tryz.prog 50 [pRow r,H3 c] (fun rs=>rs=[M3 (Z8 r c)]):=by
 refine FnOk.intro Tryz.func50 (by decide) Z Z Z Z ?_
 refine k2 (A3 (C1 (R4 2 Z Z Z) Z (A7 Z Z (A5 ?_))));refine k1 (k2 (k3 (k2 (A3 (A4 Z Z (A6 (K0 Z Z) Z (A7 Z Z (A5 ?_))))))));refine k1 ?_;refine B3 rfl (fun ht=>?_) (fun ht=>?_)
 ·have h:=A0 ht
  refine k2 (A3 (A6 (A8 Z) Z (E1 Z Z Z Z (O6 Z Z (A7 Z Z (A5 ?_))))));refine k1 (k10 (k12 (k11 ?_)))
  exact B6 (G6 rfl rfl rfl) (by rw [Z8,if_pos h])
 ·have h:=A1 ht
  refine k2 (A3 (A4 Z Z (E4 Z Z Z (A4 Z Z (B2 Z Z Z Z (fun hg=>by rw [hg];exact B7 Z Z) ?_)))));refine B2 Z Z Z Z (fun hg=>by rw [hg];exact A58 Z Z) ?_;refine J4 Z Z ?_;refine A7 Z Z (A5 ?_);refine k1 ?_;refine B3 rfl (fun ht=>?_) (fun ht=>?_)
  ·have h2:=A0 (or_pick.symm.trans ht)
   refine k2 (A3 (A7 Z Z (A5 ?_)));refine k1 (k10 (k12 (k11 ?_)))
   exact B6 (G6 rfl rfl rfl) (by rw [Z8,if_neg h,if_pos h2])
  ·have h2:=A1 (or_pick.symm.trans ht)
   have hc:0≤c∧c < 32:=by omega
   refine k5 (k2 (A3 (A6 (A8 Z) Z (E1 Z Z Z Z (A4 Z Z (A6 (N6 Z) Z (A6 (A89 Z Z (by (rw [A86 (by omega)];omega))) Z ?_)))))));refine A6 (X9 Z Z Z (fun _=>rfl)) Z (A6 (K0 Z Z) Z (A6 (A8 Z) Z (E1 Z Z Z Z (A6 (I24 Z Z TyBool.out) Z (A7 Z Z (A5 ?_))))));refine k1 (k10 (B6 (G6 Z Z Z) ?_))
   have h3:0≤r.Marks / 2 ^ c.toNat:=Int.ediv_nonneg hr.1 (Int.pow_nonneg (by decide))
   have h4:r.Marks / 2 ^ c.toNat≤r.Marks:=Int.ediv_le_self _ hr.1
   rw [Z8,if_neg h,if_neg h2,A86 (by omega),E71 r.Marks c (by omega),B95 _ (by omega)]
   rfl
theorem A13 (rows:List Row) (c:Int) (hr:I8 rows) (hl:rows.length≤536870911):FnOk Tryz.prog 145 [pRows rows,H3 c] (fun rs=>rs=[x4 (K7 rows c)]):=by
 refine FnOk.intro Tryz.func145 (by decide) Z Z Z Z ?_
 refine k2 (A3 (A7 Z Z (A5 ?_)));refine k1 (k2 (A3 (C1 (V1 5 _ M5 Z) Z (A5 ?_))));refine k1 (k2 (k2 (A3 (A7 Z Z (A5 ?_)))));refine k1 (k3 (D6 (X:=Nat) (fun i=>([(0,C3 Row 3 rowC rows),(1,B9 c),(5,.s (.one (.buf 5 Str 1 M5 (K7 (rows.take i) c)))),(6,B9 i)],[(5,.spare (K7 (rows.take i) c).length 1 9)])) (fun i=>i≤rows.length) (fun i=>rows.length - i) 0 (Nat.zero_le _) (J69 ⟨le1 rfl,le1 rfl,le1 rfl,le1 rfl,trivial⟩ ⟨rfl,trivial⟩) ?_))
 intro i hi
 dsimp only at hi ⊢
 have hcl:=A99 (rows.take i) c
 rw [K19] at hcl
 refine k2 (k2 (A3 (A4 Z Z (A4 Z Z (E7 Z Z (E4 Z Z Z (A5 ?_)))))));refine k1 ?_;refine B3 rfl (fun ht=>?_) (fun ht=>?_)
 ·have hlt:i < rows.length:=by have:=A0 ht;omega
  have hv:rows[i]?=some rows[i]:=by simp [hlt]
  have hst:K7 (rows.take (i+1)) c=K7 (rows.take i) c++(if Z8 rows[i] c=true then [rows[i].Text] else []):=by
   unfold K7
   rw [List.take_add_one,hv,Option.toList_some,K56,K20]
   congr 1
   by_cases h:Z8 rows[i] c=true<;>simp [h]
  refine k5 (k1 (k2 (k3 (k2 (A3 (A4 Z Z (A4 Z Z (A6 (B0 Z (.pure _ _ _ _) Z (by omega) hv) Z (A6 (G3 Z Z) Z (A4 Z Z (C4 (G20 rows[i] c (hr _ (K17 hlt))) Z Z Z ?_)))))))))));rintro _ rfl;refine A5 ?_;refine k1 ?_;refine B3 rfl (fun ht=>?_) (fun ht=>?_)
  ·rw [ht,if_pos rfl] at hst
   skip
   refine A3 (A4 Z Z (A4 Z Z (A4 Z Z (A6 (B0 Z (.pure _ _ _ _) Z (by omega) hv) Z (A6 (D4 Z) Z (A6 (B1 Z Z) Z (A6 (D5 (c:=M5) (ys:=[_]) (E0 Z Z Z Z F3) Z Z Z) Z (C1 (G4 Z Z Z (.pure _ _ _ _) (by (simp only [K08,K11];omega)) Z) Z (A7 Z Z (A5 ?_))))))))));refine k4 (k1 (A3 (A4 Z Z (C6 Z Z Z (A7 Z Z (A5 ?_))))));refine k1 ?_;refine ⟨i+1,by omega,by omega,?_⟩
   rw [hst]
   exact J69 ⟨le1 rfl,le1 rfl,le1 rfl,le1 rfl,trivial⟩ ⟨rfl,trivial⟩
  ·rw [ht,if_neg (by decide),K29] at hst
   refine k5 (k4 (k1 (A3 (A4 Z Z (C6 Z Z Z (A7 Z Z (A5 ?_)))))));refine k1 ?_;refine ⟨i+1,by omega,by omega,?_⟩
   rw [hst]
   exact J69 ⟨le1 rfl,le1 rfl,le1 rfl,le1 rfl,trivial⟩ ⟨rfl,trivial⟩
 ·have hi':i=rows.length:=by have:=A1 ht;omega
  refine k6 (k2 (A3 (A4 Z Z (A7 Z Z (A5 ?_)))));refine k1 (k10 ?_)
  exact B6 (G6 rfl rfl rfl) (by rw [hi',K28])
theorem E49 (rows:List Row) (n:Int) (hn:0≤n∧n≤32) (hr:I8 rows):FnOk Tryz.prog 159 [pRows rows,H3 n] (fun rs=>rs=[M3 (N8 rows n.toNat)]):=by
 refine FnOk.intro Tryz.func159 (by decide) Z Z Z Z ?_
 refine A60 (t:=0) rfl (.pure _ _ _ _) fun hlen=>?_
 refine k2 (A3 (A7 Z Z (A5 ?_)));refine k1 (k2 (k2 (A3 (A7 Z Z (A5 ?_)))));refine k1 (k3 (D6 (X:=Nat) (fun i=>([(0,C3 Row 3 rowC rows),(1,B9 n),(5,B9 i)],[])) (fun i=>i≤rows.length∧N8 rows n.toNat=N8 (rows.drop i) n.toNat) (fun i=>rows.length - i) 0 (by simp) (J69 ⟨le1 rfl,le1 rfl,le1 rfl,trivial⟩ trivial) ?_))
 rintro i ⟨hi,hp⟩
 dsimp only at hi hp ⊢
 refine k2 (k2 (A3 (A4 Z Z (A4 Z Z (E7 Z Z (E4 Z Z Z (A5 ?_)))))));refine k1 ?_;refine B3 rfl (fun ht=>?_) (fun ht=>?_)
 ·have hlt:i < rows.length:=by have:=A0 ht;omega
  have hv:rows[i]?=some rows[i]:=by simp [hlt]
  have hm:=hr _ (K17 hlt)
  rw [K13 hlt,B31] at hp
  have hmk:X1 n.toNat rows[i]=!(if decide ((IntKind.u64.wrap rows[i].Marks).fdiv (2 ^ min (IntKind.u64.wrap n).toNat IntKind.u64.bits)≠0)=true then true else if rows[i].Lost=true then decide (rows[i].Marks=0) else false):=by
   rw [A86 (by omega),A86 (n:=n) (by omega),shr64' _ _ (by omega),X1]
   by_cases h1:rows[i].Marks / 2 ^ n.toNat=0
   ·cases h2:rows[i].Lost<;>simp [h1]
    by_cases h3:rows[i].Marks=0<;>simp [h3]
   ·simp [h1]
  refine k5 (k1 (k2 (k3 (k2 (A3 (A4 Z Z (A4 Z Z (A6 (B0 Z (.pure _ _ _ _) Z (by omega) hv) Z (A6 (D4 Z) Z (A6 (B1 Z Z) Z (A6 (N6 Z) Z (A4 Z Z (A6 (N6 Z) Z (A6 (A89 Z Z (by (rw [A86 (by omega)];omega))) Z ?_))))))))))))));refine A6 (O9 Z Z) Z (A4 Z Z (B2 Z Z Z Z (fun hg=>by rw [hg];exact B7 Z Z) ?_));refine B2 Z Z Z Z (fun hg=>by rw [hg];exact B7 Z Z) ?_;refine B2 Z Z Z Z (fun hg=>by have hq:=hg;(try simp at hq);rw [hg];exact B0 Z (.pure _ _ _ _) Z (by omega) hv) ?_;refine B2 Z Z Z Z (fun hg=>by rw [hg];exact D4 Z) ?_;refine B2 Z Z Z Z (fun hg=>by rw [hg];exact B1 Z Z) ?_;refine B2 Z Z Z Z (fun hg=>by rw [hg];exact B7 Z Z) ?_;refine I0 Z Z Z (.gd (.val _)) Z (fun hg=>by obtain ⟨hg1,hg2⟩:=N7 hg;(try rw [hg1]);(try rw [hg2]);exact B7 Z Z) ?_;refine I0 Z Z Z (.gd (.val _)) Z (fun hg=>by obtain ⟨hg1,hg2⟩:=N7 hg;(try rw [hg1]);(try rw [hg2]);exact B7 Z Z) ?_;refine I0 Z Z Z (.gd (.val _)) Z (fun hg=>by have hq:=hg;(try simp at hq);obtain ⟨hg1,hg2⟩:=N7 hg;(try rw [hg1]);(try rw [hg2]);exact B0 Z (.pure _ _ _ _) Z (by omega) hv) ?_;refine I0 Z Z Z (.gd (.val _)) Z (fun hg=>by obtain ⟨hg1,hg2⟩:=N7 hg;(try rw [hg1]);(try rw [hg2]);exact D4 Z) ?_;refine I0 Z Z Z (.gd (.val _)) Z (fun hg=>by obtain ⟨hg1,hg2⟩:=N7 hg;(try rw [hg1]);(try rw [hg2]);exact B1 Z Z) ?_;refine I0 Z Z Z (.gd (.val _)) Z (fun hg=>by obtain ⟨hg1,hg2⟩:=N7 hg;(try rw [hg1]);(try rw [hg2]);exact K0 Z Z) ?_;refine B2 Z Z Z Z (fun hg=>by rw [hg];exact F6 Z (fun h=>by first | rfl | (rw [h];rfl)) (fun h=>by first | rfl | (rw [h];rfl))) ?_;refine J4 Z Z ?_;refine A5 ?_;refine k1 ?_;refine B3 rfl (fun ht=>?_) (fun ht=>?_)
  ·rw [hmk,ht] at hp
   refine k2 (A3 (A7 Z Z (A5 ?_)));refine k1 (k10 (k12 (k11 (k11 (k12 (k11 ?_))))))
   exact B6 (G6 rfl rfl rfl) (by rw [hp];rfl)
  ·rw [hmk,ht] at hp
   refine k5 (k4 (k1 (A3 (A4 Z Z (C6 Z Z Z (A7 Z Z (A5 ?_)))))));refine k1 ?_
   exact ⟨i+1,⟨by omega,by rw [hp];rfl⟩,by omega,J69 ⟨le1 rfl,le1 rfl,le1 rfl,trivial⟩ trivial⟩
 ·have hi':i=rows.length:=by have:=A1 ht;omega
  subst hi'
  refine k6 (k2 (A3 (A7 Z Z (A5 ?_))));refine k1 (k10 ?_)
  exact B6 (G6 rfl rfl rfl) (by rw [hp];simp [N8])
theorem E50 (rows:List Row) (n:Int) (hn:0≤n∧n≤32) (hr:I8 rows) (hl:rows.length≤536870911) (hx:P3 rows≤536870912):FnOk Tryz.prog 160 [pRows rows,H3 n] (fun rs=>rs=[M3 (T3 rows n.toNat)]):=by
 obtain ⟨n,rfl⟩:∃m:Nat,n=m:=⟨n.toNat,by omega⟩
 rw [K12]
 refine FnOk.intro Tryz.func160 (by decide) Z Z Z Z ?_
 refine k2 (A3 (A7 Z Z (A5 ?_)));refine k1 (k2 (k2 (A3 (A7 Z Z (A5 ?_)))));refine k1 (k3 (D6 (X:=Nat) (fun i=>([(0,C3 Row 3 rowC rows),(1,B9 n),(5,B9 i)],[])) (fun i=>i≤rows.length∧rows.all (fun r=>J5 r.Text)=(rows.drop i).all (fun r=>J5 r.Text)) (fun i=>rows.length - i) 0 (by simp) (J69 ⟨le1 rfl,le1 rfl,le1 rfl,trivial⟩ trivial) ?_))
 rintro i ⟨hi,hp⟩
 dsimp only at hi hp ⊢
 refine k2 (k2 (A3 (A4 Z Z (A4 Z Z (E7 Z Z (E4 Z Z Z (A5 ?_)))))));refine k1 ?_;refine B3 rfl (fun ht=>?_) (fun ht=>?_)
 ·have hlt:i < rows.length:=by have:=A0 ht;omega
  have hv:rows[i]?=some rows[i]:=by simp [hlt]
  have htl:=D01 rows _ (K17 hlt)
  rw [K13 hlt,List.all_cons] at hp
  refine k5 (k1 (k2 (k3 (k2 (A3 (A4 Z Z (A4 Z Z (A6 (B0 Z (.pure _ _ _ _) Z (by omega) hv) Z (A6 (D4 Z) Z (A6 (B1 Z Z) Z (C4 (line_ok rows[i].Text (by omega)) Z Z Z ?_)))))))))));rintro _ rfl;refine O6 Z Z (A5 ?_);refine k1 ?_;refine B3 rfl (fun ht=>?_) (fun ht=>?_)
  ·have h:J5 rows[i].Text=false:=by simpa using ht
   rw [h] at hp
   refine k2 (A3 (A7 Z Z (A5 ?_)));refine k1 (k10 (k12 (k11 (k11 (k12 (k11 ?_))))))
   exact B6 (G6 rfl rfl rfl) (by rw [T3,hp];rfl)
  ·have h:J5 rows[i].Text=true:=by simpa using ht
   rw [h] at hp
   refine k5 (k4 (k1 (A3 (A4 Z Z (C6 Z Z Z (A7 Z Z (A5 ?_)))))));refine k1 ?_
   exact ⟨i+1,⟨by omega,by rw [hp];rfl⟩,by omega,J69 ⟨le1 rfl,le1 rfl,le1 rfl,trivial⟩ trivial⟩
 ·have hi':i=rows.length:=by have:=A1 ht;omega
  rw [hi',K15 (Nat.le_refl _),List.all_nil] at hp
  refine k6 (k2 (k2 (A3 (A7 Z Z (A5 ?_)))));refine k1 (k3 (D6 (X:=Nat) (fun k=>([(0,C3 Row 3 rowC rows),(1,B9 n),(6,B9 ((k:Int) - 1))],[])) (fun k=>k≤n+1∧(List.range (n+1)).all (fun k=>Y4 (K7 rows ((k:Int) - 1)))=((List.range (n+1)).drop k).all (fun k=>Y4 (K7 rows ((k:Int) - 1)))) (fun k=>n+1 - k) 0 (by simp) (J69 ⟨le1 rfl,le1 rfl,le1 rfl,trivial⟩ trivial) ?_))
  rintro k ⟨hk,hq⟩
  dsimp only at hk hq ⊢
  refine k2 (k2 (A3 (A4 Z Z (A4 Z Z (E4 Z Z Z (A5 ?_))))));refine k1 ?_;refine B3 rfl (fun ht=>?_) (fun ht=>?_)
  ·have hlt:k < n+1:=by have:=A0 ht;omega
   have hfl:=H93 rows ((k:Int) - 1)
   rw [K13 (by simpa using hlt),List.all_cons,List.getElem_range] at hq
   refine k5 (k1 (k2 (k3 (k2 (A3 (A4 Z Z (A4 Z Z (C4 (A13 rows _ hr hl) Z Z Z ?_))))))));rintro _ rfl;refine C4 (list_ok _ (fun s hs=>by obtain ⟨r,hr1,rfl⟩:=J03 rows _ s hs;have:=D01 rows r hr1;omega)) Z Z Z ?_;rintro _ rfl;refine O6 Z Z (A5 ?_);refine k1 ?_;refine B3 rfl (fun ht=>?_) (fun ht=>?_)
   ·have h:Y4 (K7 rows ((k:Int) - 1))=false:=by simpa using ht
    rw [h] at hq
    refine k2 (A3 (A7 Z Z (A5 ?_)));refine k1 (k10 (k12 (k11 (k11 (k12 (k11 ?_))))))
    exact B6 (G6 rfl rfl rfl) (by rw [T3,hp,hq];rfl)
   ·have h:Y4 (K7 rows ((k:Int) - 1))=true:=by simpa using ht
    rw [h] at hq
    refine k5 (k4 (k1 (A3 (A4 Z Z (C6 Z Z Z (A7 Z Z (A5 ?_)))))));refine k1 ?_
    exact ⟨k+1,⟨by omega,by rw [hq];rfl⟩,by omega,J69 ⟨le1 rfl,le1 rfl,leE rfl (by first | (simp;done) | (simp;omega)),trivial⟩ trivial⟩
  ·have hk':k=n+1:=by have:=A1 ht;omega
   rw [hk',K15 (by simp),List.all_nil] at hq
   refine k6 (k2 (A3 (A7 Z Z (A5 ?_))));refine k1 (k10 ?_)
   exact B6 (G6 rfl rfl rfl) (by rw [T3,hp,hq];rfl)
theorem C56 (t:Table) (hr:I8 t.Rows) (hl:t.Rows.length≤536870911) (hx:P3 t.Rows≤536870912):FnOk Tryz.prog 144 [pTable t] (fun rs=>rs=[H3 (L4 t)]):=by
 refine FnOk.intro Tryz.func144 (by decide) Z Z Z Z ?_
 refine k2 (A3 (C1 (R4 1 Z Z Z) Z (A7 Z Z (A5 ?_))));refine k1 (k2 (k3 (k2 (A3 (A6 (A8 Z) Z (E1 Z Z Z Z (E4 Z Z Z (A4 Z Z (B2 Z Z Z Z (fun hg=>by rw [hg];exact A8 Z) ?_)))))))));refine B2 Z Z Z Z (fun hg=>by rw [hg];exact B5 Z Z Z) ?_;refine B2 Z Z Z Z (fun hg=>by rw [hg];exact N5 Z Z) ?_;refine J4 Z Z ?_;refine A7 Z Z (A5 ?_);refine k1 ?_;refine B3 rfl (fun ht=>?_) (fun ht=>?_)
 ·have h:=A0 (or_pick.symm.trans ht)
  refine k2 (A3 (A7 Z Z (A5 ?_)));refine k1 (k10 (k12 (k11 ?_)))
  exact B6 (G6 rfl rfl rfl) (by rw [L4,if_pos h])
 ·have h:=A1 (or_pick.symm.trans ht)
  refine k2 (A3 (A6 (A8 Z) Z (E1 Z Z Z Z (A6 (A8 Z) Z (E1 Z Z Z Z (C4 (E49 t.Rows t.Parents (by omega) hr) Z Z Z ?_))))));rintro _ rfl;refine O6 Z Z (A7 Z Z (A5 ?_));refine k1 ?_;refine B3 rfl (fun ht=>?_) (fun ht=>?_)
  ·have h2:N8 t.Rows t.Parents.toNat=false:=by simpa using ht
   refine k2 (A3 (A7 Z Z (A5 ?_)));refine k1 (k10 (k12 (k11 ?_)))
   exact B6 (G6 rfl rfl rfl) (by rw [L4,if_neg h,if_pos h2])
  ·have h2:N8 t.Rows t.Parents.toNat=true:=by simpa using ht
   refine k2 (A3 (A6 (A8 Z) Z (E1 Z Z Z Z (A6 (A8 Z) Z (E1 Z Z Z Z (C4 (E50 t.Rows t.Parents (by omega) hr hl hx) Z Z Z ?_))))));rintro _ rfl;refine O6 Z Z (A7 Z Z (A5 ?_));refine k1 ?_;refine B3 rfl (fun ht=>?_) (fun ht=>?_)
   ·have h3:T3 t.Rows t.Parents.toNat=false:=by simpa using ht
    refine k2 (A3 (A7 Z Z (A5 ?_)));refine k1 (k10 (k12 (k11 ?_)))
    exact B6 (G6 rfl rfl rfl) (by rw [L4,if_neg h,if_neg (by simp [h2]),if_pos h3])
   ·have h3:T3 t.Rows t.Parents.toNat=true:=by simpa using ht
    refine k5 (k2 (A3 (A7 Z Z (A5 ?_))));refine k1 (k10 ?_)
    exact B6 (G6 rfl rfl rfl) (by rw [L4,if_neg h,if_neg (by simp [h2]),if_neg (by simp [h3])])
theorem F65 (s:Str):(ByteArray.mk s.toArray).size=s.length:=by simp [ByteArray.size]
theorem G21 (s p:Str) (hs:s.length≤1099511627776):FnOk Tryz.prog 200 [N2 s,N2 p] (fun rs=>rs=[M3 (Lib.hasSuffix s p)]) :=
 J77 (xs:=[.string ⟨s.toArray⟩,.string ⟨p.toArray⟩]) ⟨_,rfl,rfl,rfl⟩ rfl fun w=>by simpa using Tryz.strings_HasSuffix ⟨s.toArray⟩ ⟨p.toArray⟩ w (by rw [F65];omega)
theorem F23 (s p:Str) (hs:s.length≤1099511627776):FnOk Tryz.prog 225 [N2 s,N2 p] (fun rs=>rs=[N2 (Lib.trimSuffix s p)]) :=
 J77 (xs:=[.string ⟨s.toArray⟩,.string ⟨p.toArray⟩]) ⟨_,rfl,rfl,rfl⟩ rfl fun w=>by simpa using Tryz.strings_TrimSuffix ⟨s.toArray⟩ ⟨p.toArray⟩ w (by rw [F65];omega)
theorem G22 (s:Str) (c:UInt8):FnOk Tryz.prog 209 [N2 s,N2 [c]] (fun rs=>rs=[M3 (decide (0≤Lib.indexByte s c))]) :=
 J77 (xs:=[.string ⟨s.toArray⟩,.string ⟨#[c]⟩]) ⟨_,rfl,rfl,rfl⟩ rfl fun w=>by simpa using Tryz.strings_Contains_one ⟨s.toArray⟩ c w
theorem C20 (s:Str) (hs:s.length≤1099511627776):FnOk Tryz.prog 137 [N2 s] (fun rs=>rs=[M3 (ended s)]):=by
 refine FnOk.intro Tryz.func137 (by decide) Z Z Z Z ?_
 refine k2 (A3 (A7 Z Z (A5 ?_)));refine k1 (k2 (A3 (A4 Z Z (C4 (G21 s [10] hs) Z Z Z ?_))));rintro _ rfl;refine A7 Z Z (A5 ?_)
 rw [D02]
 refine k1 (k10 ?_)
 exact B6 (G6 rfl rfl rfl) rfl
theorem J37 (s:Str) (hs:s.length≤1099511627776):FnOk Tryz.prog 210 [N2 s] (fun rs=>rs=[N2 (B98 s)]):=by
 refine FnOk.intro Tryz.func210 (by decide) Z Z Z Z ?_
 refine k2 (A3 (A7 Z Z (A5 ?_)));refine k1 (k2 (A3 (A4 Z Z (C4 (F23 s [10] hs) Z Z Z ?_))));rintro _ rfl;refine A7 Z Z (A5 ?_)
 rw [F35]
 refine k1 (k10 ?_)
 exact B6 (G6 rfl rfl rfl) rfl
theorem G90 (r:Row) (c:Int) (hr:0≤r.Marks∧r.Marks < 4294967296):FnOk Tryz.prog 177 [pRow r,H3 c] (fun rs=>rs=[M3 (Z8 r c)]):=by
 refine FnOk.intro Tryz.func177 (by decide) Z Z Z Z ?_
 refine k2 (A3 (C1 (R4 2 Z Z Z) Z (A7 Z Z (A5 ?_))));refine k1 (k2 (k2 (A3 (A4 Z Z (E4 Z Z Z (A4 Z Z (B2 Z Z Z Z (fun hg=>by rw [hg];exact B7 Z Z) ?_)))))));refine B2 Z Z Z Z (fun hg=>by rw [hg];exact A58 Z Z) ?_;refine J4 Z Z ?_;refine A5 ?_;refine k1 ?_;refine B3 rfl (fun ht=>?_) (fun ht=>?_)
 ·have h:=A0 (or_pick.symm.trans ht)
  refine k2 (A3 (A7 Z Z (A5 ?_)));refine k1 (k10 (k11 ?_))
  exact B6 (G6 rfl rfl rfl) (by rw [Z8,if_neg (by omega),if_pos (by omega)])
 ·have h:=A1 (or_pick.symm.trans ht)
  refine k5 (k1 (k2 (k2 (A3 (A4 Z Z (E4 Z Z Z (A5 ?_)))))));refine k1 ?_;refine B3 rfl (fun ht=>?_) (fun ht=>?_)
  ·have h2:=A0 ht
   refine k2 (A3 (A6 (A8 Z) Z (E1 Z Z Z Z (O6 Z Z (A7 Z Z (A5 ?_))))));refine k1 (k10 (k11 ?_))
   exact B6 (G6 rfl rfl rfl) (by rw [Z8,if_pos (by omega)])
  ·have h2:=A1 ht
   refine k5 (k1 (k2 (C9 (by kernel_rfl) (by kernel_rfl) (A9 (A8 Z) Z Z (A9 (B5 Z Z Z) Z Z (A9 (A8 Z) Z Z (A9 (B5 Z Z Z) Z Z (C8 Z Z (A9 (A89 Z Z (by omega)) Z Z (A9 (X9 Z Z Z (fun _=>rfl)) Z Z (A9 (K0 Z Z) Z Z (A9 (I24 Z Z TyBool.out) Z Z (A9 (J6 Z Z) Z Z (L6 ?_))))))))))))));refine k1 (k10 (B6 (G6 Z Z Z) ?_))
   have h3:0≤r.Marks / 2 ^ c.toNat:=Int.ediv_nonneg hr.1 (Int.pow_nonneg (by decide))
   have h4:r.Marks / 2 ^ c.toNat≤r.Marks:=Int.ediv_le_self _ hr.1
   rw [Z8,if_neg (by omega),if_neg (by omega),E71 r.Marks c (by omega),B95 _ (by omega),Bool.beq_comm]
   rfl
theorem E51 (r:Row) (n:Int) (hn:1≤n∧n≤32) (hr:0≤r.Marks∧r.Marks < 4294967296):FnOk Tryz.prog 155 [pRow r,H3 n] (fun rs=>rs=[M3 (X1 n.toNat r)]):=by
 refine FnOk.intro Tryz.func155 (by decide) Z Z Z Z ?_
 refine k2 (A3 (C1 (R4 2 Z Z Z) Z (A7 Z Z (A5 ?_))));refine k1 (k2 (A3 (A6 (A8 Z) Z (E1 Z Z Z Z (A6 (A89 Z Z (by omega)) Z (A4 Z Z (A6 (U0 Z Z (by omega)) Z (A6 (A89 Z Z (by omega)) Z (A6 (K0 Z Z) Z (A4 Z Z (B2 Z Z Z Z (fun hg=>by rw [hg];exact A8 Z) ?_)))))))))));refine B2 Z Z Z Z (fun hg=>by rw [hg];exact B5 Z Z Z) ?_;refine B2 Z Z Z Z (fun hg=>by rw [hg];exact B56 Z) ?_;refine B2 Z Z Z Z (fun hg=>by rw [hg];exact B7 Z Z) ?_;refine I0 Z Z Z (.gd (.val _)) Z (fun hg=>by obtain ⟨hg1,hg2⟩:=N7 hg;(try rw [hg1]);(try rw [hg2]);exact A8 Z) ?_;refine I0 Z Z Z (.gd (.val _)) Z (fun hg=>by obtain ⟨hg1,hg2⟩:=N7 hg;(try rw [hg1]);(try rw [hg2]);exact B5 Z Z Z) ?_;refine I0 Z Z Z (.gd (.val _)) Z (fun hg=>by obtain ⟨hg1,hg2⟩:=N7 hg;(try rw [hg1]);(try rw [hg2]);exact O9 Z Z) ?_;refine B2 Z Z Z Z (fun hg=>by rw [hg];exact F6 Z (fun h=>by first | rfl | (rw [h];rfl)) (fun h=>by first | rfl | (rw [h];rfl))) ?_;refine J4 Z Z ?_;refine A7 Z Z (A5 ?_);refine k1 (k10 (B6 (G6 Z Z Z) ?_))
 have h0:0≤r.Marks / 2 ^ n.toNat:=Int.ediv_nonneg hr.1 (Int.pow_nonneg (by decide))
 have e1:r.Marks.fdiv (2 ^ (min (1:Int).toNat IntKind.u32.bits))=r.Marks / 2:=by
  rw [E71 r.Marks 1 (by omega)];rfl
 have e2:(r.Marks / 2).fdiv (2 ^ (min (n - 1).toNat IntKind.u32.bits))=r.Marks / 2 ^ n.toNat:=by
  rw [E71 (r.Marks / 2) (n - 1) (by omega),Int.ediv_ediv_of_nonneg (by decide)]
  have:n.toNat=(n - 1).toNat+1:=by omega
  rw [this,Int.pow_succ,Int.mul_comm]
 have e3:(if decide ((r.Marks.fdiv (2 ^ (min (1:Int).toNat IntKind.u32.bits))).fdiv (2 ^ (min (n - 1).toNat IntKind.u32.bits))=0)=true then (if (!r.Lost)=true then true else decide (r.Marks≠0)) else false)=X1 n.toNat r:=by
  rw [e1,e2,X1]
  cases r.Lost<;>by_cases hz:r.Marks / 2 ^ n.toNat=0<;>by_cases hy:r.Marks=0<;>simp [hz,hy]
 rw [←e3]
theorem B19 (r:Row) (hs:r.Text.length≤1099511627776):FnOk Tryz.prog 157 [pRow r] (fun rs=>rs=[M3 (J5 r.Text)]):=by
 refine FnOk.intro Tryz.func157 (by decide) Z Z Z Z ?_
 refine k2 (A3 (C1 (R4 1 Z Z Z) Z (A7 Z Z (A5 ?_))));refine k1 (k2 (A3 (A6 (A8 Z) Z (E1 Z Z Z Z (A6 (C11 Z Z) Z (A4 Z Z (B2 Z Z Z Z (fun hg=>by rw [hg];exact A8 Z) ?_)))))));refine B2 Z Z Z Z (fun hg=>by rw [hg];exact B5 Z Z Z) ?_;refine B2 Z Z Z Z (fun hg=>by have hq:=hg;(try simp at hq);rw [hg];exact H2 (J37 r.Text hs) Z Z) ?_;refine B2 Z Z Z Z (fun hg=>by have hq:=hg;(try simp at hq);rw [hg];exact H2 (G22 (B98 r.Text) 10) Z Z) ?_;refine B2 Z Z Z Z (fun hg=>by rw [hg];exact B56 Z) ?_;refine J4 Z Z ?_;refine A7 Z Z (A5 ?_);refine k1 (k10 (B6 (G6 Z Z Z) ?_))
 rw [←J05]
theorem I35 (r:Row) (res:Bool) (par:Int) (hs:r.Text.length≤1099511627776) :
  FnIo Tryz.prog 158 [pRow r] [.v (.bool res),.v (.int .u32 par)] (fun rs cs=>rs=[M3 (C43 res par r)]∧cs=[.v (.bool (B99 res r)),.v (.int .u32 (C00 par r))]):=by
 refine FnIo.intro Tryz.func158 (by decide) Z Z Z Z ?_
 refine k2 (A3 (C1 (R4 3 Z Z Z) Z (A7 Z Z (A5 ?_))));refine k1 (k2 (A3 (A6 (A8 Z) Z (E1 Z Z Z Z (A7 Z Z (A5 ?_))))));refine L0 ?_
 refine A21 [(3,.s (.one (.ref 3 0))),(0,.s (.one (.ref self 0))),(5,K3 (.int .u32 (F37 r)))] [(3,.box (pRow r).s1.cells),(self,.box [.p (.v (.bool res)),.p (.v (.int .u32 par))])] ?_ ?_
 ·refine k2 (A3 (A6 (A8 Z) Z (E1 Z Z Z Z (O6 Z Z (A5 ?_)))));refine k1 ?_;refine B3 rfl (fun ht=>?_) (fun ht=>?_)
  ·have h:r.Lost=false:=by simpa using ht
   skip
   refine A3 (A4 Z Z (A6 (n_compl Z Z (fun _=>rfl)) Z (A7 Z Z (A5 ?_))));refine k1 ?_
   rw [F37,if_neg (by rw [h];simp)]
   exact J69 ⟨le1 rfl,le1 rfl,le1 rfl,trivial⟩ ⟨rfl,rfl,trivial⟩
  ·have h:r.Lost=true:=by simpa using ht
   refine k5 (k1 ?_)
   rw [F37,if_pos h]
   exact J69 ⟨le1 rfl,le1 rfl,le1 rfl,trivial⟩ ⟨rfl,rfl,trivial⟩
 refine k2 (A3 (A4 Z Z (A6 (D9 Z) Z (A6 (A8 Z) Z (E1 Z Z Z Z (A4 Z Z (A6 (X9 Z Z Z (fun _=>rfl)) Z (A6 (K0 Z Z) Z (A4 Z Z (B2 Z Z Z Z (fun hg=>by rw [hg];exact A8 Z) ?_))))))))));refine B2 Z Z Z Z (fun hg=>by rw [hg];exact B5 Z Z Z) ?_;refine B2 Z Z Z Z (fun hg=>by rw [hg];exact B7 Z Z) ?_;refine I0 Z Z Z (.gd (.val _)) Z (fun hg=>by obtain ⟨hg1,hg2⟩:=N7 hg;(try rw [hg1]);(try rw [hg2]);exact B7 Z Z) ?_;refine I0 Z Z Z (.gd (.val _)) Z (fun hg=>by obtain ⟨hg1,hg2⟩:=N7 hg;(try rw [hg1]);(try rw [hg2]);exact D9 Z) ?_;refine I0 Z Z Z (.gd (.val _)) Z (fun hg=>by obtain ⟨hg1,hg2⟩:=N7 hg;(try rw [hg1]);(try rw [hg2]);exact A8 Z) ?_;refine I0 Z Z Z (.gd (.val _)) Z (fun hg=>by obtain ⟨hg1,hg2⟩:=N7 hg;(try rw [hg1]);(try rw [hg2]);exact B5 Z Z Z) ?_;refine I0 Z Z Z (.gd (.val _)) Z (fun hg=>by obtain ⟨hg1,hg2⟩:=N7 hg;(try rw [hg1]);(try rw [hg2]);exact B56 Z) ?_;refine B2 Z Z Z Z (fun hg=>by rw [hg];exact F6 Z (fun h=>by first | rfl | (rw [h];rfl)) (fun h=>by first | rfl | (rw [h];rfl))) ?_;refine J4 Z Z ?_;refine A7 Z Z (A5 ?_);refine k1 (k2 (k2 (A3 (A6 (A8 Z) Z (E1 Z Z Z Z (C4 (C20 r.Text hs) Z Z Z ?_))))));rintro _ rfl;refine O6 Z Z (A5 ?_)
 have hok:(if decide (H14 par (F37 r)=0)=true then (if r.Lost=true then true else !res) else false)=C43 res par r:=by
  rw [C43]
  cases r.Lost<;>cases res<;>by_cases h:H14 par (F37 r)=0<;>simp [h]
 refine k1 ?_;refine B3 rfl (fun ht=>?_) (fun ht=>?_)
 ·have h:ended r.Text=false:=by simpa using ht
  refine k2 (A3 (A4 Z Z (A6 (D9 Z) Z (A6 (A8 Z) Z (E1 Z Z Z Z (A4 Z Z (A6 (X9 Z Z Z (fun _=>rfl)) Z (A6 (D9 Z) Z (A6 (A8 Z) Z (F8 (B8 TySz.out Z Z Z Z Z Z) (A5 ?_)))))))))));refine k1 (A3 (A4 Z Z (A4 Z Z (A6 (D9 Z) Z (A6 (A8 Z) Z (E1 Z Z Z Z (A4 Z Z (B2 Z Z Z Z (fun hg=>by rw [hg];exact A8 Z) ?_))))))));refine B2 Z Z Z Z (fun hg=>by rw [hg];exact B5 Z Z Z) ?_;refine B2 Z Z Z Z (fun hg=>by rw [hg];exact B56 Z) ?_;refine J4 Z Z ?_;refine A6 (D9 Z) Z (A6 (A8 Z) Z (F8 (B8 TySz.out Z Z Z Z Z Z) (A5 ?_)));refine k1 (k2 (A3 (A4 Z Z (A7 Z Z (A5 ?_)))));refine k1 (k10 ?_);refine io_ret (G6 rfl rfl rfl) rfl rfl ⟨by rw [←hok];rfl,?_⟩
  have ea:B99 res r=(res||!r.Lost):=by rw [B99,h];rfl
  have ep:C00 par r=K6 par (F37 r):=by rw [C00,h];rfl
  rw [ea,ep]
  cases res<;>rfl
 ·have h:ended r.Text=true:=by simpa using ht
  refine k5 (k1 (k2 (A3 (A4 Z Z (A7 Z Z (A5 ?_))))));refine k1 (k10 ?_)
  exact io_ret (G6 rfl rfl rfl) rfl rfl ⟨by rw [←hok];rfl,by rw [B99,C00,if_pos h,if_pos h]⟩
theorem I71 (t:Table) (hr:I8 t.Rows) (hl:t.Rows.length≤536870911) (hx:P3 t.Rows≤536870912):FnOk Tryz.prog 116 [pTable t] (fun rs=>rs=[H3 (L4 t)]):=by
 refine FnOk.intro Tryz.func116 (by decide) Z Z Z Z ?_
 refine k2 (A3 (C1 (R4 1 Z Z Z) Z (A7 Z Z (A5 ?_))));refine k1 (k2 (k2 (A3 (A6 (A8 Z) Z (E1 Z Z Z Z (E4 Z Z Z (A4 Z Z (B2 Z Z Z Z (fun hg=>by rw [hg];exact A8 Z) ?_))))))));refine B2 Z Z Z Z (fun hg=>by rw [hg];exact B5 Z Z Z) ?_;refine B2 Z Z Z Z (fun hg=>by rw [hg];exact N5 Z Z) ?_;refine J4 Z Z ?_;refine A5 ?_;refine k1 ?_;refine B3 rfl (fun ht=>?_) (fun ht=>?_)
 ·have h:=A0 (or_pick.symm.trans ht)
  refine k2 (A3 (A7 Z Z (A5 ?_)));refine k1 (k10 (k11 ?_))
  exact B6 (G6 rfl rfl rfl) (by rw [L4,if_pos h])
 ·have h:=A1 (or_pick.symm.trans ht)
  refine M9 [(1,.s (.one (.ref 1 0)))] [(1,.box [.p (.v (.int .i64 t.Parents)),.p (.list Row 3 rowC t.Rows)])] (J69 ⟨le1 rfl,trivial⟩ ⟨rfl,trivial⟩) ?_
  refine k5 (k1 (k2 (k2 (A3 (A6 (A8 Z) Z (E1 Z Z Z Z (E7 Z Z (A4 Z Z (A5 ?_)))))))));refine k1 (k3 (D6 (X:=Nat) (fun i=>([(1,.s (.one (.ref 1 0))),(17,C3 Row 3 rowC t.Rows),(18,B9 t.Rows.length),(19,B9 i)],[(1,.box [.p (.v (.int .i64 t.Parents)),.p (.list Row 3 rowC t.Rows)])])) (fun i=>i≤t.Rows.length∧N8 t.Rows t.Parents.toNat=N8 (t.Rows.drop i) t.Parents.toNat) (fun i=>t.Rows.length - i) 0 ⟨Nat.zero_le _,rfl⟩ (J69 ⟨le1 rfl,le1 rfl,le1 rfl,le1 rfl,trivial⟩ ⟨rfl,trivial⟩) ?_))
  rintro i ⟨hi,hp⟩
  dsimp only at hi hp ⊢
  refine k2 (A3 (E4 Z Z Z (A5 ?_)));refine k1 (k2 ?_);refine B3 rfl (fun ht=>?_) (fun ht=>?_)
  ·have hlt:i < t.Rows.length:=by have:=A0 ht;omega
   have hv:t.Rows[i]?=some t.Rows[i]:=by simp [hlt]
   rw [K13 hlt,B31] at hp
   refine k5 (k1 (k2 (k3 (k2 (A3 (A6 (B0 Z (.pure _ _ _ _) Z (by omega) hv) Z (A6 (G3 Z Z) Z (C1 (I3 4 Z) Z (F8 (B8 TySz.out Z Z Z Z Z Z) (A5 ?_))))))))));refine k1 (k2 (A3 (A6 (C5 Z Z Z) Z (A6 (A8 Z) Z (E1 Z Z Z Z (C4 (E51 t.Rows[i] t.Parents (by omega) (hr _ (K17 hlt))) Z Z Z ?_))))));rintro _ rfl;refine O6 Z Z (A5 ?_);refine k1 ?_;refine B3 rfl (fun ht=>?_) (fun ht=>?_)
   ·have h2:X1 t.Parents.toNat t.Rows[i]=false:=by simpa using ht
    rw [h2,Bool.false_and] at hp
    refine k2 (A3 (A7 Z Z (A5 ?_)));refine k1 (k10 (k12 (k11 (k11 (k12 (k11 ?_))))))
    exact B6 (G6 rfl rfl rfl) (by rw [L4,if_neg h,if_pos hp])
   ·have h2:X1 t.Parents.toNat t.Rows[i]=true:=by simpa using ht
    rw [h2,Bool.true_and] at hp
    refine k5 (k4 (k1 (A3 (C6 Z Z Z (A4 Z Z (A5 ?_))))));refine k1 ?_
    exact ⟨i+1,⟨by omega,hp⟩,by omega,J69 ⟨le1 rfl,le1 rfl,le1 rfl,le1 rfl,trivial⟩ ⟨rfl,trivial⟩⟩
  ·have hil:i=t.Rows.length:=by have:=A1 ht;omega
   rw [hil,K15 (Nat.le_refl _)] at hp
   have hm:N8 t.Rows t.Parents.toNat=true:=hp
   refine M9 [(1,.s (.one (.ref 1 0)))] [(1,.box [.p (.v (.int .i64 t.Parents)),.p (.list Row 3 rowC t.Rows)])] (J69 ⟨le1 rfl,trivial⟩ ⟨rfl,trivial⟩) ?_
   clear hil ht hp hi
   have hat:=E75 t.Rows t.Parents.toNat (by omega) hm hr
   refine k6 (k2 (A3 (C1 (I3 5 Z) Z (A5 ?_))));refine k1 (k2 (k2 (A3 (A6 (A8 Z) Z (E1 Z Z Z Z (E7 Z Z (A4 Z Z (A5 ?_))))))));refine k1 (k3 (D6 (X:=Nat × Bool × Int) (fun x=>([(1,.s (.one (.ref 1 0))),(5,.s (.one (.ref 5 0))),(30,C3 Row 3 rowC t.Rows),(31,B9 t.Rows.length),(32,B9 x.1)],[(1,.box [.p (.v (.int .i64 t.Parents)),.p (.list Row 3 rowC t.Rows)]),(5,.box [.p (.v (.bool x.2.1)),.p (.v (.int .u32 x.2.2))])])) (fun x=>x.1≤t.Rows.length∧T8 false 0 t.Rows=T8 x.2.1 x.2.2 (t.Rows.drop x.1)) (fun x=>t.Rows.length - x.1) (0,false,0) ⟨Nat.zero_le _,rfl⟩ (J69 ⟨le1 rfl,le1 rfl,le1 rfl,le1 rfl,le1 rfl,trivial⟩ ⟨rfl,rfl,trivial⟩) ?_))
   rintro ⟨i,res,par⟩ ⟨hi,hp⟩
   dsimp only at hi hp ⊢
   refine k2 (A3 (E4 Z Z Z (A5 ?_)));refine k1 (k2 ?_);refine B3 rfl (fun ht=>?_) (fun ht=>?_)
   ·have hlt:i < t.Rows.length:=by have:=A0 ht;omega
    have hv:t.Rows[i]?=some t.Rows[i]:=by simp [hlt]
    have htl:=D01 t.Rows _ (K17 hlt)
    rw [K13 hlt,T8] at hp
    refine k5 (k1 (k2 (k3 (k2 (A3 (A6 (B0 Z (.pure _ _ _ _) Z (by omega) hv) Z (A6 (G3 Z Z) Z (C1 (I3 7 Z) Z (F8 (B8 TySz.out Z Z Z Z Z Z) (A5 ?_))))))))));refine k1 (k2 ?_)
    by_cases hs:J5 t.Rows[i].Text=true
    ·refine A3 (A6 (C5 Z Z Z) Z (C4 (B19 t.Rows[i] (by omega)) Z Z Z ?_));rintro _ rfl;refine O6 Z Z (A4 Z Z (Q1 Z Z Z (by rw [hs];rfl) ?_));refine A6 (C5 Z Z Z) Z (Q1 Z Z Z (by rw [hs];rfl) ?_);refine G67 (I35 t.Rows[i] res par (by omega)) Z Z Z Z Z Z ?_;rintro _ _ ⟨rfl,rfl⟩;refine B2 Z Z Z Z (fun hg=>by rw [hg];exact B56 Z) ?_;refine J4 Z Z ?_;refine A5 ?_;refine k1 ?_;refine B3 rfl (fun ht=>?_) (fun ht=>?_)
     ·have h2:C43 res par t.Rows[i]=false:=by rw [hs] at ht;simpa using ht
      rw [hs,h2,Bool.true_and,Bool.false_and] at hp
      refine k2 (A3 (A7 Z Z (A5 ?_)));refine k1 (k10 (k12 (k11 (k11 (k12 (k11 ?_))))))
      exact B6 (G6 rfl rfl rfl) (by rw [L4,if_neg h,if_neg (by simp [hm]),if_pos (by rw [←hat];exact hp)])
     ·have h2:C43 res par t.Rows[i]=true:=by rw [hs] at ht;simpa using ht
      rw [hs,h2,Bool.true_and,Bool.true_and] at hp
      refine k5 (k4 (k1 (A3 (C6 Z Z Z (A4 Z Z (A5 ?_))))));refine k1 ?_
      exact ⟨(i+1,_,_),⟨by dsimp only;omega,hp⟩,by dsimp only;omega,J69 ⟨le1 rfl,le1 rfl,le1 rfl,le1 rfl,le1 rfl,trivial⟩ ⟨rfl,rfl,trivial⟩⟩
    ·have hs':J5 t.Rows[i].Text=false:=by simpa using hs
     refine A3 (A6 (C5 Z Z Z) Z (C4 (B19 t.Rows[i] (by omega)) Z Z Z ?_));rintro _ rfl;refine O6 Z Z (A4 Z Z (B2 Z Z Z Z (fun hg=>by rw [hg];exact C5 Z Z Z) ?_));refine S6 Z Z Z (by rw [hs'];decide) Z ?_;refine S6 Z Z Z (by rw [hs'];decide) Z ?_;refine A6 (F6 (q:=true) Z (fun h=>rfl) (fun h=>by rw [hs'] at h;cases h)) Z ?_;refine A5 ?_
     rw [hs',Bool.false_and,Bool.false_and] at hp
     refine k1 ?_;refine B3 rfl (fun ht=>?_) (fun ht=>?_)
     ·refine k2 (A3 (A7 Z Z (A5 ?_)));refine k1 (k10 (k12 (k11 (k11 (k12 (k11 ?_))))))
      exact B6 (G6 rfl rfl rfl) (by rw [L4,if_neg h,if_neg (by simp [hm]),if_pos (by rw [←hat];exact hp)])
     ·rw [hs'] at ht;cases ht
   ·have hil:i=t.Rows.length:=by have:=A1 ht;omega
    rw [hil,K15 (Nat.le_refl _)] at hp
    have hp':T8 false 0 t.Rows=true:=hp
    refine k6 (k2 (A3 (A7 Z Z (A5 ?_))));refine k1 (k10 ?_)
    exact B6 (G6 rfl rfl rfl) (by rw [L4,if_neg h,if_neg (by simp [hm]),if_neg (by rw [←hat,hp'];simp)])
def isBld (ob:Obs) (xs:Str):Prop:=(∃a,(a=.p (.v (.pointer none))∨a=.ref 700 0)∧C7 ob 700=some (.tbx 124 [a,.buf 701 UInt8 1 u8C xs]))∧C7 ob 701=some (.spare xs.length 1 5)
abbrev bldObs (ob:Obs) (ys xs:Str):Obs:=(700,.tbx 124 [.ref 700 0,.buf 701 UInt8 1 u8C xs])::(701,.spare xs.length 1 5)::Obs.forget 701 ((700,.tbx 124 [.ref 700 0,.buf 701 UInt8 1 u8C ys])::ob)
def I36:Go.Shelf.Ren:=⟨fun | 240=>147 | 276=>204 | n=>n,fun | 72=>124 | 70=>122 | 164=>240 | 37=>115 | n=>n,fun n=>n⟩
theorem ccLays:Go.Proofs.Lays.n240 Tryz.prog I36:={
 mixed:=by kernel_rfl
 f240:=Tryz.func147.trans (congrArg some (by kernel_rfl))
 f276:=Tryz.func204.trans (congrArg some (by kernel_rfl))
 t0:=Tryz.underlying0
 a0:=Tryz.isAgg0
 z0:=Tryz.sizeOf0
 v0:=Tryz.zeroValue0
 t4:=Tryz.underlying4
 a4:=Tryz.isAgg4
 z4:=Tryz.sizeOf4
 v4:=Tryz.zeroValue4
 t9:=Tryz.underlying9
 a9:=Tryz.isAgg9
 z9:=Tryz.sizeOf9
 v9:=Tryz.zeroValue9
 t20:=Tryz.underlying20
 a20:=Tryz.isAgg20
 z20:=Tryz.sizeOf20
 v20:=Tryz.zeroValue20
 t70:=Tryz.underlying122
 a70:=Tryz.isAgg122
 z70:=Tryz.sizeOf122
 v70:=Tryz.zeroValue122
 t72:=Tryz.underlying124
 a72:=Tryz.isAgg124
 z72:=Tryz.sizeOf124
 v72:=Tryz.zeroValue124
 t164:=Tryz.underlying240
 a164:=Tryz.isAgg240
 z164:=Tryz.sizeOf240
 v164:=Tryz.zeroValue240 }
theorem ccX:Builder.X72 Tryz.prog I36:={
 sizeBuilder:=by kernel_rfl
 liesBuilder:=by kernel_rfl }
theorem C39 {gf:Fr} {ob:Obs} {a t:TC} (hk:C7 ob 700=some (.tbx 124 [a,t])) (ha:a=.p (.v (.pointer none))∨a=.ref 700 0) :
  AL.Met Tryz.prog 147 [.one (.ref 700 0)] gf ob [] (fun rs ob'=>rs=[]∧ob'=(700,.tbx 124 [.ref 700 0,t])::ob) :=
 AL.Met.copyCheck ⟨_,rfl,rfl,rfl⟩ (fun b w h1 h2 h3=>Any.Builder_copyCheck_fresh (ρ:=I36) ccLays ccX b w h1 h2 h3) (fun b w h=>Any.Builder_copyCheck_used (ρ:=I36) ccLays ccX b w h) hk ha
theorem T4 {gf:Fr} {ob:Obs} {xs s:Str} (hb:isBld ob xs) (hlen:xs.length+s.length≤1073741824) :
  AL.Met Tryz.prog 85 [.one (.ref 700 0),.one (.p (.v (.string ⟨s.toArray⟩)))] gf ob [701] (fun rs ob'=>rs=[.one (.p (.v (.int .i64 s.length))),.one (.p (.v .nilIface))]∧ob'=bldObs ob xs (xs++s)):=by
 obtain ⟨⟨a,ha,hk⟩,hk1⟩:=hb
 refine AL.Met.intro Tryz.func85 (by decide) Z Z Z ?_
 refine k2 (A3 (A7 Z Z (A7 Z Z (A5 ?_))));refine k1 (k2 (A3 (A4 Z Z (B57 (C39 hk ha) Z Z Z ?_))));rintro _ _ ⟨rfl,rfl⟩;refine A5 ?_;refine k1 (k2 (A3 (A4 Z Z (A4 Z Z (A6 (D9 Z) Z (A6 (A8 Z) Z (A6 (D56 Z Z Z) Z (A4 Z Z (C1 (B03 TyStr.out Z hk1 Z (by first | omega | (simp;omega)) Z) Z (A6 (D9 Z) Z (A6 (A8 Z) Z (F8 (C80 TySz.out Z Z Z Z Z Z) (A5 ?_)))))))))))));refine k1 (k2 (A3 (A4 Z Z (A6 (N3 Z) Z (A7 Z Z (A7 Z Z (A5 ?_)))))));refine k1 (k10 ?_)
 exact l8 (rets2 rfl rfl rfl) (by repeat (first | exact I9 | refine J0 rfl ?_ | refine P2 _ ?_)) (fun _ _ h=>h) ⟨rfl,rfl⟩
theorem C40 {gf:Fr} {ob:Obs} {xs:Str} {c:UInt8} (hb:isBld ob xs) (hlen:xs.length+1≤1073741824) :
  AL.Met Tryz.prog 136 [.one (.ref 700 0),.one (.p (.v (.int .u8 c.toNat)))] gf ob [701] (fun rs ob'=>rs=[.one (.p (.v .nilIface))]∧ob'=bldObs ob xs (xs++[c])):=by
 obtain ⟨⟨a,ha,hk⟩,hk1⟩:=hb
 refine AL.Met.intro Tryz.func136 (by decide) Z Z Z ?_
 refine k2 (A3 (A7 Z Z (A5 ?_)));refine k1 (k2 (A3 (A4 Z Z (B57 (C39 hk ha) Z Z Z ?_))));rintro _ _ ⟨rfl,rfl⟩;refine A5 ?_;refine k1 (k2 (A3 (A4 Z Z (A4 Z Z (A6 (D9 Z) Z (A6 (A8 Z) Z (A6 (D56 Z Z Z) Z (A4 Z Z (A6 (D5 (c:=u8C) (ys:=[c]) (E0 Z Z Z Z F3) Z Z Z) Z (C1 (G4 Z hk1 Z (.pure _ _ _ _) (by (simp;omega)) Z) Z (A6 (D9 Z) Z (A6 (A8 Z) Z (F8 (C80 TySz.out Z Z Z Z Z Z) (A5 ?_))))))))))))));refine k1 (k2 (A3 (A7 Z Z (A5 ?_))));refine k1 (k10 ?_)
 exact l8 (C81 rfl rfl) (by repeat (first | exact I9 | refine J0 rfl ?_ | refine P2 _ ?_)) (fun _ _ h=>h) ⟨rfl,rfl⟩
end Go.Proofs.YtbiadkkamhpdnaaGreatDoor
