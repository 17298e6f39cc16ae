/- Walks of the program's functions. -/
import Derived.Test.YtbiadkkamhpdnaaGreatDoorTy
import Derived.Test.YtbiadkkamhpdnaaGreatDoorFs
import Derived.Test.YtbiadkkamhpdnaaGreatDoorSh
set_option linter.unusedSimpArgs false
namespace Go.Proofs.YtbiadkkamhpdnaaGreatDoor
open Go Go.AL
set_option maxRecDepth 100000
theorem B82 (p:Int):0≤IntKind.u64.wrap p:=by simp [IntKind.wrap,IntKind.signed,IntKind.bits];omega
theorem I27 (s:Str) (hs:s.length≤1099511627776):FnOk Tryz.prog 128 [P5 s] (fun rs=>rs=[K7 (ended s)]):=by
 refine FnOk.intro Tryz.func128 (by decide) Z Z Z Z ?_
 refine k2 ?_
 refine A4 (A3 (A6 Z Z) Z (A7 ?_))
 refine k1 (k2 ?_)
 have hl:s≠[]→s[((s.length:Int) - 1).toNat]?=some (s.getLastD 0):=by
  intro h
  have h1:0 < s.length:=List.length_pos_iff.2 h
  have h2:((s.length:Int) - 1).toNat=s.length - 1:=by omega
  rw [h2,←List.getLast?_eq_getElem?,List.getLast?_eq_some_getLast h,List.getLastD_eq_getLast?,List.getLast?_eq_some_getLast h]
  rfl
 refine A4 (A3 (A5 Z Z) Z (A3 (B33 Z Z) Z (A3 (A5 Z Z) Z (B4 Z Z Z Z (fun hg=>by rw [hg];exact A5 Z Z) ?_))));refine B4 Z Z Z Z (fun hg=>by rw [hg];exact A5 Z Z) ?_;refine B4 Z Z Z Z (fun hg=>by rw [hg];exact O7 Z) ?_;refine B4 Z Z Z Z (fun hg=>by have hq:=hg;(try simp at hq);rw [hg];exact P9 Z Z (by omega)) ?_;refine B4 Z Z Z Z (fun hg=>by have hq:=hg;(try simp at hq);have h1:=List.length_pos_iff.2 hq;rw [hg];exact l7 Z Z (by omega) (hl hq)) ?_;refine B4 Z Z Z Z (fun hg=>by rw [hg];exact M1 Z Z) ?_;refine A3 (B8 Z (fun h=>by first | rfl | (rw [h];rfl)) (fun h=>by first | rfl | (rw [h];rfl))) Z ?_;refine A3 (A6 Z Z) Z (A7 ?_)
 refine k1 (k10 ?_)
 refine B6 (H2 Z Z Z) ?_
 rw [I45]
theorem C15 (b:Str) (hb:b.length≤536870912):FnOk Tryz.prog 70 [P5 b] (fun rs=>rs=[u9 (C1 b)]):=by
 refine FnOk.intro Tryz.func70 (by decide) Z Z Z Z ?_
 refine k2 ?_
 refine A4 (A3 (A6 Z Z) Z (A7 ?_))
 refine k1 (k2 ?_)
 refine A4 (C3 (T6 3 _ L1 Z) Z (A7 ?_))
 refine k1 (k2 ?_)
 refine A4 (A3 (A6 Z Z) Z (A7 ?_))
 refine k1 (k2 (k2 ?_))
 refine A4 (A3 (A6 Z Z) Z (A7 ?_))
 refine k1 (k3 ?_)
 refine C7 (X:=Nat × Nat × List Str) (fun x=>([(0,W4 b),(3,.s (.one (.buf 3 Str 1 L1 x.2.2))),(4,B7 x.2.1),(5,B7 x.1)],[(3,.spare x.2.2.length 1 9)]))
  (fun x=>x.1≤b.length∧x.2.1≤x.1∧x.2.2.length≤x.1∧(x.1=b.length→x.2.1=x.1)∧x.2.2++I0 ((b.drop x.2.1).take (x.1 - x.2.1)) (b.drop x.1)=C1 b) (fun x=>b.length - x.1) (0,0,[]) (by simp [C1]) ?_ ?_
 ·exact I72 ⟨⟨_,rfl,.same _⟩,⟨_,rfl,.same _⟩,⟨_,rfl,.same _⟩,⟨_,rfl,.same _⟩,trivial⟩ ⟨rfl,trivial⟩
 ·rintro ⟨i,from',out⟩ ⟨hi,hf,ho,he,hp⟩
  dsimp only at hi hf ho he hp ⊢
  refine k2 (k2 ?_)
  refine A4 (A3 (A5 Z Z) Z (A3 (A5 Z Z) Z (A3 (O7 Z) Z (A3 (D9 Z Z) Z (A7 ?_)))))
  refine k1 ?_
  refine B5 rfl (fun ht=>?_) (fun ht=>?_)
  ·have hlt:i < b.length:=by simpa using ht
   have hv:b[i]?=some b[i]:=by simp [hlt]
   refine k5 (k1 (k2 (k3 (k2 ?_))))
   refine A4 (A3 (A5 Z Z) Z (A3 (A5 Z Z) Z (A3 (l7 Z Z (by omega) hv) Z (A3 (M1 Z Z) Z (A3 (A5 Z Z) Z (B4 Z Z Z Z (fun hg=>by rw [hg];exact A5 Z Z) ?_))))));refine B4 Z Z Z Z (fun hg=>by have hq:=hg;(try simp at hq);rw [hg];exact C2 Z Z (by omega)) ?_;refine B4 Z Z Z Z (fun hg=>by rw [hg];exact A5 Z Z) ?_;refine B4 Z Z Z Z (fun hg=>by rw [hg];exact O7 Z) ?_;refine B4 Z Z Z Z (fun hg=>by rw [hg];exact M1 Z Z) ?_;refine A3 (B8 Z (fun h=>by first | rfl | (rw [h];rfl)) (fun h=>by first | rfl | (rw [h];rfl))) Z ?_;refine A7 ?_
   refine k1 ?_
   refine B5 rfl (fun ht2=>?_) (fun ht2=>?_)
   ·refine k2 ?_
    refine A4 (A3 (A5 Z Z) Z (A3 (A5 Z Z) Z (A3 (A5 Z Z) Z (A3 (A5 Z Z) Z (A3 (C2 Z Z (by omega)) Z (A3 (I17 Z Z Z (by omega) (by omega) (by omega)) Z (A3 (C8 (c:=L1) (ys:=[_]) (E0 Z Z Z Z F6) Z Z Z) Z (C3 (G9 Z Z Z (.pure _ _ _ _) (by simp;omega) Z) Z (A3 (A6 Z Z) Z (A7 ?_))))))))))
    refine k1 ?_
    refine A4 (A3 (A5 Z Z) Z (A3 (C2 Z Z (by omega)) Z (A3 (A6 Z Z) Z (A7 ?_))))
    refine k4 (k1 ?_)
    refine A4 (A3 (A5 Z Z) Z (A3 (C2 Z Z (by omega)) Z (A3 (A6 Z Z) Z (A7 ?_))))
    refine k1 ?_
    refine ⟨(i+1,i+1,_),⟨?_,?_,?_,?_,?_⟩,?_,I72 ⟨⟨_,rfl,.same _⟩,⟨_,rfl,.same _⟩,⟨_,rfl,.same _⟩,⟨_,rfl,.same _⟩,trivial⟩ ⟨rfl,trivial⟩⟩
    all_goals dsimp only
    ·omega
    ·omega
    ·simp;omega
    ·omega
    ·have hc:b[i]=10∨i+1=b.length:=by
      simp only [E70] at ht2
      by_cases h:b[i]=10
      ·exact .inl h
      ·simp [h] at ht2;exact .inr (by omega)
     rw [G88,J12,Nat.sub_self,List.take_zero,←E71 b from' i hf hlt,J17,←hp,J11 hlt,p5]
     rcases hc with h | h
     ·rw [if_pos h];rfl
     ·have hd:b.drop (i+1)=[]:=J14 (by omega)
      rw [hd]
      split
      ·rfl
      ·rw [show I0 ([]:Str) []=[] from rfl,F27 _ (by simp)];simp
    ·omega
   ·refine k5 (k4 (k1 ?_))
    refine A4 (A3 (A5 Z Z) Z (A3 (C2 Z Z (by omega)) Z (A3 (A6 Z Z) Z (A7 ?_))))
    refine k1 ?_
    refine ⟨(i+1,from',out),⟨?_,?_,?_,?_,?_⟩,?_,I72 ⟨⟨_,rfl,.same _⟩,⟨_,rfl,.same _⟩,⟨_,rfl,.same _⟩,⟨_,rfl,.same _⟩,trivial⟩ ⟨rfl,trivial⟩⟩
    all_goals dsimp only
    ·omega
    ·omega
    ·omega
    ·intro h
     simp [show (i:Int)+1=(b.length:Int) by omega] at ht2
    ·have hc:b[i]≠10:=fun h=>by simp [h] at ht2
     rw [←E71 b from' i hf hlt,←hp,J11 hlt,p5,if_neg hc]
    ·omega
  ·refine k6 (k2 ?_)
   refine A4 (A3 (A5 Z Z) Z (A3 (A6 Z Z) Z (A7 ?_)))
   refine k1 (k10 ?_)
   refine B6 (H2 Z Z Z) ?_
   have hi':i=b.length:=by simp at ht;omega
   subst hi'
   have:=he rfl
   subst this
   rw [Nat.sub_self,List.take_zero,J14 (Nat.le_refl _)] at hp
   rw [←hp];simp [I0]
theorem F74 (b:Str) (hb:b.length≤1099511627776):FnOk Tryz.prog 99 [P5 b] (fun rs=>rs=[I7 (X3 b)]):=by
 refine FnOk.intro Tryz.func99 (by decide) Z Z Z Z ?_
 refine k2 ?_
 refine A4 (A3 (A6 Z Z) Z (A7 ?_))
 refine k1 (k2 (k2 ?_))
 refine A4 (A3 (A5 Z Z) Z (A3 (O7 Z) Z (A3 (P6 Z Z) Z (A3 (A5 Z Z) Z (B4 Z Z Z Z (fun hg=>by rw [hg];exact A5 Z Z) ?_)))));refine B4 Z Z Z Z (fun hg=>by have hq:=hg;(try simp at hq);rw [hg];exact P1 (C15 b (by omega)) Z Z) ?_;refine B4 Z Z Z Z (fun hg=>by rw [hg];exact D5 Z (.pure _ _ _ _)) ?_;refine B4 Z Z Z Z (fun hg=>by rw [hg];exact P6 Z Z) ?_;refine A3 (B8 Z (fun h=>by first | rfl | (rw [h];rfl)) (fun h=>by first | rfl | (rw [h];rfl))) Z ?_;refine A7 ?_
 refine k1 ?_
 refine B5 rfl (fun ht=>?_) (fun ht=>?_)
 ·have h:=A0 (or_pick.symm.trans ht)
  refine k2 ?_
  refine A4 (A3 (A6 Z Z) Z (A7 ?_))
  refine k1 (k10 (k11 ?_))
  exact B6 (H2 rfl rfl rfl) (by rw [X3,if_pos (by omega)])
 ·have h:=A1 (or_pick.symm.trans ht)
  refine k5 (k1 (k2 ?_))
  refine A4 (A3 (A6 Z Z) Z (A7 ?_))
  refine k1 (k10 ?_)
  exact B6 (H2 rfl rfl rfl) (by rw [X3,if_neg (by omega)])
theorem list_ok (l:List Str) (hl:∀s∈l,s.length≤1099511627776):FnOk Tryz.prog 72 [u9 l] (fun rs=>rs=[K7 (U3 l)]):=by
 refine FnOk.intro Tryz.func72 (by decide) Z Z Z Z ?_
 refine A40 (t:=0) rfl (.pure _ _ _ _) fun hlen=>?_
 refine k2 ?_
 refine A4 (A3 (A6 Z Z) Z (A7 ?_))
 refine k1 (k2 (k2 ?_))
 refine A4 (A3 (A6 Z Z) Z (A7 ?_))
 refine k1 (k3 ?_)
 refine C7 (X:=Nat) (fun i=>([(0,B9 Str 1 L1 l),(3,B7 i)],[])) (fun i=>i≤l.length∧U3 l=U3 (l.drop i)) (fun i=>l.length - i) 0 (by simp) (I72 ⟨le1 rfl,le1 rfl,trivial⟩ trivial) ?_
 rintro i ⟨hi,hp⟩
 dsimp only at hi hp ⊢
 refine k2 (k2 ?_)
 refine A4 (A3 (A5 Z Z) Z (A3 (A5 Z Z) Z (A3 (D5 Z (.pure _ _ _ _)) Z (A3 (D9 Z Z) Z (A7 ?_)))))
 refine k1 ?_
 refine B5 rfl (fun ht=>?_) (fun ht=>?_)
 ·have hlt:i < l.length:=by simpa using ht
  have hv:l[i]?=some l[i]:=by simp [hlt]
  have hs:=hl l[i] (J15 hlt)
  rw [J11 hlt] at hp
  refine k5 (k1 (k2 (k3 (k2 (k2 ?_)))))
  refine A4 (A3 (A6 Z Z) Z (A7 ?_))
  refine k1 (k3 ?_)
  refine C7 (X:=Nat) (fun k=>([(0,B9 Str 1 L1 l),(3,B7 i),(4,B7 k)],[])) (fun k=>k≤l[i].length∧I5 l[i]=((l[i].dropLast.drop k).all (·≠10)&&l[i] != [])) (fun k=>l[i].length - k) 0 (by simp [I5]) (I72 ⟨le1 rfl,le1 rfl,le1 rfl,trivial⟩ trivial) ?_
  intro k hk
  dsimp only at hk ⊢
  refine k2 (k2 ?_)
  refine A4 (A3 (A5 Z Z) Z (A3 (C2 Z Z (by omega)) Z (A3 (A5 Z Z) Z (A3 (A5 Z Z) Z (A3 (B1 Z (.pure _ _ _ _) Z (by omega) hv) Z (A3 (B3 Z Z) Z (A3 (O7 Z) Z (A3 (D9 Z Z) Z (A7 ?_)))))))))
  refine k1 ?_
  refine B5 rfl (fun ht=>?_) (fun ht=>?_)
  ·have hk2:k+1 < l[i].length:=by have:=A0 ht;omega
   have hvk:l[i][k]?=some (l[i][k]'(by omega)):=J05 (by omega)
   have hd:l[i].dropLast.drop k=l[i][k]'(by omega)::l[i].dropLast.drop (k+1):=by
    rw [J11 (by simp;omega)];simp
   rw [hd,List.all_cons] at hk
   refine k5 (k1 (k2 (k3 (k2 ?_))))
   refine A4 (A3 (A5 Z Z) Z (A3 (A5 Z Z) Z (A3 (B1 Z (.pure _ _ _ _) Z (by omega) hv) Z (A3 (B3 Z Z) Z (A3 (A5 Z Z) Z (A3 (l7 Z Z (by omega) hvk) Z (A3 (M1 Z Z) Z (A7 ?_))))))))
   refine k1 ?_
   refine B5 rfl (fun ht=>?_) (fun ht=>?_)
   ·have h10:=(E70 _).1 (A0 ht)
    refine k2 ?_
    refine A4 (A3 (A6 Z Z) Z (A7 ?_))
    refine k1 (k10 (k12 (k11 (k11 (k12 (k11 (k12 (k11 (k11 (k12 (k11 ?_)))))))))))
    exact B6 (H2 rfl rfl rfl) (by rw [hp,U3,hk.2];simp [h10])
   ·have h10:l[i][k]'(by omega)≠10:=fun h=>A1 ht ((E70 _).2 h)
    refine k5 (k4 (k1 ?_))
    refine A4 (A3 (A5 Z Z) Z (A3 (C2 Z Z (by omega)) Z (A3 (A6 Z Z) Z (A7 ?_))))
    refine k1 ?_
    exact ⟨k+1,⟨by omega,by rw [hk.2];simp [h10]⟩,by omega,I72 ⟨le1 rfl,le1 rfl,le1 rfl,trivial⟩ trivial⟩
  ·have hk2:l[i].length≤k+1:=by have:=A1 ht;omega
   have hlo:I5 l[i]=(l[i] != []):=by rw [hk.2,J14 (by simp;omega)];rfl
   refine k6 (k2 ?_)
   refine A4 (A3 (A5 Z Z) Z (A3 (A5 Z Z) Z (A3 (B1 Z (.pure _ _ _ _) Z (by omega) hv) Z (A3 (B3 Z Z) Z (A3 (B98 Z Z) Z (A3 (A5 Z Z) Z (B4 Z Z Z Z (fun hg=>by rw [hg];exact A5 Z Z) ?_)))))));refine B4 Z Z Z Z (fun hg=>by have hq:=hg;(try simp at hq);rw [hg];exact C2 Z Z (by omega)) ?_;refine B4 Z Z Z Z (fun hg=>by rw [hg];exact A5 Z Z) ?_;refine B4 Z Z Z Z (fun hg=>by rw [hg];exact D5 Z (.pure _ _ _ _)) ?_;refine B4 Z Z Z Z (fun hg=>by rw [hg];exact D9 Z Z) ?_;refine B4 Z Z Z Z (fun hg=>by rw [hg];exact A5 Z Z) ?_;refine G7 Z Z Z (.gd (.val _)) Z (fun hg=>by obtain ⟨hg1,hg2⟩:=L5 hg;(try rw [hg1]);(try rw [hg2]);exact A5 Z Z) ?_;refine G7 Z Z Z (.gd (.val _)) Z (fun hg=>by obtain ⟨hg1,hg2⟩:=L5 hg;(try rw [hg1]);(try rw [hg2]);exact A5 Z Z) ?_;refine G7 Z Z Z (.gd (.val _)) Z (fun hg=>by have hq:=hg;(try simp at hq);obtain ⟨hg1,hg2⟩:=L5 hg;(try rw [hg1]);(try rw [hg2]);exact B1 Z (.pure _ _ _ _) Z (by omega) hv) ?_;refine G7 Z Z Z (.gd (.val _)) Z (fun hg=>by obtain ⟨hg1,hg2⟩:=L5 hg;(try rw [hg1]);(try rw [hg2]);exact B3 Z Z) ?_;refine G7 Z Z Z (.gd (.val _)) Z (fun hg=>by have hq:=hg;(try simp at hq);obtain ⟨hg1,hg2⟩:=L5 hg;(try rw [hg1]);(try rw [hg2]);exact P1 (I27 l[i] hs) Z Z) ?_;refine G7 Z Z Z (.gd (.val _)) Z (fun hg=>by obtain ⟨hg1,hg2⟩:=L5 hg;(try rw [hg1]);(try rw [hg2]);exact K5 Z) ?_;refine B4 Z Z Z Z (fun hg=>by rw [hg];exact B8 Z (fun h=>by first | rfl | (rw [h];rfl)) (fun h=>by first | rfl | (rw [h];rfl))) ?_;refine A3 (B8 Z (fun h=>by first | rfl | (rw [h];rfl)) (fun h=>by first | rfl | (rw [h];rfl))) Z ?_;refine A7 ?_
   refine k1 ?_
   have he:(l.drop (i+1)).isEmpty=decide (l.length≤i+1):=by
    rw [Bool.eq_iff_iff];simp
   rw [U3,hlo,he] at hp
   refine B5 rfl (fun ht=>?_) (fun ht=>?_)
   ·refine k2 ?_
    refine A4 (A3 (A6 Z Z) Z (A7 ?_))
    refine k1 (k10 (k12 (k11 (k11 (k12 (k11 ?_))))))
    refine B6 (H2 Z Z Z) ?_
    have:U3 l=false:=by
     rw [hp]
     by_cases h:l[i]=[]
     ·simp [h]
     ·rw [if_neg (by simpa using h)] at ht
      by_cases h2:(i:Int)+1 < l.length
      ·rw [if_pos (by simpa using h2)] at ht
       have h3:¬(l.length≤i+1):=by omega
       simp only [Bool.not_eq_true'] at ht
       simp [ht,h3]
      ·rw [if_neg (by simpa using h2)] at ht;cases ht
    rw [this]
   ·refine k5 (k4 (k1 ?_))
    refine A4 (A3 (A5 Z Z) Z (A3 (C2 Z Z (by omega)) Z (A3 (A6 Z Z) Z (A7 ?_))))
    refine k1 ?_
    refine ⟨i+1,⟨by omega,?_⟩,by omega,I72 ⟨le1 rfl,le1 rfl,trivial⟩ trivial⟩
    rw [hp]
    by_cases h:l[i]=[]
    ·rw [if_pos (by simpa using h)] at ht;cases ht
    ·rw [if_neg (by simpa using h)] at ht
     by_cases h2:(i:Int)+1 < l.length
     ·rw [if_pos (by simpa using h2)] at ht
      simp only [Bool.not_eq_false'] at ht
      simp [ht,h]
     ·have h3:l.length≤i+1:=by omega
      simp [h,h3]
 ·have:i=l.length:=by have:=A1 ht;omega
  subst this
  refine k6 (k2 ?_)
  refine A4 (A3 (A6 Z Z) Z (A7 ?_))
  refine k1 (k10 ?_)
  exact B6 (H2 rfl rfl rfl) (by rw [hp];simp [U3])
theorem line_ok (s:Str) (hs:s.length≤1099511627776):FnOk Tryz.prog 142 [P5 s] (fun rs=>rs=[K7 (I5 s)]):=by
 refine FnOk.intro Tryz.func142 (by decide) Z Z Z Z ?_
 refine k2 ?_
 refine A4 (A3 (A6 Z Z) Z (A7 ?_))
 refine k1 (k2 (k2 ?_))
 refine A4 (A3 (A6 Z Z) Z (A7 ?_))
 refine k1 (k3 ?_)
 refine C7 (X:=Nat) (fun k=>([(0,W4 s),(3,B7 k)],[])) (fun k=>k≤s.length∧I5 s=((s.dropLast.drop k).all (·≠10)&&s != [])) (fun k=>s.length - k) 0 (by simp [I5]) (I72 ⟨le1 rfl,le1 rfl,trivial⟩ trivial) ?_
 intro k hk
 dsimp only at hk ⊢
 refine k2 (k2 ?_)
 refine A4 (A3 (A5 Z Z) Z (A3 (C2 Z Z (by omega)) Z (A3 (A5 Z Z) Z (A3 (O7 Z) Z (A3 (D9 Z Z) Z (A7 ?_))))))
 refine k1 ?_
 refine B5 rfl (fun ht=>?_) (fun ht=>?_)
 ·have hk2:k+1 < s.length:=by have:=A0 ht;omega
  have hvk:s[k]?=some (s[k]'(by omega)):=J05 (by omega)
  have hd:s.dropLast.drop k=s[k]'(by omega)::s.dropLast.drop (k+1):=by
   rw [J11 (by simp;omega)];simp
  rw [hd,List.all_cons] at hk
  refine k5 (k1 (k2 (k3 (k2 ?_))))
  refine A4 (A3 (A5 Z Z) Z (A3 (A5 Z Z) Z (A3 (l7 Z Z (by omega) hvk) Z (A3 (M1 Z Z) Z (A7 ?_)))))
  refine k1 ?_
  refine B5 rfl (fun ht=>?_) (fun ht=>?_)
  ·have h10:=(E70 _).1 (A0 ht)
   refine k2 ?_
   refine A4 (A3 (A6 Z Z) Z (A7 ?_))
   refine k1 (k10 (k12 (k11 (k11 (k12 (k11 ?_))))))
   exact B6 (H2 rfl rfl rfl) (by rw [hk.2];simp [h10])
  ·have h10:s[k]'(by omega)≠10:=fun h=>A1 ht ((E70 _).2 h)
   refine k5 (k4 (k1 ?_))
   refine A4 (A3 (A5 Z Z) Z (A3 (C2 Z Z (by omega)) Z (A3 (A6 Z Z) Z (A7 ?_))))
   refine k1 ?_
   exact ⟨k+1,⟨by omega,by rw [hk.2];simp [h10]⟩,by omega,I72 ⟨le1 rfl,le1 rfl,trivial⟩ trivial⟩
 ·have hk2:s.length≤k+1:=by have:=A1 ht;omega
  have hlo:I5 s=(s != []):=by rw [hk.2,J14 (by simp;omega)];rfl
  refine k6 (k2 ?_)
  refine A4 (A3 (A5 Z Z) Z (A3 (B33 Z Z) Z (A3 (A6 Z Z) Z (A7 ?_))))
  refine k1 (k10 ?_)
  exact B6 (H2 rfl rfl rfl) (by rw [hlo];by_cases h:s=[]<;>simp [h])
theorem F75 (l:List Str) (s:Str):FnOk Tryz.prog 167 [u9 l,P5 s] (fun rs=>rs=[I7 (H1 l s 0)]):=by
 refine FnOk.intro Tryz.func167 (by decide) Z Z Z Z ?_
 refine A40 (t:=0) rfl (.pure _ _ _ _) fun hlen=>?_
 refine k2 ?_
 refine A4 (A3 (A6 Z Z) Z (A7 ?_))
 refine k1 (k2 (k2 ?_))
 refine A4 (A3 (A6 Z Z) Z (A7 ?_))
 refine k1 (k3 ?_)
 refine C7 (X:=Nat) (fun i=>([(0,B9 Str 1 L1 l),(1,W4 s),(5,B7 i)],[])) (fun i=>i≤l.length∧H1 l s 0=H1 (l.drop i) s i) (fun i=>l.length - i) 0 (by simp) (I72 ⟨le1 rfl,le1 rfl,le1 rfl,trivial⟩ trivial) ?_
 rintro i ⟨hi,hp⟩
 dsimp only at hi hp ⊢
 refine k2 (k2 ?_)
 refine A4 (A3 (A5 Z Z) Z (A3 (A5 Z Z) Z (A3 (D5 Z (.pure _ _ _ _)) Z (A3 (D9 Z Z) Z (A7 ?_)))))
 refine k1 ?_
 refine B5 rfl (fun ht=>?_) (fun ht=>?_)
 ·have hlt:i < l.length:=by simpa using ht
  have hv:l[i]?=some l[i]:=by simp [hlt]
  rw [F28 l s i hlt] at hp
  refine k5 (k1 (k2 (k3 (k2 ?_))))
  refine A4 (A3 (A5 Z Z) Z (A3 (A5 Z Z) Z (A3 (B1 Z (.pure _ _ _ _) Z (by omega) hv) Z (A3 (B3 Z Z) Z (A3 (A5 Z Z) Z (A3 (B98 Z Z) Z (A7 ?_)))))))
  refine k1 ?_
  refine B5 rfl (fun ht=>?_) (fun ht=>?_)
  ·rw [if_pos (by simpa using ht)] at hp
   refine k2 ?_
   refine A4 (A3 (A5 Z Z) Z (A3 (A6 Z Z) Z (A7 ?_)))
   refine k1 (k10 (k12 (k11 (k11 (k12 (k11 ?_))))))
   exact B6 (H2 rfl rfl rfl) (by rw [hp])
  ·rw [if_neg (by simpa using ht)] at hp
   refine k5 (k4 (k1 ?_))
   refine A4 (A3 (A5 Z Z) Z (A3 (C2 Z Z (by omega)) Z (A3 (A6 Z Z) Z (A7 ?_))))
   refine k1 ?_
   exact ⟨i+1,⟨by omega,by simpa using hp⟩,by omega,I72 ⟨le1 rfl,le1 rfl,le1 rfl,trivial⟩ trivial⟩
 ·have:i=l.length:=by simp at ht;omega
  subst this
  refine k6 (k2 ?_)
  refine A4 (A3 (A6 Z Z) Z (A7 ?_))
  refine k1 (k10 ?_)
  exact B6 (H2 rfl rfl rfl) (by rw [hp];simp [H1])
theorem F76 (fs:List (List Str)) (hfs:fs.flatten.length≤536870912):FnOk Tryz.prog 100 [pStrss fs] (fun rs=>rs=[u9 (E2 fs)]):=by
 refine FnOk.intro Tryz.func100 (by decide) Z Z Z Z ?_
 refine A40 (t:=0) rfl (.pure _ _ _ _) fun hlen=>?_
 refine k2 ?_
 refine A4 (A3 (A6 Z Z) Z (A7 ?_))
 refine k1 (k2 ?_)
 refine A4 (C3 (T6 3 _ L1 Z) Z (A7 ?_))
 refine k1 (k2 (k2 ?_))
 refine A4 (A3 (A6 Z Z) Z (A7 ?_))
 refine k1 (k3 ?_)
 refine C7 (X:=Nat) (fun f=>([(0,B9 (List Str) 1 strsC fs),(3,.s (.one (.buf 3 Str 1 L1 (E2 (fs.take f))))),(4,B7 f)],[(3,.spare (E2 (fs.take f)).length 1 9)])) (fun f=>f≤fs.length) (fun f=>fs.length - f) 0 (by simp) (I72 ⟨le1 rfl,le1 rfl,le1 rfl,trivial⟩ ⟨rfl,trivial⟩) ?_
 intro f hf
 dsimp only at hf ⊢
 refine k2 (k2 ?_)
 refine A4 (A3 (A5 Z Z) Z (A3 (A5 Z Z) Z (A3 (D5 Z (.pure _ _ _ _)) Z (A3 (D9 Z Z) Z (A7 ?_)))))
 refine k1 ?_
 refine B5 rfl (fun ht=>?_) (fun ht=>?_)
 ·have hlt:f < fs.length:=by have:=A0 ht;omega
  have hv:fs[f]?=some fs[f]:=by simp [hlt]
  have hfl:=V9 fs f hlt
  have hle:=Y6 fs (f+1)
  rw [hfl,J06] at hle
  have hn0:=B14 (fs.take f)
  refine k5 (k1 (k2 (k3 (k2 ?_))))
  refine A4 (A3 (A6 Z Z) Z (A7 ?_))
  refine k1 (k3 ?_)
  refine C7 (X:=Nat) (fun i=>([(0,B9 (List Str) 1 strsC fs),(3,.s (.one (.buf 3 Str 1 L1 ((fs[f].take i).foldl H8 (E2 (fs.take f)))))),(4,B7 f),(5,B7 i)],[(3,.spare ((fs[f].take i).foldl H8 (E2 (fs.take f))).length 1 9)])) (fun i=>i≤fs[f].length) (fun i=>fs[f].length - i) 0 (by simp) (I72 ⟨le1 rfl,le1 rfl,le1 rfl,le1 rfl,trivial⟩ ⟨rfl,trivial⟩) ?_
  intro i hi
  dsimp only at hi ⊢
  have hni:=y8 (fs[f].take i) (E2 (fs.take f))
  rw [J20] at hni
  refine k2 (k2 ?_)
  refine A4 (A3 (A5 Z Z) Z (A3 (A5 Z Z) Z (A3 (A5 Z Z) Z (A3 (B1 Z (.pure _ _ _ _) Z (by omega) hv) Z (A3 (B3 Z Z) Z (A3 (D5 Z (.pure _ _ _ _)) Z (A3 (D9 Z Z) Z (A7 ?_))))))))
  refine k1 ?_
  refine B5 rfl (fun ht=>?_) (fun ht=>?_)
  ·have hlt2:i < fs[f].length:=by have:=A0 ht;omega
   have hvi:fs[f][i]?=some fs[f][i]:=by simp [hlt2]
   have hst:(fs[f].take (i+1)).foldl H8 (E2 (fs.take f))=H8 ((fs[f].take i).foldl H8 (E2 (fs.take f))) fs[f][i]:=by
    rw [List.take_add_one,hvi,Option.toList_some,J34];rfl
   refine k5 (k1 (k2 (k3 (k2 ?_))))
   refine A4 (A3 (A5 Z Z) Z (A3 (A5 Z Z) Z (A3 (A5 Z Z) Z (A3 (B1 Z (.pure _ _ _ _) Z (by omega) hv) Z (A3 (B3 Z Z) Z (A3 (A5 Z Z) Z (A3 (B1 Z (.pure _ _ _ _) Z (by omega) hvi) Z (A3 (B3 Z Z) Z (C5 (F75 _ _) Z Z Z ?_)))))))));rintro _ rfl;refine A3 (D9 Z Z) Z (A7 ?_)
   refine k1 ?_
   have hpl:=G04 ((fs[f].take i).foldl H8 (E2 (fs.take f))) fs[f][i] 0 (Int.le_refl _)
   refine B5 rfl (fun ht=>?_) (fun ht=>?_)
   ·have hnot:=hpl.1 (A0 ht)
    skip
    refine A4 (A3 (A5 Z Z) Z (A3 (A5 Z Z) Z (A3 (A5 Z Z) Z (A3 (B1 Z (.pure _ _ _ _) Z (by omega) hv) Z (A3 (B3 Z Z) Z (A3 (A5 Z Z) Z (A3 (B1 Z (.pure _ _ _ _) Z (by omega) hvi) Z (A3 (B3 Z Z) Z (A3 (C8 (c:=L1) (ys:=[_]) (E0 Z Z Z Z F6) Z Z Z) Z (C3 (G9 Z Z Z (.pure _ _ _ _) (by simp;omega) Z) Z (A3 (A6 Z Z) Z (A7 ?_))))))))))))
    refine k4 (k1 ?_)
    refine A4 (A3 (A5 Z Z) Z (A3 (C2 Z Z (by omega)) Z (A3 (A6 Z Z) Z (A7 ?_))))
    refine k1 ?_
    refine ⟨i+1,by omega,by omega,?_⟩
    rw [hst,H8,if_neg hnot]
    exact I72 ⟨le1 rfl,le1 rfl,le1 rfl,le1 rfl,trivial⟩ ⟨rfl,trivial⟩
   ·have hin:fs[f][i]∈(fs[f].take i).foldl H8 (E2 (fs.take f)):=Classical.byContradiction fun h=>A1 ht (hpl.2 h)
    refine k5 (k4 (k1 ?_))
    refine A4 (A3 (A5 Z Z) Z (A3 (C2 Z Z (by omega)) Z (A3 (A6 Z Z) Z (A7 ?_))))
    refine k1 ?_
    refine ⟨i+1,by omega,by omega,?_⟩
    rw [hst,H8,if_pos hin]
    exact I72 ⟨le1 rfl,le1 rfl,le1 rfl,le1 rfl,trivial⟩ ⟨rfl,trivial⟩
  ·have hi':i=fs[f].length:=by have:=A1 ht;omega
   subst hi'
   refine k6 (k7 (k7 (k8 Z (k4 (k1 ?_)))))
   have:E2 (fs.take (f+1))=(fs[f].take fs[f].length).foldl H8 (E2 (fs.take f)):=by
    rw [E2,hfl,J34,J23];rfl
   refine A4 (A3 (A5 Z Z) Z (A3 (C2 Z Z (by omega)) Z (A3 (A6 Z Z) Z (A7 ?_))))
   refine k1 ?_
   refine ⟨f+1,by omega,by omega,?_⟩
   rw [this]
   exact I72 ⟨le1 rfl,le1 rfl,le1 rfl,trivial⟩ ⟨rfl,trivial⟩
 ·have:f=fs.length:=by have:=A1 ht;omega
  subst this
  refine k6 (k2 ?_)
  refine A4 (A3 (A5 Z Z) Z (A3 (A6 Z Z) Z (A7 ?_)))
  refine k1 (k10 ?_)
  exact B6 (H2 rfl rfl rfl) (by simp)
theorem made_ok (p:List Span) (m n:Int) (hp:p.length≤536870912) (hb:∀s∈p,-1099511627776≤s.From∧s.From≤1099511627776 ∧ -1099511627776≤s.To∧s.To≤1099511627776)
  (hm:-1099511627776≤m∧m≤1099511627776 ∧ -1099511627776≤n∧n≤1099511627776) :
  FnOk Tryz.prog 169 [pSpans p,I7 m,I7 n] (fun rs=>rs=[pChanges (X5 p m n)]):=by
 refine FnOk.intro Tryz.func169 (by decide) Z Z Z Z ?_
 refine k2 ?_
 refine A4 (A3 (A6 Z Z) Z (A7 ?_))
 refine k1 (k2 ?_)
 refine A4 (C3 (T6 7 _ changeC Z) Z (A7 ?_))
 refine k1 (k2 ?_)
 refine A4 (A3 (A6 Z Z) Z (A3 (A6 Z Z) Z (A7 ?_)))
 refine k1 (k2 (k2 ?_))
 refine A4 (A3 (A6 Z Z) Z (A7 ?_))
 refine k1 (k3 ?_)
 refine C7 (X:=Nat × Int × Int × List Change) (fun x=>([(0,B9 Span 2 spanC p),(1,B7 m),(2,B7 n),(7,.s (.one (.buf 7 Change 4 changeC x.2.2.2))),(8,B7 x.2.1),(9,B7 x.2.2.1),(10,B7 x.1)],[(7,.spare x.2.2.2.length 4 146)]))
  (fun x=>x.1≤p.length+1∧x.2.2.2.length≤x.1∧(-1099511627776≤x.2.1∧x.2.1≤1099511627777 ∧ -1099511627776≤x.2.2.1∧x.2.2.1≤1099511627777)∧(x.1≤p.length→x.2.2.2++L9 x.2.1 x.2.2.1 (p.drop x.1) m n=X5 p m n)∧(x.1=p.length+1→x.2.2.2=X5 p m n))
  (fun x=>p.length+1 - x.1) (0,0,0,[]) (by simp [X5]) (I72 ⟨le1 rfl,le1 rfl,le1 rfl,le1 rfl,le1 rfl,le1 rfl,le1 rfl,trivial⟩ ⟨rfl,trivial⟩) ?_
 rintro ⟨k,i,j,out⟩ ⟨hk,ho,hij,h1,h2⟩
 dsimp only at hk ho hij h1 h2 ⊢
 refine k2 (k2 ?_)
 refine A4 (A3 (A5 Z Z) Z (A3 (A5 Z Z) Z (A3 (D5 Z (.pure _ _ _ _)) Z (A3 (A04 Z Z) Z (A7 ?_)))))
 refine k1 ?_
 refine B5 rfl (fun ht=>?_) (fun ht=>?_)
 ·have hk':k≤p.length:=by have:=A0 ht;omega
  have hpp:=h1 hk'
  refine k5 (k1 (k2 (k3 (k2 ?_))))
  refine A4 (A3 (A5 Z Z) Z (A3 (A5 Z Z) Z (A3 (H6 Z) Z (C3 (H7 11 Z) Z (F8 (C0 TySz.out Z Z Z Z Z Z) (A7 ?_))))))
  refine K2 ?_
  obtain ⟨x,hx⟩:∃x,x=p.getD k ⟨m,n⟩:=⟨_,rfl⟩
  have hxb:-1099511627776≤x.From∧x.From≤1099511627776 ∧ -1099511627776≤x.To∧x.To≤1099511627776:=by
   rw [hx,J08]
   by_cases h:k < p.length
   ·rw [J05 h];exact hb _ (J15 h)
   ·rw [J31 (by omega)];exact hm
  have hmade:L9 i j (p.drop k) m n=(if x.From > i∨x.To > j then [⟨i,x.From - i,j,x.To - j⟩] else [])++(if k < p.length then L9 (x.From+1) (x.To+1) (p.drop (k+1)) m n else []):=by
   by_cases h:k < p.length
   ·rw [J11 h,if_pos h,hx,J08,J05 h];rfl
   ·rw [J14 (by omega),if_neg h,hx,J08,J31 (by omega)];simp [L9]
  refine t7 [(0,B9 Span 2 spanC p),(1,B7 m),(2,B7 n),(7,.s (.one (.buf 7 Change 4 changeC out))),(8,B7 i),(9,B7 j),(10,B7 k),(11,.s (.one (.ref 11 0)))] [(11,.box [.p (.v (.int .i64 x.From)),.p (.v (.int .i64 x.To))]),(7,.spare out.length 4 146)] ?_ ?_
  ·refine k2 ?_
   refine A4 (A3 (A5 Z Z) Z (A3 (A5 Z Z) Z (A3 (D5 Z (.pure _ _ _ _)) Z (A3 (D9 Z Z) Z (A7 ?_)))))
   refine k1 ?_
   refine B5 rfl (fun ht=>?_) (fun ht=>?_)
   ·have hlt:k < p.length:=by have:=A0 ht;omega
    have hv:p[k]?=some p[k]:=by simp [hlt]
    have:x=p[k]:=by rw [hx,J08,hv];rfl
    subst this
    skip
    refine A4 (A3 (A5 Z Z) Z (A3 (A5 Z Z) Z (A3 (B1 Z (.pure _ _ _ _) Z (by omega) hv) Z (A3 (E5 Z Z) Z (F8 (C0 TySz.out Z Z Z Z Z Z) (A7 ?_))))))
    refine k1 ?_
    exact I72 ⟨le1 rfl,le1 rfl,le1 rfl,le1 rfl,le1 rfl,le1 rfl,le1 rfl,le1 rfl,trivial⟩ ⟨rfl,rfl,trivial⟩
   ·have hlt:¬k < p.length:=by have:=A1 ht;omega
    have:x=⟨m,n⟩:=by rw [hx,J08,J31 (by omega)];rfl
    subst this
    refine k5 (k1 ?_)
    exact I72 ⟨le1 rfl,le1 rfl,le1 rfl,le1 rfl,le1 rfl,le1 rfl,le1 rfl,le1 rfl,trivial⟩ ⟨rfl,rfl,trivial⟩
  ·obtain ⟨out',hout'⟩:∃o,o=out++(if x.From > i∨x.To > j then [⟨i,x.From - i,j,x.To - j⟩] else []):=⟨_,rfl⟩
   have hol:out'.length≤k+1:=by rw [hout',J06];split<;>simp<;>omega
   refine t7 [(0,B9 Span 2 spanC p),(1,B7 m),(2,B7 n),(7,.s (.one (.buf 7 Change 4 changeC out'))),(10,B7 k),(11,.s (.one (.ref 11 0)))] [(11,.box [.p (.v (.int .i64 x.From)),.p (.v (.int .i64 x.To))]),(7,.spare out'.length 4 146)] ?_ ?_
   ·refine k2 ?_
    refine A4 (A3 (A8 Z) Z (A3 (A9 Z Z Z) Z (A3 (A5 Z Z) Z (A3 (P6 Z Z) Z (A3 (A5 Z Z) Z (B4 Z Z Z Z (fun hg=>by rw [hg];exact A8 Z) ?_))))));refine B4 Z Z Z Z (fun hg=>by rw [hg];exact A9 Z Z Z) ?_;refine B4 Z Z Z Z (fun hg=>by rw [hg];exact A5 Z Z) ?_;refine B4 Z Z Z Z (fun hg=>by rw [hg];exact P6 Z Z) ?_;refine A3 (B8 Z (fun h=>by first | rfl | (rw [h];rfl)) (fun h=>by first | rfl | (rw [h];rfl))) Z ?_;refine A7 ?_
    refine k1 ?_
    refine B5 rfl (fun ht=>?_) (fun ht=>?_)
    ·have h:=A0 (or_pick.symm.trans ht)
     rw [if_pos h] at hout'
     subst hout'
     skip
     refine A4 (A3 (A5 Z Z) Z (A3 (A5 Z Z) Z (A3 (A8 Z) Z (A3 (A9 Z Z Z) Z (A3 (A5 Z Z) Z (A3 (P9 Z Z (by omega)) Z (A3 (A5 Z Z) Z (A3 (A8 Z) Z (A3 (A9 Z Z Z) Z (A3 (A5 Z Z) Z (A3 (P9 Z Z (by omega)) Z (A3 (H6 Z) Z (A3 (C8 (c:=changeC) (ys:=[⟨_,_,_,_⟩]) (E0 Z Z Z Z F6) Z Z Z) Z (C3 (G9 Z Z Z (.pure _ _ _ _) (by simp;omega) Z) Z (A3 (A6 Z Z) Z (A7 ?_))))))))))))))))
     refine k1 ?_
     exact I72 ⟨le1 rfl,le1 rfl,le1 rfl,le1 rfl,le1 rfl,le1 rfl,trivial⟩ ⟨rfl,rfl,trivial⟩
    ·have h:=A1 (or_pick.symm.trans ht)
     rw [if_neg h,J25] at hout'
     subst hout'
     refine k5 (k1 ?_)
     exact I72 ⟨le1 rfl,le1 rfl,le1 rfl,le1 rfl,le1 rfl,le1 rfl,trivial⟩ ⟨rfl,rfl,trivial⟩
   ·skip
    refine D8 (by kernel_rfl) (by kernel_rfl) (B0 (A8 Z) Z Z (B0 (A9 Z Z Z) Z Z (B0 (C2 Z Z (by omega)) Z Z (B0 (A8 Z) Z Z (B0 (A9 Z Z Z) Z Z (B0 (C2 Z Z (by omega)) Z Z (B0 (A6 Z Z) Z Z (B0 (A6 Z Z) Z Z (O5 ?_)))))))))
    refine k4 (k1 ?_)
    refine A4 (A3 (A5 Z Z) Z (A3 (C2 Z Z (by omega)) Z (A3 (A6 Z Z) Z (A7 ?_))))
    refine k1 ?_
    refine ⟨(k+1,x.From+1,x.To+1,out'),⟨by dsimp only;omega,hol,by dsimp only;omega,?_,?_⟩,by dsimp only;omega,I72 ⟨le1 rfl,le1 rfl,le1 rfl,le1 rfl,le1 rfl,le1 rfl,le1 rfl,trivial⟩ ⟨rfl,trivial⟩⟩
    ·intro hk2
     dsimp only at hk2 ⊢
     rw [←hpp,hmade,if_pos (show k < p.length by omega),hout'];simp
    ·intro hk2
     dsimp only at hk2 ⊢
     rw [←hpp,hmade,if_neg (show ¬k < p.length by omega),hout'];simp
 ·have hk':k=p.length+1:=by have:=A1 ht;omega
  refine k6 (k2 ?_)
  refine A4 (A3 (A5 Z Z) Z (A3 (A6 Z Z) Z (A7 ?_)))
  refine k1 (k10 ?_)
  exact B6 (H2 rfl rfl rfl) (by rw [h2 hk'])
theorem long_ok (a b:List Int):FnOk Tryz.prog 249 [N6 a,N6 b] (fun rs=>rs=[K7 (decide (4096 < a.length∨4096 < b.length))]):=by
 refine FnOk.intro Tryz.func249 (by decide) Z Z Z Z ?_
 refine k2 ?_
 refine A4 (A3 (A6 Z Z) Z (A7 ?_))
 refine k1 (k2 ?_)
 refine A4 (A3 (A5 Z Z) Z (A3 (D5 Z (.pure _ _ _ _)) Z (A3 (P6 Z Z) Z (A3 (A5 Z Z) Z (B4 Z Z Z Z (fun hg=>by rw [hg];exact A5 Z Z) ?_)))));refine B4 Z Z Z Z (fun hg=>by rw [hg];exact D5 Z (.pure _ _ _ _)) ?_;refine B4 Z Z Z Z (fun hg=>by rw [hg];exact P6 Z Z) ?_;refine A3 (B8 Z (fun h=>by first | rfl | (rw [h];rfl)) (fun h=>by first | rfl | (rw [h];rfl))) Z ?_;refine A3 (A6 Z Z) Z (A7 ?_)
 refine k1 (k10 ?_)
 refine B6 (H2 Z Z Z) ?_
 rw [or_pick]
 simp only [List.cons.injEq,and_true,PV.one.injEq,Cell.v.injEq,Value.bool.injEq,decide_eq_decide]
 omega
theorem E55 (l:List Merged) (hl:l.length≤536870912):FnOk Tryz.prog 214 [pMerged l] (fun rs=>rs=[N6 (E9 l)]):=by
 refine FnOk.intro Tryz.func214 (by decide) Z Z Z Z ?_
 refine k2 ?_
 refine A4 (A3 (A6 Z Z) Z (A7 ?_))
 refine k1 (k2 ?_)
 refine A4 (C3 (T6 3 _ G4 Z) Z (A7 ?_))
 refine k1 (k2 (k2 ?_))
 refine A4 (A3 (A6 Z Z) Z (A7 ?_))
 refine k1 (k3 ?_)
 refine C7 (X:=Nat) (fun i=>([(0,B9 Merged 2 mergedC l),(3,.s (.one (.buf 3 Int 1 G4 (E9 (l.take i))))),(4,B7 i)],[(3,.spare (E9 (l.take i)).length 1 3)])) (fun i=>i≤l.length) (fun i=>l.length - i) 0 (by simp) (I72 ⟨le1 rfl,le1 rfl,le1 rfl,trivial⟩ ⟨rfl,trivial⟩) ?_
 intro i hi
 dsimp only at hi ⊢
 refine k2 (k2 ?_)
 refine A4 (A3 (A5 Z Z) Z (A3 (A5 Z Z) Z (A3 (D5 Z (.pure _ _ _ _)) Z (A3 (D9 Z Z) Z (A7 ?_)))))
 refine k1 ?_
 have hlen:(E9 (l.take i)).length=i:=by simp [E9];omega
 refine B5 rfl (fun ht=>?_) (fun ht=>?_)
 ·have hlt:i < l.length:=by have:=A0 ht;omega
  have hv:l[i]?=some l[i]:=by simp [hlt]
  have hst:E9 (l.take (i+1))=E9 (l.take i)++[l[i].Line]:=by
   unfold E9;rw [List.take_add_one,hv,Option.toList_some,J19];rfl
  refine k5 (k1 (k2 (k3 ?_)))
  refine A4 (A3 (A5 Z Z) Z (A3 (A5 Z Z) Z (A3 (A5 Z Z) Z (A3 (B1 Z (.pure _ _ _ _) Z (by omega) hv) Z (A3 (F1 Z) Z (A3 (B3 Z Z) Z (A3 (C8 (c:=G4) (ys:=[_]) (E0 Z Z Z Z F6) Z Z Z) Z (C3 (G9 Z Z Z (.pure _ _ _ _) (by simp;omega) Z) Z (A3 (A6 Z Z) Z (A7 ?_))))))))))
  refine k4 (k1 ?_)
  refine A4 (A3 (A5 Z Z) Z (A3 (C2 Z Z (by omega)) Z (A3 (A6 Z Z) Z (A7 ?_))))
  refine k1 ?_
  refine ⟨i+1,by omega,by omega,?_⟩
  rw [hst]
  exact I72 ⟨le1 rfl,le1 rfl,le1 rfl,trivial⟩ ⟨rfl,trivial⟩
 ·have:i=l.length:=by have:=A1 ht;omega
  subst this
  refine k6 (k2 ?_)
  refine A4 (A3 (A5 Z Z) Z (A3 (A6 Z Z) Z (A7 ?_)))
  refine k1 (k10 ?_)
  exact B6 (H2 rfl rfl rfl) (by simp)
theorem I28 (a b:List Int) (ha:a.length≤536870912) (hb:b.length≤536870912):FnOk Tryz.prog 168 [N6 a,N6 b] (fun rs=>rs=[pIntss (B44 a b)]):=by
 refine FnOk.intro Tryz.func168 (by decide) Z Z Z Z ?_
 refine k2 ?_
 refine A4 (A3 (A6 Z Z) Z (A7 ?_))
 refine k1 (k2 ?_)
 refine A4 (A3 (A5 Z Z) Z (A3 (D5 Z (.pure _ _ _ _)) Z (A3 (C2 Z Z (by omega)) Z (C3 (U1 5 (List Int) intsC [] Z Z (by omega) (by omega) (fun _=>by first | exact ⟨⟨rfl,rfl⟩,trivial⟩ | exact ⟨N1 _ _ _,trivial⟩) (by first | rfl | (simp [H4,I3,Ob.free,SV.free,S1.free,TC.free]<;>rfl))) Z ?_))));refine A3 (A6 Z Z) Z (A7 ?_)
 refine k1 (k2 (k2 ?_))
 refine A4 (A3 (A5 Z Z) Z (A3 (D5 Z (.pure _ _ _ _)) Z (A3 (A6 Z Z) Z (A7 ?_))))
 refine k1 (k3 ?_)
 refine C7 (X:=Nat) (fun i=>([(0,B9 Int 1 G4 a),(1,B9 Int 1 G4 b),(5,.s (.one (.mut 5))),(6,B7 ((i:Int) - 1))],[(5,.arr (List Int) 1 intsC (N9 a b i))])) (fun i=>i≤a.length+1) (fun i=>i) (a.length+1) (Nat.le_refl _) ?_ ?_
 ·refine I72 ⟨⟨_,rfl,.same _⟩,⟨_,rfl,.same _⟩,⟨_,rfl,.same _⟩,⟨_,rfl,.eq (by simp)⟩,trivial⟩ ⟨?_,trivial⟩
  rw [←E25];rfl
 intro i hi
 dsimp only at hi ⊢
 refine k2 (k2 ?_)
 refine A4 (A3 (A5 Z Z) Z (A3 (A80 Z Z) Z (A7 ?_)))
 refine k1 ?_
 refine B5 rfl (fun ht=>?_) (fun ht=>?_)
 ·obtain ⟨i,rfl⟩:∃r,i=r+1:=⟨i - 1,by have:=A0 ht;omega⟩
  refine L7 [(0,B9 Int 1 G4 a),(1,B9 Int 1 G4 b),(5,.s (.one (.mut 5))),(6,B7 i)] [(5,.arr (List Int) 1 intsC (N9 a b (i+1)))] (I72 ⟨le1 rfl,le1 rfl,le1 rfl,leE Z (by first | (simp;done) | (simp;omega)),trivial⟩ ⟨rfl,trivial⟩) ?_
  refine H3 (I87 5 Z) ?_
  have hTl:((N9 a b (i+1)).map fun x=>TC.p (intsC x 0)).length=a.length+1:=by simp [u0]
  have hRs:=u0 a b (i+1)
  refine k5 (k1 (k2 (k3 (k2 ?_))))
  refine A4 (A3 (A5 Z Z) Z (A3 (A5 Z Z) Z (A3 (A5 Z Z) Z (A3 (D5 Z (.pure _ _ _ _)) Z (A3 (C2 Z Z (by omega)) Z (C3 (U1 23 Int G4 0 Z Z (by omega) (by omega) (fun _=>by first | exact ⟨⟨rfl,rfl⟩,trivial⟩ | exact ⟨N1 _ _ _,trivial⟩) (by first | rfl | (simp [H4,I3,Ob.free,SV.free,S1.free,TC.free]<;>rfl))) Z ?_))))));refine A3 (H0 Z Z Z (by omega) (by omega)) Z (F8 (c5 TySz.out Z Z (by (rw [hTl];simp;omega)) Z Z) ?_);refine A7 ?_
  refine k1 (k2 ?_)
  refine A4 (A3 (A5 Z Z) Z (A3 (D5 Z (.pure _ _ _ _)) Z (A3 (A6 Z Z) Z (A7 ?_))))
  refine k1 (k3 ?_)
  obtain ⟨T,hT⟩:∃T,T=((N9 a b (i+1)).map fun x=>TC.p (intsC x 0)).set i (.mut 23):=⟨_,rfl⟩
  have hTi:T[i]?=some (.mut 23):=by rw [hT,List.getElem?_set_self (by rw [hTl];omega)]
  have hTn:i+1≤a.length→T[i+1]?=some (.p (intsC (P7 a b (i+1) 0) 0)):=fun h=>by
   rw [hT,List.getElem?_set_ne (by omega),J30,A56 a b (i+1) (i+1) (Nat.le_refl _) h];rfl
  refine C7 (X:=Nat) (fun j=>([(0,B9 Int 1 G4 a),(1,B9 Int 1 G4 b),(5,.s (.one (.mut 5))),(6,B7 i),(7,B7 ((j:Int) - 1))],[(5,.tarr (N9 a b (i+1)).length 1 T),(23,.arr Int 1 G4 (P7 a b i j))])) (fun j=>j≤b.length+1) (fun j=>j) (b.length+1) (Nat.le_refl _) ?_ ?_
  ·refine I72 ⟨⟨_,rfl,.same _⟩,⟨_,rfl,.same _⟩,⟨_,rfl,.same _⟩,⟨_,rfl,.same _⟩,⟨_,rfl,.eq (by simp)⟩,trivial⟩ ⟨by rw [hT];rfl,?_,trivial⟩
   rw [←F29];rfl
  intro j hj
  dsimp only at hj ⊢
  refine k2 (k2 ?_)
  refine A4 (A3 (A5 Z Z) Z (A3 (A80 Z Z) Z (A7 ?_)))
  refine k1 ?_
  refine B5 rfl (fun ht=>?_) (fun ht=>?_)
  ·obtain ⟨j,rfl⟩:∃r,j=r+1:=⟨j - 1,by have:=A0 ht;omega⟩
   refine L7 [(0,B9 Int 1 G4 a),(1,B9 Int 1 G4 b),(5,.s (.one (.mut 5))),(6,B7 i),(7,B7 j)] [(5,.tarr (N9 a b (i+1)).length 1 T),(23,.arr Int 1 G4 (P7 a b i (j+1)))] (I72 ⟨le1 rfl,le1 rfl,le1 rfl,le1 rfl,leE Z (by first | (simp;done) | (simp;omega)),trivial⟩ ⟨rfl,rfl,trivial⟩) ?_
   have hRl:=D61 a b i (j+1)
   have hst:=G05 a b i j
   refine F01 ?_
   refine K2 ?_
   refine t7 [(0,B9 Int 1 G4 a),(1,B9 Int 1 G4 b),(5,.s (.one (.mut 5))),(6,B7 i),(7,B7 j)] [(5,.tarr (N9 a b (i+1)).length 1 T),(23,.arr Int 1 G4 (P7 a b i j))] ?_ ?_
   ·refine k3 (k3 (k2 ?_))
    refine A4 (A3 (A5 Z Z) Z (A3 (A5 Z Z) Z (A3 (D5 Z (.pure _ _ _ _)) Z (A3 (M1 Z Z) Z (A3 (A6 Z Z) Z (A7 ?_))))))
    refine k1 ?_
    refine B5 rfl (fun ht=>?_) (fun ht=>?_)
    ·have hia:i=a.length:=by have:=A0 ht;omega
     have hd:(dist (a.drop i) (b.drop j):Int)=b.length - j:=by rw [hia,J14 (Nat.le_refl _),dist,J22];omega
     rw [hd] at hst
     skip
     refine A4 (A3 (A5 Z Z) Z (A3 (A5 Z Z) Z (A3 (H0 Z Z Z (by omega) (by omega)) Z (A3 (L3 Z Z hTi) Z (A3 (A5 Z Z) Z (A3 (A5 Z Z) Z (A3 (D5 Z (.pure _ _ _ _)) Z (A3 (A5 Z Z) Z (A3 (P9 Z Z (by omega)) Z (A3 (E1 Z Z Z (by omega) (by omega)) Z (F8 (G8 TySz.out Z Z (by (rw [hRl];simp;omega)) Z Z) ?_)))))))))));refine A7 ?_
     refine k4 (k4 (k1 ?_))
     rw [←hst]
     exact I72 ⟨le1 rfl,le1 rfl,le1 rfl,le1 rfl,le1 rfl,trivial⟩ ⟨rfl,rfl,trivial⟩
    ·have hia:i < a.length:=by have:=A1 ht;omega
     refine k2 ?_
     refine A4 (A3 (A5 Z Z) Z (A3 (A5 Z Z) Z (A3 (D5 Z (.pure _ _ _ _)) Z (A3 (M1 Z Z) Z (A3 (A6 Z Z) Z (A7 ?_))))))
     refine k1 ?_
     refine B5 rfl (fun ht=>?_) (fun ht=>?_)
     ·have hjb:j=b.length:=by have:=A0 ht;omega
      have hd:(dist (a.drop i) (b.drop j):Int)=a.length - i:=by rw [hjb,J14 (Nat.le_refl b.length),z6,J22];omega
      rw [hd] at hst
      skip
      refine A4 (A3 (A5 Z Z) Z (A3 (A5 Z Z) Z (A3 (H0 Z Z Z (by omega) (by omega)) Z (A3 (L3 Z Z hTi) Z (A3 (A5 Z Z) Z (A3 (A5 Z Z) Z (A3 (D5 Z (.pure _ _ _ _)) Z (A3 (A5 Z Z) Z (A3 (P9 Z Z (by omega)) Z (A3 (E1 Z Z Z (by omega) (by omega)) Z (F8 (G8 TySz.out Z Z (by (rw [hRl];simp;omega)) Z Z) ?_)))))))))));refine A7 ?_
      refine k4 (k4 (k1 ?_))
      rw [←hst]
      exact I72 ⟨le1 rfl,le1 rfl,le1 rfl,le1 rfl,le1 rfl,trivial⟩ ⟨rfl,rfl,trivial⟩
     ·have hjb:j < b.length:=by have:=A1 ht;omega
      have hva:a[i]?=some a[i]:=by simp [hia]
      have hvb:b[j]?=some b[j]:=by simp [hjb]
      have hdd:=E72 a b i j hia hjb
      have hTn':=hTn hia
      refine k2 ?_
      refine D8 (by kernel_rfl) (by kernel_rfl) (B0 (A5 Z Z) Z Z (B0 (A5 Z Z) Z Z (B0 (B1 Z (.pure _ _ _ _) Z (by omega) hva) Z Z (B0 (B3 Z Z) Z Z (B0 (A5 Z Z) Z Z (B0 (A5 Z Z) Z Z (B0 (B1 Z (.pure _ _ _ _) Z (by omega) hvb) Z Z (B0 (B3 Z Z) Z Z (B0 (M1 Z Z) Z Z (B0 (A6 Z Z) Z Z (O5 ?_)))))))))))
      refine k1 ?_
      refine B5 rfl (fun ht=>?_) (fun ht=>?_)
      ·rw [if_pos (A0 ht)] at hdd
       have hg:=r8 a b (i+1) 0 (j+1) (Nat.zero_le _) hjb
       rw [hdd] at hst
       skip
       refine D8 (by kernel_rfl) (by kernel_rfl) (B0 (A5 Z Z) Z Z (B0 (A5 Z Z) Z Z (B0 (H0 Z Z Z (by omega) (by omega)) Z Z (B0 (L3 Z Z hTi) Z Z (B0 (A5 Z Z) Z Z (B0 (A5 Z Z) Z Z (B0 (A5 Z Z) Z Z (B0 (C2 Z Z (by omega)) Z Z (B0 (H0 Z Z Z (by omega) (by omega)) Z Z (B0 (L3 Z Z hTn') Z Z (B0 (A5 Z Z) Z Z (B0 (C2 Z Z (by omega)) Z Z (B0 (B1 Z (.pure _ _ _ _) Z (by omega) hg) Z Z (B0 (B3 Z Z) Z Z (B0 (E1 Z Z Z (by omega) (by omega)) Z Z (A82 (G8 TySz.out Z Z (by (rw [hRl];simp;omega)) Z Z) Z ?_))))))))))))))));refine O5 ?_
       refine k4 (k4 (k1 ?_))
       rw [←hst]
       exact I72 ⟨le1 rfl,le1 rfl,le1 rfl,le1 rfl,le1 rfl,trivial⟩ ⟨rfl,rfl,trivial⟩
      ·rw [if_neg (A1 ht)] at hdd
       have hg1:=r8 a b (i+1) 0 j (Nat.zero_le _) (by omega)
       have hg2:=r8 a b i (j+1) (j+1) (Nat.le_refl _) (by omega)
       have hl1:=B43 (a.drop (i+1)) (b.drop j)
       have hl2:=B43 (a.drop i) (b.drop (j+1))
       simp only [J22] at hl1 hl2
       have hval:(1:Int)+(if (dist (a.drop i) (b.drop (j+1)):Int) < (dist (a.drop (i+1)) (b.drop j):Int) then (dist (a.drop i) (b.drop (j+1)):Int) else (dist (a.drop (i+1)) (b.drop j):Int))=(dist (a.drop i) (b.drop j):Int):=by
        rw [hdd];split<;>omega
       rw [←hval] at hst
       skip
       refine D8 (by kernel_rfl) (by kernel_rfl) (B0 (A5 Z Z) Z Z (B0 (A5 Z Z) Z Z (B0 (H0 Z Z Z (by omega) (by omega)) Z Z (B0 (L3 Z Z hTi) Z Z (B0 (A5 Z Z) Z Z (B0 (A5 Z Z) Z Z (B0 (A5 Z Z) Z Z (B0 (C2 Z Z (by omega)) Z Z (B0 (H0 Z Z Z (by omega) (by omega)) Z Z (B0 (L3 Z Z hTn') Z Z (B0 (A5 Z Z) Z Z (B0 (B1 Z (.pure _ _ _ _) Z (by omega) hg1) Z Z (B0 (B3 Z Z) Z Z (B0 (A5 Z Z) Z Z (B0 (A5 Z Z) Z Z (B0 (H0 Z Z Z (by omega) (by omega)) Z Z (B0 (L3 Z Z hTi) Z Z (B0 (A5 Z Z) Z Z (B0 (C2 Z Z (by omega)) Z Z (B0 (E1 Z Z Z (by omega) (by omega)) Z Z (B0 (O4 Z Z hg2 Z) Z Z (B0 (H19 Z Z) Z Z (B0 (C2 Z Z (by (constructor<;>split<;>omega))) Z Z ?_)))))))))))))))))))))));refine B0 (E1 Z Z Z (by omega) (by omega)) Z Z (A82 (G8 TySz.out Z Z (by (rw [hRl];simp;omega)) Z Z) Z ?_);refine O5 ?_
       refine k4 (k4 (k1 ?_))
       rw [←hst]
       exact I72 ⟨le1 rfl,le1 rfl,le1 rfl,le1 rfl,le1 rfl,trivial⟩ ⟨rfl,rfl,trivial⟩
   ·skip
    refine A4 (A3 (A5 Z Z) Z (A3 (P9 Z Z (by omega)) Z (A3 (A6 Z Z) Z (A7 ?_))))
    refine k1 ?_
    exact ⟨j,by omega,by omega,I72 ⟨le1 rfl,le1 rfl,le1 rfl,le1 rfl,le1 rfl,trivial⟩ ⟨rfl,rfl,trivial⟩⟩
  ·obtain rfl:j=0:=by have:=A1 ht;omega
   refine H3 (Sees.freeze (k:=23) Z) ?_
   refine H3 (I88 5 (N9 a b i) Z (by simp [u0]) (by rw [hT,G53 (y:=P7 a b i 0) rfl,F30])) ?_
   refine k6 (k7 (k7 (k8 Z (k4 (k1 ?_)))))
   refine A4 (A3 (A5 Z Z) Z (A3 (P9 Z Z (by omega)) Z (A3 (A6 Z Z) Z (A7 ?_))))
   refine k1 ?_
   exact ⟨i,by omega,by omega,I72 ⟨le1 rfl,le1 rfl,le1 rfl,le1 rfl,trivial⟩ ⟨rfl,trivial⟩⟩
 ·obtain rfl:i=0:=by have:=A1 ht;omega
  refine H3 (Sees.freeze (k:=5) Z) ?_
  refine k6 (k2 ?_)
  refine A4 (A3 (A5 Z Z) Z (A3 (A6 Z Z) Z (A7 ?_)))
  refine k1 (k10 ?_)
  exact B6 (H2 rfl rfl rfl) rfl
theorem C16 (a b:List Int):∀(p q:Int),∀s∈F3 p q a b,p≤s.From∧s.From < p+a.length∧q≤s.To∧s.To < q+b.length:=by
 induction a generalizing b with
 | nil=>intro p q s hs;simp [F3] at hs
 | cons x a iha =>
  induction b with
  | nil=>intro p q s hs;simp [F3] at hs
  | cons y b ihb =>
   intro p q s hs
   rw [F3] at hs
   simp only [J07]
   split at hs
   ·rcases List.mem_cons.1 hs with rfl | hs
    ·simp only;omega
    ·have:=iha b (p+1) (q+1) s hs;omega
   ·split at hs
    ·have:=iha (y::b) (p+1) q s hs;simp only [J07] at this;omega
    ·have:=ihb p (q+1) s hs;simp only [J07] at this;omega
theorem H25 (a b:List Int) (ha:a.length≤536870911) (hb:b.length≤536870911):FnOk Tryz.prog 102 [N6 a,N6 b] (fun rs=>rs=[pChanges (J5 a b)]):=by
 refine FnOk.intro Tryz.func102 (by decide) Z Z Z Z ?_
 refine k2 ?_
 refine A4 (A3 (A6 Z Z) Z (A7 ?_))
 refine k1 (k2 ?_)
 refine A4 (A3 (A5 Z Z) Z (A3 (A5 Z Z) Z (C5 (I28 a b (by omega) (by omega)) Z Z Z ?_)));rintro _ rfl;refine A3 (A6 Z Z) Z (A7 ?_)
 refine k1 (k2 ?_)
 refine A4 (C3 (T6 6 _ spanC Z) Z (A7 ?_))
 refine k1 (k2 ?_)
 refine A4 (A3 (A6 Z Z) Z (A3 (A6 Z Z) Z (A7 ?_)))
 refine k1 (k2 (k3 ?_))
 refine C7 (X:=Nat × Nat × List Span) (fun x=>([(0,B9 Int 1 G4 a),(1,B9 Int 1 G4 b),(5,B9 (List Int) 1 intsC (B44 a b)),(6,.s (.one (.buf 6 Span 2 spanC x.2.2))),(7,B7 x.1),(8,B7 x.2.1)],[(6,.spare x.2.2.length 2 88)]))
  (fun x=>x.1≤a.length∧x.2.1≤b.length∧x.2.2.length≤x.1∧x.2.2++F3 x.1 x.2.1 (a.drop x.1) (b.drop x.2.1)=F3 0 0 a b) (fun x=>a.length+b.length - x.1 - x.2.1) (0,0,[]) (by simp) (I72 ⟨le1 rfl,le1 rfl,le1 rfl,le1 rfl,le1 rfl,le1 rfl,trivial⟩ ⟨rfl,trivial⟩) ?_
 rintro ⟨i,j,out⟩ ⟨hi,hj,ho,hp⟩
 dsimp only at hi hj ho hp ⊢
 refine k2 (k2 ?_)
 refine A4 (A3 (A5 Z Z) Z (A3 (A5 Z Z) Z (A3 (D5 Z (.pure _ _ _ _)) Z (A3 (D9 Z Z) Z (A3 (A5 Z Z) Z (B4 Z Z Z Z (fun hg=>by rw [hg];exact A5 Z Z) ?_))))));refine B4 Z Z Z Z (fun hg=>by rw [hg];exact A5 Z Z) ?_;refine B4 Z Z Z Z (fun hg=>by rw [hg];exact D5 Z (.pure _ _ _ _)) ?_;refine B4 Z Z Z Z (fun hg=>by rw [hg];exact D9 Z Z) ?_;refine A3 (B8 Z (fun h=>by first | rfl | (rw [h];rfl)) (fun h=>by first | rfl | (rw [h];rfl))) Z ?_;refine A7 ?_
 refine k1 ?_
 refine B5 rfl (fun ht=>?_) (fun ht=>?_)
 ·have hor:=A0 (or_pick.symm.trans ht)
  refine F01 ?_
  refine K2 ?_
  refine k3 (k3 (k2 ?_))
  have hTi:i < a.length→(B44 a b)[i]?=some (P7 a b i 0):=fun h=>A56 a b 0 i (Nat.zero_le _) (by omega)
  have hTn:i < a.length→(B44 a b)[i+1]?=some (P7 a b (i+1) 0):=fun h=>A56 a b 0 (i+1) (Nat.zero_le _) (by omega)
  have hva:i < a.length→a[i]?=some (a.getD i 0):=fun h=>by simp [J08,h]
  have hvb:j < b.length→b[j]?=some (b.getD j 0):=fun h=>by simp [J08,h]
  have hga:∀h:i < a.length,a.getD i 0=a[i]:=fun h=>by simp [J08,h]
  have hgb:∀h:j < b.length,b.getD j 0=b[j]:=fun h=>by simp [J08,h]
  refine D8 (by kernel_rfl) (by kernel_rfl) (B0 (A5 Z Z) Z Z (B0 (A5 Z Z) Z Z (B0 (D5 Z (.pure _ _ _ _)) Z Z (B0 (D9 Z Z) Z Z (B0 (A5 Z Z) Z Z (D6 Z Z (fun hg=>by rw [hg];exact A5 Z Z) Z Z ?_))))));refine D6 Z Z (fun hg=>by rw [hg];exact A5 Z Z) Z Z ?_;refine D6 Z Z (fun hg=>by rw [hg];exact D5 Z (.pure _ _ _ _)) Z Z ?_;refine D6 Z Z (fun hg=>by rw [hg];exact D9 Z Z) Z Z ?_;refine B0 (B8 Z (fun h=>by first | rfl | (rw [h];rfl)) (fun h=>by first | rfl | (rw [h];rfl))) Z Z ?_;refine B0 (A5 Z Z) Z Z (D6 Z Z (fun hg=>by rw [hg];exact A5 Z Z) Z Z ?_);refine D6 Z Z (fun hg=>by rw [hg];exact A5 Z Z) Z Z ?_;refine D6 Z Z (fun hg=>by have hq:=hg;(try simp at hq);rw [hg];exact B1 Z (.pure _ _ _ _) Z (by omega) (hva (by omega))) Z Z ?_;refine D6 Z Z (fun hg=>by rw [hg];exact B3 Z Z) Z Z ?_;refine D6 Z Z (fun hg=>by rw [hg];exact A5 Z Z) Z Z ?_;refine D6 Z Z (fun hg=>by rw [hg];exact A5 Z Z) Z Z ?_;refine D6 Z Z (fun hg=>by have hq:=hg;(try simp at hq);rw [hg];exact B1 Z (.pure _ _ _ _) Z (by omega) (hvb (by omega))) Z Z ?_;refine D6 Z Z (fun hg=>by rw [hg];exact B3 Z Z) Z Z ?_;refine D6 Z Z (fun hg=>by rw [hg];exact M1 Z Z) Z Z ?_;refine B0 (B8 Z (fun h=>by first | rfl | (rw [h];rfl)) (fun h=>by first | rfl | (rw [h];rfl))) Z Z ?_;refine B0 (A6 Z Z) Z Z (O5 ?_)
  refine k1 ?_
  refine B5 rfl (fun ht=>?_) (fun ht=>?_)
  ·simp only [Q2] at ht
   obtain ⟨⟨hia,hjb⟩,heq⟩:=A0 ht
   have hia':i < a.length:=by omega
   have hjb':j < b.length:=by omega
   rw [hga hia',hgb hjb'] at heq
   rw [r7 a b i j hia' hjb',if_pos heq] at hp
   refine k2 ?_
   refine A4 (A3 (A5 Z Z) Z (A3 (A5 Z Z) Z (A3 (A5 Z Z) Z (A3 (H6 Z) Z (A3 (C8 (c:=spanC) (ys:=[⟨_,_⟩]) (E0 Z Z Z Z F6) Z Z Z) Z (C3 (G9 Z Z Z (.pure _ _ _ _) (by simp;omega) Z) Z (A3 (A6 Z Z) Z (A7 ?_))))))))
   refine k1 ?_
   refine A4 (A3 (A5 Z Z) Z (A3 (C2 Z Z (by omega)) Z (A3 (A5 Z Z) Z (A3 (C2 Z Z (by omega)) Z (A3 (A6 Z Z) Z (A3 (A6 Z Z) Z (A7 ?_)))))))
   refine k4 (k4 (k1 ?_))
   exact ⟨(i+1,j+1,out++[⟨i,j⟩]),⟨by dsimp only;omega,by dsimp only;omega,by dsimp only;simp;omega,by dsimp only;rw [J17];exact hp⟩,by dsimp only;omega,I72 ⟨le1 rfl,le1 rfl,le1 rfl,le1 rfl,le1 rfl,le1 rfl,trivial⟩ ⟨rfl,trivial⟩⟩
  ·have hne:∀(h1:i < a.length) (h2:j < b.length),a[i]≠b[j]:=fun h1 h2 h=>by
    simp only [Q2] at ht
    exact A1 ht ⟨⟨by omega,by omega⟩,by rw [hga h1,hgb h2];exact h⟩
   refine k2 ?_
   refine D8 (by kernel_rfl) (by kernel_rfl) (B0 (A5 Z Z) Z Z (B0 (A5 Z Z) Z Z (B0 (D5 Z (.pure _ _ _ _)) Z Z (B0 (D9 Z Z) Z Z (B0 (A5 Z Z) Z Z (D6 Z Z (fun hg=>by rw [hg];exact A5 Z Z) Z Z ?_))))));refine D6 Z Z (fun hg=>by rw [hg];exact A5 Z Z) Z Z ?_;refine D6 Z Z (fun hg=>by have hq:=hg;(try simp at hq);rw [hg];exact C2 Z Z (by omega)) Z Z ?_;refine D6 Z Z (fun hg=>by have hq:=hg;(try simp at hq);rw [hg];exact B1 Z (.pure _ _ _ _) Z (by omega) (hTn (by omega))) Z Z ?_;refine D6 Z Z (fun hg=>by rw [hg];exact B3 Z Z) Z Z ?_;refine D6 Z Z (fun hg=>by rw [hg];exact A5 Z Z) Z Z ?_;refine D6 Z Z (fun hg=>by have hq:=hg;(try simp at hq);rw [hg];exact B1 Z (.pure _ _ _ _) Z (by omega) (r8 a b (i+1) 0 j (Nat.zero_le _) hj)) Z Z ?_;refine D6 Z Z (fun hg=>by rw [hg];exact B3 Z Z) Z Z ?_;refine D6 Z Z (fun hg=>by have hq:=hg;(try simp at hq);have h1:=B43 (a.drop (i+1)) (b.drop j);simp only [J22] at h1;rw [hg];exact C2 Z Z (by omega)) Z Z ?_;refine D6 Z Z (fun hg=>by rw [hg];exact A5 Z Z) Z Z ?_;refine D6 Z Z (fun hg=>by rw [hg];exact A5 Z Z) Z Z ?_;refine D6 Z Z (fun hg=>by have hq:=hg;(try simp at hq);rw [hg];exact B1 Z (.pure _ _ _ _) Z (by omega) (hTi (by omega))) Z Z ?_;refine D6 Z Z (fun hg=>by rw [hg];exact B3 Z Z) Z Z ?_;refine D6 Z Z (fun hg=>by rw [hg];exact A5 Z Z) Z Z ?_;refine D6 Z Z (fun hg=>by have hq:=hg;(try simp at hq);rw [hg];exact B1 Z (.pure _ _ _ _) Z (by omega) (r8 a b i 0 j (Nat.zero_le _) hj)) Z Z ?_;refine D6 Z Z (fun hg=>by rw [hg];exact B3 Z Z) Z Z ?_;refine D6 Z Z (fun hg=>by rw [hg];exact M1 Z Z) Z Z ?_;refine B0 (B8 Z (fun h=>by first | rfl | (rw [h];rfl)) (fun h=>by first | rfl | (rw [h];rfl))) Z Z ?_;refine B0 (A6 Z Z) Z Z (O5 ?_)
   refine k1 ?_
   refine B5 rfl (fun ht=>?_) (fun ht=>?_)
   ·rw [Q2] at ht
    obtain ⟨hia,hd⟩:=A0 ht
    have hia':i < a.length:=by omega
    have hp':out++F3 (i+1:Nat) j (a.drop (i+1)) (b.drop j)=F3 0 0 a b:=by
     by_cases hjb:j < b.length
     ·rw [r7 a b i j hia' hjb,if_neg (hne hia' hjb),if_pos (by omega)] at hp
      exact hp
     ·rw [J14 (show b.length≤j by omega),X4] at hp ⊢
      exact hp
    skip
    refine A4 (A3 (A5 Z Z) Z (A3 (C2 Z Z (by omega)) Z (A3 (A6 Z Z) Z (A7 ?_))))
    refine k4 (k4 (k1 ?_))
    exact ⟨(i+1,j,out),⟨by dsimp only;omega,by dsimp only;omega,by dsimp only;omega,hp'⟩,by dsimp only;omega,I72 ⟨le1 rfl,le1 rfl,le1 rfl,le1 rfl,le1 rfl,le1 rfl,trivial⟩ ⟨rfl,trivial⟩⟩
   ·rw [Q2] at ht
    have hd:=A1 ht
    have hjb:j < b.length:=by
     refine Classical.byContradiction fun h=>?_
     have hjb:j=b.length:=by omega
     have hia:i < a.length:=by omega
     apply hd
     refine ⟨by omega,?_⟩
     rw [J14 (show b.length≤j by omega),z6,z6,J22,J22]
     omega
    have hp':out++F3 i (j+1:Nat) (a.drop i) (b.drop (j+1))=F3 0 0 a b:=by
     by_cases hia:i < a.length
     ·rw [r7 a b i j hia hjb,if_neg (hne hia hjb),if_neg (fun h=>hd ⟨by omega,by omega⟩)] at hp
      exact hp
     ·rw [J14 (show a.length≤i by omega),U9] at hp ⊢
      exact hp
    skip
    refine A4 (A3 (A5 Z Z) Z (A3 (C2 Z Z (by omega)) Z (A3 (A6 Z Z) Z (A7 ?_))))
    refine k4 (k4 (k1 ?_))
    exact ⟨(i,j+1,out),⟨by dsimp only;omega,by dsimp only;omega,by dsimp only;omega,hp'⟩,by dsimp only;omega,I72 ⟨le1 rfl,le1 rfl,le1 rfl,le1 rfl,le1 rfl,le1 rfl,trivial⟩ ⟨rfl,trivial⟩⟩
 ·have hor:=A1 (or_pick.symm.trans ht)
  have hi':i=a.length:=by omega
  have hj':j=b.length:=by omega
  rw [hi',J14 (Nat.le_refl a.length)] at hp
  have hout:out=F3 0 0 a b:=by rw [←hp];simp [F3]
  refine k6 (k2 ?_)
  refine A4 (A3 (A5 Z Z) Z (A3 (A5 Z Z) Z (A3 (D5 Z (.pure _ _ _ _)) Z (A3 (A5 Z Z) Z (A3 (D5 Z (.pure _ _ _ _)) Z (C5 (made_ok out a.length b.length (by omega) (fun s hs=>by have:=C16 a b 0 0 s (hout ▸ hs);omega) (by omega)) Z Z Z ?_))))));rintro _ rfl;refine A3 (A6 Z Z) Z (A7 ?_)
  refine k1 (k10 ?_)
  exact B6 (H2 rfl rfl rfl) (by rw [hout];rfl)
theorem E56 (a b:List Int):FnOk Tryz.prog 213 [N6 a,N6 b] (fun rs=>rs=if 4096 < a.length∨4096 < b.length then [pChanges [],I7 1] else [pChanges (J5 a b),I7 0]):=by
 refine FnOk.intro Tryz.func213 (by decide) Z Z Z Z ?_
 refine k2 ?_
 refine A4 (A3 (A6 Z Z) Z (A3 (A6 Z Z) Z (A7 ?_)))
 refine k1 (k2 (k2 ?_))
 refine A4 (A3 (A5 Z Z) Z (A3 (A5 Z Z) Z (C5 (long_ok a b) Z Z Z ?_)));rintro _ rfl;refine A7 ?_
 refine k1 ?_
 refine B5 rfl (fun ht=>?_) (fun ht=>?_)
 ·have h:=A0 ht
  refine k2 ?_
  refine A4 (A3 (J6 _ 4 changeC) Z (A3 (A6 Z Z) Z (A7 ?_)))
  refine k1 (k10 (k11 ?_))
  exact B6 (Z9 rfl rfl rfl rfl rfl) (by rw [if_pos h])
 ·have h:=A1 ht
  refine k5 (k1 (k2 ?_))
  refine A4 (A3 (A5 Z Z) Z (A3 (A5 Z Z) Z (C5 (H25 a b (by omega) (by omega)) Z Z Z ?_)));rintro _ rfl;refine A3 (A6 Z Z) Z (A3 (A6 Z Z) Z (A7 ?_))
  refine k1 (k10 ?_)
  exact B6 (Z9 rfl rfl rfl rfl rfl) (by rw [if_neg h])
theorem D46 (l:List Change) (m:Int) (hl:l.length≤1048576) (hm:m≤536870911) (hb:∀c∈l,c.Old≤536870911∧0≤c.OldLen∧c.OldLen≤1048576∧0≤c.NewLen∧c.NewLen≤1048576) :
  FnOk Tryz.prog 103 [pChanges l,I7 m] (fun rs=>rs=[pSpans (O9 l m)]):=by
 refine FnOk.intro Tryz.func103 (by decide) Z Z Z Z ?_
 refine k2 ?_
 refine A4 (A3 (A6 Z Z) Z (A7 ?_))
 refine k1 (k2 ?_)
 refine A4 (C3 (T6 5 _ spanC Z) Z (A7 ?_))
 refine k1 (k2 ?_)
 refine A4 (A3 (A6 Z Z) Z (A3 (A6 Z Z) Z (A7 ?_)))
 refine k1 (k2 (k2 ?_))
 refine A4 (A3 (A6 Z Z) Z (A7 ?_))
 refine k1 (k3 ?_)
 refine C7 (X:=Nat × Int × Int × List Span) (fun x=>([(0,B9 Change 4 changeC l),(1,B7 m),(5,.s (.one (.buf 5 Span 2 spanC x.2.2.2))),(6,B7 x.2.1),(7,B7 x.2.2.1),(8,B7 x.1)],[(5,.spare x.2.2.2.length 2 88)]))
  (fun x=>x.1≤l.length∧0≤x.2.1∧(x.2.2.2.length:Int)≤x.2.1∧x.2.1≤536870911+x.1*1048576∧0≤x.2.2.1∧x.2.2.1≤536870911*(x.1+1)+x.1*1048576∧x.2.2.2.length≤536870911∧x.2.2.2++J9 x.2.1 x.2.2.1 (l.drop x.1) m=O9 l m)
  (fun x=>l.length - x.1) (0,0,0,[]) (by simp [O9]) (I72 ⟨le1 rfl,le1 rfl,le1 rfl,le1 rfl,le1 rfl,le1 rfl,trivial⟩ ⟨rfl,trivial⟩) ?_
 rintro ⟨k,i,j,out⟩ ⟨hk,hi,ho,hi2,hj,hj2,ho2,hp⟩
 dsimp only at hk hi ho hi2 hj hj2 ho2 hp ⊢
 refine k2 (k2 ?_)
 refine A4 (A3 (A5 Z Z) Z (A3 (A5 Z Z) Z (A3 (D5 Z (.pure _ _ _ _)) Z (A3 (D9 Z Z) Z (A7 ?_)))))
 refine k1 ?_
 refine B5 rfl (fun ht=>?_) (fun ht=>?_)
 ·have hlt:k < l.length:=by have:=A0 ht;omega
  have hv:l[k]?=some l[k]:=by simp [hlt]
  have hc:=hb l[k] (J15 hlt)
  rw [J11 hlt,J9] at hp
  refine k5 (k1 (k2 (k3 (k2 (k3 ?_)))))
  refine C7 (X:=Nat) (fun t=>([(0,B9 Change 4 changeC l),(1,B7 m),(5,.s (.one (.buf 5 Span 2 spanC (out++N2 i j t)))),(6,B7 (i+t)),(7,B7 (j+t)),(8,B7 k)],[(5,.spare (out++N2 i j t).length 2 88)]))
   (fun t=>t≤(l[k].Old - i).toNat) (fun t=>(l[k].Old - i).toNat - t) 0 (Nat.zero_le _) (by rw [d9,J25];exact I72 ⟨le1 rfl,le1 rfl,le1 rfl,leE rfl (by first | (simp;done) | (simp;omega)),leE rfl (by first | (simp;done) | (simp;omega)),le1 rfl,trivial⟩ ⟨rfl,trivial⟩) ?_
  intro t htl
  dsimp only at htl ⊢
  have hsl:=y9 i j t
  refine k2 (k2 ?_)
  have hol:out.length+t≤536870911:=by omega
  refine A4 (A3 (A5 Z Z) Z (A3 (A5 Z Z) Z (A3 (A5 Z Z) Z (A3 (B1 Z (.pure _ _ _ _) Z (by omega) hv) Z (A3 (F1 Z) Z (A3 (B3 Z Z) Z (A3 (D9 Z Z) Z (A7 ?_))))))))
  refine k1 ?_
  refine B5 rfl (fun ht=>?_) (fun ht=>?_)
  ·have h1:=A0 ht
   refine k5 (k1 (k3 (k2 ?_)))
   refine A4 (A3 (A5 Z Z) Z (A3 (A5 Z Z) Z (A3 (A5 Z Z) Z (A3 (H6 Z) Z (A3 (C8 (c:=spanC) (ys:=[⟨_,_⟩]) (E0 Z Z Z Z F6) Z Z Z) Z (C3 (G9 Z Z Z (.pure _ _ _ _) (by (simp;omega)) Z) Z (A3 (A6 Z Z) Z (A7 ?_))))))))
   refine k1 ?_
   refine A4 (A3 (A5 Z Z) Z (A3 (C2 Z Z (by omega)) Z (A3 (A5 Z Z) Z (A3 (C2 Z Z (by omega)) Z (A3 (A6 Z Z) Z (A3 (A6 Z Z) Z (A7 ?_)))))))
   refine k4 (k1 ?_)
   refine ⟨t+1,by omega,by omega,?_⟩
   rw [A57,←J17]
   exact I72 ⟨le1 rfl,le1 rfl,le1 rfl,leE rfl (by first | (simp;done) | (simp;omega)),leE rfl (by first | (simp;done) | (simp;omega)),le1 rfl,trivial⟩ ⟨rfl,trivial⟩
  ·have h1:=A1 ht
   have h2:t=(l[k].Old - i).toNat:=by omega
   rw [←h2] at hp
   have h3:max i l[k].Old=i+t:=by omega
   rw [h3] at hp
   refine k6 (k7 (k7 (k8 Z (k1 ?_))))
   refine D8 (by kernel_rfl) (by kernel_rfl) (B0 (A5 Z Z) Z Z (B0 (A5 Z Z) Z Z (B0 (A5 Z Z) Z Z (B0 (B1 Z (.pure _ _ _ _) Z (by omega) hv) Z Z (B0 (F1 Z) Z Z (B0 (B3 Z Z) Z Z (B0 (C2 Z Z (by omega)) Z Z (B0 (A5 Z Z) Z Z (B0 (A5 Z Z) Z Z (B0 (A5 Z Z) Z Z (B0 (B1 Z (.pure _ _ _ _) Z (by omega) hv) Z Z (B0 (F1 Z) Z Z (B0 (B3 Z Z) Z Z (B0 (C2 Z Z (by omega)) Z Z (B0 (A6 Z Z) Z Z (B0 (A6 Z Z) Z Z (O5 ?_)))))))))))))))))
   refine k4 (k1 ?_)
   refine A4 (A3 (A5 Z Z) Z (A3 (C2 Z Z (by omega)) Z (A3 (A6 Z Z) Z (A7 ?_))))
   refine k1 ?_
   exact ⟨(k+1,i+t+l[k].OldLen,j+t+l[k].NewLen,out++N2 i j t),⟨by dsimp only;omega,by dsimp only;omega,by dsimp only;rw [J06,hsl];omega,by dsimp only;omega,by dsimp only;omega,by dsimp only;omega,by dsimp only;rw [J06,hsl];omega,by dsimp only;rw [J17];exact hp⟩,by dsimp only;omega,I72 ⟨le1 rfl,le1 rfl,le1 rfl,le1 rfl,le1 rfl,le1 rfl,trivial⟩ ⟨rfl,trivial⟩⟩
 ·have hk':k=l.length:=by have:=A1 ht;omega
  rw [hk',J14 (Nat.le_refl _),J9] at hp
  refine k6 (k2 (k3 ?_))
  refine C7 (X:=Nat) (fun t=>([(1,B7 m),(5,.s (.one (.buf 5 Span 2 spanC (out++N2 i j t)))),(6,B7 (i+t)),(7,B7 (j+t))],[(5,.spare (out++N2 i j t).length 2 88)]))
   (fun t=>t≤(m - i).toNat) (fun t=>(m - i).toNat - t) 0 (Nat.zero_le _) (by rw [d9,J25];exact I72 ⟨le1 rfl,le1 rfl,leE rfl (by first | (simp;done) | (simp;omega)),leE rfl (by first | (simp;done) | (simp;omega)),trivial⟩ ⟨rfl,trivial⟩) ?_
  intro t htl
  dsimp only at htl ⊢
  have hsl:=y9 i j t
  have hol:out.length+t≤536870911:=by omega
  refine k2 (k2 ?_)
  refine A4 (A3 (A5 Z Z) Z (A3 (A5 Z Z) Z (A3 (D9 Z Z) Z (A7 ?_))))
  refine k1 ?_
  refine B5 rfl (fun ht=>?_) (fun ht=>?_)
  ·have h1:=A0 ht
   refine k5 (k1 (k3 (k2 ?_)))
   refine A4 (A3 (A5 Z Z) Z (A3 (A5 Z Z) Z (A3 (A5 Z Z) Z (A3 (H6 Z) Z (A3 (C8 (c:=spanC) (ys:=[⟨_,_⟩]) (E0 Z Z Z Z F6) Z Z Z) Z (C3 (G9 Z Z Z (.pure _ _ _ _) (by (simp;omega)) Z) Z (A3 (A6 Z Z) Z (A7 ?_))))))))
   refine k1 ?_
   refine A4 (A3 (A5 Z Z) Z (A3 (C2 Z Z (by omega)) Z (A3 (A5 Z Z) Z (A3 (C2 Z Z (by omega)) Z (A3 (A6 Z Z) Z (A3 (A6 Z Z) Z (A7 ?_)))))))
   refine k4 (k1 ?_)
   refine ⟨t+1,by omega,by omega,?_⟩
   rw [A57,←J17]
   exact I72 ⟨le1 rfl,le1 rfl,leE rfl (by first | (simp;done) | (simp;omega)),leE rfl (by first | (simp;done) | (simp;omega)),trivial⟩ ⟨rfl,trivial⟩
  ·have h1:=A1 ht
   have h2:t=(m - i).toNat:=by omega
   refine k6 (k2 ?_)
   refine A4 (A3 (A5 Z Z) Z (A3 (A6 Z Z) Z (A7 ?_)))
   refine k1 (k10 ?_)
   exact B6 (H2 rfl rfl rfl) (by rw [h2,hp])
theorem E57 (l:List Merged) (list:List Int) (p:Int) (hl:l.length≤536870912):FnOk Tryz.prog 170 [pMerged l,N6 list,I7 p] (fun rs=>rs=if 4096 < l.length∨4096 < list.length then [pMerged [],I7 1] else [pMerged (O8 l list p),I7 0]):=by
 refine FnOk.intro Tryz.func170 (by decide) Z Z Z Z ?_
 refine k2 ?_
 refine A4 (A3 (A6 Z Z) Z (A3 (A6 Z Z) Z (A7 ?_)))
 refine k1 (k2 ?_)
 have hlm:(E9 l).length=l.length:=by simp [E9]
 by_cases hbig:4096 < l.length∨4096 < list.length
 ·rw [if_pos hbig]
  refine A4 (A3 (A5 Z Z) Z (C5 (E55 l hl) Z Z Z ?_));rintro _ rfl;refine A3 (A5 Z Z) Z (C5 ((E56 (E9 l) list).mono (post':=fun rs=>rs=[pChanges [],I7 1]) (fun rs h=>by rw [if_pos (by rw [hlm];exact hbig)] at h;exact h)) Z Z Z ?_);rintro _ rfl;refine A3 (A5 Z Z) Z (A3 (D2 Z Z) Z (A3 (D2 Z Z) Z (A3 (A6 Z Z) Z (A3 (A6 Z Z) Z (A7 ?_)))))
  refine k1 (k2 (k2 ?_))
  refine A4 (A3 (A5 Z Z) Z (A3 (O3 Z Z) Z (A7 ?_)))
  refine k1 ?_
  refine B5 rfl (fun ht=>?_) (fun ht=>?_)
  ·refine k2 ?_
   refine A4 (A3 (J6 _ 2 mergedC) Z (A3 (A6 Z Z) Z (A7 ?_)))
   refine k1 (k10 (k11 ?_))
   exact B6 (Z9 rfl rfl rfl rfl rfl) rfl
  ·cases A1 ht (by decide)
 ·rw [if_neg hbig]
  refine A4 (A3 (A5 Z Z) Z (C5 (E55 l hl) Z Z Z ?_));rintro _ rfl;refine A3 (A5 Z Z) Z (C5 ((E56 (E9 l) list).mono (post':=fun rs=>rs=[pChanges (J5 (E9 l) list),I7 0]) (fun rs h=>by rw [if_neg (by rw [hlm];exact hbig)] at h;exact h)) Z Z Z ?_);rintro _ rfl;refine A3 (A5 Z Z) Z (A3 (D2 Z Z) Z (A3 (D2 Z Z) Z (A3 (A6 Z Z) Z (A3 (A6 Z Z) Z (A7 ?_)))))
  refine k1 (k2 (k2 ?_))
  refine A4 (A3 (A5 Z Z) Z (A3 (O3 Z Z) Z (A7 ?_)))
  refine k1 ?_
  refine B5 rfl (fun ht=>?_) (fun ht=>?_)
  ·cases A0 ht rfl
  ·have hwb:=A59 (E9 l) list
   have hwl:(J5 (E9 l) list).length≤4097:=by
    have h1:=p6 (F3 0 0 (E9 l) list) 0 0 (E9 l).length list.length
    have h2:=T0 0 0 (E9 l) list
    unfold J5 X5;omega
   have hmw:=A58 (E9 l) list
   have hasc:=T3 (E9 l) list 0 0
   rw [Int.zero_add,Int.zero_add] at hasc
   have hpl:=T0 0 0 (E9 l) list
   rw [hlm] at hmw hasc hpl
   obtain ⟨ps,hps⟩:∃ps,ps=F3 0 0 (E9 l) list:=⟨_,rfl⟩
   refine k5 (k1 (k2 ?_))
   refine A4 (A3 (A5 Z Z) Z (A3 (A5 Z Z) Z (A3 (D5 Z (.pure _ _ _ _)) Z (C5 (D46 (J5 (E9 l) list) l.length (by omega) (by omega) (fun c hc=>by have:=hwb c hc;rw [hlm] at this;omega)) Z Z Z ?_))));rintro _ rfl;refine A3 (A6 Z Z) Z (A7 ?_)
   refine k1 (k2 ?_)
   rw [hmw,←hps]
   rw [←hps] at hasc hpl
   refine A4 (C3 (T6 11 _ mergedC Z) Z (A7 ?_))
   refine k1 (k2 ?_)
   refine A4 (A3 (A6 Z Z) Z (A3 (A6 Z Z) Z (A7 ?_)))
   refine k1 (k2 (k2 ?_))
   refine A4 (A3 (A6 Z Z) Z (A7 ?_))
   refine k1 (k3 ?_)
   have hlb:l.length≤4096∧list.length≤4096:=by omega
   have hwp:=B82 p
   refine C7 (X:=Nat × Nat × Nat × List Merged) (fun x=>([(0,B9 Merged 2 mergedC l),(1,B9 Int 1 G4 list),(2,B7 p),(10,B9 Span 2 spanC ps),(11,.s (.one (.buf 11 Merged 2 mergedC x.2.2.2))),(12,B7 x.2.1),(13,B7 x.2.2.1),(14,B7 x.1)],[(11,.spare x.2.2.2.length 2 151)]))
    (fun x=>x.1≤ps.length+1∧x.2.2.2.length≤x.2.1+x.2.2.1∧x.2.1≤l.length∧x.2.2.1≤list.length∧(x.1≤ps.length→Asc l.length list.length x.2.1 x.2.2.1 (ps.drop x.1)∧x.2.2.2++N5 l list (G3 p) x.2.1 x.2.2.1 (ps.drop x.1)=N5 l list (G3 p) 0 0 ps)∧(x.1=ps.length+1→x.2.2.2=N5 l list (G3 p) 0 0 ps))
    (fun x=>ps.length+1 - x.1) (0,0,0,[]) (by simpa using hasc) (I72 ⟨le1 rfl,le1 rfl,le1 rfl,le1 rfl,le1 rfl,le1 rfl,le1 rfl,le1 rfl,trivial⟩ ⟨rfl,trivial⟩) ?_
   rintro ⟨k,i,j,out⟩ ⟨hk,ho,hi,hj,h1,h2⟩
   dsimp only at hk ho hi hj h1 h2 ⊢
   refine k2 (k2 ?_)
   refine A4 (A3 (A5 Z Z) Z (A3 (A5 Z Z) Z (A3 (D5 Z (.pure _ _ _ _)) Z (A3 (A04 Z Z) Z (A7 ?_)))))
   refine k1 ?_
   refine B5 rfl (fun ht=>?_) (fun ht=>?_)
   ·have hk':k≤ps.length:=by have:=A0 ht;omega
    obtain ⟨ha,hp⟩:=h1 hk'
    refine k5 (k1 (k2 (k3 (k2 ?_))))
    refine A4 (A3 (A5 Z Z) Z (A3 (D5 Z (.pure _ _ _ _)) Z (A3 (A5 Z Z) Z (A3 (D5 Z (.pure _ _ _ _)) Z (A3 (H6 Z) Z (C3 (H7 15 Z) Z (F8 (C0 TySz.out Z Z Z Z Z Z) (A7 ?_))))))))
    refine K2 ?_
    obtain ⟨x,hx⟩:∃x,x=ps.getD k ⟨l.length,list.length⟩:=⟨_,rfl⟩
    have hstep:(i:Int)≤x.From∧(j:Int)≤x.To∧x.From≤l.length∧x.To≤list.length∧(k < ps.length→x.From < l.length∧x.To < list.length∧Asc l.length list.length (x.From+1) (x.To+1) (ps.drop (k+1))) ∧
      N5 l list (G3 p) i j (ps.drop k)=(l.drop i).take (x.From.toNat - i)++(((list.drop j).take (x.To.toNat - j)).map fun v=>⟨v,G3 p⟩)++(if k < ps.length then (l[x.From.toNat]?.map fun y=>(⟨y.Line,I8 y.Parents (G3 p)⟩:Merged)).toList++N5 l list (G3 p) (x.From.toNat+1) (x.To.toNat+1) (ps.drop (k+1)) else []):=by
     by_cases h:k < ps.length
     ·have hxk:x=ps[k]:=by rw [hx,J08,J05 h];rfl
      rw [J11 h,←hxk] at ha
      obtain ⟨a1,a2,a3⟩:=ha
      have a4:=a3.le
      refine ⟨a1,a2,by omega,by omega,fun _=>⟨by omega,by omega,a3⟩,?_⟩
      rw [J11 h,←hxk,if_pos h];rfl
     ·have hxk:x=⟨l.length,list.length⟩:=by rw [hx,J08,J31 (by omega)];rfl
      rw [hxk,if_neg h,J14 (show ps.length≤k by omega)]
      refine ⟨by simp only;omega,by simp only;omega,Int.le_refl _,Int.le_refl _,fun h'=>absurd h' h,?_⟩
      simp [N5]
    obtain ⟨hx1,hx2,hx3,hx4,hx5,hjg⟩:=hstep
    refine t7 [(0,B9 Merged 2 mergedC l),(1,B9 Int 1 G4 list),(2,B7 p),(10,B9 Span 2 spanC ps),(11,.s (.one (.buf 11 Merged 2 mergedC out))),(12,B7 i),(13,B7 j),(14,B7 k),(15,.s (.one (.ref 15 0)))] [(15,.box [.p (.v (.int .i64 x.From)),.p (.v (.int .i64 x.To))]),(11,.spare out.length 2 151)] ?_ ?_
    ·refine k2 ?_
     refine A4 (A3 (A5 Z Z) Z (A3 (A5 Z Z) Z (A3 (D5 Z (.pure _ _ _ _)) Z (A3 (D9 Z Z) Z (A7 ?_)))))
     refine k1 ?_
     refine B5 rfl (fun ht=>?_) (fun ht=>?_)
     ·have hlt:k < ps.length:=by have:=A0 ht;omega
      have hv:ps[k]?=some ps[k]:=by simp [hlt]
      have:x=ps[k]:=by rw [hx,J08,hv];rfl
      subst this
      skip
      refine A4 (A3 (A5 Z Z) Z (A3 (A5 Z Z) Z (A3 (B1 Z (.pure _ _ _ _) Z (by omega) hv) Z (A3 (E5 Z Z) Z (F8 (C0 TySz.out Z Z Z Z Z Z) (A7 ?_))))))
      refine k1 ?_
      exact I72 ⟨le1 rfl,le1 rfl,le1 rfl,le1 rfl,le1 rfl,le1 rfl,le1 rfl,le1 rfl,le1 rfl,trivial⟩ ⟨rfl,rfl,trivial⟩
     ·have hlt:¬k < ps.length:=by have:=A1 ht;omega
      have:x=⟨l.length,list.length⟩:=by rw [hx,J08,J31 (by omega)];rfl
      subst this
      refine k5 (k1 ?_)
      exact I72 ⟨le1 rfl,le1 rfl,le1 rfl,le1 rfl,le1 rfl,le1 rfl,le1 rfl,le1 rfl,le1 rfl,trivial⟩ ⟨rfl,rfl,trivial⟩
    ·obtain ⟨f,hf⟩:∃f:Nat,x.From=f:=⟨x.From.toNat,by omega⟩
     obtain ⟨g,hg⟩:∃g:Nat,x.To=g:=⟨x.To.toNat,by omega⟩
     rw [hf] at hx1 hx3 hx5 hjg
     rw [hg] at hx2 hx4 hx5 hjg
     simp only [J12] at hjg
     rw [hf,hg]
     refine k2 (k3 ?_)
     refine C7 (X:=Nat) (fun t=>([(0,B9 Merged 2 mergedC l),(1,B9 Int 1 G4 list),(2,B7 p),(10,B9 Span 2 spanC ps),(11,.s (.one (.buf 11 Merged 2 mergedC (out++(l.drop i).take t)))),(12,B7 ((i+t:Nat):Int)),(13,B7 j),(14,B7 k),(15,.s (.one (.ref 15 0)))],[(15,.box [.p (.v (.int .i64 f)),.p (.v (.int .i64 g))]),(11,.spare (out++(l.drop i).take t).length 2 151)]))
      (fun t=>t≤f - i) (fun t=>f - i - t) 0 (Nat.zero_le _) (by rw [List.take_zero,J25];exact I72 ⟨le1 rfl,le1 rfl,le1 rfl,le1 rfl,le1 rfl,le1 rfl,le1 rfl,le1 rfl,le1 rfl,trivial⟩ ⟨rfl,rfl,trivial⟩) ?_
     intro t htl
     dsimp only at htl ⊢
     have hb1:(out++(l.drop i).take t).length≤i+j+t:=by simp;omega
     refine k2 (k2 ?_)
     refine A4 (A3 (A5 Z Z) Z (A3 (A8 Z) Z (A3 (A9 Z Z Z) Z (A3 (D9 Z Z) Z (A7 ?_)))))
     refine k1 ?_
     refine B5 rfl (fun ht=>?_) (fun ht=>?_)
     ·have hlt:i+t < f:=by have:=A0 ht;omega
      have hv:l[i+t]?=some (l[i+t]'(by omega)):=J05 (by omega)
      refine k5 (k1 (k3 (k2 ?_)))
      refine A4 (A3 (A5 Z Z) Z (A3 (A5 Z Z) Z (A3 (A5 Z Z) Z (A3 (B1 Z (.pure _ _ _ _) Z (by omega) hv) Z (A3 (E5 Z Z) Z (A3 (C8 (c:=mergedC) (ys:=[⟨_,_⟩]) (E0 Z Z Z Z F6) Z Z Z) Z (C3 (G9 Z Z Z (.pure _ _ _ _) (by (simp only [J07,J10];omega)) Z) Z (A3 (A6 Z Z) Z (A7 ?_)))))))))
      refine k1 ?_
      refine A4 (A3 (A5 Z Z) Z (A3 (C2 Z Z (by omega)) Z (A3 (A6 Z Z) Z (A7 ?_))))
      refine k4 (k1 ?_)
      refine ⟨t+1,by omega,by omega,?_⟩
      rw [z7 l i t (by omega),←J17]
      exact I72 ⟨le1 rfl,le1 rfl,le1 rfl,le1 rfl,le1 rfl,le1 rfl,le1 rfl,le1 rfl,le1 rfl,trivial⟩ ⟨rfl,rfl,trivial⟩
     ·have hte:i+t=f:=by have:=A1 ht;omega
      rw [hte]
      rw [show t=f - i by omega]
      rw [show t=f - i by omega] at hb1
      obtain ⟨o1,ho1⟩:∃o1,o1=out++(l.drop i).take (f - i):=⟨_,rfl⟩
      rw [←ho1] at hb1 ⊢
      refine k6 (k2 (k3 ?_))
      refine C7 (X:=Nat) (fun t=>([(0,B9 Merged 2 mergedC l),(1,B9 Int 1 G4 list),(2,B7 p),(10,B9 Span 2 spanC ps),(11,.s (.one (.buf 11 Merged 2 mergedC (o1++((list.drop j).take t).map fun v=>⟨v,G3 p⟩)))),(12,B7 f),(13,B7 ((j+t:Nat):Int)),(14,B7 k),(15,.s (.one (.ref 15 0)))],[(15,.box [.p (.v (.int .i64 f)),.p (.v (.int .i64 g))]),(11,.spare (o1++((list.drop j).take t).map fun v=>(⟨v,G3 p⟩:Merged)).length 2 151)]))
       (fun t=>t≤g - j) (fun t=>g - j - t) 0 (Nat.zero_le _) (by rw [List.take_zero,J40,J25];exact I72 ⟨le1 rfl,le1 rfl,le1 rfl,le1 rfl,le1 rfl,le1 rfl,le1 rfl,le1 rfl,le1 rfl,trivial⟩ ⟨rfl,rfl,trivial⟩) ?_
      intro t htl
      dsimp only at htl ⊢
      have hb2:(o1++((list.drop j).take t).map fun v=>(⟨v,G3 p⟩:Merged)).length≤i+j+(f - i)+t:=by simp;omega
      refine k2 (k2 ?_)
      refine A4 (A3 (A5 Z Z) Z (A3 (A8 Z) Z (A3 (A9 Z Z Z) Z (A3 (D9 Z Z) Z (A7 ?_)))))
      refine k1 ?_
      refine B5 rfl (fun ht=>?_) (fun ht=>?_)
      ·have hlt:j+t < g:=by have:=A0 ht;omega
       have hv:list[j+t]?=some (list[j+t]'(by omega)):=J05 (by omega)
       refine k5 (k1 (k3 (k2 ?_)))
       refine A4 (A3 (A5 Z Z) Z (A3 (A5 Z Z) Z (A3 (A5 Z Z) Z (A3 (B1 Z (.pure _ _ _ _) Z (by omega) hv) Z (A3 (B3 Z Z) Z (A3 (A5 Z Z) Z (A3 (M9 Z) Z (A3 (E36 Z Z (by omega)) Z (A3 (H6 Z) Z (A3 (C8 (c:=mergedC) (ys:=[⟨_,_⟩]) (E0 Z Z Z Z F6) Z Z Z) Z (C3 (G9 Z Z Z (.pure _ _ _ _) (by (simp only [J07,J10];omega)) Z) Z (A3 (A6 Z Z) Z (A7 ?_)))))))))))))
       refine k1 ?_
       refine A4 (A3 (A5 Z Z) Z (A3 (C2 Z Z (by omega)) Z (A3 (A6 Z Z) Z (A7 ?_))))
       refine k4 (k1 ?_)
       refine ⟨t+1,by omega,by omega,?_⟩
       rw [z7 list j t (by omega),J19,←J17]
       simp only [J16,J40]
       exact I72 ⟨le1 rfl,le1 rfl,le1 rfl,le1 rfl,le1 rfl,le1 rfl,le1 rfl,le1 rfl,le1 rfl,trivial⟩ ⟨rfl,rfl,trivial⟩
      ·have hte:j+t=g:=by have:=A1 ht;omega
       rw [hte]
       rw [show t=g - j by omega]
       rw [show t=g - j by omega] at hb2
       obtain ⟨o2,ho2⟩:∃o2,o2=o1++((list.drop j).take (g - j)).map fun v=>(⟨v,G3 p⟩:Merged):=⟨_,rfl⟩
       rw [←ho2] at hb2 ⊢
       have hout:out++N5 l list (G3 p) i j (ps.drop k)=o2++(if k < ps.length then (l[f]?.map fun y=>(⟨y.Line,I8 y.Parents (G3 p)⟩:Merged)).toList++N5 l list (G3 p) (f+1) (g+1) (ps.drop (k+1)) else []):=by
        rw [hjg,ho2,ho1];simp only [J17]
       rw [hout] at hp
       refine k6 (k2 ?_)
       refine A4 (A3 (A5 Z Z) Z (A3 (A5 Z Z) Z (A3 (D5 Z (.pure _ _ _ _)) Z (A3 (D9 Z Z) Z (A7 ?_)))))
       refine k1 ?_
       refine B5 rfl (fun ht=>?_) (fun ht=>?_)
       ·have hlt:k < ps.length:=by have:=A0 ht;omega
        obtain ⟨hf1,hg1,hasc'⟩:=hx5 hlt
        have hfl:f < l.length:=by omega
        have hv:l[f]?=some l[f]:=J05 hfl
        rw [if_pos hlt,hv] at hp
        refine k2 ?_
        refine D8 (by kernel_rfl) (by kernel_rfl) (B0 (A5 Z Z) Z Z (B0 (A5 Z Z) Z Z (B0 (A5 Z Z) Z Z (B0 (B1 Z (.pure _ _ _ _) Z (by omega) hv) Z Z (B0 (F1 Z) Z Z (B0 (B3 Z Z) Z Z (B0 (A5 Z Z) Z Z (B0 (A5 Z Z) Z Z (B0 (B1 Z (.pure _ _ _ _) Z (by omega) hv) Z Z (B0 (F1 Z) Z Z (B0 (B3 Z Z) Z Z (B0 (A5 Z Z) Z Z (B0 (M9 Z) Z Z (B0 (E36 Z Z (by omega)) Z Z (B0 (V7 Z Z Z (fun _=>rfl)) Z Z (B0 (H6 Z) Z Z (B0 (C8 (c:=mergedC) (ys:=[⟨l[f].Line,I8 l[f].Parents (G3 p)⟩]) (E0 Z Z Z Z F6) Z Z Z) Z Z (D26 (G9 Z Z Z (.pure _ _ _ _) (by (simp only [J07,J10];omega)) Z) Z Z (B0 (A6 Z Z) Z Z (O5 ?_))))))))))))))))))))
        refine k1 ?_
        refine A4 (A3 (A5 Z Z) Z (A3 (C2 Z Z (by omega)) Z (A3 (A5 Z Z) Z (A3 (C2 Z Z (by omega)) Z (A3 (A6 Z Z) Z (A3 (A6 Z Z) Z (A7 ?_)))))))
        refine k4 (k1 ?_)
        refine A4 (A3 (A5 Z Z) Z (A3 (C2 Z Z (by omega)) Z (A3 (A6 Z Z) Z (A7 ?_))))
        refine k1 ?_
        refine ⟨(k+1,f+1,g+1,o2++[⟨l[f].Line,I8 l[f].Parents (G3 p)⟩]),⟨by dsimp only;omega,by dsimp only;simp only [J06,J07,J10];omega,by dsimp only;omega,by dsimp only;omega,fun _=>⟨hasc',?_⟩,fun h=>?_⟩,by dsimp only;omega,I72 ⟨le1 rfl,le1 rfl,le1 rfl,le1 rfl,le1 rfl,le1 rfl,le1 rfl,le1 rfl,trivial⟩ ⟨rfl,trivial⟩⟩
        ·rw [←hp];simp
        ·dsimp only at h ⊢
         omega
       ·have hlt:¬k < ps.length:=by have:=A1 ht;omega
        rw [if_neg hlt,J25] at hp
        refine k5 (k4 (k1 ?_))
        refine A4 (A3 (A5 Z Z) Z (A3 (C2 Z Z (by omega)) Z (A3 (A6 Z Z) Z (A7 ?_))))
        refine k1 ?_
        exact ⟨(k+1,f,g,o2),⟨by dsimp only;omega,by dsimp only;omega,by dsimp only;omega,by dsimp only;omega,fun h=>by dsimp only at h;omega,fun _=>hp⟩,by dsimp only;omega,I72 ⟨le1 rfl,le1 rfl,le1 rfl,le1 rfl,le1 rfl,le1 rfl,le1 rfl,le1 rfl,trivial⟩ ⟨rfl,trivial⟩⟩
   ·have hk':k=ps.length+1:=by have:=A1 ht;omega
    refine k6 (k2 ?_)
    refine A4 (A3 (A5 Z Z) Z (A3 (A6 Z Z) Z (A3 (A6 Z Z) Z (A7 ?_))))
    refine k1 (k10 ?_)
    exact B6 (Z9 rfl rfl rfl rfl rfl) (by rw [h2 hk',hps];rfl)
theorem E17 (l:List Merged) (list:List Int) (p:Int) (h1:l.length≤4096) (h2:list.length≤4096):(O8 l list p).length≤536870912:=by
 have h3:=B68 l list (G3 p) (F3 0 0 (E9 l) list) 0 0
 have h4:=T0 0 0 (E9 l) list
 have h5:(E9 l).length=l.length:=by simp [E9]
 unfold O8
 have h6:l.length*((F3 0 0 (E9 l) list).length+1)≤4096*4097:=Nat.mul_le_mul h1 (by omega)
 have h7:list.length*((F3 0 0 (E9 l) list).length+1)≤4096*4097:=Nat.mul_le_mul h2 (by omega)
 omega
theorem F77 (ls:List (List Int)):FnOk Tryz.prog 104 [pIntss ls] (fun rs=>rs=[pMerged (E3 ls).1,I7 (E3 ls).2]):=by
 refine FnOk.intro Tryz.func104 (by decide) Z Z Z Z ?_
 refine k2 ?_
 refine A4 (A3 (A6 Z Z) Z (A3 (A6 Z Z) Z (A7 ?_)))
 refine k1 (k2 (k2 ?_))
 refine A4 (A3 (A5 Z Z) Z (A3 (D5 Z (.pure _ _ _ _)) Z (A3 (P6 Z Z) Z (A7 ?_))))
 refine k1 ?_
 refine B5 rfl (fun ht=>?_) (fun ht=>?_)
 ·have h:=A0 ht
  refine k2 ?_
  refine A4 (A3 (J6 _ 2 mergedC) Z (A3 (A6 Z Z) Z (A7 ?_)))
  refine k1 (k10 (k11 ?_))
  exact B6 (Z9 rfl rfl rfl rfl rfl) (by rw [E3,if_pos (by omega)])
 ·have h:=A1 ht
  have hco:E3 ls=G6 [] 0 ls:=by rw [E3,if_neg (by omega)]
  rw [hco]
  refine k5 (k1 (k2 ?_))
  refine A4 (A3 (J6 _ 2 mergedC) Z (A7 ?_))
  refine k1 (k2 (k2 ?_))
  refine A4 (A3 (A6 Z Z) Z (A7 ?_))
  refine k1 (k3 ?_)
  refine C7 (X:=Nat × List Merged) (fun x=>([(0,B9 (List Int) 1 intsC ls),(4,B9 Merged 2 mergedC x.2),(5,B7 x.1)],[])) (fun x=>x.1≤ls.length∧x.2.length≤536870912∧G6 [] 0 ls=G6 x.2 x.1 (ls.drop x.1)) (fun x=>ls.length - x.1) (0,[]) (by simp) (I72 ⟨le1 rfl,le1 rfl,le1 rfl,trivial⟩ trivial) ?_
  rintro ⟨k,acc⟩ ⟨hk,hacc,hp⟩
  dsimp only at hk hacc hp ⊢
  refine k2 (k2 ?_)
  refine A4 (A3 (A5 Z Z) Z (A3 (A5 Z Z) Z (A3 (D5 Z (.pure _ _ _ _)) Z (A3 (D9 Z Z) Z (A7 ?_)))))
  refine k1 ?_
  refine B5 rfl (fun ht=>?_) (fun ht=>?_)
  ·have hlt:k < ls.length:=by have:=A0 ht;omega
   have hv:ls[k]?=some ls[k]:=by simp [hlt]
   rw [J11 hlt,G6] at hp
   by_cases hbig:4096 < acc.length∨4096 < ls[k].length
   ·rw [if_pos hbig] at hp
    refine k5 (k1 (k2 (k3 (k2 ?_))))
    refine A4 (A3 (A5 Z Z) Z (A3 (A5 Z Z) Z (A3 (A5 Z Z) Z (A3 (B1 Z (.pure _ _ _ _) Z (by omega) hv) Z (A3 (B3 Z Z) Z (A3 (A5 Z Z) Z (C5 ((E57 acc ls[k] k hacc).mono (post':=fun rs=>rs=[pMerged [],I7 1]) (fun rs h=>by rw [if_pos hbig] at h;exact h)) Z Z Z ?_)))))));rintro _ rfl;refine A3 (A5 Z Z) Z (A3 (D2 Z Z) Z (A3 (D2 Z Z) Z (A3 (A6 Z Z) Z (A3 (A6 Z Z) Z (A7 ?_)))))
    refine k1 (k2 (k2 ?_))
    refine A4 (A3 (A5 Z Z) Z (A3 (O3 Z Z) Z (A7 ?_)))
    refine k1 ?_
    refine B5 rfl (fun ht=>?_) (fun ht=>?_)
    ·refine k2 ?_
     refine A4 (A3 (A5 Z Z) Z (A3 (J6 _ 2 mergedC) Z (A3 (A6 Z Z) Z (A7 ?_))))
     refine k1 (k10 (k11 (k12 (k11 (k11 (k12 (k11 ?_)))))))
     exact B6 (Z9 rfl rfl rfl rfl rfl) (by rw [hp])
    ·cases A1 ht (by decide)
   ·rw [if_neg hbig] at hp
    have hjl:=E17 acc ls[k] k (by omega) (by omega)
    refine k5 (k1 (k2 (k3 (k2 ?_))))
    refine A4 (A3 (A5 Z Z) Z (A3 (A5 Z Z) Z (A3 (A5 Z Z) Z (A3 (B1 Z (.pure _ _ _ _) Z (by omega) hv) Z (A3 (B3 Z Z) Z (A3 (A5 Z Z) Z (C5 ((E57 acc ls[k] k hacc).mono (post':=fun rs=>rs=[pMerged (O8 acc ls[k] k),I7 0]) (fun rs h=>by rw [if_neg hbig] at h;exact h)) Z Z Z ?_)))))));rintro _ rfl;refine A3 (A5 Z Z) Z (A3 (D2 Z Z) Z (A3 (D2 Z Z) Z (A3 (A6 Z Z) Z (A3 (A6 Z Z) Z (A7 ?_)))))
    refine k1 (k2 (k2 ?_))
    refine A4 (A3 (A5 Z Z) Z (A3 (O3 Z Z) Z (A7 ?_)))
    refine k1 ?_
    refine B5 rfl (fun ht=>?_) (fun ht=>?_)
    ·cases A0 ht rfl
    ·refine k5 (k1 ?_)
     refine A4 (A3 (A5 Z Z) Z (A3 (A6 Z Z) Z (A7 ?_)))
     refine k4 (k1 ?_)
     refine A4 (A3 (A5 Z Z) Z (A3 (C2 Z Z (by omega)) Z (A3 (A6 Z Z) Z (A7 ?_))))
     refine k1 ?_
     exact ⟨(k+1,O8 acc ls[k] k),⟨by dsimp only;omega,hjl,hp⟩,by dsimp only;omega,I72 ⟨le1 rfl,le1 rfl,le1 rfl,trivial⟩ trivial⟩
  ·have hk':k=ls.length:=by have:=A1 ht;omega
   rw [hk',J14 (Nat.le_refl _)] at hp
   refine k6 (k2 ?_)
   refine A4 (A3 (A5 Z Z) Z (A3 (A6 Z Z) Z (A3 (A6 Z Z) Z (A7 ?_))))
   refine k1 (k10 ?_)
   exact B6 (Z9 rfl rfl rfl rfl rfl) (by rw [hp];rfl)
theorem u64_in {n:Int} (h:0≤n∧n < 18446744073709551616):IntKind.u64.wrap n=n:=by simp [IntKind.wrap,IntKind.signed,IntKind.bits];omega
def S6 (a n:Int):Int:=IntKind.u64.wrap a % n
theorem Y1 (a:Int) {n:Int} (h:1≤n):0≤S6 a n∧S6 a n < n:=⟨Int.emod_nonneg _ (by omega),Int.emod_lt_of_pos _ (by omega)⟩
theorem D47 (a n:Int) (hn:1≤n) (hn':n≤9223372036854775807):FnOk Tryz.prog 18 [I7 a,I7 n] (fun rs=>rs=[I7 (S6 a n)]):=by
 refine FnOk.intro Tryz.func18 (by decide) Z Z Z Z ?_
 refine k2 ?_
 refine A4 (A3 (A6 Z Z) Z (A7 ?_))
 refine k1 (k2 ?_)
 have h1:IntKind.u64.wrap n=n:=u64_in (by omega)
 refine A4 (A3 (A5 Z Z) Z (A3 (M9 Z) Z (A3 (A5 Z Z) Z (A3 (M9 Z) Z (A3 (F54 Z Z (by (rw [h1];omega))) Z ?_)))));refine A3 (M9 Z) Z (A3 (A6 Z Z) Z (A7 ?_))
 refine k1 (k10 ?_)
 refine B6 (H2 Z Z Z) ?_
 have h2:=B82 a
 have h3:(IntKind.u64.wrap a).tmod n=IntKind.u64.wrap a % n:=Int.tmod_eq_emod_of_nonneg h2
 have h4:=Y1 a hn
 unfold S6 at *
 rw [h1,h3,F58 ⟨by omega,by omega⟩]
def xor64 (a b:Int):Int:=IntKind.u64.wrap ((BitVec.ofInt IntKind.u64.bits a ^^^ BitVec.ofInt IntKind.u64.bits b).toNat:Int)
def shr64 (a n:Int):Int:=a.fdiv (2 ^ (min n.toNat IntKind.u64.bits))
def at0 (k:Int):Int:=IntKind.u64.wrap (IntKind.u64.wrap (k+1)*11400714819323198485)
def at1 (raw:List Int) (k:Int):Int:=if 0 < raw.length then xor64 (at0 k) (IntKind.u64.wrap (raw.getD (k.tmod raw.length).toNat 0)) else at0 k
def at2 (x:Int):Int:=IntKind.u64.wrap (xor64 x (shr64 x 31)*13787848793156543929)
def d5 (raw:List Int) (k:Int):Int:=IntKind.i64.wrap (shr64 (xor64 (at2 (at1 raw k)) (shr64 (at2 (at1 raw k)) 29)) 1)
theorem E58 (raw:List Int) (k:Int) (h0:0≤k) (h1:k≤1099511627776):FnOk Tryz.prog 25 [N6 raw,I7 k] (fun rs=>rs=[I7 (d5 raw k)]):=by
 refine FnOk.intro Tryz.func25 (by decide) Z Z Z Z ?_
 refine A40 (t:=0) rfl (.pure _ _ _ _) fun hlen=>?_
 refine k2 ?_
 refine A4 (A3 (A6 Z Z) Z (A7 ?_))
 refine k1 (k2 ?_)
 refine A4 (A3 (A5 Z Z) Z (A3 (C2 Z Z (by omega)) Z (A3 (M9 Z) Z (A3 (F03 Z Z) Z (A3 (A6 Z Z) Z (A7 ?_))))))
 refine K2 ?_
 refine t7 [(0,B9 Int 1 G4 raw),(1,B7 k),(5,J4 (.int .u64 (at1 raw k)))] [] ?_ ?_
 ·refine k2 ?_
  refine A4 (A3 (A5 Z Z) Z (A3 (D5 Z (.pure _ _ _ _)) Z (A3 (P6 Z Z) Z (A7 ?_))))
  refine k1 ?_
  refine B5 rfl (fun ht=>?_) (fun ht=>?_)
  ·have hpos:0 < raw.length:=by have:=A0 ht;omega
   have hm0:0≤k.tmod raw.length:=Int.tmod_nonneg _ h0
   have hm1:k.tmod raw.length < raw.length:=Int.tmod_lt_of_pos _ (by omega)
   have hv:raw[(k.tmod raw.length).toNat]?=some (raw.getD (k.tmod raw.length).toNat 0):=by
    rw [J08,J05 (by omega)];rfl
   skip
   refine A4 (A3 (A5 Z Z) Z (A3 (A5 Z Z) Z (A3 (A5 Z Z) Z (A3 (A5 Z Z) Z (A3 (D5 Z (.pure _ _ _ _)) Z (A3 (F54 Z Z (by omega)) Z (A3 (B1 Z (.pure _ _ _ _) Z (by omega) hv) Z (A3 (B3 Z Z) Z (A3 (M9 Z) Z (A3 (V7 Z Z Z (fun _=>rfl)) Z (A3 (A6 Z Z) Z (A7 ?_))))))))))))
   refine k1 ?_
   rw [at1,if_pos hpos]
   exact I72 ⟨le1 rfl,le1 rfl,le1 rfl,trivial⟩ trivial
  ·have hpos:¬0 < raw.length:=by have:=A1 ht;omega
   refine k5 (k1 ?_)
   rw [at1,if_neg hpos]
   exact I72 ⟨le1 rfl,le1 rfl,le1 rfl,trivial⟩ trivial
 ·refine k2 ?_
  refine A4 (A3 (A5 Z Z) Z (A3 (A5 Z Z) Z (A3 (A28 Z Z (by omega)) Z (A3 (V7 Z Z Z (fun _=>rfl)) Z (A3 (F03 Z Z) Z (A3 (A6 Z Z) Z (A7 ?_)))))))
  refine k1 (k2 ?_)
  refine A4 (A3 (A5 Z Z) Z (A3 (A5 Z Z) Z (A3 (A28 Z Z (by omega)) Z (A3 (V7 Z Z Z (fun _=>rfl)) Z (A3 (A28 Z Z (by omega)) Z (A3 (M9 Z) Z (A3 (A6 Z Z) Z (A7 ?_))))))))
  refine k1 (k10 ?_)
  exact B6 (H2 rfl rfl rfl) rfl
def lineTab:List Str:=[[97],[98],[99],[97,98],[98,97],[],[97,97],[98,32,97],[120,43,121],[92]]
def l8 (k:Int):Str:=lineTab.getD (S6 k 10).toNat []
theorem F78:∀s∈lineTab,s.length≤3:=by decide
theorem A49 (k:Int):(l8 k).length≤3:=by
 unfold l8
 rw [J08]
 cases h:lineTab[(S6 k 10).toNat]? with
 | none=>simp
 | some s=>exact F78 s (J26 h)
theorem F79 (k:Int):FnOk Tryz.prog 24 [I7 k] (fun rs=>rs=[P5 (l8 k)]):=by
 refine FnOk.intro Tryz.func24 (by decide) Z Z Z Z ?_
 refine k2 ?_
 refine A4 (A3 (A6 Z Z) Z (A7 ?_))
 refine k1 (k2 ?_)
 have hm:=Y1 k (n:=10) (by decide)
 have hv:lineTab[(S6 k 10).toNat]?=some (l8 k):=by
  unfold l8
  rw [J08,J05 (show (S6 k 10).toNat < lineTab.length by simp [lineTab];omega)];rfl
 refine A4 (A3 (C8 (c:=L1) (ys:=lineTab) (E0 Z Z Z Z (E0 Z Z Z Z (E0 Z Z Z Z (E0 Z Z Z Z (E0 Z Z Z Z (E0 Z Z Z Z (E0 Z Z Z Z (E0 Z Z Z Z (E0 Z Z Z Z (E0 Z Z Z Z F6)))))))))) Z Z Z) Z (A3 (A5 Z Z) Z (C5 (D47 k 10 (by decide) (by decide)) Z Z Z ?_)));rintro _ rfl;refine A3 (B1 Z (.pure _ _ _ _) Z (by omega) hv) Z (A3 (B3 Z Z) Z (A3 (A6 Z Z) Z (A7 ?_)))
 refine k1 (k10 ?_)
 exact B6 (H2 rfl rfl rfl) rfl
theorem ids_ok (fs:List (List Str)) (hfs:fs.flatten.length≤536870912) (hf1:fs.length≤536870912):FnOk Tryz.prog 101 [pStrss fs] (fun rs=>rs=[pIntss (fs.map (J3 (E2 fs)))]):=by
 refine FnOk.intro Tryz.func101 (by decide) Z Z Z Z ?_
 refine k2 ?_
 refine A4 (A3 (A6 Z Z) Z (A7 ?_))
 refine k1 (k2 ?_)
 refine A4 (A3 (A5 Z Z) Z (C5 (F76 fs hfs) Z Z Z ?_));rintro _ rfl;refine A3 (A6 Z Z) Z (A7 ?_)
 refine k1 (k2 ?_)
 refine A4 (C3 (T6 4 _ intsC Z) Z (A7 ?_))
 refine k1 (k2 (k2 ?_))
 refine A4 (A3 (A6 Z Z) Z (A7 ?_))
 refine k1 (k3 ?_)
 refine C7 (X:=Nat) (fun f=>([(0,B9 (List Str) 1 strsC fs),(3,B9 Str 1 L1 (E2 fs)),(4,.s (.one (.buf 4 (List Int) 1 intsC ((fs.take f).map (J3 (E2 fs)))))),(5,B7 f)],[(4,.spare ((fs.take f).map (J3 (E2 fs))).length 1 25)])) (fun f=>f≤fs.length) (fun f=>fs.length - f) 0 (by simp) (I72 ⟨le1 rfl,le1 rfl,le1 rfl,le1 rfl,trivial⟩ ⟨rfl,trivial⟩) ?_
 intro f hf
 dsimp only at hf ⊢
 refine k2 (k2 ?_)
 refine A4 (A3 (A5 Z Z) Z (A3 (A5 Z Z) Z (A3 (D5 Z (.pure _ _ _ _)) Z (A3 (D9 Z Z) Z (A7 ?_)))))
 refine k1 ?_
 have hfl:((fs.take f).map (J3 (E2 fs))).length=f:=by simp;omega
 refine B5 rfl (fun ht=>?_) (fun ht=>?_)
 ·have hlt:f < fs.length:=by have:=A0 ht;omega
  have hv:fs[f]?=some fs[f]:=by simp [hlt]
  have hle:=Y6 fs (f+1)
  rw [V9 fs f hlt,J06] at hle
  refine k5 (k1 (k2 (k3 (k2 ?_))))
  refine A4 (C3 (B76 16 (c:=G4) (ys:=[]) F6 Z Z Z (by first | rfl | (simp [H4,I3,Ob.free,SV.free,S1.free,TC.free]<;>rfl))) Z ?_);refine A3 (A6 Z Z) Z (A7 ?_)
  refine k1 (k2 (k2 ?_))
  refine A4 (A3 (A6 Z Z) Z (A7 ?_))
  refine k1 (k3 ?_)
  refine C7 (X:=Nat) (fun i=>([(0,B9 (List Str) 1 strsC fs),(3,B9 Str 1 L1 (E2 fs)),(4,.s (.one (.buf 4 (List Int) 1 intsC ((fs.take f).map (J3 (E2 fs)))))),(5,B7 f),(6,.s (.one (.buf 16 Int 1 G4 (J3 (E2 fs) (fs[f].take i))))),(7,B7 i)],[(4,.spare ((fs.take f).map (J3 (E2 fs))).length 1 25),(16,.spare (J3 (E2 fs) (fs[f].take i)).length 1 3)])) (fun i=>i≤fs[f].length) (fun i=>fs[f].length - i) 0 (by simp) (I72 ⟨le1 rfl,le1 rfl,le1 rfl,le1 rfl,le1 rfl,le1 rfl,trivial⟩ ⟨rfl,rfl,trivial⟩) ?_
  intro i hi
  dsimp only at hi ⊢
  have hil:(J3 (E2 fs) (fs[f].take i)).length=i:=by simp [J3];omega
  refine k2 (k2 ?_)
  refine A4 (A3 (A5 Z Z) Z (A3 (A5 Z Z) Z (A3 (A5 Z Z) Z (A3 (B1 Z (.pure _ _ _ _) Z (by omega) hv) Z (A3 (B3 Z Z) Z (A3 (D5 Z (.pure _ _ _ _)) Z (A3 (D9 Z Z) Z (A7 ?_))))))))
  refine k1 ?_
  refine B5 rfl (fun ht=>?_) (fun ht=>?_)
  ·have hlt2:i < fs[f].length:=by have:=A0 ht;omega
   have hvi:fs[f][i]?=some fs[f][i]:=by simp [hlt2]
   have hst:J3 (E2 fs) (fs[f].take (i+1))=J3 (E2 fs) (fs[f].take i)++[H1 (E2 fs) fs[f][i] 0]:=by
    unfold J3;rw [List.take_add_one,hvi,Option.toList_some,J19];rfl
   refine k5 (k1 (k2 (k3 ?_)))
   refine A4 (A3 (A5 Z Z) Z (A3 (A5 Z Z) Z (A3 (A5 Z Z) Z (A3 (A5 Z Z) Z (A3 (B1 Z (.pure _ _ _ _) Z (by omega) hv) Z (A3 (B3 Z Z) Z (A3 (A5 Z Z) Z (A3 (B1 Z (.pure _ _ _ _) Z (by omega) hvi) Z (A3 (B3 Z Z) Z (C5 (F75 _ _) Z Z Z ?_))))))))));rintro _ rfl;refine A3 (C8 (c:=G4) (ys:=[_]) (E0 Z Z Z Z F6) Z Z Z) Z (C3 (G9 Z Z Z (.pure _ _ _ _) (by (simp only [J07,J10];omega)) Z) Z (A3 (A6 Z Z) Z (A7 ?_)))
   refine k4 (k1 ?_)
   refine A4 (A3 (A5 Z Z) Z (A3 (C2 Z Z (by omega)) Z (A3 (A6 Z Z) Z (A7 ?_))))
   refine k1 ?_
   refine ⟨i+1,by omega,by omega,?_⟩
   rw [hst]
   exact I72 ⟨le1 rfl,le1 rfl,le1 rfl,le1 rfl,le1 rfl,le1 rfl,trivial⟩ ⟨rfl,rfl,trivial⟩
  ·have hi':i=fs[f].length:=by have:=A1 ht;omega
   have hst:(fs.take (f+1)).map (J3 (E2 fs))=(fs.take f).map (J3 (E2 fs))++[J3 (E2 fs) (fs[f].take i)]:=by
    rw [List.take_add_one,hv,Option.toList_some,J19,hi',J23];rfl
   refine k6 (k7 (k7 (k8 Z (k1 ?_))))
   refine A4 (A3 (A5 Z Z) Z (A3 (A5 Z Z) Z (A3 (C8 (c:=intsC) (ys:=[_]) (E0 Z Z Z Z F6) Z Z Z) Z (C3 (G9 Z Z Z (.pure _ _ _ _) (by (simp only [J07,J10];omega)) Z) Z (A3 (A6 Z Z) Z (A7 ?_))))))
   refine k4 (k1 ?_)
   refine A4 (A3 (A5 Z Z) Z (A3 (C2 Z Z (by omega)) Z (A3 (A6 Z Z) Z (A7 ?_))))
   refine k1 ?_
   refine ⟨f+1,by omega,by omega,?_⟩
   rw [hst]
   exact I72 ⟨le1 rfl,le1 rfl,le1 rfl,le1 rfl,trivial⟩ ⟨rfl,trivial⟩
 ·have hk':f=fs.length:=by have:=A1 ht;omega
  subst hk'
  refine k6 (k2 ?_)
  refine A4 (A3 (A5 Z Z) Z (A3 (A6 Z Z) Z (A7 ?_)))
  refine k1 (k10 ?_)
  exact B6 (H2 rfl rfl rfl) (by rw [J23])
def S4 (raw:List Int) (from':Int) (kinds:Int) (m:Nat):Str:=((List.range m).map fun (i:Nat)=>l8 (S6 (d5 raw (from'+1+(i:Int))) kinds)++[10]).flatten
def V8 (raw:List Int) (from' n kinds:Int):Str :=
 let s:=S4 raw from' kinds (S6 (d5 raw from') (n+1)).toNat
 if ((d5 raw (from'+90)).tmod 4=0∧(1:Int) < s.length)∧((s.getD (s.length - 2) 0).toNat:Int)≠10 then s.take (s.length - 1) else s
theorem y5 (raw:List Int) (from' kinds:Int) (m:Nat):S4 raw from' kinds (m+1)=S4 raw from' kinds m++l8 (S6 (d5 raw (from'+1+(m:Int))) kinds)++[10]:=by
 unfold S4;rw [J45,J19,J33];simp
theorem B64 (raw:List Int) (from' kinds:Int) (m:Nat):(S4 raw from' kinds m).length≤4*m:=by
 induction m with
 | zero=>simp [S4]
 | succ m ih=>have:=A49 (S6 (d5 raw (from'+1+(m:Int))) kinds);rw [y5];simp only [J06,J07,J10];omega
theorem H26 (raw:List Int) (from' n kinds:Int) (h0:0≤from'∧from'≤1073741824) (h1:0≤n∧n≤1048576) (h2:1≤kinds∧kinds≤1048576) :
  FnOk Tryz.prog 64 [N6 raw,I7 from',I7 n,I7 kinds] (fun rs=>rs=[P5 (V8 raw from' n kinds)]):=by
 obtain ⟨m,hm⟩:∃m:Nat,S6 (d5 raw from') (n+1)=m:=⟨(S6 (d5 raw from') (n+1)).toNat,by have:=Y1 (d5 raw from') (n:=n+1) (by omega);omega⟩
 have hmi:=Y1 (d5 raw from') (n:=n+1) (by omega)
 have hml:m≤1048576:=by omega
 refine FnOk.intro Tryz.func64 (by decide) Z Z Z Z ?_
 refine k2 ?_
 refine A4 (A3 (A6 Z Z) Z (A7 ?_))
 refine k1 (k2 ?_)
 refine A4 (A3 (A5 Z Z) Z (A3 (A5 Z Z) Z (C5 (E58 raw from' (by omega) (by omega)) Z Z Z ?_)));rintro _ rfl;refine A3 (A5 Z Z) Z (A3 (C2 Z Z (by omega)) Z (C5 (D47 _ (n+1) (by omega) (by omega)) Z Z Z ?_));rintro _ rfl;refine A3 (A6 Z Z) Z (A7 ?_)
 refine k1 (k2 ?_)
 rw [hm]
 refine A4 (A3 (A6 Z Z) Z (A7 ?_))
 refine k1 (k2 (k2 ?_))
 refine A4 (A3 (A6 Z Z) Z (A7 ?_))
 refine k1 (k3 ?_)
 refine C7 (X:=Nat) (fun i=>([(0,B9 Int 1 G4 raw),(1,B7 from'),(2,B7 m),(3,B7 kinds),(9,W4 (S4 raw from' kinds i)),(10,B7 i)],[])) (fun i=>i≤m) (fun i=>m - i) 0 (Nat.zero_le _) (I72 ⟨le1 rfl,le1 rfl,le1 rfl,le1 rfl,le1 rfl,le1 rfl,trivial⟩ trivial) ?_
 intro i hi
 dsimp only at hi ⊢
 have hbl:=B64 raw from' kinds i
 refine k2 (k2 ?_)
 refine A4 (A3 (A5 Z Z) Z (A3 (A5 Z Z) Z (A3 (D9 Z Z) Z (A7 ?_))))
 refine k1 ?_
 refine B5 rfl (fun ht=>?_) (fun ht=>?_)
 ·have hlt:i < m:=by have:=A0 ht;omega
  have hll:=A49 (S6 (d5 raw (from'+1+(i:Int))) kinds)
  refine k5 (k1 (k2 (k3 ?_)))
  refine A4 (A3 (A5 Z Z) Z (A3 (A5 Z Z) Z (A3 (A5 Z Z) Z (A3 (C2 Z Z (by omega)) Z (A3 (A5 Z Z) Z (A3 (C2 Z Z (by omega)) Z (C5 (E58 raw _ (by omega) (by omega)) Z Z Z ?_)))))));rintro _ rfl;refine A3 (A5 Z Z) Z (C5 (D47 _ kinds (by omega) (by omega)) Z Z Z ?_);rintro _ rfl;refine C5 (F79 _) Z Z Z ?_;rintro _ rfl;refine A3 (L0 Z Z (by omega)) Z (A3 (L0 Z Z (by (simp only [J06,J07,J10];omega))) Z (A3 (A6 Z Z) Z (A7 ?_)))
  refine k4 (k1 ?_)
  refine A4 (A3 (A5 Z Z) Z (A3 (C2 Z Z (by omega)) Z (A3 (A6 Z Z) Z (A7 ?_))))
  refine k1 ?_
  refine ⟨i+1,by omega,by omega,?_⟩
  rw [y5]
  exact I72 ⟨le1 rfl,le1 rfl,le1 rfl,le1 rfl,le1 rfl,le1 rfl,trivial⟩ trivial
 ·have hi':i=m:=by have:=A1 ht;omega
  subst hi'
  obtain ⟨s,hs⟩:∃s,s=S4 raw from' kinds i:=⟨_,rfl⟩
  have hv:(1:Int) < s.length→s[((s.length:Int) - 2).toNat]?=some (s.getD (s.length - 2) 0):=fun h=>by
   rw [show ((s.length:Int) - 2).toNat=s.length - 2 by omega,J08,J05 (by omega)];rfl
  have hbo:V8 raw from' n kinds=if ((d5 raw (from'+90)).tmod 4=0∧(1:Int) < s.length)∧((s.getD (s.length - 2) 0).toNat:Int)≠10 then s.take (s.length - 1) else s:=by
   simp only [V8,hm,J12,←hs]
  rw [←hs] at hbl
  refine k6 (k2 (k2 ?_))
  rw [←hs]
  refine A4 (A3 (A5 Z Z) Z (A3 (A5 Z Z) Z (A3 (C2 Z Z (by omega)) Z (C5 (E58 raw _ (by omega) (by omega)) Z Z Z ?_))));rintro _ rfl;refine A3 (F54 Z Z (by omega)) Z (A3 (M1 Z Z) Z (A3 (A5 Z Z) Z (B4 Z Z Z Z (fun hg=>by rw [hg];exact A5 Z Z) ?_)));refine B4 Z Z Z Z (fun hg=>by rw [hg];exact O7 Z) ?_;refine B4 Z Z Z Z (fun hg=>by rw [hg];exact P6 Z Z) ?_;refine A3 (B8 Z (fun h=>by first | rfl | (rw [h];rfl)) (fun h=>by first | rfl | (rw [h];rfl))) Z ?_;refine A3 (A5 Z Z) Z (B4 Z Z Z Z (fun hg=>by rw [hg];exact A5 Z Z) ?_);refine B4 Z Z Z Z (fun hg=>by rw [hg];exact A5 Z Z) ?_;refine B4 Z Z Z Z (fun hg=>by rw [hg];exact O7 Z) ?_;refine B4 Z Z Z Z (fun hg=>by have hq:=hg;(try simp at hq);rw [hg];exact P9 Z Z (by omega)) ?_;refine B4 Z Z Z Z (fun hg=>by have hq:=hg;(try simp at hq);rw [hg];exact l7 Z Z (by omega) (hv (by omega))) ?_;refine B4 Z Z Z Z (fun hg=>by rw [hg];exact O3 Z Z) ?_;refine A3 (B8 Z (fun h=>by first | rfl | (rw [h];rfl)) (fun h=>by first | rfl | (rw [h];rfl))) Z ?_;refine A7 ?_
  refine k1 ?_
  refine B5 rfl (fun ht=>?_) (fun ht=>?_)
  ·simp only [Q2] at ht
   have h:=A0 ht
   skip
   refine A4 (A3 (A5 Z Z) Z (A3 (A5 Z Z) Z (A3 (O7 Z) Z (A3 (P9 Z Z (by omega)) Z (A3 (H18 Z Z (by omega) (by omega)) Z (A3 (A6 Z Z) Z (A7 ?_)))))))
   refine k1 (k2 ?_)
   refine A4 (A3 (A5 Z Z) Z (A3 (A6 Z Z) Z (A7 ?_)))
   refine k1 (k10 ?_)
   exact B6 (H2 rfl rfl rfl) (by rw [hbo,if_pos h,show ((s.length:Int) - 1).toNat=s.length - 1 by omega])
  ·simp only [Q2] at ht
   have h:=A1 ht
   refine k5 (k1 (k2 ?_))
   refine A4 (A3 (A5 Z Z) Z (A3 (A6 Z Z) Z (A7 ?_)))
   refine k1 (k10 ?_)
   exact B6 (H2 rfl rfl rfl) (by rw [hbo,if_neg h])
theorem B83 (raw:List Int) (from' n kinds:Int) (h1:0≤n):((V8 raw from' n kinds).length:Int)≤4*n:=by
 have h:=Y1 (d5 raw from') (n:=n+1) (by omega)
 have h2:=B64 raw from' kinds (S6 (d5 raw from') (n+1)).toNat
 unfold V8
 simp only
 split
 ·simp only [J20];omega
 ·omega
def d6 (raw:List Int) (from':Int) (i:Nat) (s:Str):List Str→Str
 | []=>s
 | x::r=>if (d5 raw (from'+(i:Int))).tmod 6=0 then d6 raw from' (i+1) s r
  else if (d5 raw (from'+(i:Int))).tmod 6=1 then d6 raw from' (i+1) (s++l8 (d5 raw (from'+40+(i:Int)))++[10]++x) r
  else d6 raw from' (i+1) (s++x) r
def B84 (blob:Str) (raw:List Int) (from':Int):Str:=d6 raw from' 0 [] (C1 blob)
theorem A50 (raw:List Int) (from':Int):∀(l:List Str) (i:Nat) (s:Str),(d6 raw from' i s l).length≤s.length+l.flatten.length+4*l.length
 | [],i,s=>by simp [d6]
 | x::r,i,s=>by
  have h1:=A50 raw from' r (i+1) s
  have h2:=A50 raw from' r (i+1) (s++l8 (d5 raw (from'+40+(i:Int)))++[10]++x)
  have h3:=A50 raw from' r (i+1) (s++x)
  have h4:=A49 (d5 raw (from'+40+(i:Int)))
  simp only [J06,J07,J10,J24] at *
  unfold d6
  split
  ·omega
  ·split<;>omega
theorem C52 (s cur:Str):(I0 cur s).flatten=cur++s:=by
 induction s generalizing cur with
 | nil=>unfold I0;split<;>simp [*]
 | cons c r ih=>unfold I0;split<;>simp [ih]
theorem U8 (s:Str):(C1 s).flatten=s:=C52 s []
theorem near_ok (blob:Str) (raw:List Int) (from':Int) (hb:blob.length≤16777216) (h0:0≤from'∧from'≤1073741824) :
  FnOk Tryz.prog 26 [P5 blob,N6 raw,I7 from'] (fun rs=>rs=[P5 (B84 blob raw from')]):=by
 have hll:=R1 blob
 have hlf:=U8 blob
 have hlf':(C1 blob).flatten.length=blob.length:=by rw [hlf]
 refine FnOk.intro Tryz.func26 (by decide) Z Z Z Z ?_
 refine k2 ?_
 refine A4 (A3 (A6 Z Z) Z (A7 ?_))
 refine k1 (k2 ?_)
 refine A4 (A3 (A5 Z Z) Z (C5 (C15 blob (by omega)) Z Z Z ?_));rintro _ rfl;refine A3 (A6 Z Z) Z (A7 ?_)
 refine k1 (k2 ?_)
 obtain ⟨l,hl⟩:∃l,l=C1 blob:=⟨_,rfl⟩
 have hno:B84 blob raw from'=d6 raw from' 0 [] l:=by rw [B84,hl]
 rw [←hl] at hll hlf' ⊢
 refine A4 (A3 (A6 Z Z) Z (A7 ?_))
 refine k1 (k2 (k2 ?_))
 refine A4 (A3 (A6 Z Z) Z (A7 ?_))
 refine k1 (k3 ?_)
 refine C7 (X:=Nat × Str) (fun x=>([(1,B9 Int 1 G4 raw),(2,B7 from'),(7,B9 Str 1 L1 l),(8,W4 x.2),(9,B7 x.1)],[])) (fun x=>x.1≤l.length∧x.2.length≤(l.take x.1).flatten.length+4*x.1∧d6 raw from' x.1 x.2 (l.drop x.1)=d6 raw from' 0 [] l) (fun x=>l.length - x.1) (0,[]) (by simp) (I72 ⟨le1 rfl,le1 rfl,le1 rfl,le1 rfl,le1 rfl,trivial⟩ trivial) ?_
 rintro ⟨i,s⟩ ⟨hi,hs,hp⟩
 dsimp only at hi hs hp ⊢
 have hle:=Y6 l i
 refine k2 (k2 ?_)
 refine A4 (A3 (A5 Z Z) Z (A3 (A5 Z Z) Z (A3 (D5 Z (.pure _ _ _ _)) Z (A3 (D9 Z Z) Z (A7 ?_)))))
 refine k1 ?_
 refine B5 rfl (fun ht=>?_) (fun ht=>?_)
 ·have hlt:i < l.length:=by have:=A0 ht;omega
  have hv:l[i]?=some l[i]:=by simp [hlt]
  have hle2:=Y6 l (i+1)
  have hst:=V9 l i hlt
  rw [hst,J06] at hle2
  rw [J11 hlt,d6] at hp
  refine k5 (k1 (k2 (k3 (k2 (k2 ?_)))))
  refine A4 (A3 (A5 Z Z) Z (A3 (A5 Z Z) Z (A3 (A5 Z Z) Z (A3 (C2 Z Z (by omega)) Z (C5 (E58 raw _ (by omega) (by omega)) Z Z Z ?_)))));rintro _ rfl;refine A3 (F54 Z Z (by omega)) Z (A7 ?_)
  refine k1 (k3 (k2 ?_))
  refine A4 (A3 (M1 Z Z) Z (A3 (A6 Z Z) Z (A7 ?_)))
  refine k1 ?_
  refine B5 rfl (fun ht=>?_) (fun ht=>?_)
  ·rw [if_pos (A0 ht)] at hp
   refine k6 (k9 Z (k7 (k8 Z (k1 ?_))))
   refine A4 (A3 (A5 Z Z) Z (A3 (C2 Z Z (by omega)) Z (A3 (A6 Z Z) Z (A7 ?_))))
   refine k1 ?_
   exact ⟨(i+1,s),⟨by dsimp only;omega,by dsimp only;rw [hst,J06];omega,hp⟩,by dsimp only;omega,I72 ⟨le1 rfl,le1 rfl,le1 rfl,le1 rfl,le1 rfl,trivial⟩ trivial⟩
  ·rw [if_neg (A1 ht)] at hp
   refine k2 ?_
   refine A4 (A3 (M1 Z Z) Z (A3 (A6 Z Z) Z (A7 ?_)))
   refine k1 ?_
   refine B5 rfl (fun ht=>?_) (fun ht=>?_)
   ·rw [if_pos (A0 ht)] at hp
    have h4:=A49 (d5 raw (from'+40+(i:Int)))
    skip
    refine A4 (A3 (A5 Z Z) Z (A3 (A5 Z Z) Z (A3 (A5 Z Z) Z (A3 (C2 Z Z (by omega)) Z (A3 (A5 Z Z) Z (A3 (C2 Z Z (by omega)) Z (C5 (E58 raw _ (by omega) (by omega)) Z Z Z ?_)))))));rintro _ rfl;refine C5 (F79 _) Z Z Z ?_;rintro _ rfl;refine A3 (L0 Z Z (by omega)) Z (A3 (L0 Z Z (by (simp only [J06,J07,J10];omega))) Z (A3 (A6 Z Z) Z (A7 ?_)))
    refine k4 (k1 ?_)
    refine A4 (A3 (A5 Z Z) Z (A3 (A5 Z Z) Z (A3 (A5 Z Z) Z (A3 (B1 Z (.pure _ _ _ _) Z (by omega) hv) Z (A3 (B3 Z Z) Z (A3 (L0 Z Z (by (simp only [J06,J07,J10];omega))) Z (A3 (A6 Z Z) Z (A7 ?_))))))))
    refine k4 (k1 ?_)
    refine A4 (A3 (A5 Z Z) Z (A3 (C2 Z Z (by omega)) Z (A3 (A6 Z Z) Z (A7 ?_))))
    refine k1 ?_
    exact ⟨(i+1,s++l8 (d5 raw (from'+40+(i:Int)))++[10]++l[i]),⟨by dsimp only;omega,by dsimp only;rw [hst];simp only [J06,J07,J10];omega,hp⟩,by dsimp only;omega,I72 ⟨le1 rfl,le1 rfl,le1 rfl,le1 rfl,le1 rfl,trivial⟩ trivial⟩
   ·rw [if_neg (A1 ht)] at hp
    refine k5 (k4 (k1 ?_))
    refine A4 (A3 (A5 Z Z) Z (A3 (A5 Z Z) Z (A3 (A5 Z Z) Z (A3 (B1 Z (.pure _ _ _ _) Z (by omega) hv) Z (A3 (B3 Z Z) Z (A3 (L0 Z Z (by omega)) Z (A3 (A6 Z Z) Z (A7 ?_))))))))
    refine k4 (k1 ?_)
    refine A4 (A3 (A5 Z Z) Z (A3 (C2 Z Z (by omega)) Z (A3 (A6 Z Z) Z (A7 ?_))))
    refine k1 ?_
    exact ⟨(i+1,s++l[i]),⟨by dsimp only;omega,by dsimp only;rw [hst,J06,J06];omega,hp⟩,by dsimp only;omega,I72 ⟨le1 rfl,le1 rfl,le1 rfl,le1 rfl,le1 rfl,trivial⟩ trivial⟩
 ·have hi':i=l.length:=by have:=A1 ht;omega
  rw [hi',J14 (Nat.le_refl _)] at hp
  refine k6 (k2 ?_)
  refine A4 (A3 (A5 Z Z) Z (A3 (A6 Z Z) Z (A7 ?_)))
  refine k1 (k10 ?_)
  exact B6 (H2 rfl rfl rfl) (by rw [hno,←hp];rfl)
def l9 (raw:List Int) (lines:Int) (p:Nat):Str :=
 if (d5 raw (500+(p:Int))).tmod 5=0 then V8 raw (600+50*(p:Int)) lines 4 else if (d5 raw (500+(p:Int))).tmod 5=1 then V8 raw 0 lines 5 else B84 (V8 raw 0 lines 5) raw (600+50*(p:Int))
def X2 (raw:List Int) (n:Nat) (lines:Int):List Str:=(List.range n).map (l9 raw lines)
theorem D48 (raw:List Int) (lines:Int) (p:Nat) (h:0≤lines):((l9 raw lines p).length:Int)≤20*lines:=by
 have h1:=B83 raw (600+50*(p:Int)) lines 4 h
 have h2:=B83 raw 0 lines 5 h
 have h3:=A50 raw (600+50*(p:Int)) (C1 (V8 raw 0 lines 5)) 0 []
 have h4:=R1 (V8 raw 0 lines 5)
 rw [U8] at h3
 simp only [J10] at h3
 unfold l9 B84
 split
 ·omega
 ·split<;>omega
theorem I29 (raw:List Int) (n:Nat) (lines:Int) (h1:n≤1024) (h2:0≤lines∧lines≤524288):FnOk Tryz.prog 61 [N6 raw,I7 n,I7 lines] (fun rs=>rs=[u9 (X2 raw n lines)]):=by
 have hfl:=B83 raw 0 lines 5 h2.1
 refine FnOk.intro Tryz.func61 (by decide) Z Z Z Z ?_
 refine k2 ?_
 refine A4 (A3 (A6 Z Z) Z (A7 ?_))
 refine k1 (k2 ?_)
 refine A4 (A3 (A5 Z Z) Z (A3 (A5 Z Z) Z (C5 (H26 raw 0 lines 5 (by omega) (by omega) (by omega)) Z Z Z ?_)));rintro _ rfl;refine A3 (A6 Z Z) Z (A7 ?_)
 refine k1 (k2 ?_)
 refine A4 (C3 (B76 13 (c:=L1) (ys:=[]) F6 Z Z Z (by first | rfl | (simp [H4,I3,Ob.free,SV.free,S1.free,TC.free]<;>rfl))) Z ?_);refine A3 (A6 Z Z) Z (A7 ?_)
 refine k1 (k2 (k2 ?_))
 refine A4 (A3 (A6 Z Z) Z (A7 ?_))
 refine k1 (k3 ?_)
 refine C7 (X:=Nat) (fun p=>([(0,B9 Int 1 G4 raw),(1,B7 n),(2,B7 lines),(7,W4 (V8 raw 0 lines 5)),(8,.s (.one (.buf 13 Str 1 L1 (X2 raw p lines)))),(9,B7 p)],[(13,.spare (X2 raw p lines).length 1 9)])) (fun p=>p≤n) (fun p=>n - p) 0 (Nat.zero_le _) (I72 ⟨le1 rfl,le1 rfl,le1 rfl,le1 rfl,le1 rfl,le1 rfl,trivial⟩ ⟨rfl,trivial⟩) ?_
 intro p hp
 dsimp only at hp ⊢
 have hst:X2 raw (p+1) lines=X2 raw p lines++[l9 raw lines p]:=by unfold X2;rw [J45,J19];rfl
 have hbl:(X2 raw p lines).length=p:=by simp [X2]
 refine k2 (k2 ?_)
 refine A4 (A3 (A5 Z Z) Z (A3 (A5 Z Z) Z (A3 (D9 Z Z) Z (A7 ?_))))
 refine k1 ?_
 refine B5 rfl (fun ht=>?_) (fun ht=>?_)
 ·have hlt:p < n:=by have:=A0 ht;omega
  refine k5 (k1 (k2 (k3 (k2 ?_))))
  refine A4 (A3 (A5 Z Z) Z (A3 (A5 Z Z) Z (A3 (C2 Z Z (by omega)) Z (C5 (E58 raw _ (by omega) (by omega)) Z Z Z ?_))));rintro _ rfl;refine A3 (F54 Z Z (by omega)) Z (A7 ?_)
  refine k1 (k3 (k2 ?_))
  refine A4 (A3 (M1 Z Z) Z (A3 (A6 Z Z) Z (A7 ?_)))
  refine k1 ?_
  refine B5 rfl (fun ht=>?_) (fun ht=>?_)
  ·have hb:l9 raw lines p=V8 raw (600+50*(p:Int)) lines 4:=by rw [l9,if_pos (A0 ht)]
   skip
   refine A4 (A3 (A5 Z Z) Z (A3 (A5 Z Z) Z (A3 (A5 Z Z) Z (A3 (B97 Z Z (by omega)) Z (A3 (C2 Z Z (by omega)) Z (A3 (A5 Z Z) Z (C5 (H26 raw _ lines 4 (by omega) (by omega) (by omega)) Z Z Z ?_)))))));rintro _ rfl;refine A3 (C8 (c:=L1) (ys:=[_]) (E0 Z Z Z Z F6) Z Z Z) Z (C3 (G9 Z Z Z (.pure _ _ _ _) (by (simp only [J07,J10];omega)) Z) Z (A3 (A6 Z Z) Z (A7 ?_)))
   refine k4 (k4 (k1 ?_))
   refine A4 (A3 (A5 Z Z) Z (A3 (C2 Z Z (by omega)) Z (A3 (A6 Z Z) Z (A7 ?_))))
   refine k1 ?_
   refine ⟨p+1,by omega,by omega,?_⟩
   rw [hst,hb]
   exact I72 ⟨le1 rfl,le1 rfl,le1 rfl,le1 rfl,le1 rfl,le1 rfl,trivial⟩ ⟨rfl,trivial⟩
  ·have h5:=A1 ht
   refine k2 ?_
   refine A4 (A3 (M1 Z Z) Z (A3 (A6 Z Z) Z (A7 ?_)))
   refine k1 ?_
   refine B5 rfl (fun ht=>?_) (fun ht=>?_)
   ·have hb:l9 raw lines p=V8 raw 0 lines 5:=by rw [l9,if_neg h5,if_pos (A0 ht)]
    skip
    refine A4 (A3 (A5 Z Z) Z (A3 (A5 Z Z) Z (A3 (C8 (c:=L1) (ys:=[_]) (E0 Z Z Z Z F6) Z Z Z) Z (C3 (G9 Z Z Z (.pure _ _ _ _) (by (simp only [J07,J10];omega)) Z) Z (A3 (A6 Z Z) Z (A7 ?_))))))
    refine k4 (k4 (k1 ?_))
    refine A4 (A3 (A5 Z Z) Z (A3 (C2 Z Z (by omega)) Z (A3 (A6 Z Z) Z (A7 ?_))))
    refine k1 ?_
    refine ⟨p+1,by omega,by omega,?_⟩
    rw [hst,hb]
    exact I72 ⟨le1 rfl,le1 rfl,le1 rfl,le1 rfl,le1 rfl,le1 rfl,trivial⟩ ⟨rfl,trivial⟩
   ·have hb:l9 raw lines p=B84 (V8 raw 0 lines 5) raw (600+50*(p:Int)):=by rw [l9,if_neg h5,if_neg (A1 ht)]
    skip
    refine A4 (A3 (A5 Z Z) Z (A3 (A5 Z Z) Z (A3 (A5 Z Z) Z (A3 (A5 Z Z) Z (A3 (B97 Z Z (by omega)) Z (A3 (C2 Z Z (by omega)) Z (C5 (near_ok _ raw _ (by omega) (by omega)) Z Z Z ?_)))))));rintro _ rfl;refine A3 (C8 (c:=L1) (ys:=[_]) (E0 Z Z Z Z F6) Z Z Z) Z (C3 (G9 Z Z Z (.pure _ _ _ _) (by (simp only [J07,J10];omega)) Z) Z (A3 (A6 Z Z) Z (A7 ?_)))
    refine k4 (k4 (k1 ?_))
    refine A4 (A3 (A5 Z Z) Z (A3 (C2 Z Z (by omega)) Z (A3 (A6 Z Z) Z (A7 ?_))))
    refine k1 ?_
    refine ⟨p+1,by omega,by omega,?_⟩
    rw [hst,hb]
    exact I72 ⟨le1 rfl,le1 rfl,le1 rfl,le1 rfl,le1 rfl,le1 rfl,trivial⟩ ⟨rfl,trivial⟩
 ·have hp':p=n:=by have:=A1 ht;omega
  refine k6 (k2 ?_)
  refine A4 (A3 (A5 Z Z) Z (A3 (A6 Z Z) Z (A7 ?_)))
  refine k1 (k10 ?_)
  exact B6 (H2 rfl rfl rfl) (by rw [hp'])
theorem C17 (r:Row) (c:Int) (hr:0≤r.Marks∧r.Marks < 4294967296):FnOk Tryz.prog 50 [pRow r,I7 c] (fun rs=>rs=[K7 (U4 r c)]):=by
 refine FnOk.intro Tryz.func50 (by decide) Z Z Z Z ?_
 refine k2 ?_
 refine A4 (C3 (Q0 2 Z Z Z) Z (A3 (A6 Z Z) Z (A7 ?_)))
 refine k1 (k2 (k3 (k2 ?_)))
 refine A4 (A3 (A5 Z Z) Z (A3 (M1 Z Z) Z (A3 (A6 Z Z) Z (A7 ?_))))
 refine k1 ?_
 refine B5 rfl (fun ht=>?_) (fun ht=>?_)
 ·have h:=A0 ht
  refine k2 ?_
  refine A4 (A3 (A8 Z) Z (A3 (A9 Z Z Z) Z (A3 (K5 Z) Z (A3 (A6 Z Z) Z (A7 ?_)))))
  refine k1 (k10 (k12 (k11 ?_)))
  exact B6 (H2 rfl rfl rfl) (by rw [U4,if_pos h])
 ·have h:=A1 ht
  refine k2 ?_
  refine A4 (A3 (A5 Z Z) Z (A3 (D9 Z Z) Z (A3 (A5 Z Z) Z (B4 Z Z Z Z (fun hg=>by rw [hg];exact A5 Z Z) ?_))));refine B4 Z Z Z Z (fun hg=>by rw [hg];exact A80 Z Z) ?_;refine A3 (B8 Z (fun h=>by first | rfl | (rw [h];rfl)) (fun h=>by first | rfl | (rw [h];rfl))) Z ?_;refine A3 (A6 Z Z) Z (A7 ?_)
  refine k1 ?_
  refine B5 rfl (fun ht=>?_) (fun ht=>?_)
  ·have h2:=A0 (or_pick.symm.trans ht)
   refine k2 ?_
   refine A4 (A3 (A6 Z Z) Z (A7 ?_))
   refine k1 (k10 (k12 (k11 ?_)))
   exact B6 (H2 rfl rfl rfl) (by rw [U4,if_neg h,if_pos h2])
  ·have h2:=A1 (or_pick.symm.trans ht)
   have hc:0≤c∧c < 32:=by omega
   refine k5 (k2 ?_)
   refine A4 (A3 (A8 Z) Z (A3 (A9 Z Z Z) Z (A3 (A5 Z Z) Z (A3 (M9 Z) Z (A3 (A28 Z Z (by (rw [A61 (by omega)];omega))) Z ?_)))));refine A3 (V7 Z Z Z (fun _=>rfl)) Z (A3 (M1 Z Z) Z (A3 (A8 Z) Z (A3 (A9 Z Z Z) Z (A3 (H17 Z Z TyBool.out) Z (A3 (A6 Z Z) Z (A7 ?_))))))
   refine k1 (k10 ?_)
   refine B6 (H2 Z Z Z) ?_
   have h3:0≤r.Marks / 2 ^ c.toNat:=Int.ediv_nonneg hr.1 (Int.pow_nonneg (by decide))
   have h4:r.Marks / 2 ^ c.toNat≤r.Marks:=Int.ediv_le_self _ hr.1
   rw [U4,if_neg h,if_neg h2,A61 (by omega),E73 r.Marks c (by omega),C24 _ (by omega)]
   rfl
theorem F80 (rows:List Row) (c:Int) (hr:K4 rows) (hl:rows.length≤536870911):FnOk Tryz.prog 145 [pRows rows,I7 c] (fun rs=>rs=[u9 (J0 rows c)]):=by
 refine FnOk.intro Tryz.func145 (by decide) Z Z Z Z ?_
 refine k2 ?_
 refine A4 (A3 (A6 Z Z) Z (A7 ?_))
 refine k1 (k2 ?_)
 refine A4 (C3 (T6 5 _ L1 Z) Z (A7 ?_))
 refine k1 (k2 (k2 ?_))
 refine A4 (A3 (A6 Z Z) Z (A7 ?_))
 refine k1 (k3 ?_)
 refine C7 (X:=Nat) (fun i=>([(0,B9 Row 3 rowC rows),(1,B7 c),(5,.s (.one (.buf 5 Str 1 L1 (J0 (rows.take i) c)))),(6,B7 i)],[(5,.spare (J0 (rows.take i) c).length 1 9)])) (fun i=>i≤rows.length) (fun i=>rows.length - i) 0 (Nat.zero_le _) (I72 ⟨le1 rfl,le1 rfl,le1 rfl,le1 rfl,trivial⟩ ⟨rfl,trivial⟩) ?_
 intro i hi
 dsimp only at hi ⊢
 have hcl:=B45 (rows.take i) c
 rw [J20] at hcl
 refine k2 (k2 ?_)
 refine A4 (A3 (A5 Z Z) Z (A3 (A5 Z Z) Z (A3 (D5 Z (.pure _ _ _ _)) Z (A3 (D9 Z Z) Z (A7 ?_)))))
 refine k1 ?_
 refine B5 rfl (fun ht=>?_) (fun ht=>?_)
 ·have hlt:i < rows.length:=by have:=A0 ht;omega
  have hv:rows[i]?=some rows[i]:=by simp [hlt]
  have hst:J0 (rows.take (i+1)) c=J0 (rows.take i) c++(if U4 rows[i] c=true then [rows[i].Text] else []):=by
   unfold J0
   rw [List.take_add_one,hv,Option.toList_some,J48,J19]
   congr 1
   by_cases h:U4 rows[i] c=true<;>simp [h]
  refine k5 (k1 (k2 (k3 (k2 ?_))))
  refine A4 (A3 (A5 Z Z) Z (A3 (A5 Z Z) Z (A3 (B1 Z (.pure _ _ _ _) Z (by omega) hv) Z (A3 (E5 Z Z) Z (A3 (A5 Z Z) Z (C5 (C17 rows[i] c (hr _ (J15 hlt))) Z Z Z ?_))))));rintro _ rfl;refine A7 ?_
  refine k1 ?_
  refine B5 rfl (fun ht=>?_) (fun ht=>?_)
  ·rw [ht,if_pos rfl] at hst
   skip
   refine A4 (A3 (A5 Z Z) Z (A3 (A5 Z Z) Z (A3 (A5 Z Z) Z (A3 (B1 Z (.pure _ _ _ _) Z (by omega) hv) Z (A3 (F1 Z) Z (A3 (B3 Z Z) Z (A3 (C8 (c:=L1) (ys:=[_]) (E0 Z Z Z Z F6) Z Z Z) Z (C3 (G9 Z Z Z (.pure _ _ _ _) (by (simp only [J07,J10];omega)) Z) Z (A3 (A6 Z Z) Z (A7 ?_))))))))))
   refine k4 (k1 ?_)
   refine A4 (A3 (A5 Z Z) Z (A3 (C2 Z Z (by omega)) Z (A3 (A6 Z Z) Z (A7 ?_))))
   refine k1 ?_
   refine ⟨i+1,by omega,by omega,?_⟩
   rw [hst]
   exact I72 ⟨le1 rfl,le1 rfl,le1 rfl,le1 rfl,trivial⟩ ⟨rfl,trivial⟩
  ·rw [ht,if_neg (by decide),J25] at hst
   refine k5 (k4 (k1 ?_))
   refine A4 (A3 (A5 Z Z) Z (A3 (C2 Z Z (by omega)) Z (A3 (A6 Z Z) Z (A7 ?_))))
   refine k1 ?_
   refine ⟨i+1,by omega,by omega,?_⟩
   rw [hst]
   exact I72 ⟨le1 rfl,le1 rfl,le1 rfl,le1 rfl,trivial⟩ ⟨rfl,trivial⟩
 ·have hi':i=rows.length:=by have:=A1 ht;omega
  refine k6 (k2 ?_)
  refine A4 (A3 (A5 Z Z) Z (A3 (A6 Z Z) Z (A7 ?_)))
  refine k1 (k10 ?_)
  exact B6 (H2 rfl rfl rfl) (by rw [hi',J23])
theorem G61 (rows:List Row) (n:Int) (hn:0≤n∧n≤32) (hr:K4 rows):FnOk Tryz.prog 159 [pRows rows,I7 n] (fun rs=>rs=[K7 (M3 rows n.toNat)]):=by
 refine FnOk.intro Tryz.func159 (by decide) Z Z Z Z ?_
 refine A40 (t:=0) rfl (.pure _ _ _ _) fun hlen=>?_
 refine k2 ?_
 refine A4 (A3 (A6 Z Z) Z (A7 ?_))
 refine k1 (k2 (k2 ?_))
 refine A4 (A3 (A6 Z Z) Z (A7 ?_))
 refine k1 (k3 ?_)
 refine C7 (X:=Nat) (fun i=>([(0,B9 Row 3 rowC rows),(1,B7 n),(5,B7 i)],[])) (fun i=>i≤rows.length∧M3 rows n.toNat=M3 (rows.drop i) n.toNat) (fun i=>rows.length - i) 0 (by simp) (I72 ⟨le1 rfl,le1 rfl,le1 rfl,trivial⟩ trivial) ?_
 rintro i ⟨hi,hp⟩
 dsimp only at hi hp ⊢
 refine k2 (k2 ?_)
 refine A4 (A3 (A5 Z Z) Z (A3 (A5 Z Z) Z (A3 (D5 Z (.pure _ _ _ _)) Z (A3 (D9 Z Z) Z (A7 ?_)))))
 refine k1 ?_
 refine B5 rfl (fun ht=>?_) (fun ht=>?_)
 ·have hlt:i < rows.length:=by have:=A0 ht;omega
  have hv:rows[i]?=some rows[i]:=by simp [hlt]
  have hm:=hr _ (J15 hlt)
  rw [J11 hlt,A60] at hp
  have hmk:R8 n.toNat rows[i]=!(if decide ((IntKind.u64.wrap rows[i].Marks).fdiv (2 ^ min (IntKind.u64.wrap n).toNat IntKind.u64.bits)≠0)=true then true else if rows[i].Lost=true then decide (rows[i].Marks=0) else false):=by
   rw [A61 (by omega),A61 (n:=n) (by omega),shr64' _ _ (by omega),R8]
   by_cases h1:rows[i].Marks / 2 ^ n.toNat=0
   ·cases h2:rows[i].Lost<;>simp [h1]
    by_cases h3:rows[i].Marks=0<;>simp [h3]
   ·simp [h1]
  refine k5 (k1 (k2 (k3 (k2 ?_))))
  refine A4 (A3 (A5 Z Z) Z (A3 (A5 Z Z) Z (A3 (B1 Z (.pure _ _ _ _) Z (by omega) hv) Z (A3 (F1 Z) Z (A3 (B3 Z Z) Z (A3 (M9 Z) Z (A3 (A5 Z Z) Z (A3 (M9 Z) Z (A3 (A28 Z Z (by (rw [A61 (by omega)];omega))) Z ?_)))))))));refine A3 (O3 Z Z) Z (A3 (A5 Z Z) Z (B4 Z Z Z Z (fun hg=>by rw [hg];exact A5 Z Z) ?_));refine B4 Z Z Z Z (fun hg=>by rw [hg];exact A5 Z Z) ?_;refine B4 Z Z Z Z (fun hg=>by have hq:=hg;(try simp at hq);rw [hg];exact B1 Z (.pure _ _ _ _) Z (by omega) hv) ?_;refine B4 Z Z Z Z (fun hg=>by rw [hg];exact F1 Z) ?_;refine B4 Z Z Z Z (fun hg=>by rw [hg];exact B3 Z Z) ?_;refine B4 Z Z Z Z (fun hg=>by rw [hg];exact A5 Z Z) ?_;refine G7 Z Z Z (.gd (.val _)) Z (fun hg=>by obtain ⟨hg1,hg2⟩:=L5 hg;(try rw [hg1]);(try rw [hg2]);exact A5 Z Z) ?_;refine G7 Z Z Z (.gd (.val _)) Z (fun hg=>by obtain ⟨hg1,hg2⟩:=L5 hg;(try rw [hg1]);(try rw [hg2]);exact A5 Z Z) ?_;refine G7 Z Z Z (.gd (.val _)) Z (fun hg=>by have hq:=hg;(try simp at hq);obtain ⟨hg1,hg2⟩:=L5 hg;(try rw [hg1]);(try rw [hg2]);exact B1 Z (.pure _ _ _ _) Z (by omega) hv) ?_;refine G7 Z Z Z (.gd (.val _)) Z (fun hg=>by obtain ⟨hg1,hg2⟩:=L5 hg;(try rw [hg1]);(try rw [hg2]);exact F1 Z) ?_;refine G7 Z Z Z (.gd (.val _)) Z (fun hg=>by obtain ⟨hg1,hg2⟩:=L5 hg;(try rw [hg1]);(try rw [hg2]);exact B3 Z Z) ?_;refine G7 Z Z Z (.gd (.val _)) Z (fun hg=>by obtain ⟨hg1,hg2⟩:=L5 hg;(try rw [hg1]);(try rw [hg2]);exact M1 Z Z) ?_;refine B4 Z Z Z Z (fun hg=>by rw [hg];exact B8 Z (fun h=>by first | rfl | (rw [h];rfl)) (fun h=>by first | rfl | (rw [h];rfl))) ?_;refine A3 (B8 Z (fun h=>by first | rfl | (rw [h];rfl)) (fun h=>by first | rfl | (rw [h];rfl))) Z ?_;refine A7 ?_
  refine k1 ?_
  refine B5 rfl (fun ht=>?_) (fun ht=>?_)
  ·rw [hmk,ht] at hp
   refine k2 ?_
   refine A4 (A3 (A6 Z Z) Z (A7 ?_))
   refine k1 (k10 (k12 (k11 (k11 (k12 (k11 ?_))))))
   exact B6 (H2 rfl rfl rfl) (by rw [hp];rfl)
  ·rw [hmk,ht] at hp
   refine k5 (k4 (k1 ?_))
   refine A4 (A3 (A5 Z Z) Z (A3 (C2 Z Z (by omega)) Z (A3 (A6 Z Z) Z (A7 ?_))))
   refine k1 ?_
   exact ⟨i+1,⟨by omega,by rw [hp];rfl⟩,by omega,I72 ⟨le1 rfl,le1 rfl,le1 rfl,trivial⟩ trivial⟩
 ·have hi':i=rows.length:=by have:=A1 ht;omega
  subst hi'
  refine k6 (k2 ?_)
  refine A4 (A3 (A6 Z Z) Z (A7 ?_))
  refine k1 (k10 ?_)
  exact B6 (H2 rfl rfl rfl) (by rw [hp];simp [M3])
theorem G62 (rows:List Row) (n:Int) (hn:0≤n∧n≤32) (hr:K4 rows) (hl:rows.length≤536870911) (hx:O0 rows≤536870912):FnOk Tryz.prog 160 [pRows rows,I7 n] (fun rs=>rs=[K7 (S7 rows n.toNat)]):=by
 obtain ⟨n,rfl⟩:∃m:Nat,n=m:=⟨n.toNat,by omega⟩
 rw [J12]
 refine FnOk.intro Tryz.func160 (by decide) Z Z Z Z ?_
 refine k2 ?_
 refine A4 (A3 (A6 Z Z) Z (A7 ?_))
 refine k1 (k2 (k2 ?_))
 refine A4 (A3 (A6 Z Z) Z (A7 ?_))
 refine k1 (k3 ?_)
 refine C7 (X:=Nat) (fun i=>([(0,B9 Row 3 rowC rows),(1,B7 n),(5,B7 i)],[])) (fun i=>i≤rows.length∧rows.all (fun r=>I5 r.Text)=(rows.drop i).all (fun r=>I5 r.Text)) (fun i=>rows.length - i) 0 (by simp) (I72 ⟨le1 rfl,le1 rfl,le1 rfl,trivial⟩ trivial) ?_
 rintro i ⟨hi,hp⟩
 dsimp only at hi hp ⊢
 refine k2 (k2 ?_)
 refine A4 (A3 (A5 Z Z) Z (A3 (A5 Z Z) Z (A3 (D5 Z (.pure _ _ _ _)) Z (A3 (D9 Z Z) Z (A7 ?_)))))
 refine k1 ?_
 refine B5 rfl (fun ht=>?_) (fun ht=>?_)
 ·have hlt:i < rows.length:=by have:=A0 ht;omega
  have hv:rows[i]?=some rows[i]:=by simp [hlt]
  have htl:=C23 rows _ (J15 hlt)
  rw [J11 hlt,List.all_cons] at hp
  refine k5 (k1 (k2 (k3 (k2 ?_))))
  refine A4 (A3 (A5 Z Z) Z (A3 (A5 Z Z) Z (A3 (B1 Z (.pure _ _ _ _) Z (by omega) hv) Z (A3 (F1 Z) Z (A3 (B3 Z Z) Z (C5 (line_ok rows[i].Text (by omega)) Z Z Z ?_))))));rintro _ rfl;refine A3 (K5 Z) Z (A7 ?_)
  refine k1 ?_
  refine B5 rfl (fun ht=>?_) (fun ht=>?_)
  ·have h:I5 rows[i].Text=false:=by simpa using ht
   rw [h] at hp
   refine k2 ?_
   refine A4 (A3 (A6 Z Z) Z (A7 ?_))
   refine k1 (k10 (k12 (k11 (k11 (k12 (k11 ?_))))))
   exact B6 (H2 rfl rfl rfl) (by rw [S7,hp];rfl)
  ·have h:I5 rows[i].Text=true:=by simpa using ht
   rw [h] at hp
   refine k5 (k4 (k1 ?_))
   refine A4 (A3 (A5 Z Z) Z (A3 (C2 Z Z (by omega)) Z (A3 (A6 Z Z) Z (A7 ?_))))
   refine k1 ?_
   exact ⟨i+1,⟨by omega,by rw [hp];rfl⟩,by omega,I72 ⟨le1 rfl,le1 rfl,le1 rfl,trivial⟩ trivial⟩
 ·have hi':i=rows.length:=by have:=A1 ht;omega
  rw [hi',J14 (Nat.le_refl _),List.all_nil] at hp
  refine k6 (k2 (k2 ?_))
  refine A4 (A3 (A6 Z Z) Z (A7 ?_))
  refine k1 (k3 ?_)
  refine C7 (X:=Nat) (fun k=>([(0,B9 Row 3 rowC rows),(1,B7 n),(6,B7 ((k:Int) - 1))],[])) (fun k=>k≤n+1∧(List.range (n+1)).all (fun k=>U3 (J0 rows ((k:Int) - 1)))=((List.range (n+1)).drop k).all (fun k=>U3 (J0 rows ((k:Int) - 1)))) (fun k=>n+1 - k) 0 (by simp) (I72 ⟨le1 rfl,le1 rfl,le1 rfl,trivial⟩ trivial) ?_
  rintro k ⟨hk,hq⟩
  dsimp only at hk hq ⊢
  refine k2 (k2 ?_)
  refine A4 (A3 (A5 Z Z) Z (A3 (A5 Z Z) Z (A3 (D9 Z Z) Z (A7 ?_))))
  refine k1 ?_
  refine B5 rfl (fun ht=>?_) (fun ht=>?_)
  ·have hlt:k < n+1:=by have:=A0 ht;omega
   have hfl:=G89 rows ((k:Int) - 1)
   rw [J11 (by simpa using hlt),List.all_cons,List.getElem_range] at hq
   refine k5 (k1 (k2 (k3 (k2 ?_))))
   refine A4 (A3 (A5 Z Z) Z (A3 (A5 Z Z) Z (C5 (F80 rows _ hr hl) Z Z Z ?_)));rintro _ rfl;refine C5 (list_ok _ (fun s hs=>by obtain ⟨r,hr1,rfl⟩:=H91 rows _ s hs;have:=C23 rows r hr1;omega)) Z Z Z ?_;rintro _ rfl;refine A3 (K5 Z) Z (A7 ?_)
   refine k1 ?_
   refine B5 rfl (fun ht=>?_) (fun ht=>?_)
   ·have h:U3 (J0 rows ((k:Int) - 1))=false:=by simpa using ht
    rw [h] at hq
    refine k2 ?_
    refine A4 (A3 (A6 Z Z) Z (A7 ?_))
    refine k1 (k10 (k12 (k11 (k11 (k12 (k11 ?_))))))
    exact B6 (H2 rfl rfl rfl) (by rw [S7,hp,hq];rfl)
   ·have h:U3 (J0 rows ((k:Int) - 1))=true:=by simpa using ht
    rw [h] at hq
    refine k5 (k4 (k1 ?_))
    refine A4 (A3 (A5 Z Z) Z (A3 (C2 Z Z (by omega)) Z (A3 (A6 Z Z) Z (A7 ?_))))
    refine k1 ?_
    exact ⟨k+1,⟨by omega,by rw [hq];rfl⟩,by omega,I72 ⟨le1 rfl,le1 rfl,leE rfl (by first | (simp;done) | (simp;omega)),trivial⟩ trivial⟩
  ·have hk':k=n+1:=by have:=A1 ht;omega
   rw [hk',J14 (by simp),List.all_nil] at hq
   refine k6 (k2 ?_)
   refine A4 (A3 (A6 Z Z) Z (A7 ?_))
   refine k1 (k10 ?_)
   exact B6 (H2 rfl rfl rfl) (by rw [S7,hp,hq];rfl)
theorem G63 (t:Table) (hr:K4 t.Rows) (hl:t.Rows.length≤536870911) (hx:O0 t.Rows≤536870912):FnOk Tryz.prog 144 [pTable t] (fun rs=>rs=[I7 (I2 t)]):=by
 refine FnOk.intro Tryz.func144 (by decide) Z Z Z Z ?_
 refine k2 ?_
 refine A4 (C3 (Q0 1 Z Z Z) Z (A3 (A6 Z Z) Z (A7 ?_)))
 refine k1 (k2 (k3 (k2 ?_)))
 refine A4 (A3 (A8 Z) Z (A3 (A9 Z Z Z) Z (A3 (D9 Z Z) Z (A3 (A5 Z Z) Z (B4 Z Z Z Z (fun hg=>by rw [hg];exact A8 Z) ?_)))));refine B4 Z Z Z Z (fun hg=>by rw [hg];exact A9 Z Z Z) ?_;refine B4 Z Z Z Z (fun hg=>by rw [hg];exact P6 Z Z) ?_;refine A3 (B8 Z (fun h=>by first | rfl | (rw [h];rfl)) (fun h=>by first | rfl | (rw [h];rfl))) Z ?_;refine A3 (A6 Z Z) Z (A7 ?_)
 refine k1 ?_
 refine B5 rfl (fun ht=>?_) (fun ht=>?_)
 ·have h:=A0 (or_pick.symm.trans ht)
  refine k2 ?_
  refine A4 (A3 (A6 Z Z) Z (A7 ?_))
  refine k1 (k10 (k12 (k11 ?_)))
  exact B6 (H2 rfl rfl rfl) (by rw [I2,if_pos h])
 ·have h:=A1 (or_pick.symm.trans ht)
  refine k2 ?_
  refine A4 (A3 (A8 Z) Z (A3 (A9 Z Z Z) Z (A3 (A8 Z) Z (A3 (A9 Z Z Z) Z (C5 (G61 t.Rows t.Parents (by omega) hr) Z Z Z ?_)))));rintro _ rfl;refine A3 (K5 Z) Z (A3 (A6 Z Z) Z (A7 ?_))
  refine k1 ?_
  refine B5 rfl (fun ht=>?_) (fun ht=>?_)
  ·have h2:M3 t.Rows t.Parents.toNat=false:=by simpa using ht
   refine k2 ?_
   refine A4 (A3 (A6 Z Z) Z (A7 ?_))
   refine k1 (k10 (k12 (k11 ?_)))
   exact B6 (H2 rfl rfl rfl) (by rw [I2,if_neg h,if_pos h2])
  ·have h2:M3 t.Rows t.Parents.toNat=true:=by simpa using ht
   refine k2 ?_
   refine A4 (A3 (A8 Z) Z (A3 (A9 Z Z Z) Z (A3 (A8 Z) Z (A3 (A9 Z Z Z) Z (C5 (G62 t.Rows t.Parents (by omega) hr hl hx) Z Z Z ?_)))));rintro _ rfl;refine A3 (K5 Z) Z (A3 (A6 Z Z) Z (A7 ?_))
   refine k1 ?_
   refine B5 rfl (fun ht=>?_) (fun ht=>?_)
   ·have h3:S7 t.Rows t.Parents.toNat=false:=by simpa using ht
    refine k2 ?_
    refine A4 (A3 (A6 Z Z) Z (A7 ?_))
    refine k1 (k10 (k12 (k11 ?_)))
    exact B6 (H2 rfl rfl rfl) (by rw [I2,if_neg h,if_neg (by simp [h2]),if_pos h3])
   ·have h3:S7 t.Rows t.Parents.toNat=true:=by simpa using ht
    refine k5 (k2 ?_)
    refine A4 (A3 (A6 Z Z) Z (A7 ?_))
    refine k1 (k10 ?_)
    exact B6 (H2 rfl rfl rfl) (by rw [I2,if_neg h,if_neg (by simp [h2]),if_neg (by simp [h3])])
theorem E59 (s:Str):(ByteArray.mk s.toArray).size=s.length:=by simp [ByteArray.size]
theorem F18 (s p:Str) (hs:s.length≤1099511627776):FnOk Tryz.prog 200 [P5 s,P5 p] (fun rs=>rs=[K7 (Lib.hasSuffix s p)]) :=
 I78 (xs:=[.string ⟨s.toArray⟩,.string ⟨p.toArray⟩]) ⟨_,rfl,rfl,rfl⟩ rfl fun w=>by simpa using Tryz.strings_HasSuffix ⟨s.toArray⟩ ⟨p.toArray⟩ w (by rw [E59];omega)
theorem E18 (s p:Str) (hs:s.length≤1099511627776):FnOk Tryz.prog 225 [P5 s,P5 p] (fun rs=>rs=[P5 (Lib.trimSuffix s p)]) :=
 I78 (xs:=[.string ⟨s.toArray⟩,.string ⟨p.toArray⟩]) ⟨_,rfl,rfl,rfl⟩ rfl fun w=>by simpa using Tryz.strings_TrimSuffix ⟨s.toArray⟩ ⟨p.toArray⟩ w (by rw [E59];omega)
theorem F19 (s:Str) (c:UInt8):FnOk Tryz.prog 209 [P5 s,P5 [c]] (fun rs=>rs=[K7 (decide (0≤Lib.indexByte s c))]) :=
 I78 (xs:=[.string ⟨s.toArray⟩,.string ⟨#[c]⟩]) ⟨_,rfl,rfl,rfl⟩ rfl fun w=>by simpa using Tryz.strings_Contains_one ⟨s.toArray⟩ c w
theorem B41 (s:Str) (hs:s.length≤1099511627776):FnOk Tryz.prog 137 [P5 s] (fun rs=>rs=[K7 (ended s)]):=by
 refine FnOk.intro Tryz.func137 (by decide) Z Z Z Z ?_
 refine k2 ?_
 refine A4 (A3 (A6 Z Z) Z (A7 ?_))
 refine k1 (k2 ?_)
 refine A4 (A3 (A5 Z Z) Z (C5 (F18 s [10] hs) Z Z Z ?_));rintro _ rfl;refine A3 (A6 Z Z) Z (A7 ?_)
 rw [C25]
 refine k1 (k10 ?_)
 exact B6 (H2 rfl rfl rfl) rfl
theorem I30 (s:Str) (hs:s.length≤1099511627776):FnOk Tryz.prog 210 [P5 s] (fun rs=>rs=[P5 (B17 s)]):=by
 refine FnOk.intro Tryz.func210 (by decide) Z Z Z Z ?_
 refine k2 ?_
 refine A4 (A3 (A6 Z Z) Z (A7 ?_))
 refine k1 (k2 ?_)
 refine A4 (A3 (A5 Z Z) Z (C5 (E18 s [10] hs) Z Z Z ?_));rintro _ rfl;refine A3 (A6 Z Z) Z (A7 ?_)
 rw [E27]
 refine k1 (k10 ?_)
 exact B6 (H2 rfl rfl rfl) rfl
theorem F81 (r:Row) (c:Int) (hr:0≤r.Marks∧r.Marks < 4294967296):FnOk Tryz.prog 177 [pRow r,I7 c] (fun rs=>rs=[K7 (U4 r c)]):=by
 refine FnOk.intro Tryz.func177 (by decide) Z Z Z Z ?_
 refine k2 ?_
 refine A4 (C3 (Q0 2 Z Z Z) Z (A3 (A6 Z Z) Z (A7 ?_)))
 refine k1 (k2 (k2 ?_))
 refine A4 (A3 (A5 Z Z) Z (A3 (D9 Z Z) Z (A3 (A5 Z Z) Z (B4 Z Z Z Z (fun hg=>by rw [hg];exact A5 Z Z) ?_))));refine B4 Z Z Z Z (fun hg=>by rw [hg];exact A80 Z Z) ?_;refine A3 (B8 Z (fun h=>by first | rfl | (rw [h];rfl)) (fun h=>by first | rfl | (rw [h];rfl))) Z ?_;refine A7 ?_
 refine k1 ?_
 refine B5 rfl (fun ht=>?_) (fun ht=>?_)
 ·have h:=A0 (or_pick.symm.trans ht)
  refine k2 ?_
  refine A4 (A3 (A6 Z Z) Z (A7 ?_))
  refine k1 (k10 (k11 ?_))
  exact B6 (H2 rfl rfl rfl) (by rw [U4,if_neg (by omega),if_pos (by omega)])
 ·have h:=A1 (or_pick.symm.trans ht)
  refine k5 (k1 (k2 (k2 ?_)))
  refine A4 (A3 (A5 Z Z) Z (A3 (D9 Z Z) Z (A7 ?_)))
  refine k1 ?_
  refine B5 rfl (fun ht=>?_) (fun ht=>?_)
  ·have h2:=A0 ht
   refine k2 ?_
   refine A4 (A3 (A8 Z) Z (A3 (A9 Z Z Z) Z (A3 (K5 Z) Z (A3 (A6 Z Z) Z (A7 ?_)))))
   refine k1 (k10 (k11 ?_))
   exact B6 (H2 rfl rfl rfl) (by rw [U4,if_pos (by omega)])
  ·have h2:=A1 ht
   refine k5 (k1 (k2 ?_))
   refine D8 (by kernel_rfl) (by kernel_rfl) (B0 (A8 Z) Z Z (B0 (A9 Z Z Z) Z Z (B0 (A8 Z) Z Z (B0 (A9 Z Z Z) Z Z (B0 (A5 Z Z) Z Z (B0 (A28 Z Z (by omega)) Z Z (B0 (V7 Z Z Z (fun _=>rfl)) Z Z (B0 (M1 Z Z) Z Z (B0 (H17 Z Z TyBool.out) Z Z (B0 (A6 Z Z) Z Z (O5 ?_)))))))))))
   refine k1 (k10 ?_)
   refine B6 (H2 Z Z Z) ?_
   have h3:0≤r.Marks / 2 ^ c.toNat:=Int.ediv_nonneg hr.1 (Int.pow_nonneg (by decide))
   have h4:r.Marks / 2 ^ c.toNat≤r.Marks:=Int.ediv_le_self _ hr.1
   rw [U4,if_neg (by omega),if_neg (by omega),E73 r.Marks c (by omega),C24 _ (by omega),Bool.beq_comm]
   rfl
theorem D49 (r:Row) (n:Int) (hn:1≤n∧n≤32) (hr:0≤r.Marks∧r.Marks < 4294967296):FnOk Tryz.prog 155 [pRow r,I7 n] (fun rs=>rs=[K7 (R8 n.toNat r)]):=by
 refine FnOk.intro Tryz.func155 (by decide) Z Z Z Z ?_
 refine k2 ?_
 refine A4 (C3 (Q0 2 Z Z Z) Z (A3 (A6 Z Z) Z (A7 ?_)))
 refine k1 (k2 ?_)
 refine A4 (A3 (A8 Z) Z (A3 (A9 Z Z Z) Z (A3 (A28 Z Z (by omega)) Z (A3 (A5 Z Z) Z (A3 (P9 Z Z (by omega)) Z (A3 (A28 Z Z (by omega)) Z (A3 (M1 Z Z) Z (A3 (A5 Z Z) Z (B4 Z Z Z Z (fun hg=>by rw [hg];exact A8 Z) ?_)))))))));refine B4 Z Z Z Z (fun hg=>by rw [hg];exact A9 Z Z Z) ?_;refine B4 Z Z Z Z (fun hg=>by rw [hg];exact K5 Z) ?_;refine B4 Z Z Z Z (fun hg=>by rw [hg];exact A5 Z Z) ?_;refine G7 Z Z Z (.gd (.val _)) Z (fun hg=>by obtain ⟨hg1,hg2⟩:=L5 hg;(try rw [hg1]);(try rw [hg2]);exact A8 Z) ?_;refine G7 Z Z Z (.gd (.val _)) Z (fun hg=>by obtain ⟨hg1,hg2⟩:=L5 hg;(try rw [hg1]);(try rw [hg2]);exact A9 Z Z Z) ?_;refine G7 Z Z Z (.gd (.val _)) Z (fun hg=>by obtain ⟨hg1,hg2⟩:=L5 hg;(try rw [hg1]);(try rw [hg2]);exact O3 Z Z) ?_;refine B4 Z Z Z Z (fun hg=>by rw [hg];exact B8 Z (fun h=>by first | rfl | (rw [h];rfl)) (fun h=>by first | rfl | (rw [h];rfl))) ?_;refine A3 (B8 Z (fun h=>by first | rfl | (rw [h];rfl)) (fun h=>by first | rfl | (rw [h];rfl))) Z ?_;refine A3 (A6 Z Z) Z (A7 ?_)
 refine k1 (k10 ?_)
 refine B6 (H2 Z Z Z) ?_
 have h0:0≤r.Marks / 2 ^ n.toNat:=Int.ediv_nonneg hr.1 (Int.pow_nonneg (by decide))
 have e1:r.Marks.fdiv (2 ^ (min (1:Int).toNat IntKind.u32.bits))=r.Marks / 2:=by
  rw [E73 r.Marks 1 (by omega)];rfl
 have e2:(r.Marks / 2).fdiv (2 ^ (min (n - 1).toNat IntKind.u32.bits))=r.Marks / 2 ^ n.toNat:=by
  rw [E73 (r.Marks / 2) (n - 1) (by omega),Int.ediv_ediv_of_nonneg (by decide)]
  have:n.toNat=(n - 1).toNat+1:=by omega
  rw [this,Int.pow_succ,Int.mul_comm]
 have e3:(if decide ((r.Marks.fdiv (2 ^ (min (1:Int).toNat IntKind.u32.bits))).fdiv (2 ^ (min (n - 1).toNat IntKind.u32.bits))=0)=true then (if (!r.Lost)=true then true else decide (r.Marks≠0)) else false)=R8 n.toNat r:=by
  rw [e1,e2,R8]
  cases r.Lost<;>by_cases hz:r.Marks / 2 ^ n.toNat=0<;>by_cases hy:r.Marks=0<;>simp [hz,hy]
 rw [←e3]
theorem A51 (r:Row) (hs:r.Text.length≤1099511627776):FnOk Tryz.prog 157 [pRow r] (fun rs=>rs=[K7 (I5 r.Text)]):=by
 refine FnOk.intro Tryz.func157 (by decide) Z Z Z Z ?_
 refine k2 ?_
 refine A4 (C3 (Q0 1 Z Z Z) Z (A3 (A6 Z Z) Z (A7 ?_)))
 refine k1 (k2 ?_)
 refine A4 (A3 (A8 Z) Z (A3 (A9 Z Z Z) Z (A3 (B33 Z Z) Z (A3 (A5 Z Z) Z (B4 Z Z Z Z (fun hg=>by rw [hg];exact A8 Z) ?_)))));refine B4 Z Z Z Z (fun hg=>by rw [hg];exact A9 Z Z Z) ?_;refine B4 Z Z Z Z (fun hg=>by have hq:=hg;(try simp at hq);rw [hg];exact P1 (I30 r.Text hs) Z Z) ?_;refine B4 Z Z Z Z (fun hg=>by have hq:=hg;(try simp at hq);rw [hg];exact P1 (F19 (B17 r.Text) 10) Z Z) ?_;refine B4 Z Z Z Z (fun hg=>by rw [hg];exact K5 Z) ?_;refine A3 (B8 Z (fun h=>by first | rfl | (rw [h];rfl)) (fun h=>by first | rfl | (rw [h];rfl))) Z ?_;refine A3 (A6 Z Z) Z (A7 ?_)
 refine k1 (k10 ?_)
 refine B6 (H2 Z Z Z) ?_
 rw [←H93]
theorem H27 (r:Row) (res:Bool) (par:Int) (hs:r.Text.length≤1099511627776) :
  FnIo Tryz.prog 158 [pRow r] [.v (.bool res),.v (.int .u32 par)] (fun rs cs=>rs=[K7 (B69 res par r)]∧cs=[.v (.bool (B19 res r)),.v (.int .u32 (B20 par r))]):=by
 refine FnIo.intro Tryz.func158 (by decide) Z Z Z Z ?_
 refine k2 ?_
 refine A4 (C3 (Q0 3 Z Z Z) Z (A3 (A6 Z Z) Z (A7 ?_)))
 refine k1 (k2 ?_)
 refine A4 (A3 (A8 Z) Z (A3 (A9 Z Z Z) Z (A3 (A6 Z Z) Z (A7 ?_))))
 refine K2 ?_
 refine t7 [(3,.s (.one (.ref 3 0))),(0,.s (.one (.ref self 0))),(5,J4 (.int .u32 (E29 r)))] [(3,.box (pRow r).s1.cells),(self,.box [.p (.v (.bool res)),.p (.v (.int .u32 par))])] ?_ ?_
 ·refine k2 ?_
  refine A4 (A3 (A8 Z) Z (A3 (A9 Z Z Z) Z (A3 (K5 Z) Z (A7 ?_))))
  refine k1 ?_
  refine B5 rfl (fun ht=>?_) (fun ht=>?_)
  ·have h:r.Lost=false:=by simpa using ht
   skip
   refine A4 (A3 (A5 Z Z) Z (A3 (n_compl Z Z (fun _=>rfl)) Z (A3 (A6 Z Z) Z (A7 ?_))))
   refine k1 ?_
   rw [E29,if_neg (by rw [h];simp)]
   exact I72 ⟨le1 rfl,le1 rfl,le1 rfl,trivial⟩ ⟨rfl,rfl,trivial⟩
  ·have h:r.Lost=true:=by simpa using ht
   refine k5 (k1 ?_)
   rw [E29,if_pos h]
   exact I72 ⟨le1 rfl,le1 rfl,le1 rfl,trivial⟩ ⟨rfl,rfl,trivial⟩
 refine k2 ?_
 refine A4 (A3 (A5 Z Z) Z (A3 (D3 Z) Z (A3 (A8 Z) Z (A3 (A9 Z Z Z) Z (A3 (A5 Z Z) Z (A3 (V7 Z Z Z (fun _=>rfl)) Z (A3 (M1 Z Z) Z (A3 (A5 Z Z) Z (B4 Z Z Z Z (fun hg=>by rw [hg];exact A8 Z) ?_)))))))));refine B4 Z Z Z Z (fun hg=>by rw [hg];exact A9 Z Z Z) ?_;refine B4 Z Z Z Z (fun hg=>by rw [hg];exact A5 Z Z) ?_;refine G7 Z Z Z (.gd (.val _)) Z (fun hg=>by obtain ⟨hg1,hg2⟩:=L5 hg;(try rw [hg1]);(try rw [hg2]);exact A5 Z Z) ?_;refine G7 Z Z Z (.gd (.val _)) Z (fun hg=>by obtain ⟨hg1,hg2⟩:=L5 hg;(try rw [hg1]);(try rw [hg2]);exact D3 Z) ?_;refine G7 Z Z Z (.gd (.val _)) Z (fun hg=>by obtain ⟨hg1,hg2⟩:=L5 hg;(try rw [hg1]);(try rw [hg2]);exact A8 Z) ?_;refine G7 Z Z Z (.gd (.val _)) Z (fun hg=>by obtain ⟨hg1,hg2⟩:=L5 hg;(try rw [hg1]);(try rw [hg2]);exact A9 Z Z Z) ?_;refine G7 Z Z Z (.gd (.val _)) Z (fun hg=>by obtain ⟨hg1,hg2⟩:=L5 hg;(try rw [hg1]);(try rw [hg2]);exact K5 Z) ?_;refine B4 Z Z Z Z (fun hg=>by rw [hg];exact B8 Z (fun h=>by first | rfl | (rw [h];rfl)) (fun h=>by first | rfl | (rw [h];rfl))) ?_;refine A3 (B8 Z (fun h=>by first | rfl | (rw [h];rfl)) (fun h=>by first | rfl | (rw [h];rfl))) Z ?_;refine A3 (A6 Z Z) Z (A7 ?_)
 refine k1 (k2 (k2 ?_))
 refine A4 (A3 (A8 Z) Z (A3 (A9 Z Z Z) Z (C5 (B41 r.Text hs) Z Z Z ?_)));rintro _ rfl;refine A3 (K5 Z) Z (A7 ?_)
 have hok:(if decide (G07 par (E29 r)=0)=true then (if r.Lost=true then true else !res) else false)=B69 res par r:=by
  rw [B69]
  cases r.Lost<;>cases res<;>by_cases h:G07 par (E29 r)=0<;>simp [h]
 refine k1 ?_
 refine B5 rfl (fun ht=>?_) (fun ht=>?_)
 ·have h:ended r.Text=false:=by simpa using ht
  refine k2 ?_
  refine A4 (A3 (A5 Z Z) Z (A3 (D3 Z) Z (A3 (A8 Z) Z (A3 (A9 Z Z Z) Z (A3 (A5 Z Z) Z (A3 (V7 Z Z Z (fun _=>rfl)) Z (A3 (D3 Z) Z (A3 (A8 Z) Z (F8 (C0 TySz.out Z Z Z Z Z Z) (A7 ?_))))))))))
  refine k1 ?_
  refine A4 (A3 (A5 Z Z) Z (A3 (A5 Z Z) Z (A3 (D3 Z) Z (A3 (A8 Z) Z (A3 (A9 Z Z Z) Z (A3 (A5 Z Z) Z (B4 Z Z Z Z (fun hg=>by rw [hg];exact A8 Z) ?_)))))));refine B4 Z Z Z Z (fun hg=>by rw [hg];exact A9 Z Z Z) ?_;refine B4 Z Z Z Z (fun hg=>by rw [hg];exact K5 Z) ?_;refine A3 (B8 Z (fun h=>by first | rfl | (rw [h];rfl)) (fun h=>by first | rfl | (rw [h];rfl))) Z ?_;refine A3 (D3 Z) Z (A3 (A8 Z) Z (F8 (C0 TySz.out Z Z Z Z Z Z) (A7 ?_)))
  refine k1 (k2 ?_)
  refine A4 (A3 (A5 Z Z) Z (A3 (A6 Z Z) Z (A7 ?_)))
  refine k1 (k10 ?_)
  refine io_ret (H2 rfl rfl rfl) rfl rfl ⟨by rw [←hok];rfl,?_⟩
  have ea:B19 res r=(res||!r.Lost):=by rw [B19,h];rfl
  have ep:B20 par r=I8 par (E29 r):=by rw [B20,h];rfl
  rw [ea,ep]
  cases res<;>rfl
 ·have h:ended r.Text=true:=by simpa using ht
  refine k5 (k1 (k2 ?_))
  refine A4 (A3 (A5 Z Z) Z (A3 (A6 Z Z) Z (A7 ?_)))
  refine k1 (k10 ?_)
  exact io_ret (H2 rfl rfl rfl) rfl rfl ⟨by rw [←hok];rfl,by rw [B19,B20,if_pos h,if_pos h]⟩
theorem E60 (t:Table) (hr:K4 t.Rows) (hl:t.Rows.length≤536870911) (hx:O0 t.Rows≤536870912):FnOk Tryz.prog 116 [pTable t] (fun rs=>rs=[I7 (I2 t)]):=by
 refine FnOk.intro Tryz.func116 (by decide) Z Z Z Z ?_
 refine k2 ?_
 refine A4 (C3 (Q0 1 Z Z Z) Z (A3 (A6 Z Z) Z (A7 ?_)))
 refine k1 (k2 (k2 ?_))
 refine A4 (A3 (A8 Z) Z (A3 (A9 Z Z Z) Z (A3 (D9 Z Z) Z (A3 (A5 Z Z) Z (B4 Z Z Z Z (fun hg=>by rw [hg];exact A8 Z) ?_)))));refine B4 Z Z Z Z (fun hg=>by rw [hg];exact A9 Z Z Z) ?_;refine B4 Z Z Z Z (fun hg=>by rw [hg];exact P6 Z Z) ?_;refine A3 (B8 Z (fun h=>by first | rfl | (rw [h];rfl)) (fun h=>by first | rfl | (rw [h];rfl))) Z ?_;refine A7 ?_
 refine k1 ?_
 refine B5 rfl (fun ht=>?_) (fun ht=>?_)
 ·have h:=A0 (or_pick.symm.trans ht)
  refine k2 ?_
  refine A4 (A3 (A6 Z Z) Z (A7 ?_))
  refine k1 (k10 (k11 ?_))
  exact B6 (H2 rfl rfl rfl) (by rw [I2,if_pos h])
 ·have h:=A1 (or_pick.symm.trans ht)
  refine L7 [(1,.s (.one (.ref 1 0)))] [(1,.box [.p (.v (.int .i64 t.Parents)),.p (.list Row 3 rowC t.Rows)])] (I72 ⟨le1 rfl,trivial⟩ ⟨rfl,trivial⟩) ?_
  refine k5 (k1 (k2 (k2 ?_)))
  refine A4 (A3 (A8 Z) Z (A3 (A9 Z Z Z) Z (A3 (D5 Z (.pure _ _ _ _)) Z (A3 (A5 Z Z) Z (A7 ?_)))))
  refine k1 (k3 ?_)
  refine C7 (X:=Nat) (fun i=>([(1,.s (.one (.ref 1 0))),(17,B9 Row 3 rowC t.Rows),(18,B7 t.Rows.length),(19,B7 i)],[(1,.box [.p (.v (.int .i64 t.Parents)),.p (.list Row 3 rowC t.Rows)])])) (fun i=>i≤t.Rows.length∧M3 t.Rows t.Parents.toNat=M3 (t.Rows.drop i) t.Parents.toNat) (fun i=>t.Rows.length - i) 0 ⟨Nat.zero_le _,rfl⟩ (I72 ⟨le1 rfl,le1 rfl,le1 rfl,le1 rfl,trivial⟩ ⟨rfl,trivial⟩) ?_
  rintro i ⟨hi,hp⟩
  dsimp only at hi hp ⊢
  refine k2 ?_
  refine A4 (A3 (D9 Z Z) Z (A7 ?_))
  refine k1 (k2 ?_)
  refine B5 rfl (fun ht=>?_) (fun ht=>?_)
  ·have hlt:i < t.Rows.length:=by have:=A0 ht;omega
   have hv:t.Rows[i]?=some t.Rows[i]:=by simp [hlt]
   rw [J11 hlt,A60] at hp
   refine k5 (k1 (k2 (k3 (k2 ?_))))
   refine A4 (A3 (B1 Z (.pure _ _ _ _) Z (by omega) hv) Z (A3 (E5 Z Z) Z (C3 (H7 4 Z) Z (F8 (C0 TySz.out Z Z Z Z Z Z) (A7 ?_)))))
   refine k1 (k2 ?_)
   refine A4 (A3 (D7 Z Z Z) Z (A3 (A8 Z) Z (A3 (A9 Z Z Z) Z (C5 (D49 t.Rows[i] t.Parents (by omega) (hr _ (J15 hlt))) Z Z Z ?_))));rintro _ rfl;refine A3 (K5 Z) Z (A7 ?_)
   refine k1 ?_
   refine B5 rfl (fun ht=>?_) (fun ht=>?_)
   ·have h2:R8 t.Parents.toNat t.Rows[i]=false:=by simpa using ht
    rw [h2,Bool.false_and] at hp
    refine k2 ?_
    refine A4 (A3 (A6 Z Z) Z (A7 ?_))
    refine k1 (k10 (k12 (k11 (k11 (k12 (k11 ?_))))))
    exact B6 (H2 rfl rfl rfl) (by rw [I2,if_neg h,if_pos hp])
   ·have h2:R8 t.Parents.toNat t.Rows[i]=true:=by simpa using ht
    rw [h2,Bool.true_and] at hp
    refine k5 (k4 (k1 ?_))
    refine A4 (A3 (C2 Z Z (by omega)) Z (A3 (A5 Z Z) Z (A7 ?_)))
    refine k1 ?_
    exact ⟨i+1,⟨by omega,hp⟩,by omega,I72 ⟨le1 rfl,le1 rfl,le1 rfl,le1 rfl,trivial⟩ ⟨rfl,trivial⟩⟩
  ·have hil:i=t.Rows.length:=by have:=A1 ht;omega
   rw [hil,J14 (Nat.le_refl _)] at hp
   have hm:M3 t.Rows t.Parents.toNat=true:=hp
   refine L7 [(1,.s (.one (.ref 1 0)))] [(1,.box [.p (.v (.int .i64 t.Parents)),.p (.list Row 3 rowC t.Rows)])] (I72 ⟨le1 rfl,trivial⟩ ⟨rfl,trivial⟩) ?_
   clear hil ht hp hi
   have hat:=D66 t.Rows t.Parents.toNat (by omega) hm hr
   refine k6 (k2 ?_)
   refine A4 (C3 (H7 5 Z) Z (A7 ?_))
   refine k1 (k2 (k2 ?_))
   refine A4 (A3 (A8 Z) Z (A3 (A9 Z Z Z) Z (A3 (D5 Z (.pure _ _ _ _)) Z (A3 (A5 Z Z) Z (A7 ?_)))))
   refine k1 (k3 ?_)
   refine C7 (X:=Nat × Bool × Int) (fun x=>([(1,.s (.one (.ref 1 0))),(5,.s (.one (.ref 5 0))),(30,B9 Row 3 rowC t.Rows),(31,B7 t.Rows.length),(32,B7 x.1)],[(1,.box [.p (.v (.int .i64 t.Parents)),.p (.list Row 3 rowC t.Rows)]),(5,.box [.p (.v (.bool x.2.1)),.p (.v (.int .u32 x.2.2))])])) (fun x=>x.1≤t.Rows.length∧Q4 false 0 t.Rows=Q4 x.2.1 x.2.2 (t.Rows.drop x.1)) (fun x=>t.Rows.length - x.1) (0,false,0) ⟨Nat.zero_le _,rfl⟩ (I72 ⟨le1 rfl,le1 rfl,le1 rfl,le1 rfl,le1 rfl,trivial⟩ ⟨rfl,rfl,trivial⟩) ?_
   rintro ⟨i,res,par⟩ ⟨hi,hp⟩
   dsimp only at hi hp ⊢
   refine k2 ?_
   refine A4 (A3 (D9 Z Z) Z (A7 ?_))
   refine k1 (k2 ?_)
   refine B5 rfl (fun ht=>?_) (fun ht=>?_)
   ·have hlt:i < t.Rows.length:=by have:=A0 ht;omega
    have hv:t.Rows[i]?=some t.Rows[i]:=by simp [hlt]
    have htl:=C23 t.Rows _ (J15 hlt)
    rw [J11 hlt,Q4] at hp
    refine k5 (k1 (k2 (k3 (k2 ?_))))
    refine A4 (A3 (B1 Z (.pure _ _ _ _) Z (by omega) hv) Z (A3 (E5 Z Z) Z (C3 (H7 7 Z) Z (F8 (C0 TySz.out Z Z Z Z Z Z) (A7 ?_)))))
    refine k1 (k2 ?_)
    by_cases hs:I5 t.Rows[i].Text=true
    ·refine A4 (A3 (D7 Z Z Z) Z (C5 (A51 t.Rows[i] (by omega)) Z Z Z ?_));rintro _ rfl;refine A3 (K5 Z) Z (A3 (A5 Z Z) Z (K9 Z Z Z (by rw [hs];rfl) ?_));refine A3 (D7 Z Z Z) Z (K9 Z Z Z (by rw [hs];rfl) ?_);refine F60 (H27 t.Rows[i] res par (by omega)) Z Z Z Z Z Z ?_;rintro _ _ ⟨rfl,rfl⟩;refine B4 Z Z Z Z (fun hg=>by rw [hg];exact K5 Z) ?_;refine A3 (B8 Z (fun h=>by first | rfl | (rw [h];rfl)) (fun h=>by first | rfl | (rw [h];rfl))) Z ?_;refine A7 ?_
     refine k1 ?_
     refine B5 rfl (fun ht=>?_) (fun ht=>?_)
     ·have h2:B69 res par t.Rows[i]=false:=by rw [hs] at ht;simpa using ht
      rw [hs,h2,Bool.true_and,Bool.false_and] at hp
      refine k2 ?_
      refine A4 (A3 (A6 Z Z) Z (A7 ?_))
      refine k1 (k10 (k12 (k11 (k11 (k12 (k11 ?_))))))
      exact B6 (H2 rfl rfl rfl) (by rw [I2,if_neg h,if_neg (by simp [hm]),if_pos (by rw [←hat];exact hp)])
     ·have h2:B69 res par t.Rows[i]=true:=by rw [hs] at ht;simpa using ht
      rw [hs,h2,Bool.true_and,Bool.true_and] at hp
      refine k5 (k4 (k1 ?_))
      refine A4 (A3 (C2 Z Z (by omega)) Z (A3 (A5 Z Z) Z (A7 ?_)))
      refine k1 ?_
      exact ⟨(i+1,_,_),⟨by dsimp only;omega,hp⟩,by dsimp only;omega,I72 ⟨le1 rfl,le1 rfl,le1 rfl,le1 rfl,le1 rfl,trivial⟩ ⟨rfl,rfl,trivial⟩⟩
    ·have hs':I5 t.Rows[i].Text=false:=by simpa using hs
     refine A4 (A3 (D7 Z Z Z) Z (C5 (A51 t.Rows[i] (by omega)) Z Z Z ?_));rintro _ rfl;refine A3 (K5 Z) Z (A3 (A5 Z Z) Z (B4 Z Z Z Z (fun hg=>by rw [hg];exact D7 Z Z Z) ?_));refine N4 Z Z Z (by rw [hs'];decide) Z ?_;refine N4 Z Z Z (by rw [hs'];decide) Z ?_;refine A3 (B8 (q:=true) Z (fun h=>rfl) (fun h=>by rw [hs'] at h;cases h)) Z ?_;refine A7 ?_
     rw [hs',Bool.false_and,Bool.false_and] at hp
     refine k1 ?_
     refine B5 rfl (fun ht=>?_) (fun ht=>?_)
     ·refine k2 ?_
      refine A4 (A3 (A6 Z Z) Z (A7 ?_))
      refine k1 (k10 (k12 (k11 (k11 (k12 (k11 ?_))))))
      exact B6 (H2 rfl rfl rfl) (by rw [I2,if_neg h,if_neg (by simp [hm]),if_pos (by rw [←hat];exact hp)])
     ·rw [hs'] at ht;cases ht
   ·have hil:i=t.Rows.length:=by have:=A1 ht;omega
    rw [hil,J14 (Nat.le_refl _)] at hp
    have hp':Q4 false 0 t.Rows=true:=hp
    refine k6 (k2 ?_)
    refine A4 (A3 (A6 Z Z) Z (A7 ?_))
    refine k1 (k10 ?_)
    exact B6 (H2 rfl rfl rfl) (by rw [I2,if_neg h,if_neg (by simp [hm]),if_neg (by rw [←hat,hp'];simp)])
def isBld (ob:Obs) (xs:Str):Prop:=(∃a,(a=.p (.v (.pointer none))∨a=.ref 700 0)∧C4 ob 700=some (.tbx 124 [a,.buf 701 UInt8 1 u8C xs]))∧C4 ob 701=some (.spare xs.length 1 5)
abbrev bldObs (ob:Obs) (ys xs:Str):Obs:=(700,.tbx 124 [.ref 700 0,.buf 701 UInt8 1 u8C xs])::(701,.spare xs.length 1 5)::Obs.forget 701 ((700,.tbx 124 [.ref 700 0,.buf 701 UInt8 1 u8C ys])::ob)
def H28:Go.Shelf.Ren:=⟨fun | 240=>147 | 276=>204 | n=>n,fun | 72=>124 | 70=>122 | 164=>240 | 37=>115 | n=>n,fun n=>n⟩
theorem ccLays:Go.Proofs.Lays.n240 Tryz.prog H28:={
 mixed:=by kernel_rfl
 f240:=Tryz.func147.trans (congrArg some (by kernel_rfl))
 f276:=Tryz.func204.trans (congrArg some (by kernel_rfl))
 t0:=Tryz.underlying0
 a0:=Tryz.isAgg0
 z0:=Tryz.sizeOf0
 v0:=Tryz.zeroValue0
 t4:=Tryz.underlying4
 a4:=Tryz.isAgg4
 z4:=Tryz.sizeOf4
 v4:=Tryz.zeroValue4
 t9:=Tryz.underlying9
 a9:=Tryz.isAgg9
 z9:=Tryz.sizeOf9
 v9:=Tryz.zeroValue9
 t20:=Tryz.underlying20
 a20:=Tryz.isAgg20
 z20:=Tryz.sizeOf20
 v20:=Tryz.zeroValue20
 t70:=Tryz.underlying122
 a70:=Tryz.isAgg122
 z70:=Tryz.sizeOf122
 v70:=Tryz.zeroValue122
 t72:=Tryz.underlying124
 a72:=Tryz.isAgg124
 z72:=Tryz.sizeOf124
 v72:=Tryz.zeroValue124
 t164:=Tryz.underlying240
 a164:=Tryz.isAgg240
 z164:=Tryz.sizeOf240
 v164:=Tryz.zeroValue240 }
theorem ccX:Builder.X72 Tryz.prog H28:={
 sizeBuilder:=by kernel_rfl
 liesBuilder:=by kernel_rfl }
theorem B65 {gf:Fr} {ob:Obs} {a t:TC} (hk:C4 ob 700=some (.tbx 124 [a,t])) (ha:a=.p (.v (.pointer none))∨a=.ref 700 0) :
  AL.Met Tryz.prog 147 [.one (.ref 700 0)] gf ob [] (fun rs ob'=>rs=[]∧ob'=(700,.tbx 124 [.ref 700 0,t])::ob) :=
 AL.Met.copyCheck ⟨_,rfl,rfl,rfl⟩ (fun b w h1 h2 h3=>Any.Builder_copyCheck_fresh (ρ:=H28) ccLays ccX b w h1 h2 h3) (fun b w h=>Any.Builder_copyCheck_used (ρ:=H28) ccLays ccX b w h) hk ha
theorem P8 {gf:Fr} {ob:Obs} {xs s:Str} (hb:isBld ob xs) (hlen:xs.length+s.length≤1073741824) :
  AL.Met Tryz.prog 85 [.one (.ref 700 0),.one (.p (.v (.string ⟨s.toArray⟩)))] gf ob [701] (fun rs ob'=>rs=[.one (.p (.v (.int .i64 s.length))),.one (.p (.v .nilIface))]∧ob'=bldObs ob xs (xs++s)):=by
 obtain ⟨⟨a,ha,hk⟩,hk1⟩:=hb
 refine AL.Met.intro Tryz.func85 (by decide) Z Z Z ?_
 refine k2 ?_
 refine A4 (A3 (A6 Z Z) Z (A3 (A6 Z Z) Z (A7 ?_)))
 refine k1 (k2 ?_)
 refine A4 (A3 (A5 Z Z) Z (A08 (B65 hk ha) Z Z Z ?_));rintro _ _ ⟨rfl,rfl⟩;refine A7 ?_
 refine k1 (k2 ?_)
 refine A4 (A3 (A5 Z Z) Z (A3 (A5 Z Z) Z (A3 (D3 Z) Z (A3 (A8 Z) Z (A3 (C76 Z Z Z) Z (A3 (A5 Z Z) Z (C3 (B73 TyStr.out Z hk1 Z (by first | omega | (simp;omega)) Z) Z (A3 (D3 Z) Z (A3 (A8 Z) Z (F8 (C06 TySz.out Z Z Z Z Z Z) (A7 ?_)))))))))))
 refine k1 (k2 ?_)
 refine A4 (A3 (A5 Z Z) Z (A3 (O7 Z) Z (A3 (A6 Z Z) Z (A3 (A6 Z Z) Z (A7 ?_)))))
 refine k1 (k10 ?_)
 exact X1 (rets2 rfl rfl rfl) (by repeat (first | exact F9 | refine G1 rfl ?_ | refine M2 _ ?_)) (fun _ _ h=>h) ⟨rfl,rfl⟩
theorem B66 {gf:Fr} {ob:Obs} {xs:Str} {c:UInt8} (hb:isBld ob xs) (hlen:xs.length+1≤1073741824) :
  AL.Met Tryz.prog 136 [.one (.ref 700 0),.one (.p (.v (.int .u8 c.toNat)))] gf ob [701] (fun rs ob'=>rs=[.one (.p (.v .nilIface))]∧ob'=bldObs ob xs (xs++[c])):=by
 obtain ⟨⟨a,ha,hk⟩,hk1⟩:=hb
 refine AL.Met.intro Tryz.func136 (by decide) Z Z Z ?_
 refine k2 ?_
 refine A4 (A3 (A6 Z Z) Z (A7 ?_))
 refine k1 (k2 ?_)
 refine A4 (A3 (A5 Z Z) Z (A08 (B65 hk ha) Z Z Z ?_));rintro _ _ ⟨rfl,rfl⟩;refine A7 ?_
 refine k1 (k2 ?_)
 refine A4 (A3 (A5 Z Z) Z (A3 (A5 Z Z) Z (A3 (D3 Z) Z (A3 (A8 Z) Z (A3 (C76 Z Z Z) Z (A3 (A5 Z Z) Z (A3 (C8 (c:=u8C) (ys:=[c]) (E0 Z Z Z Z F6) Z Z Z) Z (C3 (G9 Z hk1 Z (.pure _ _ _ _) (by (simp;omega)) Z) Z (A3 (D3 Z) Z (A3 (A8 Z) Z (F8 (C06 TySz.out Z Z Z Z Z Z) (A7 ?_))))))))))))
 refine k1 (k2 ?_)
 refine A4 (A3 (A6 Z Z) Z (A7 ?_))
 refine k1 (k10 ?_)
 exact X1 (A83 rfl rfl) (by repeat (first | exact F9 | refine G1 rfl ?_ | refine M2 _ ?_)) (fun _ _ h=>h) ⟨rfl,rfl⟩
end Go.Proofs.YtbiadkkamhpdnaaGreatDoor
