/- Walks of the program's functions. -/
import Derived.Test.YtbiadkkamhpdnaaGreatDoorTy
import Derived.Test.YtbiadkkamhpdnaaGreatDoorFs
import Derived.Test.YtbiadkkamhpdnaaGreatDoorSh
set_option linter.unusedSimpArgs false
namespace Go.Proofs.YtbiadkkamhpdnaaGreatDoor
open Go Go.AL
set_option maxRecDepth 100000
theorem F13 (p:Int):0≤IntKind.u64.wrap p:=by simp [IntKind.wrap,IntKind.signed,IntKind.bits];omega
theorem C99 (s:Str) (hs:s.length≤1099511627776):FnOk Tryz.prog 128 [K6 s] (fun rs=>rs=[O4 (ended s)]):=by
 refine FnOk.intro Tryz.func128 (by decide) Z Z Z Z ?_
 refine k2 ?_
 refine A4 (A2 (A5 Z Z) Z (A6 ?_))
 refine k1 (k2 ?_)
 have hl:s≠[]→s[((s.length:Int) - 1).toNat]?=some (s.getLastD 0):=by
  intro h
  have h1:0 < s.length:=List.length_pos_iff.2 h
  have h2:((s.length:Int) - 1).toNat=s.length - 1:=by omega
  rw [h2,←List.getLast?_eq_getElem?,List.getLast?_eq_some_getLast h,List.getLastD_eq_getLast?,List.getLast?_eq_some_getLast h]
  rfl
 refine A4 (A2 (A3 Z Z) Z (A2 (B01 Z Z) Z (A2 (A3 Z Z) Z (B0 Z Z Z Z (fun hg=>by rw [hg];exact A3 Z Z) ?_))));refine B0 Z Z Z Z (fun hg=>by rw [hg];exact A3 Z Z) ?_;refine B0 Z Z Z Z (fun hg=>by rw [hg];exact K9 Z) ?_;refine B0 Z Z Z Z (fun hg=>by have hq:=hg;(try simp at hq);rw [hg];exact H8 Z Z (by omega)) ?_;refine B0 Z Z Z Z (fun hg=>by have hq:=hg;(try simp at hq);have h1:=List.length_pos_iff.2 hq;rw [hg];exact l7 Z Z (by omega) (hl hq)) ?_;refine B0 Z Z Z Z (fun hg=>by rw [hg];exact I2 Z Z) ?_;refine A2 (B2 Z (fun h=>by first | rfl | (rw [h];rfl)) (fun h=>by first | rfl | (rw [h];rfl))) Z ?_;refine A2 (A5 Z Z) Z (A6 ?_)
 refine k1 (k10 ?_)
 refine B6 (G4 Z Z Z) ?_
 rw [G41]
theorem D00 (b:Str) (hb:b.length≤536870912):FnOk Tryz.prog 70 [K6 b] (fun rs=>rs=[A09 (B7 b)]):=by
 refine FnOk.intro Tryz.func70 (by decide) Z Z Z Z ?_
 refine k2 ?_
 refine A4 (A2 (A5 Z Z) Z (A6 ?_))
 refine k1 (k2 ?_)
 refine A4 (D1 (Z2 3 _ I3 Z) Z (A6 ?_))
 refine k1 (k2 ?_)
 refine A4 (A2 (A5 Z Z) Z (A6 ?_))
 refine k1 (k2 (k2 ?_))
 refine A4 (A2 (A5 Z Z) Z (A6 ?_))
 refine k1 (k3 ?_)
 refine D9 (X:=Nat × Nat × List Str) (fun x=>([(0,P7 b),(3,.s (.one (.buf 3 Str 1 I3 x.2.2))),(4,C1 x.2.1),(5,C1 x.1)],[(3,.spare x.2.2.length 1 9)]))
  (fun x=>x.1≤b.length∧x.2.1≤x.1∧x.2.2.length≤x.1∧(x.1=b.length→x.2.1=x.1)∧x.2.2++H5 ((b.drop x.2.1).take (x.1 - x.2.1)) (b.drop x.1)=B7 b) (fun x=>b.length - x.1) (0,0,[]) (by simp [B7]) ?_ ?_
 ·exact G48 ⟨⟨_,rfl,.same _⟩,⟨_,rfl,.same _⟩,⟨_,rfl,.same _⟩,⟨_,rfl,.same _⟩,trivial⟩ ⟨rfl,trivial⟩
 ·rintro ⟨i,from',out⟩ ⟨hi,hf,ho,he,hp⟩
  dsimp only at hi hf ho he hp ⊢
  refine k2 (k2 ?_)
  refine A4 (A2 (A3 Z Z) Z (A2 (A3 Z Z) Z (A2 (K9 Z) Z (A2 (E9 Z Z) Z (A6 ?_)))))
  refine k1 ?_
  refine B5 rfl (fun ht=>?_) (fun ht=>?_)
  ·have hlt:i < b.length:=by simpa using ht
   have hv:b[i]?=some b[i]:=by simp [hlt]
   refine k5 (k1 (k2 (k3 (k2 ?_))))
   refine A4 (A2 (A3 Z Z) Z (A2 (A3 Z Z) Z (A2 (l7 Z Z (by omega) hv) Z (A2 (I2 Z Z) Z (A2 (A3 Z Z) Z (B0 Z Z Z Z (fun hg=>by rw [hg];exact A3 Z Z) ?_))))));refine B0 Z Z Z Z (fun hg=>by have hq:=hg;(try simp at hq);rw [hg];exact C0 Z Z (by omega)) ?_;refine B0 Z Z Z Z (fun hg=>by rw [hg];exact A3 Z Z) ?_;refine B0 Z Z Z Z (fun hg=>by rw [hg];exact K9 Z) ?_;refine B0 Z Z Z Z (fun hg=>by rw [hg];exact I2 Z Z) ?_;refine A2 (B2 Z (fun h=>by first | rfl | (rw [h];rfl)) (fun h=>by first | rfl | (rw [h];rfl))) Z ?_;refine A6 ?_
   refine k1 ?_
   refine B5 rfl (fun ht2=>?_) (fun ht2=>?_)
   ·refine k2 ?_
    refine A4 (A2 (A3 Z Z) Z (A2 (A3 Z Z) Z (A2 (A3 Z Z) Z (A2 (A3 Z Z) Z (A2 (C0 Z Z (by omega)) Z (A2 (o3 Z Z Z (by omega) (by omega) (by omega)) Z (A2 (D8 (c:=I3) (ys:=[_]) (E5 Z Z Z Z G8) Z Z Z) Z (D1 (J2 Z Z Z (.pure _ _ _ _) (by simp;omega) Z) Z (A2 (A5 Z Z) Z (A6 ?_))))))))))
    refine k1 ?_
    refine A4 (A2 (A3 Z Z) Z (A2 (C0 Z Z (by omega)) Z (A2 (A5 Z Z) Z (A6 ?_))))
    refine k4 (k1 ?_)
    refine A4 (A2 (A3 Z Z) Z (A2 (C0 Z Z (by omega)) Z (A2 (A5 Z Z) Z (A6 ?_))))
    refine k1 ?_
    refine ⟨(i+1,i+1,_),⟨?_,?_,?_,?_,?_⟩,?_,G48 ⟨⟨_,rfl,.same _⟩,⟨_,rfl,.same _⟩,⟨_,rfl,.same _⟩,⟨_,rfl,.same _⟩,trivial⟩ ⟨rfl,trivial⟩⟩
    all_goals dsimp only
    ·omega
    ·omega
    ·simp;omega
    ·omega
    ·have hc:b[i]=10∨i+1=b.length:=by
      simp only [F67] at ht2
      by_cases h:b[i]=10
      ·exact .inl h
      ·simp [h] at ht2;exact .inr (by omega)
     rw [F31,H01,Nat.sub_self,List.take_zero,←D88 b from' i hf hlt,G91,←hp,G86 hlt,n6]
     rcases hc with h | h
     ·rw [if_pos h];rfl
     ·have hd:b.drop (i+1)=[]:=G84 (by omega)
      rw [hd]
      split
      ·rfl
      ·rw [show H5 ([]:Str) []=[] from rfl,E22 _ (by simp)];simp
    ·omega
   ·refine k5 (k4 (k1 ?_))
    refine A4 (A2 (A3 Z Z) Z (A2 (C0 Z Z (by omega)) Z (A2 (A5 Z Z) Z (A6 ?_))))
    refine k1 ?_
    refine ⟨(i+1,from',out),⟨?_,?_,?_,?_,?_⟩,?_,G48 ⟨⟨_,rfl,.same _⟩,⟨_,rfl,.same _⟩,⟨_,rfl,.same _⟩,⟨_,rfl,.same _⟩,trivial⟩ ⟨rfl,trivial⟩⟩
    all_goals dsimp only
    ·omega
    ·omega
    ·omega
    ·intro h
     simp [show (i:Int)+1=(b.length:Int) by omega] at ht2
    ·have hc:b[i]≠10:=fun h=>by simp [h] at ht2
     rw [←D88 b from' i hf hlt,←hp,G86 hlt,n6,if_neg hc]
    ·omega
  ·refine k6 (k2 ?_)
   refine A4 (A2 (A3 Z Z) Z (A2 (A5 Z Z) Z (A6 ?_)))
   refine k1 (k10 ?_)
   refine B6 (G4 Z Z Z) ?_
   have hi':i=b.length:=by simp at ht;omega
   subst hi'
   have:=he rfl
   subst this
   rw [Nat.sub_self,List.take_zero,G84 (Nat.le_refl _)] at hp
   rw [←hp];simp [H5]
theorem G26 (b:Str) (hb:b.length≤1099511627776):FnOk Tryz.prog 99 [K6 b] (fun rs=>rs=[G2 (U8 b)]):=by
 refine FnOk.intro Tryz.func99 (by decide) Z Z Z Z ?_
 refine k2 ?_
 refine A4 (A2 (A5 Z Z) Z (A6 ?_))
 refine k1 (k2 (k2 ?_))
 refine A4 (A2 (A3 Z Z) Z (A2 (K9 Z) Z (A2 (N7 Z Z) Z (A2 (A3 Z Z) Z (B0 Z Z Z Z (fun hg=>by rw [hg];exact A3 Z Z) ?_)))));refine B0 Z Z Z Z (fun hg=>by have hq:=hg;(try simp at hq);rw [hg];exact F5 (D00 b (by omega)) Z Z) ?_;refine B0 Z Z Z Z (fun hg=>by rw [hg];exact E0 Z (.pure _ _ _ _)) ?_;refine B0 Z Z Z Z (fun hg=>by rw [hg];exact N7 Z Z) ?_;refine A2 (B2 Z (fun h=>by first | rfl | (rw [h];rfl)) (fun h=>by first | rfl | (rw [h];rfl))) Z ?_;refine A6 ?_
 refine k1 ?_
 refine B5 rfl (fun ht=>?_) (fun ht=>?_)
 ·have h:=A0 (or_pick.symm.trans ht)
  refine k2 ?_
  refine A4 (A2 (A5 Z Z) Z (A6 ?_))
  refine k1 (k10 (k11 ?_))
  exact B6 (G4 rfl rfl rfl) (by rw [U8,if_pos (by omega)])
 ·have h:=A1 (or_pick.symm.trans ht)
  refine k5 (k1 (k2 ?_))
  refine A4 (A2 (A5 Z Z) Z (A6 ?_))
  refine k1 (k10 ?_)
  exact B6 (G4 rfl rfl rfl) (by rw [U8,if_neg (by omega)])
theorem all_ok (l:List Str) (hl:l.flatten.length≤536870912):FnOk Tryz.prog 129 [A09 l] (fun rs=>rs=[K6 l.flatten]):=by
 refine FnOk.intro Tryz.func129 (by decide) Z Z Z Z ?_
 refine C59 (t:=0) rfl (.pure _ _ _ _) fun hlen=>?_
 refine k2 ?_
 refine A4 (A2 (A5 Z Z) Z (A6 ?_))
 refine k1 (k2 ?_)
 refine A4 (D1 (Z2 3 _ u8C Z) Z (A6 ?_))
 refine k1 (k2 (k2 ?_))
 refine A4 (A2 (A5 Z Z) Z (A6 ?_))
 refine k1 (k3 ?_)
 refine D9 (X:=Nat) (fun i=>([(0,C4 Str 1 I3 l),(3,.s (.one (.buf 3 UInt8 1 u8C (l.take i).flatten))),(4,C1 i)],[(3,.spare (l.take i).flatten.length 1 5)])) (fun i=>i≤l.length) (fun i=>l.length - i) 0 (by simp) (G48 ⟨le1 rfl,le1 rfl,le1 rfl,trivial⟩ ⟨rfl,trivial⟩) ?_
 intro i hi
 dsimp only at hi ⊢
 refine k2 (k2 ?_)
 refine A4 (A2 (A3 Z Z) Z (A2 (A3 Z Z) Z (A2 (E0 Z (.pure _ _ _ _)) Z (A2 (E9 Z Z) Z (A6 ?_)))))
 refine k1 ?_
 refine B5 rfl (fun ht=>?_) (fun ht=>?_)
 ·have hlt:i < l.length:=by simpa using ht
  have hv:l[i]?=some l[i]:=by simp [hlt]
  have hf:=S7 l i hlt
  have hle:=V3 l (i+1)
  rw [hf,G79] at hle
  refine k5 (k1 (k2 (k3 ?_)))
  refine A4 (A2 (A3 Z Z) Z (A2 (A3 Z Z) Z (A2 (A3 Z Z) Z (A2 (B1 Z (.pure _ _ _ _) Z (by omega) hv) Z (A2 (B3 Z Z) Z (D1 (C72 TyStr.out Z Z Z (by omega) Z) Z (A2 (A5 Z Z) Z (A6 ?_))))))))
  refine k4 (k1 ?_)
  refine A4 (A2 (A3 Z Z) Z (A2 (C0 Z Z (by omega)) Z (A2 (A5 Z Z) Z (A6 ?_))))
  refine k1 ?_
  refine ⟨i+1,by omega,by omega,?_⟩
  dsimp only
  rw [hf]
  exact G48 ⟨le1 rfl,le1 rfl,le1 rfl,trivial⟩ ⟨rfl,trivial⟩
 ·have:i=l.length:=by simp at ht;omega
  subst this
  refine k6 (k2 ?_)
  refine A4 (A2 (A3 Z Z) Z (A2 (x6 TyStr.out Z (.buf _ _ _ _ _)) Z (A2 (A5 Z Z) Z (A6 ?_))))
  refine k1 (k10 ?_)
  exact B6 (G4 rfl rfl rfl) (by simp)
theorem line_ok (s:Str) (hs:s.length≤1099511627776):FnOk Tryz.prog 142 [K6 s] (fun rs=>rs=[O4 (O0 s)]):=by
 refine FnOk.intro Tryz.func142 (by decide) Z Z Z Z ?_
 refine k2 ?_
 refine A4 (A2 (A5 Z Z) Z (A6 ?_))
 refine k1 (k2 (k2 ?_))
 refine A4 (A2 (A5 Z Z) Z (A6 ?_))
 refine k1 (k3 ?_)
 refine D9 (X:=Nat) (fun k=>([(0,P7 s),(3,C1 k)],[])) (fun k=>k≤s.length∧O0 s=((s.dropLast.drop k).all (·≠10)&&s != [])) (fun k=>s.length - k) 0 (by simp [O0]) (G48 ⟨le1 rfl,le1 rfl,trivial⟩ trivial) ?_
 intro k hk
 dsimp only at hk ⊢
 refine k2 (k2 ?_)
 refine A4 (A2 (A3 Z Z) Z (A2 (C0 Z Z (by omega)) Z (A2 (A3 Z Z) Z (A2 (K9 Z) Z (A2 (E9 Z Z) Z (A6 ?_))))))
 refine k1 ?_
 refine B5 rfl (fun ht=>?_) (fun ht=>?_)
 ·have hk2:k+1 < s.length:=by have:=A0 ht;omega
  have hvk:s[k]?=some (s[k]'(by omega)):=G82 (by omega)
  have hd:s.dropLast.drop k=s[k]'(by omega)::s.dropLast.drop (k+1):=by
   rw [G86 (by simp;omega)];simp
  rw [hd,List.all_cons] at hk
  refine k5 (k1 (k2 (k3 (k2 ?_))))
  refine A4 (A2 (A3 Z Z) Z (A2 (A3 Z Z) Z (A2 (l7 Z Z (by omega) hvk) Z (A2 (I2 Z Z) Z (A6 ?_)))))
  refine k1 ?_
  refine B5 rfl (fun ht=>?_) (fun ht=>?_)
  ·have h10:=(F67 _).1 (A0 ht)
   refine k2 ?_
   refine A4 (A2 (A5 Z Z) Z (A6 ?_))
   refine k1 (k10 (k12 (k11 (k11 (k12 (k11 ?_))))))
   exact B6 (G4 rfl rfl rfl) (by rw [hk.2];simp [h10])
  ·have h10:s[k]'(by omega)≠10:=fun h=>A1 ht ((F67 _).2 h)
   refine k5 (k4 (k1 ?_))
   refine A4 (A2 (A3 Z Z) Z (A2 (C0 Z Z (by omega)) Z (A2 (A5 Z Z) Z (A6 ?_))))
   refine k1 ?_
   exact ⟨k+1,⟨by omega,by rw [hk.2];simp [h10]⟩,by omega,G48 ⟨le1 rfl,le1 rfl,trivial⟩ trivial⟩
 ·have hk2:s.length≤k+1:=by have:=A1 ht;omega
  have hlo:O0 s=(s != []):=by rw [hk.2,G84 (by simp;omega)];rfl
  refine k6 (k2 ?_)
  refine A4 (A2 (A3 Z Z) Z (A2 (B01 Z Z) Z (A2 (A5 Z Z) Z (A6 ?_))))
  refine k1 (k10 ?_)
  exact B6 (G4 rfl rfl rfl) (by rw [hlo];by_cases h:s=[]<;>simp [h])
theorem E60 (l:List Str) (s:Str):FnOk Tryz.prog 167 [A09 l,K6 s] (fun rs=>rs=[G2 (H7 l s 0)]):=by
 refine FnOk.intro Tryz.func167 (by decide) Z Z Z Z ?_
 refine C59 (t:=0) rfl (.pure _ _ _ _) fun hlen=>?_
 refine k2 ?_
 refine A4 (A2 (A5 Z Z) Z (A6 ?_))
 refine k1 (k2 (k2 ?_))
 refine A4 (A2 (A5 Z Z) Z (A6 ?_))
 refine k1 (k3 ?_)
 refine D9 (X:=Nat) (fun i=>([(0,C4 Str 1 I3 l),(1,P7 s),(5,C1 i)],[])) (fun i=>i≤l.length∧H7 l s 0=H7 (l.drop i) s i) (fun i=>l.length - i) 0 (by simp) (G48 ⟨le1 rfl,le1 rfl,le1 rfl,trivial⟩ trivial) ?_
 rintro i ⟨hi,hp⟩
 dsimp only at hi hp ⊢
 refine k2 (k2 ?_)
 refine A4 (A2 (A3 Z Z) Z (A2 (A3 Z Z) Z (A2 (E0 Z (.pure _ _ _ _)) Z (A2 (E9 Z Z) Z (A6 ?_)))))
 refine k1 ?_
 refine B5 rfl (fun ht=>?_) (fun ht=>?_)
 ·have hlt:i < l.length:=by simpa using ht
  have hv:l[i]?=some l[i]:=by simp [hlt]
  rw [E23 l s i hlt] at hp
  refine k5 (k1 (k2 (k3 (k2 ?_))))
  refine A4 (A2 (A3 Z Z) Z (A2 (A3 Z Z) Z (A2 (B1 Z (.pure _ _ _ _) Z (by omega) hv) Z (A2 (B3 Z Z) Z (A2 (A3 Z Z) Z (A2 (B00 Z Z) Z (A6 ?_)))))))
  refine k1 ?_
  refine B5 rfl (fun ht=>?_) (fun ht=>?_)
  ·rw [if_pos (by simpa using ht)] at hp
   refine k2 ?_
   refine A4 (A2 (A3 Z Z) Z (A2 (A5 Z Z) Z (A6 ?_)))
   refine k1 (k10 (k12 (k11 (k11 (k12 (k11 ?_))))))
   exact B6 (G4 rfl rfl rfl) (by rw [hp])
  ·rw [if_neg (by simpa using ht)] at hp
   refine k5 (k4 (k1 ?_))
   refine A4 (A2 (A3 Z Z) Z (A2 (C0 Z Z (by omega)) Z (A2 (A5 Z Z) Z (A6 ?_))))
   refine k1 ?_
   exact ⟨i+1,⟨by omega,by simpa using hp⟩,by omega,G48 ⟨le1 rfl,le1 rfl,le1 rfl,trivial⟩ trivial⟩
 ·have:i=l.length:=by simp at ht;omega
  subst this
  refine k6 (k2 ?_)
  refine A4 (A2 (A5 Z Z) Z (A6 ?_))
  refine k1 (k10 ?_)
  exact B6 (G4 rfl rfl rfl) (by rw [hp];simp [H7])
theorem G27 (fs:List (List Str)) (hfs:fs.flatten.length≤536870912):FnOk Tryz.prog 100 [pStrss fs] (fun rs=>rs=[A09 (C3 fs)]):=by
 refine FnOk.intro Tryz.func100 (by decide) Z Z Z Z ?_
 refine C59 (t:=0) rfl (.pure _ _ _ _) fun hlen=>?_
 refine k2 ?_
 refine A4 (A2 (A5 Z Z) Z (A6 ?_))
 refine k1 (k2 ?_)
 refine A4 (D1 (Z2 3 _ I3 Z) Z (A6 ?_))
 refine k1 (k2 (k2 ?_))
 refine A4 (A2 (A5 Z Z) Z (A6 ?_))
 refine k1 (k3 ?_)
 refine D9 (X:=Nat) (fun f=>([(0,C4 (List Str) 1 strsC fs),(3,.s (.one (.buf 3 Str 1 I3 (C3 (fs.take f))))),(4,C1 f)],[(3,.spare (C3 (fs.take f)).length 1 9)])) (fun f=>f≤fs.length) (fun f=>fs.length - f) 0 (by simp) (G48 ⟨le1 rfl,le1 rfl,le1 rfl,trivial⟩ ⟨rfl,trivial⟩) ?_
 intro f hf
 dsimp only at hf ⊢
 refine k2 (k2 ?_)
 refine A4 (A2 (A3 Z Z) Z (A2 (A3 Z Z) Z (A2 (E0 Z (.pure _ _ _ _)) Z (A2 (E9 Z Z) Z (A6 ?_)))))
 refine k1 ?_
 refine B5 rfl (fun ht=>?_) (fun ht=>?_)
 ·have hlt:f < fs.length:=by have:=A0 ht;omega
  have hv:fs[f]?=some fs[f]:=by simp [hlt]
  have hfl:=S7 fs f hlt
  have hle:=V3 fs (f+1)
  rw [hfl,G79] at hle
  have hn0:=A90 (fs.take f)
  refine k5 (k1 (k2 (k3 (k2 ?_))))
  refine A4 (A2 (A5 Z Z) Z (A6 ?_))
  refine k1 (k3 ?_)
  refine D9 (X:=Nat) (fun i=>([(0,C4 (List Str) 1 strsC fs),(3,.s (.one (.buf 3 Str 1 I3 ((fs[f].take i).foldl H3 (C3 (fs.take f)))))),(4,C1 f),(5,C1 i)],[(3,.spare ((fs[f].take i).foldl H3 (C3 (fs.take f))).length 1 9)])) (fun i=>i≤fs[f].length) (fun i=>fs[f].length - i) 0 (by simp) (G48 ⟨le1 rfl,le1 rfl,le1 rfl,le1 rfl,trivial⟩ ⟨rfl,trivial⟩) ?_
  intro i hi
  dsimp only at hi ⊢
  have hni:=y7 (fs[f].take i) (C3 (fs.take f))
  rw [G90] at hni
  refine k2 (k2 ?_)
  refine A4 (A2 (A3 Z Z) Z (A2 (A3 Z Z) Z (A2 (A3 Z Z) Z (A2 (B1 Z (.pure _ _ _ _) Z (by omega) hv) Z (A2 (B3 Z Z) Z (A2 (E0 Z (.pure _ _ _ _)) Z (A2 (E9 Z Z) Z (A6 ?_))))))))
  refine k1 ?_
  refine B5 rfl (fun ht=>?_) (fun ht=>?_)
  ·have hlt2:i < fs[f].length:=by have:=A0 ht;omega
   have hvi:fs[f][i]?=some fs[f][i]:=by simp [hlt2]
   have hst:(fs[f].take (i+1)).foldl H3 (C3 (fs.take f))=H3 ((fs[f].take i).foldl H3 (C3 (fs.take f))) fs[f][i]:=by
    rw [List.take_add_one,hvi,Option.toList_some,List.foldl_append];rfl
   refine k5 (k1 (k2 (k3 (k2 ?_))))
   refine A4 (A2 (A3 Z Z) Z (A2 (A3 Z Z) Z (A2 (A3 Z Z) Z (A2 (B1 Z (.pure _ _ _ _) Z (by omega) hv) Z (A2 (B3 Z Z) Z (A2 (A3 Z Z) Z (A2 (B1 Z (.pure _ _ _ _) Z (by omega) hvi) Z (A2 (B3 Z Z) Z (C8 (E60 _ _) Z Z Z ?_)))))))));rintro _ rfl;refine A2 (E9 Z Z) Z (A6 ?_)
   refine k1 ?_
   have hpl:=E81 ((fs[f].take i).foldl H3 (C3 (fs.take f))) fs[f][i] 0 (Int.le_refl _)
   refine B5 rfl (fun ht=>?_) (fun ht=>?_)
   ·have hnot:=hpl.1 (A0 ht)
    skip
    refine A4 (A2 (A3 Z Z) Z (A2 (A3 Z Z) Z (A2 (A3 Z Z) Z (A2 (B1 Z (.pure _ _ _ _) Z (by omega) hv) Z (A2 (B3 Z Z) Z (A2 (A3 Z Z) Z (A2 (B1 Z (.pure _ _ _ _) Z (by omega) hvi) Z (A2 (B3 Z Z) Z (A2 (D8 (c:=I3) (ys:=[_]) (E5 Z Z Z Z G8) Z Z Z) Z (D1 (J2 Z Z Z (.pure _ _ _ _) (by simp;omega) Z) Z (A2 (A5 Z Z) Z (A6 ?_))))))))))))
    refine k4 (k1 ?_)
    refine A4 (A2 (A3 Z Z) Z (A2 (C0 Z Z (by omega)) Z (A2 (A5 Z Z) Z (A6 ?_))))
    refine k1 ?_
    refine ⟨i+1,by omega,by omega,?_⟩
    rw [hst,H3,if_neg hnot]
    exact G48 ⟨le1 rfl,le1 rfl,le1 rfl,le1 rfl,trivial⟩ ⟨rfl,trivial⟩
   ·have hin:fs[f][i]∈(fs[f].take i).foldl H3 (C3 (fs.take f)):=Classical.byContradiction fun h=>A1 ht (hpl.2 h)
    refine k5 (k4 (k1 ?_))
    refine A4 (A2 (A3 Z Z) Z (A2 (C0 Z Z (by omega)) Z (A2 (A5 Z Z) Z (A6 ?_))))
    refine k1 ?_
    refine ⟨i+1,by omega,by omega,?_⟩
    rw [hst,H3,if_pos hin]
    exact G48 ⟨le1 rfl,le1 rfl,le1 rfl,le1 rfl,trivial⟩ ⟨rfl,trivial⟩
  ·have hi':i=fs[f].length:=by have:=A1 ht;omega
   subst hi'
   refine k6 (k7 (k7 (k8 Z (k4 (k1 ?_)))))
   have:C3 (fs.take (f+1))=(fs[f].take fs[f].length).foldl H3 (C3 (fs.take f)):=by
    rw [C3,hfl,List.foldl_append,G95];rfl
   refine A4 (A2 (A3 Z Z) Z (A2 (C0 Z Z (by omega)) Z (A2 (A5 Z Z) Z (A6 ?_))))
   refine k1 ?_
   refine ⟨f+1,by omega,by omega,?_⟩
   rw [this]
   exact G48 ⟨le1 rfl,le1 rfl,le1 rfl,trivial⟩ ⟨rfl,trivial⟩
 ·have:f=fs.length:=by have:=A1 ht;omega
  subst this
  refine k6 (k2 ?_)
  refine A4 (A2 (A3 Z Z) Z (A2 (A5 Z Z) Z (A6 ?_)))
  refine k1 (k10 ?_)
  exact B6 (G4 rfl rfl rfl) (by simp)
theorem made_ok (p:List Span) (m n:Int) (hp:p.length≤536870912) (hb:∀s∈p,-1099511627776≤s.From∧s.From≤1099511627776 ∧ -1099511627776≤s.To∧s.To≤1099511627776)
  (hm:-1099511627776≤m∧m≤1099511627776 ∧ -1099511627776≤n∧n≤1099511627776) :
  FnOk Tryz.prog 169 [pSpans p,G2 m,G2 n] (fun rs=>rs=[pChanges (m6 p m n)]):=by
 refine FnOk.intro Tryz.func169 (by decide) Z Z Z Z ?_
 refine k2 ?_
 refine A4 (A2 (A5 Z Z) Z (A6 ?_))
 refine k1 (k2 ?_)
 refine A4 (D1 (Z2 7 _ changeC Z) Z (A6 ?_))
 refine k1 (k2 ?_)
 refine A4 (A2 (A5 Z Z) Z (A2 (A5 Z Z) Z (A6 ?_)))
 refine k1 (k2 (k2 ?_))
 refine A4 (A2 (A5 Z Z) Z (A6 ?_))
 refine k1 (k3 ?_)
 refine D9 (X:=Nat × Int × Int × List Change) (fun x=>([(0,C4 Span 2 spanC p),(1,C1 m),(2,C1 n),(7,.s (.one (.buf 7 Change 4 changeC x.2.2.2))),(8,C1 x.2.1),(9,C1 x.2.2.1),(10,C1 x.1)],[(7,.spare x.2.2.2.length 4 146)]))
  (fun x=>x.1≤p.length+1∧x.2.2.2.length≤x.1∧(-1099511627776≤x.2.1∧x.2.1≤1099511627777 ∧ -1099511627776≤x.2.2.1∧x.2.2.1≤1099511627777)∧(x.1≤p.length→x.2.2.2++Q8 x.2.1 x.2.2.1 (p.drop x.1) m n=m6 p m n)∧(x.1=p.length+1→x.2.2.2=m6 p m n))
  (fun x=>p.length+1 - x.1) (0,0,0,[]) (by simp [m6]) (G48 ⟨le1 rfl,le1 rfl,le1 rfl,le1 rfl,le1 rfl,le1 rfl,le1 rfl,trivial⟩ ⟨rfl,trivial⟩) ?_
 rintro ⟨k,i,j,out⟩ ⟨hk,ho,hij,h1,h2⟩
 dsimp only at hk ho hij h1 h2 ⊢
 refine k2 (k2 ?_)
 refine A4 (A2 (A3 Z Z) Z (A2 (A3 Z Z) Z (A2 (E0 Z (.pure _ _ _ _)) Z (A2 (A28 Z Z) Z (A6 ?_)))))
 refine k1 ?_
 refine B5 rfl (fun ht=>?_) (fun ht=>?_)
 ·have hk':k≤p.length:=by have:=A0 ht;omega
  have hpp:=h1 hk'
  refine k5 (k1 (k2 (k3 (k2 ?_))))
  refine A4 (A2 (A3 Z Z) Z (A2 (A3 Z Z) Z (A2 (I6 Z) Z (D1 (G5 11 Z) Z (F3 (B9 TySz.out Z Z Z Z Z Z) (A6 ?_))))))
  refine I1 ?_
  obtain ⟨x,hx⟩:∃x,x=p.getD k ⟨m,n⟩:=⟨_,rfl⟩
  have hxb:-1099511627776≤x.From∧x.From≤1099511627776 ∧ -1099511627776≤x.To∧x.To≤1099511627776:=by
   rw [hx,G85]
   by_cases h:k < p.length
   ·rw [G82 h];exact hb _ (G97 h)
   ·rw [H06 (by omega)];exact hm
  have hmade:Q8 i j (p.drop k) m n=(if x.From > i∨x.To > j then [⟨i,x.From - i,j,x.To - j⟩] else [])++(if k < p.length then Q8 (x.From+1) (x.To+1) (p.drop (k+1)) m n else []):=by
   by_cases h:k < p.length
   ·rw [G86 h,if_pos h,hx,G85,G82 h];rfl
   ·rw [G84 (by omega),if_neg h,hx,G85,H06 (by omega)];simp [Q8]
  refine j1 [(0,C4 Span 2 spanC p),(1,C1 m),(2,C1 n),(7,.s (.one (.buf 7 Change 4 changeC out))),(8,C1 i),(9,C1 j),(10,C1 k),(11,.s (.one (.ref 11 0)))] [(11,.box [.p (.v (.int .i64 x.From)),.p (.v (.int .i64 x.To))]),(7,.spare out.length 4 146)] ?_ ?_
  ·refine k2 ?_
   refine A4 (A2 (A3 Z Z) Z (A2 (A3 Z Z) Z (A2 (E0 Z (.pure _ _ _ _)) Z (A2 (E9 Z Z) Z (A6 ?_)))))
   refine k1 ?_
   refine B5 rfl (fun ht=>?_) (fun ht=>?_)
   ·have hlt:k < p.length:=by have:=A0 ht;omega
    have hv:p[k]?=some p[k]:=by simp [hlt]
    have:x=p[k]:=by rw [hx,G85,hv];rfl
    subst this
    skip
    refine A4 (A2 (A3 Z Z) Z (A2 (A3 Z Z) Z (A2 (B1 Z (.pure _ _ _ _) Z (by omega) hv) Z (A2 (E3 Z Z) Z (F3 (B9 TySz.out Z Z Z Z Z Z) (A6 ?_))))))
    refine k1 ?_
    exact G48 ⟨le1 rfl,le1 rfl,le1 rfl,le1 rfl,le1 rfl,le1 rfl,le1 rfl,le1 rfl,trivial⟩ ⟨rfl,rfl,trivial⟩
   ·have hlt:¬k < p.length:=by have:=A1 ht;omega
    have:x=⟨m,n⟩:=by rw [hx,G85,H06 (by omega)];rfl
    subst this
    refine k5 (k1 ?_)
    exact G48 ⟨le1 rfl,le1 rfl,le1 rfl,le1 rfl,le1 rfl,le1 rfl,le1 rfl,le1 rfl,trivial⟩ ⟨rfl,rfl,trivial⟩
  ·obtain ⟨out',hout'⟩:∃o,o=out++(if x.From > i∨x.To > j then [⟨i,x.From - i,j,x.To - j⟩] else []):=⟨_,rfl⟩
   have hol:out'.length≤k+1:=by rw [hout',G79];split<;>simp<;>omega
   refine j1 [(0,C4 Span 2 spanC p),(1,C1 m),(2,C1 n),(7,.s (.one (.buf 7 Change 4 changeC out'))),(10,C1 k),(11,.s (.one (.ref 11 0)))] [(11,.box [.p (.v (.int .i64 x.From)),.p (.v (.int .i64 x.To))]),(7,.spare out'.length 4 146)] ?_ ?_
   ·refine k2 ?_
    refine A4 (A2 (A8 Z) Z (A2 (A9 Z Z Z) Z (A2 (A3 Z Z) Z (A2 (N7 Z Z) Z (A2 (A3 Z Z) Z (B0 Z Z Z Z (fun hg=>by rw [hg];exact A8 Z) ?_))))));refine B0 Z Z Z Z (fun hg=>by rw [hg];exact A9 Z Z Z) ?_;refine B0 Z Z Z Z (fun hg=>by rw [hg];exact A3 Z Z) ?_;refine B0 Z Z Z Z (fun hg=>by rw [hg];exact N7 Z Z) ?_;refine A2 (B2 Z (fun h=>by first | rfl | (rw [h];rfl)) (fun h=>by first | rfl | (rw [h];rfl))) Z ?_;refine A6 ?_
    refine k1 ?_
    refine B5 rfl (fun ht=>?_) (fun ht=>?_)
    ·have h:=A0 (or_pick.symm.trans ht)
     rw [if_pos h] at hout'
     subst hout'
     skip
     refine A4 (A2 (A3 Z Z) Z (A2 (A3 Z Z) Z (A2 (A8 Z) Z (A2 (A9 Z Z Z) Z (A2 (A3 Z Z) Z (A2 (H8 Z Z (by omega)) Z (A2 (A3 Z Z) Z (A2 (A8 Z) Z (A2 (A9 Z Z Z) Z (A2 (A3 Z Z) Z (A2 (H8 Z Z (by omega)) Z (A2 (I6 Z) Z (A2 (D8 (c:=changeC) (ys:=[⟨_,_,_,_⟩]) (E5 Z Z Z Z G8) Z Z Z) Z (D1 (J2 Z Z Z (.pure _ _ _ _) (by simp;omega) Z) Z (A2 (A5 Z Z) Z (A6 ?_))))))))))))))))
     refine k1 ?_
     exact G48 ⟨le1 rfl,le1 rfl,le1 rfl,le1 rfl,le1 rfl,le1 rfl,trivial⟩ ⟨rfl,rfl,trivial⟩
    ·have h:=A1 (or_pick.symm.trans ht)
     rw [if_neg h,H05] at hout'
     subst hout'
     refine k5 (k1 ?_)
     exact G48 ⟨le1 rfl,le1 rfl,le1 rfl,le1 rfl,le1 rfl,le1 rfl,trivial⟩ ⟨rfl,rfl,trivial⟩
   ·skip
    refine C5 (by kernel_rfl) (by kernel_rfl) (A7 (A8 Z) Z Z (A7 (A9 Z Z Z) Z Z (A7 (C0 Z Z (by omega)) Z Z (A7 (A8 Z) Z Z (A7 (A9 Z Z Z) Z Z (A7 (C0 Z Z (by omega)) Z Z (A7 (A5 Z Z) Z Z (A7 (A5 Z Z) Z Z (F4 ?_)))))))))
    refine k4 (k1 ?_)
    refine A4 (A2 (A3 Z Z) Z (A2 (C0 Z Z (by omega)) Z (A2 (A5 Z Z) Z (A6 ?_))))
    refine k1 ?_
    refine ⟨(k+1,x.From+1,x.To+1,out'),⟨by dsimp only;omega,hol,by dsimp only;omega,?_,?_⟩,by dsimp only;omega,G48 ⟨le1 rfl,le1 rfl,le1 rfl,le1 rfl,le1 rfl,le1 rfl,le1 rfl,trivial⟩ ⟨rfl,trivial⟩⟩
    ·intro hk2
     dsimp only at hk2 ⊢
     rw [←hpp,hmade,if_pos (show k < p.length by omega),hout'];simp
    ·intro hk2
     dsimp only at hk2 ⊢
     rw [←hpp,hmade,if_neg (show ¬k < p.length by omega),hout'];simp
 ·have hk':k=p.length+1:=by have:=A1 ht;omega
  refine k6 (k2 ?_)
  refine A4 (A2 (A3 Z Z) Z (A2 (A5 Z Z) Z (A6 ?_)))
  refine k1 (k10 ?_)
  exact B6 (G4 rfl rfl rfl) (by rw [h2 hk'])
theorem G28 (a b:List Int) (ha:a.length≤536870912) (hb:b.length≤536870912):FnOk Tryz.prog 168 [O1 a,O1 b] (fun rs=>rs=[pIntss (B11 a b)]):=by
 refine FnOk.intro Tryz.func168 (by decide) Z Z Z Z ?_
 refine k2 ?_
 refine A4 (A2 (A5 Z Z) Z (A6 ?_))
 refine k1 (k2 ?_)
 refine A4 (A2 (A3 Z Z) Z (A2 (E0 Z (.pure _ _ _ _)) Z (A2 (C0 Z Z (by omega)) Z (D1 (B65 5 (List Int) intsC [] Z Z (by omega) (by omega) (fun _=>by first | exact ⟨⟨rfl,rfl⟩,trivial⟩ | exact ⟨U5 _ _ _,trivial⟩) (by first | rfl | (simp [H2,K8,Ob.free,SV.free,S1.free,TC.free]<;>rfl))) Z ?_))));refine A2 (A5 Z Z) Z (A6 ?_)
 refine k1 (k2 (k2 ?_))
 refine A4 (A2 (A3 Z Z) Z (A2 (E0 Z (.pure _ _ _ _)) Z (A2 (A5 Z Z) Z (A6 ?_))))
 refine k1 (k3 ?_)
 refine D9 (X:=Nat) (fun i=>([(0,C4 Int 1 I8 a),(1,C4 Int 1 I8 b),(5,.s (.one (.mut 5))),(6,C1 ((i:Int) - 1))],[(5,.arr (List Int) 1 intsC (M6 a b i))])) (fun i=>i≤a.length+1) (fun i=>i) (a.length+1) (Nat.le_refl _) ?_ ?_
 ·refine G48 ⟨⟨_,rfl,.same _⟩,⟨_,rfl,.same _⟩,⟨_,rfl,.same _⟩,⟨_,rfl,.eq (by simp)⟩,trivial⟩ ⟨?_,trivial⟩
  rw [←D51];rfl
 intro i hi
 dsimp only at hi ⊢
 refine k2 (k2 ?_)
 refine A4 (A2 (A3 Z Z) Z (A2 (x5 Z Z) Z (A6 ?_)))
 refine k1 ?_
 refine B5 rfl (fun ht=>?_) (fun ht=>?_)
 ·obtain ⟨i,rfl⟩:∃r,i=r+1:=⟨i - 1,by have:=A0 ht;omega⟩
  refine O5 [(0,C4 Int 1 I8 a),(1,C4 Int 1 I8 b),(5,.s (.one (.mut 5))),(6,C1 i)] [(5,.arr (List Int) 1 intsC (M6 a b (i+1)))] (G48 ⟨le1 rfl,le1 rfl,le1 rfl,leE Z (by first | (simp;done) | (simp;omega)),trivial⟩ ⟨rfl,trivial⟩) ?_
  refine J3 (G68 5 Z) ?_
  have hTl:((M6 a b (i+1)).map fun x=>TC.p (intsC x 0)).length=a.length+1:=by simp [s7]
  have hRs:=s7 a b (i+1)
  refine k5 (k1 (k2 (k3 (k2 ?_))))
  refine A4 (A2 (A3 Z Z) Z (A2 (A3 Z Z) Z (A2 (A3 Z Z) Z (A2 (E0 Z (.pure _ _ _ _)) Z (A2 (C0 Z Z (by omega)) Z (D1 (B65 23 Int I8 0 Z Z (by omega) (by omega) (fun _=>by first | exact ⟨⟨rfl,rfl⟩,trivial⟩ | exact ⟨U5 _ _ _,trivial⟩) (by first | rfl | (simp [H2,K8,Ob.free,SV.free,S1.free,TC.free]<;>rfl))) Z ?_))))));refine A2 (G9 Z Z Z (by omega) (by omega)) Z (F3 (x8 TySz.out Z Z (by (rw [hTl];simp;omega)) Z Z) ?_);refine A6 ?_
  refine k1 (k2 ?_)
  refine A4 (A2 (A3 Z Z) Z (A2 (E0 Z (.pure _ _ _ _)) Z (A2 (A5 Z Z) Z (A6 ?_))))
  refine k1 (k3 ?_)
  obtain ⟨T,hT⟩:∃T,T=((M6 a b (i+1)).map fun x=>TC.p (intsC x 0)).set i (.mut 23):=⟨_,rfl⟩
  have hTi:T[i]?=some (.mut 23):=by rw [hT,H11 (by rw [hTl];omega)]
  have hTn:i+1≤a.length→T[i+1]?=some (.p (intsC (O8 a b (i+1) 0) 0)):=fun h=>by
   rw [hT,List.getElem?_set_ne (by omega),H14,A55 a b (i+1) (i+1) (Nat.le_refl _) h];rfl
  refine D9 (X:=Nat) (fun j=>([(0,C4 Int 1 I8 a),(1,C4 Int 1 I8 b),(5,.s (.one (.mut 5))),(6,C1 i),(7,C1 ((j:Int) - 1))],[(5,.tarr (M6 a b (i+1)).length 1 T),(23,.arr Int 1 I8 (O8 a b i j))])) (fun j=>j≤b.length+1) (fun j=>j) (b.length+1) (Nat.le_refl _) ?_ ?_
  ·refine G48 ⟨⟨_,rfl,.same _⟩,⟨_,rfl,.same _⟩,⟨_,rfl,.same _⟩,⟨_,rfl,.same _⟩,⟨_,rfl,.eq (by simp)⟩,trivial⟩ ⟨by rw [hT];rfl,?_,trivial⟩
   rw [←E25];rfl
  intro j hj
  dsimp only at hj ⊢
  refine k2 (k2 ?_)
  refine A4 (A2 (A3 Z Z) Z (A2 (x5 Z Z) Z (A6 ?_)))
  refine k1 ?_
  refine B5 rfl (fun ht=>?_) (fun ht=>?_)
  ·obtain ⟨j,rfl⟩:∃r,j=r+1:=⟨j - 1,by have:=A0 ht;omega⟩
   refine O5 [(0,C4 Int 1 I8 a),(1,C4 Int 1 I8 b),(5,.s (.one (.mut 5))),(6,C1 i),(7,C1 j)] [(5,.tarr (M6 a b (i+1)).length 1 T),(23,.arr Int 1 I8 (O8 a b i (j+1)))] (G48 ⟨le1 rfl,le1 rfl,le1 rfl,le1 rfl,leE Z (by first | (simp;done) | (simp;omega)),trivial⟩ ⟨rfl,rfl,trivial⟩) ?_
   have hRl:=D09 a b i (j+1)
   have hst:=E82 a b i j
   refine C67 ?_
   refine I1 ?_
   refine j1 [(0,C4 Int 1 I8 a),(1,C4 Int 1 I8 b),(5,.s (.one (.mut 5))),(6,C1 i),(7,C1 j)] [(5,.tarr (M6 a b (i+1)).length 1 T),(23,.arr Int 1 I8 (O8 a b i j))] ?_ ?_
   ·refine k3 (k3 (k2 ?_))
    refine A4 (A2 (A3 Z Z) Z (A2 (A3 Z Z) Z (A2 (E0 Z (.pure _ _ _ _)) Z (A2 (I2 Z Z) Z (A2 (A5 Z Z) Z (A6 ?_))))))
    refine k1 ?_
    refine B5 rfl (fun ht=>?_) (fun ht=>?_)
    ·have hia:i=a.length:=by have:=A0 ht;omega
     have hd:(dist (a.drop i) (b.drop j):Int)=b.length - j:=by rw [hia,G84 (Nat.le_refl _),dist,G92];omega
     rw [hd] at hst
     skip
     refine A4 (A2 (A3 Z Z) Z (A2 (A3 Z Z) Z (A2 (G9 Z Z Z (by omega) (by omega)) Z (A2 (L6 Z Z hTi) Z (A2 (A3 Z Z) Z (A2 (A3 Z Z) Z (A2 (E0 Z (.pure _ _ _ _)) Z (A2 (A3 Z Z) Z (A2 (H8 Z Z (by omega)) Z (A2 (N5 Z Z Z (by omega) (by omega)) Z (F3 (M5 TySz.out Z Z (by (rw [hRl];simp;omega)) Z Z) ?_)))))))))));refine A6 ?_
     refine k4 (k4 (k1 ?_))
     rw [←hst]
     exact G48 ⟨le1 rfl,le1 rfl,le1 rfl,le1 rfl,le1 rfl,trivial⟩ ⟨rfl,rfl,trivial⟩
    ·have hia:i < a.length:=by have:=A1 ht;omega
     refine k2 ?_
     refine A4 (A2 (A3 Z Z) Z (A2 (A3 Z Z) Z (A2 (E0 Z (.pure _ _ _ _)) Z (A2 (I2 Z Z) Z (A2 (A5 Z Z) Z (A6 ?_))))))
     refine k1 ?_
     refine B5 rfl (fun ht=>?_) (fun ht=>?_)
     ·have hjb:j=b.length:=by have:=A0 ht;omega
      have hd:(dist (a.drop i) (b.drop j):Int)=a.length - i:=by rw [hjb,G84 (Nat.le_refl b.length),y8,G92];omega
      rw [hd] at hst
      skip
      refine A4 (A2 (A3 Z Z) Z (A2 (A3 Z Z) Z (A2 (G9 Z Z Z (by omega) (by omega)) Z (A2 (L6 Z Z hTi) Z (A2 (A3 Z Z) Z (A2 (A3 Z Z) Z (A2 (E0 Z (.pure _ _ _ _)) Z (A2 (A3 Z Z) Z (A2 (H8 Z Z (by omega)) Z (A2 (N5 Z Z Z (by omega) (by omega)) Z (F3 (M5 TySz.out Z Z (by (rw [hRl];simp;omega)) Z Z) ?_)))))))))));refine A6 ?_
      refine k4 (k4 (k1 ?_))
      rw [←hst]
      exact G48 ⟨le1 rfl,le1 rfl,le1 rfl,le1 rfl,le1 rfl,trivial⟩ ⟨rfl,rfl,trivial⟩
     ·have hjb:j < b.length:=by have:=A1 ht;omega
      have hva:a[i]?=some a[i]:=by simp [hia]
      have hvb:b[j]?=some b[j]:=by simp [hjb]
      have hdd:=D89 a b i j hia hjb
      have hTn':=hTn hia
      refine k2 ?_
      refine C5 (by kernel_rfl) (by kernel_rfl) (A7 (A3 Z Z) Z Z (A7 (A3 Z Z) Z Z (A7 (B1 Z (.pure _ _ _ _) Z (by omega) hva) Z Z (A7 (B3 Z Z) Z Z (A7 (A3 Z Z) Z Z (A7 (A3 Z Z) Z Z (A7 (B1 Z (.pure _ _ _ _) Z (by omega) hvb) Z Z (A7 (B3 Z Z) Z Z (A7 (I2 Z Z) Z Z (A7 (A5 Z Z) Z Z (F4 ?_)))))))))))
      refine k1 ?_
      refine B5 rfl (fun ht=>?_) (fun ht=>?_)
      ·rw [if_pos (A0 ht)] at hdd
       have hg:=p9 a b (i+1) 0 (j+1) (Nat.zero_le _) hjb
       rw [hdd] at hst
       skip
       refine C5 (by kernel_rfl) (by kernel_rfl) (A7 (A3 Z Z) Z Z (A7 (A3 Z Z) Z Z (A7 (G9 Z Z Z (by omega) (by omega)) Z Z (A7 (L6 Z Z hTi) Z Z (A7 (A3 Z Z) Z Z (A7 (A3 Z Z) Z Z (A7 (A3 Z Z) Z Z (A7 (C0 Z Z (by omega)) Z Z (A7 (G9 Z Z Z (by omega) (by omega)) Z Z (A7 (L6 Z Z hTn') Z Z (A7 (A3 Z Z) Z Z (A7 (C0 Z Z (by omega)) Z Z (A7 (B1 Z (.pure _ _ _ _) Z (by omega) hg) Z Z (A7 (B3 Z Z) Z Z (A7 (N5 Z Z Z (by omega) (by omega)) Z Z (Y5 (M5 TySz.out Z Z (by (rw [hRl];simp;omega)) Z Z) Z ?_))))))))))))))));refine F4 ?_
       refine k4 (k4 (k1 ?_))
       rw [←hst]
       exact G48 ⟨le1 rfl,le1 rfl,le1 rfl,le1 rfl,le1 rfl,trivial⟩ ⟨rfl,rfl,trivial⟩
      ·rw [if_neg (A1 ht)] at hdd
       have hg1:=p9 a b (i+1) 0 j (Nat.zero_le _) (by omega)
       have hg2:=p9 a b i (j+1) (j+1) (Nat.le_refl _) (by omega)
       have hl1:=B09 (a.drop (i+1)) (b.drop j)
       have hl2:=B09 (a.drop i) (b.drop (j+1))
       simp only [G92] at hl1 hl2
       have hval:(1:Int)+(if (dist (a.drop i) (b.drop (j+1)):Int) < (dist (a.drop (i+1)) (b.drop j):Int) then (dist (a.drop i) (b.drop (j+1)):Int) else (dist (a.drop (i+1)) (b.drop j):Int))=(dist (a.drop i) (b.drop j):Int):=by
        rw [hdd];split<;>omega
       rw [←hval] at hst
       skip
       refine C5 (by kernel_rfl) (by kernel_rfl) (A7 (A3 Z Z) Z Z (A7 (A3 Z Z) Z Z (A7 (G9 Z Z Z (by omega) (by omega)) Z Z (A7 (L6 Z Z hTi) Z Z (A7 (A3 Z Z) Z Z (A7 (A3 Z Z) Z Z (A7 (A3 Z Z) Z Z (A7 (C0 Z Z (by omega)) Z Z (A7 (G9 Z Z Z (by omega) (by omega)) Z Z (A7 (L6 Z Z hTn') Z Z (A7 (A3 Z Z) Z Z (A7 (B1 Z (.pure _ _ _ _) Z (by omega) hg1) Z Z (A7 (B3 Z Z) Z Z (A7 (A3 Z Z) Z Z (A7 (A3 Z Z) Z Z (A7 (G9 Z Z Z (by omega) (by omega)) Z Z (A7 (L6 Z Z hTi) Z Z (A7 (A3 Z Z) Z Z (A7 (C0 Z Z (by omega)) Z Z (A7 (N5 Z Z Z (by omega) (by omega)) Z Z (A7 (A07 Z Z hg2 Z) Z Z (A7 (C29 Z Z) Z Z (A7 (C0 Z Z (by (constructor<;>split<;>omega))) Z Z ?_)))))))))))))))))))))));refine A7 (N5 Z Z Z (by omega) (by omega)) Z Z (Y5 (M5 TySz.out Z Z (by (rw [hRl];simp;omega)) Z Z) Z ?_);refine F4 ?_
       refine k4 (k4 (k1 ?_))
       rw [←hst]
       exact G48 ⟨le1 rfl,le1 rfl,le1 rfl,le1 rfl,le1 rfl,trivial⟩ ⟨rfl,rfl,trivial⟩
   ·skip
    refine A4 (A2 (A3 Z Z) Z (A2 (H8 Z Z (by omega)) Z (A2 (A5 Z Z) Z (A6 ?_))))
    refine k1 ?_
    exact ⟨j,by omega,by omega,G48 ⟨le1 rfl,le1 rfl,le1 rfl,le1 rfl,le1 rfl,trivial⟩ ⟨rfl,rfl,trivial⟩⟩
  ·obtain rfl:j=0:=by have:=A1 ht;omega
   refine J3 (Sees.freeze (k:=23) Z) ?_
   refine J3 (G69 5 (M6 a b i) Z (by simp [s7]) (by rw [hT,F03 (y:=O8 a b i 0) rfl,E26])) ?_
   refine k6 (k7 (k7 (k8 Z (k4 (k1 ?_)))))
   refine A4 (A2 (A3 Z Z) Z (A2 (H8 Z Z (by omega)) Z (A2 (A5 Z Z) Z (A6 ?_))))
   refine k1 ?_
   exact ⟨i,by omega,by omega,G48 ⟨le1 rfl,le1 rfl,le1 rfl,le1 rfl,trivial⟩ ⟨rfl,trivial⟩⟩
 ·obtain rfl:i=0:=by have:=A1 ht;omega
  refine J3 (Sees.freeze (k:=5) Z) ?_
  refine k6 (k2 ?_)
  refine A4 (A2 (A3 Z Z) Z (A2 (A5 Z Z) Z (A6 ?_)))
  refine k1 (k10 ?_)
  exact B6 (G4 rfl rfl rfl) rfl
theorem E15 (a b:List Int):∀(p q:Int),∀s∈H0 p q a b,p≤s.From∧s.From < p+a.length∧q≤s.To∧s.To < q+b.length:=by
 induction a generalizing b with
 | nil=>intro p q s hs;simp [H0] at hs
 | cons x a iha =>
  induction b with
  | nil=>intro p q s hs;simp [H0] at hs
  | cons y b ihb =>
   intro p q s hs
   rw [H0] at hs
   simp only [G81]
   split at hs
   ·rcases List.mem_cons.1 hs with rfl | hs
    ·simp only;omega
    ·have:=iha b (p+1) (q+1) s hs;omega
   ·split at hs
    ·have:=iha (y::b) (p+1) q s hs;simp only [G81] at this;omega
    ·have:=ihb p (q+1) s hs;simp only [G81] at this;omega
theorem walk_ok (a b:List Int) (ha:a.length≤536870911) (hb:b.length≤536870911):FnOk Tryz.prog 102 [O1 a,O1 b] (fun rs=>rs=[pChanges (y9 a b)]):=by
 refine FnOk.intro Tryz.func102 (by decide) Z Z Z Z ?_
 refine k2 ?_
 refine A4 (A2 (A5 Z Z) Z (A6 ?_))
 refine k1 (k2 ?_)
 refine A4 (A2 (A3 Z Z) Z (A2 (A3 Z Z) Z (C8 (G28 a b (by omega) (by omega)) Z Z Z ?_)));rintro _ rfl;refine A2 (A5 Z Z) Z (A6 ?_)
 refine k1 (k2 ?_)
 refine A4 (D1 (Z2 6 _ spanC Z) Z (A6 ?_))
 refine k1 (k2 ?_)
 refine A4 (A2 (A5 Z Z) Z (A2 (A5 Z Z) Z (A6 ?_)))
 refine k1 (k2 (k3 ?_))
 refine D9 (X:=Nat × Nat × List Span) (fun x=>([(0,C4 Int 1 I8 a),(1,C4 Int 1 I8 b),(5,C4 (List Int) 1 intsC (B11 a b)),(6,.s (.one (.buf 6 Span 2 spanC x.2.2))),(7,C1 x.1),(8,C1 x.2.1)],[(6,.spare x.2.2.length 2 88)]))
  (fun x=>x.1≤a.length∧x.2.1≤b.length∧x.2.2.length≤x.1∧x.2.2++H0 x.1 x.2.1 (a.drop x.1) (b.drop x.2.1)=H0 0 0 a b) (fun x=>a.length+b.length - x.1 - x.2.1) (0,0,[]) (by simp) (G48 ⟨le1 rfl,le1 rfl,le1 rfl,le1 rfl,le1 rfl,le1 rfl,trivial⟩ ⟨rfl,trivial⟩) ?_
 rintro ⟨i,j,out⟩ ⟨hi,hj,ho,hp⟩
 dsimp only at hi hj ho hp ⊢
 refine k2 (k2 ?_)
 refine A4 (A2 (A3 Z Z) Z (A2 (A3 Z Z) Z (A2 (E0 Z (.pure _ _ _ _)) Z (A2 (E9 Z Z) Z (A2 (A3 Z Z) Z (B0 Z Z Z Z (fun hg=>by rw [hg];exact A3 Z Z) ?_))))));refine B0 Z Z Z Z (fun hg=>by rw [hg];exact A3 Z Z) ?_;refine B0 Z Z Z Z (fun hg=>by rw [hg];exact E0 Z (.pure _ _ _ _)) ?_;refine B0 Z Z Z Z (fun hg=>by rw [hg];exact E9 Z Z) ?_;refine A2 (B2 Z (fun h=>by first | rfl | (rw [h];rfl)) (fun h=>by first | rfl | (rw [h];rfl))) Z ?_;refine A6 ?_
 refine k1 ?_
 refine B5 rfl (fun ht=>?_) (fun ht=>?_)
 ·have hor:=A0 (or_pick.symm.trans ht)
  refine C67 ?_
  refine I1 ?_
  refine k3 (k3 (k2 ?_))
  have hTi:i < a.length→(B11 a b)[i]?=some (O8 a b i 0):=fun h=>A55 a b 0 i (Nat.zero_le _) (by omega)
  have hTn:i < a.length→(B11 a b)[i+1]?=some (O8 a b (i+1) 0):=fun h=>A55 a b 0 (i+1) (Nat.zero_le _) (by omega)
  have hva:i < a.length→a[i]?=some (a.getD i 0):=fun h=>by simp [G85,h]
  have hvb:j < b.length→b[j]?=some (b.getD j 0):=fun h=>by simp [G85,h]
  have hga:∀h:i < a.length,a.getD i 0=a[i]:=fun h=>by simp [G85,h]
  have hgb:∀h:j < b.length,b.getD j 0=b[j]:=fun h=>by simp [G85,h]
  refine C5 (by kernel_rfl) (by kernel_rfl) (A7 (A3 Z Z) Z Z (A7 (A3 Z Z) Z Z (A7 (E0 Z (.pure _ _ _ _)) Z Z (A7 (E9 Z Z) Z Z (A7 (A3 Z Z) Z Z (B4 Z Z (fun hg=>by rw [hg];exact A3 Z Z) Z Z ?_))))));refine B4 Z Z (fun hg=>by rw [hg];exact A3 Z Z) Z Z ?_;refine B4 Z Z (fun hg=>by rw [hg];exact E0 Z (.pure _ _ _ _)) Z Z ?_;refine B4 Z Z (fun hg=>by rw [hg];exact E9 Z Z) Z Z ?_;refine A7 (B2 Z (fun h=>by first | rfl | (rw [h];rfl)) (fun h=>by first | rfl | (rw [h];rfl))) Z Z ?_;refine A7 (A3 Z Z) Z Z (B4 Z Z (fun hg=>by rw [hg];exact A3 Z Z) Z Z ?_);refine B4 Z Z (fun hg=>by rw [hg];exact A3 Z Z) Z Z ?_;refine B4 Z Z (fun hg=>by have hq:=hg;(try simp at hq);rw [hg];exact B1 Z (.pure _ _ _ _) Z (by omega) (hva (by omega))) Z Z ?_;refine B4 Z Z (fun hg=>by rw [hg];exact B3 Z Z) Z Z ?_;refine B4 Z Z (fun hg=>by rw [hg];exact A3 Z Z) Z Z ?_;refine B4 Z Z (fun hg=>by rw [hg];exact A3 Z Z) Z Z ?_;refine B4 Z Z (fun hg=>by have hq:=hg;(try simp at hq);rw [hg];exact B1 Z (.pure _ _ _ _) Z (by omega) (hvb (by omega))) Z Z ?_;refine B4 Z Z (fun hg=>by rw [hg];exact B3 Z Z) Z Z ?_;refine B4 Z Z (fun hg=>by rw [hg];exact I2 Z Z) Z Z ?_;refine A7 (B2 Z (fun h=>by first | rfl | (rw [h];rfl)) (fun h=>by first | rfl | (rw [h];rfl))) Z Z ?_;refine A7 (A5 Z Z) Z Z (F4 ?_)
  refine k1 ?_
  refine B5 rfl (fun ht=>?_) (fun ht=>?_)
  ·simp only [I9] at ht
   obtain ⟨⟨hia,hjb⟩,heq⟩:=A0 ht
   have hia':i < a.length:=by omega
   have hjb':j < b.length:=by omega
   rw [hga hia',hgb hjb'] at heq
   rw [p8 a b i j hia' hjb',if_pos heq] at hp
   refine k2 ?_
   refine A4 (A2 (A3 Z Z) Z (A2 (A3 Z Z) Z (A2 (A3 Z Z) Z (A2 (I6 Z) Z (A2 (D8 (c:=spanC) (ys:=[⟨_,_⟩]) (E5 Z Z Z Z G8) Z Z Z) Z (D1 (J2 Z Z Z (.pure _ _ _ _) (by simp;omega) Z) Z (A2 (A5 Z Z) Z (A6 ?_))))))))
   refine k1 ?_
   refine A4 (A2 (A3 Z Z) Z (A2 (C0 Z Z (by omega)) Z (A2 (A3 Z Z) Z (A2 (C0 Z Z (by omega)) Z (A2 (A5 Z Z) Z (A2 (A5 Z Z) Z (A6 ?_)))))))
   refine k4 (k4 (k1 ?_))
   exact ⟨(i+1,j+1,out++[⟨i,j⟩]),⟨by dsimp only;omega,by dsimp only;omega,by dsimp only;simp;omega,by dsimp only;rw [G91];exact hp⟩,by dsimp only;omega,G48 ⟨le1 rfl,le1 rfl,le1 rfl,le1 rfl,le1 rfl,le1 rfl,trivial⟩ ⟨rfl,trivial⟩⟩
  ·have hne:∀(h1:i < a.length) (h2:j < b.length),a[i]≠b[j]:=fun h1 h2 h=>by
    simp only [I9] at ht
    exact A1 ht ⟨⟨by omega,by omega⟩,by rw [hga h1,hgb h2];exact h⟩
   refine k2 ?_
   refine C5 (by kernel_rfl) (by kernel_rfl) (A7 (A3 Z Z) Z Z (A7 (A3 Z Z) Z Z (A7 (E0 Z (.pure _ _ _ _)) Z Z (A7 (E9 Z Z) Z Z (A7 (A3 Z Z) Z Z (B4 Z Z (fun hg=>by rw [hg];exact A3 Z Z) Z Z ?_))))));refine B4 Z Z (fun hg=>by rw [hg];exact A3 Z Z) Z Z ?_;refine B4 Z Z (fun hg=>by have hq:=hg;(try simp at hq);rw [hg];exact C0 Z Z (by omega)) Z Z ?_;refine B4 Z Z (fun hg=>by have hq:=hg;(try simp at hq);rw [hg];exact B1 Z (.pure _ _ _ _) Z (by omega) (hTn (by omega))) Z Z ?_;refine B4 Z Z (fun hg=>by rw [hg];exact B3 Z Z) Z Z ?_;refine B4 Z Z (fun hg=>by rw [hg];exact A3 Z Z) Z Z ?_;refine B4 Z Z (fun hg=>by have hq:=hg;(try simp at hq);rw [hg];exact B1 Z (.pure _ _ _ _) Z (by omega) (p9 a b (i+1) 0 j (Nat.zero_le _) hj)) Z Z ?_;refine B4 Z Z (fun hg=>by rw [hg];exact B3 Z Z) Z Z ?_;refine B4 Z Z (fun hg=>by have hq:=hg;(try simp at hq);have h1:=B09 (a.drop (i+1)) (b.drop j);simp only [G92] at h1;rw [hg];exact C0 Z Z (by omega)) Z Z ?_;refine B4 Z Z (fun hg=>by rw [hg];exact A3 Z Z) Z Z ?_;refine B4 Z Z (fun hg=>by rw [hg];exact A3 Z Z) Z Z ?_;refine B4 Z Z (fun hg=>by have hq:=hg;(try simp at hq);rw [hg];exact B1 Z (.pure _ _ _ _) Z (by omega) (hTi (by omega))) Z Z ?_;refine B4 Z Z (fun hg=>by rw [hg];exact B3 Z Z) Z Z ?_;refine B4 Z Z (fun hg=>by rw [hg];exact A3 Z Z) Z Z ?_;refine B4 Z Z (fun hg=>by have hq:=hg;(try simp at hq);rw [hg];exact B1 Z (.pure _ _ _ _) Z (by omega) (p9 a b i 0 j (Nat.zero_le _) hj)) Z Z ?_;refine B4 Z Z (fun hg=>by rw [hg];exact B3 Z Z) Z Z ?_;refine B4 Z Z (fun hg=>by rw [hg];exact I2 Z Z) Z Z ?_;refine A7 (B2 Z (fun h=>by first | rfl | (rw [h];rfl)) (fun h=>by first | rfl | (rw [h];rfl))) Z Z ?_;refine A7 (A5 Z Z) Z Z (F4 ?_)
   refine k1 ?_
   refine B5 rfl (fun ht=>?_) (fun ht=>?_)
   ·rw [I9] at ht
    obtain ⟨hia,hd⟩:=A0 ht
    have hia':i < a.length:=by omega
    have hp':out++H0 (i+1:Nat) j (a.drop (i+1)) (b.drop j)=H0 0 0 a b:=by
     by_cases hjb:j < b.length
     ·rw [p8 a b i j hia' hjb,if_neg (hne hia' hjb),if_pos (by omega)] at hp
      exact hp
     ·rw [G84 (show b.length≤j by omega),X9] at hp ⊢
      exact hp
    skip
    refine A4 (A2 (A3 Z Z) Z (A2 (C0 Z Z (by omega)) Z (A2 (A5 Z Z) Z (A6 ?_))))
    refine k4 (k4 (k1 ?_))
    exact ⟨(i+1,j,out),⟨by dsimp only;omega,by dsimp only;omega,by dsimp only;omega,hp'⟩,by dsimp only;omega,G48 ⟨le1 rfl,le1 rfl,le1 rfl,le1 rfl,le1 rfl,le1 rfl,trivial⟩ ⟨rfl,trivial⟩⟩
   ·rw [I9] at ht
    have hd:=A1 ht
    have hjb:j < b.length:=by
     refine Classical.byContradiction fun h=>?_
     have hjb:j=b.length:=by omega
     have hia:i < a.length:=by omega
     apply hd
     refine ⟨by omega,?_⟩
     rw [G84 (show b.length≤j by omega),y8,y8,G92,G92]
     omega
    have hp':out++H0 i (j+1:Nat) (a.drop i) (b.drop (j+1))=H0 0 0 a b:=by
     by_cases hia:i < a.length
     ·rw [p8 a b i j hia hjb,if_neg (hne hia hjb),if_neg (fun h=>hd ⟨by omega,by omega⟩)] at hp
      exact hp
     ·rw [G84 (show a.length≤i by omega),V4] at hp ⊢
      exact hp
    skip
    refine A4 (A2 (A3 Z Z) Z (A2 (C0 Z Z (by omega)) Z (A2 (A5 Z Z) Z (A6 ?_))))
    refine k4 (k4 (k1 ?_))
    exact ⟨(i,j+1,out),⟨by dsimp only;omega,by dsimp only;omega,by dsimp only;omega,hp'⟩,by dsimp only;omega,G48 ⟨le1 rfl,le1 rfl,le1 rfl,le1 rfl,le1 rfl,le1 rfl,trivial⟩ ⟨rfl,trivial⟩⟩
 ·have hor:=A1 (or_pick.symm.trans ht)
  have hi':i=a.length:=by omega
  have hj':j=b.length:=by omega
  rw [hi',G84 (Nat.le_refl a.length)] at hp
  have hout:out=H0 0 0 a b:=by rw [←hp];simp [H0]
  refine k6 (k2 ?_)
  refine A4 (A2 (A3 Z Z) Z (A2 (A3 Z Z) Z (A2 (E0 Z (.pure _ _ _ _)) Z (A2 (A3 Z Z) Z (A2 (E0 Z (.pure _ _ _ _)) Z (C8 (made_ok out a.length b.length (by omega) (fun s hs=>by have:=E15 a b 0 0 s (hout ▸ hs);omega) (by omega)) Z Z Z ?_))))));rintro _ rfl;refine A2 (A5 Z Z) Z (A6 ?_)
  refine k1 (k10 ?_)
  exact B6 (G4 rfl rfl rfl) (by rw [hout];rfl)
theorem F14 (l:List Change) (m:Int) (hl:l.length≤1048576) (hm:m≤536870911) (hb:∀c∈l,c.Old≤536870911∧0≤c.OldLen∧c.OldLen≤1048576∧0≤c.NewLen∧c.NewLen≤1048576) :
  FnOk Tryz.prog 103 [pChanges l,G2 m] (fun rs=>rs=[pSpans (N1 l m)]):=by
 refine FnOk.intro Tryz.func103 (by decide) Z Z Z Z ?_
 refine k2 ?_
 refine A4 (A2 (A5 Z Z) Z (A6 ?_))
 refine k1 (k2 ?_)
 refine A4 (D1 (Z2 5 _ spanC Z) Z (A6 ?_))
 refine k1 (k2 ?_)
 refine A4 (A2 (A5 Z Z) Z (A2 (A5 Z Z) Z (A6 ?_)))
 refine k1 (k2 (k2 ?_))
 refine A4 (A2 (A5 Z Z) Z (A6 ?_))
 refine k1 (k3 ?_)
 refine D9 (X:=Nat × Int × Int × List Span) (fun x=>([(0,C4 Change 4 changeC l),(1,C1 m),(5,.s (.one (.buf 5 Span 2 spanC x.2.2.2))),(6,C1 x.2.1),(7,C1 x.2.2.1),(8,C1 x.1)],[(5,.spare x.2.2.2.length 2 88)]))
  (fun x=>x.1≤l.length∧0≤x.2.1∧(x.2.2.2.length:Int)≤x.2.1∧x.2.1≤536870911+x.1*1048576∧0≤x.2.2.1∧x.2.2.1≤536870911*(x.1+1)+x.1*1048576∧x.2.2.2.length≤536870911∧x.2.2.2++O7 x.2.1 x.2.2.1 (l.drop x.1) m=N1 l m)
  (fun x=>l.length - x.1) (0,0,0,[]) (by simp [N1]) (G48 ⟨le1 rfl,le1 rfl,le1 rfl,le1 rfl,le1 rfl,le1 rfl,trivial⟩ ⟨rfl,trivial⟩) ?_
 rintro ⟨k,i,j,out⟩ ⟨hk,hi,ho,hi2,hj,hj2,ho2,hp⟩
 dsimp only at hk hi ho hi2 hj hj2 ho2 hp ⊢
 refine k2 (k2 ?_)
 refine A4 (A2 (A3 Z Z) Z (A2 (A3 Z Z) Z (A2 (E0 Z (.pure _ _ _ _)) Z (A2 (E9 Z Z) Z (A6 ?_)))))
 refine k1 ?_
 refine B5 rfl (fun ht=>?_) (fun ht=>?_)
 ·have hlt:k < l.length:=by have:=A0 ht;omega
  have hv:l[k]?=some l[k]:=by simp [hlt]
  have hc:=hb l[k] (G97 hlt)
  rw [G86 hlt,O7] at hp
  refine k5 (k1 (k2 (k3 (k2 (k3 ?_)))))
  refine D9 (X:=Nat) (fun t=>([(0,C4 Change 4 changeC l),(1,C1 m),(5,.s (.one (.buf 5 Span 2 spanC (out++K7 i j t)))),(6,C1 (i+t)),(7,C1 (j+t)),(8,C1 k)],[(5,.spare (out++K7 i j t).length 2 88)]))
   (fun t=>t≤(l[k].Old - i).toNat) (fun t=>(l[k].Old - i).toNat - t) 0 (Nat.zero_le _) (by rw [Y0,H05];exact G48 ⟨le1 rfl,le1 rfl,le1 rfl,leE rfl (by first | (simp;done) | (simp;omega)),leE rfl (by first | (simp;done) | (simp;omega)),le1 rfl,trivial⟩ ⟨rfl,trivial⟩) ?_
  intro t htl
  dsimp only at htl ⊢
  have hsl:=Q9 i j t
  refine k2 (k2 ?_)
  have hol:out.length+t≤536870911:=by omega
  refine A4 (A2 (A3 Z Z) Z (A2 (A3 Z Z) Z (A2 (A3 Z Z) Z (A2 (B1 Z (.pure _ _ _ _) Z (by omega) hv) Z (A2 (B8 Z) Z (A2 (B3 Z Z) Z (A2 (E9 Z Z) Z (A6 ?_))))))))
  refine k1 ?_
  refine B5 rfl (fun ht=>?_) (fun ht=>?_)
  ·have h1:=A0 ht
   refine k5 (k1 (k3 (k2 ?_)))
   refine A4 (A2 (A3 Z Z) Z (A2 (A3 Z Z) Z (A2 (A3 Z Z) Z (A2 (I6 Z) Z (A2 (D8 (c:=spanC) (ys:=[⟨_,_⟩]) (E5 Z Z Z Z G8) Z Z Z) Z (D1 (J2 Z Z Z (.pure _ _ _ _) (by (simp;omega)) Z) Z (A2 (A5 Z Z) Z (A6 ?_))))))))
   refine k1 ?_
   refine A4 (A2 (A3 Z Z) Z (A2 (C0 Z Z (by omega)) Z (A2 (A3 Z Z) Z (A2 (C0 Z Z (by omega)) Z (A2 (A5 Z Z) Z (A2 (A5 Z Z) Z (A6 ?_)))))))
   refine k4 (k1 ?_)
   refine ⟨t+1,by omega,by omega,?_⟩
   rw [u7,←G91]
   exact G48 ⟨le1 rfl,le1 rfl,le1 rfl,leE rfl (by first | (simp;done) | (simp;omega)),leE rfl (by first | (simp;done) | (simp;omega)),le1 rfl,trivial⟩ ⟨rfl,trivial⟩
  ·have h1:=A1 ht
   have h2:t=(l[k].Old - i).toNat:=by omega
   rw [←h2] at hp
   have h3:max i l[k].Old=i+t:=by omega
   rw [h3] at hp
   refine k6 (k7 (k7 (k8 Z (k1 ?_))))
   refine C5 (by kernel_rfl) (by kernel_rfl) (A7 (A3 Z Z) Z Z (A7 (A3 Z Z) Z Z (A7 (A3 Z Z) Z Z (A7 (B1 Z (.pure _ _ _ _) Z (by omega) hv) Z Z (A7 (B8 Z) Z Z (A7 (B3 Z Z) Z Z (A7 (C0 Z Z (by omega)) Z Z (A7 (A3 Z Z) Z Z (A7 (A3 Z Z) Z Z (A7 (A3 Z Z) Z Z (A7 (B1 Z (.pure _ _ _ _) Z (by omega) hv) Z Z (A7 (B8 Z) Z Z (A7 (B3 Z Z) Z Z (A7 (C0 Z Z (by omega)) Z Z (A7 (A5 Z Z) Z Z (A7 (A5 Z Z) Z Z (F4 ?_)))))))))))))))))
   refine k4 (k1 ?_)
   refine A4 (A2 (A3 Z Z) Z (A2 (C0 Z Z (by omega)) Z (A2 (A5 Z Z) Z (A6 ?_))))
   refine k1 ?_
   exact ⟨(k+1,i+t+l[k].OldLen,j+t+l[k].NewLen,out++K7 i j t),⟨by dsimp only;omega,by dsimp only;omega,by dsimp only;rw [G79,hsl];omega,by dsimp only;omega,by dsimp only;omega,by dsimp only;omega,by dsimp only;rw [G79,hsl];omega,by dsimp only;rw [G91];exact hp⟩,by dsimp only;omega,G48 ⟨le1 rfl,le1 rfl,le1 rfl,le1 rfl,le1 rfl,le1 rfl,trivial⟩ ⟨rfl,trivial⟩⟩
 ·have hk':k=l.length:=by have:=A1 ht;omega
  rw [hk',G84 (Nat.le_refl _),O7] at hp
  refine k6 (k2 (k3 ?_))
  refine D9 (X:=Nat) (fun t=>([(1,C1 m),(5,.s (.one (.buf 5 Span 2 spanC (out++K7 i j t)))),(6,C1 (i+t)),(7,C1 (j+t))],[(5,.spare (out++K7 i j t).length 2 88)]))
   (fun t=>t≤(m - i).toNat) (fun t=>(m - i).toNat - t) 0 (Nat.zero_le _) (by rw [Y0,H05];exact G48 ⟨le1 rfl,le1 rfl,leE rfl (by first | (simp;done) | (simp;omega)),leE rfl (by first | (simp;done) | (simp;omega)),trivial⟩ ⟨rfl,trivial⟩) ?_
  intro t htl
  dsimp only at htl ⊢
  have hsl:=Q9 i j t
  have hol:out.length+t≤536870911:=by omega
  refine k2 (k2 ?_)
  refine A4 (A2 (A3 Z Z) Z (A2 (A3 Z Z) Z (A2 (E9 Z Z) Z (A6 ?_))))
  refine k1 ?_
  refine B5 rfl (fun ht=>?_) (fun ht=>?_)
  ·have h1:=A0 ht
   refine k5 (k1 (k3 (k2 ?_)))
   refine A4 (A2 (A3 Z Z) Z (A2 (A3 Z Z) Z (A2 (A3 Z Z) Z (A2 (I6 Z) Z (A2 (D8 (c:=spanC) (ys:=[⟨_,_⟩]) (E5 Z Z Z Z G8) Z Z Z) Z (D1 (J2 Z Z Z (.pure _ _ _ _) (by (simp;omega)) Z) Z (A2 (A5 Z Z) Z (A6 ?_))))))))
   refine k1 ?_
   refine A4 (A2 (A3 Z Z) Z (A2 (C0 Z Z (by omega)) Z (A2 (A3 Z Z) Z (A2 (C0 Z Z (by omega)) Z (A2 (A5 Z Z) Z (A2 (A5 Z Z) Z (A6 ?_)))))))
   refine k4 (k1 ?_)
   refine ⟨t+1,by omega,by omega,?_⟩
   rw [u7,←G91]
   exact G48 ⟨le1 rfl,le1 rfl,leE rfl (by first | (simp;done) | (simp;omega)),leE rfl (by first | (simp;done) | (simp;omega)),trivial⟩ ⟨rfl,trivial⟩
  ·have h1:=A1 ht
   have h2:t=(m - i).toNat:=by omega
   refine k6 (k2 ?_)
   refine A4 (A2 (A3 Z Z) Z (A2 (A5 Z Z) Z (A6 ?_)))
   refine k1 (k10 ?_)
   exact B6 (G4 rfl rfl rfl) (by rw [h2,hp])
theorem u64_in {n:Int} (h:0≤n∧n < 18446744073709551616):IntKind.u64.wrap n=n:=by simp [IntKind.wrap,IntKind.signed,IntKind.bits];omega
def S6 (a n:Int):Int:=IntKind.u64.wrap a % n
theorem j4 (a:Int) {n:Int} (h:1≤n):0≤S6 a n∧S6 a n < n:=⟨Int.emod_nonneg _ (by omega),Int.emod_lt_of_pos _ (by omega)⟩
theorem A47 (a n:Int) (hn:1≤n) (hn':n≤9223372036854775807):FnOk Tryz.prog 18 [G2 a,G2 n] (fun rs=>rs=[G2 (S6 a n)]):=by
 refine FnOk.intro Tryz.func18 (by decide) Z Z Z Z ?_
 refine k2 ?_
 refine A4 (A2 (A5 Z Z) Z (A6 ?_))
 refine k1 (k2 ?_)
 have h1:IntKind.u64.wrap n=n:=u64_in (by omega)
 refine A4 (A2 (A3 Z Z) Z (A2 (X7 Z) Z (A2 (A3 Z Z) Z (A2 (X7 Z) Z (A2 (B19 Z Z (by (rw [h1];omega))) Z ?_)))));refine A2 (X7 Z) Z (A2 (A5 Z Z) Z (A6 ?_))
 refine k1 (k10 ?_)
 refine B6 (G4 Z Z Z) ?_
 have h2:=F13 a
 have h3:(IntKind.u64.wrap a).tmod n=IntKind.u64.wrap a % n:=Int.tmod_eq_emod_of_nonneg h2
 have h4:=j4 a hn
 unfold S6 at *
 rw [h1,h3,C27 ⟨by omega,by omega⟩]
def xor64 (a b:Int):Int:=IntKind.u64.wrap ((BitVec.ofInt IntKind.u64.bits a ^^^ BitVec.ofInt IntKind.u64.bits b).toNat:Int)
def shr64 (a n:Int):Int:=a.fdiv (2 ^ (min n.toNat IntKind.u64.bits))
def at0 (k:Int):Int:=IntKind.u64.wrap (IntKind.u64.wrap (k+1)*11400714819323198485)
def at1 (raw:List Int) (k:Int):Int:=if 0 < raw.length then xor64 (at0 k) (IntKind.u64.wrap (raw.getD (k.tmod raw.length).toNat 0)) else at0 k
def at2 (x:Int):Int:=IntKind.u64.wrap (xor64 x (shr64 x 31)*13787848793156543929)
def A21 (raw:List Int) (k:Int):Int:=IntKind.i64.wrap (shr64 (xor64 (at2 (at1 raw k)) (shr64 (at2 (at1 raw k)) 29)) 1)
theorem E61 (raw:List Int) (k:Int) (h0:0≤k) (h1:k≤1099511627776):FnOk Tryz.prog 25 [O1 raw,G2 k] (fun rs=>rs=[G2 (A21 raw k)]):=by
 refine FnOk.intro Tryz.func25 (by decide) Z Z Z Z ?_
 refine C59 (t:=0) rfl (.pure _ _ _ _) fun hlen=>?_
 refine k2 ?_
 refine A4 (A2 (A5 Z Z) Z (A6 ?_))
 refine k1 (k2 ?_)
 refine A4 (A2 (A3 Z Z) Z (A2 (C0 Z Z (by omega)) Z (A2 (X7 Z) Z (A2 (E00 Z Z) Z (A2 (A5 Z Z) Z (A6 ?_))))))
 refine I1 ?_
 refine j1 [(0,C4 Int 1 I8 raw),(1,C1 k),(5,K1 (.int .u64 (at1 raw k)))] [] ?_ ?_
 ·refine k2 ?_
  refine A4 (A2 (A3 Z Z) Z (A2 (E0 Z (.pure _ _ _ _)) Z (A2 (N7 Z Z) Z (A6 ?_))))
  refine k1 ?_
  refine B5 rfl (fun ht=>?_) (fun ht=>?_)
  ·have hpos:0 < raw.length:=by have:=A0 ht;omega
   have hm0:0≤k.tmod raw.length:=Int.tmod_nonneg _ h0
   have hm1:k.tmod raw.length < raw.length:=Int.tmod_lt_of_pos _ (by omega)
   have hv:raw[(k.tmod raw.length).toNat]?=some (raw.getD (k.tmod raw.length).toNat 0):=by
    rw [G85,G82 (by omega)];rfl
   skip
   refine A4 (A2 (A3 Z Z) Z (A2 (A3 Z Z) Z (A2 (A3 Z Z) Z (A2 (A3 Z Z) Z (A2 (E0 Z (.pure _ _ _ _)) Z (A2 (B19 Z Z (by omega)) Z (A2 (B1 Z (.pure _ _ _ _) Z (by omega) hv) Z (A2 (B3 Z Z) Z (A2 (X7 Z) Z (A2 (C70 Z Z Z (fun _=>rfl)) Z (A2 (A5 Z Z) Z (A6 ?_))))))))))))
   refine k1 ?_
   rw [at1,if_pos hpos]
   exact G48 ⟨le1 rfl,le1 rfl,le1 rfl,trivial⟩ trivial
  ·have hpos:¬0 < raw.length:=by have:=A1 ht;omega
   refine k5 (k1 ?_)
   rw [at1,if_neg hpos]
   exact G48 ⟨le1 rfl,le1 rfl,le1 rfl,trivial⟩ trivial
 ·refine k2 ?_
  refine A4 (A2 (A3 Z Z) Z (A2 (A3 Z Z) Z (A2 (E40 Z Z (by omega)) Z (A2 (C70 Z Z Z (fun _=>rfl)) Z (A2 (E00 Z Z) Z (A2 (A5 Z Z) Z (A6 ?_)))))))
  refine k1 (k2 ?_)
  refine A4 (A2 (A3 Z Z) Z (A2 (A3 Z Z) Z (A2 (E40 Z Z (by omega)) Z (A2 (C70 Z Z Z (fun _=>rfl)) Z (A2 (E40 Z Z (by omega)) Z (A2 (X7 Z) Z (A2 (A5 Z Z) Z (A6 ?_))))))))
  refine k1 (k10 ?_)
  exact B6 (G4 rfl rfl rfl) rfl
def lineTab:List Str:=[[97],[98],[99],[97,98],[98,97],[],[97,97],[98,32,97],[120,43,121],[92]]
def A22 (k:Int):Str:=lineTab.getD (S6 k 10).toNat []
theorem E62:∀s∈lineTab,s.length≤3:=by decide
theorem A48 (k:Int):(A22 k).length≤3:=by
 unfold A22
 rw [G85]
 cases h:lineTab[(S6 k 10).toNat]? with
 | none=>simp
 | some s=>exact E62 s (G98 h)
theorem E63 (k:Int):FnOk Tryz.prog 24 [G2 k] (fun rs=>rs=[K6 (A22 k)]):=by
 refine FnOk.intro Tryz.func24 (by decide) Z Z Z Z ?_
 refine k2 ?_
 refine A4 (A2 (A5 Z Z) Z (A6 ?_))
 refine k1 (k2 ?_)
 have hm:=j4 k (n:=10) (by decide)
 have hv:lineTab[(S6 k 10).toNat]?=some (A22 k):=by
  unfold A22
  rw [G85,G82 (show (S6 k 10).toNat < lineTab.length by simp [lineTab];omega)];rfl
 refine A4 (A2 (D8 (c:=I3) (ys:=lineTab) (E5 Z Z Z Z (E5 Z Z Z Z (E5 Z Z Z Z (E5 Z Z Z Z (E5 Z Z Z Z (E5 Z Z Z Z (E5 Z Z Z Z (E5 Z Z Z Z (E5 Z Z Z Z (E5 Z Z Z Z G8)))))))))) Z Z Z) Z (A2 (A3 Z Z) Z (C8 (A47 k 10 (by decide) (by decide)) Z Z Z ?_)));rintro _ rfl;refine A2 (B1 Z (.pure _ _ _ _) Z (by omega) hv) Z (A2 (B3 Z Z) Z (A2 (A5 Z Z) Z (A6 ?_)))
 refine k1 (k10 ?_)
 exact B6 (G4 rfl rfl rfl) rfl
theorem ids_ok (fs:List (List Str)) (hfs:fs.flatten.length≤536870912) (hf1:fs.length≤536870912):FnOk Tryz.prog 101 [pStrss fs] (fun rs=>rs=[pIntss (fs.map (E2 (C3 fs)))]):=by
 refine FnOk.intro Tryz.func101 (by decide) Z Z Z Z ?_
 refine k2 ?_
 refine A4 (A2 (A5 Z Z) Z (A6 ?_))
 refine k1 (k2 ?_)
 refine A4 (A2 (A3 Z Z) Z (C8 (G27 fs hfs) Z Z Z ?_));rintro _ rfl;refine A2 (A5 Z Z) Z (A6 ?_)
 refine k1 (k2 ?_)
 refine A4 (D1 (Z2 4 _ intsC Z) Z (A6 ?_))
 refine k1 (k2 (k2 ?_))
 refine A4 (A2 (A5 Z Z) Z (A6 ?_))
 refine k1 (k3 ?_)
 refine D9 (X:=Nat) (fun f=>([(0,C4 (List Str) 1 strsC fs),(3,C4 Str 1 I3 (C3 fs)),(4,.s (.one (.buf 4 (List Int) 1 intsC ((fs.take f).map (E2 (C3 fs)))))),(5,C1 f)],[(4,.spare ((fs.take f).map (E2 (C3 fs))).length 1 25)])) (fun f=>f≤fs.length) (fun f=>fs.length - f) 0 (by simp) (G48 ⟨le1 rfl,le1 rfl,le1 rfl,le1 rfl,trivial⟩ ⟨rfl,trivial⟩) ?_
 intro f hf
 dsimp only at hf ⊢
 refine k2 (k2 ?_)
 refine A4 (A2 (A3 Z Z) Z (A2 (A3 Z Z) Z (A2 (E0 Z (.pure _ _ _ _)) Z (A2 (E9 Z Z) Z (A6 ?_)))))
 refine k1 ?_
 have hfl:((fs.take f).map (E2 (C3 fs))).length=f:=by simp;omega
 refine B5 rfl (fun ht=>?_) (fun ht=>?_)
 ·have hlt:f < fs.length:=by have:=A0 ht;omega
  have hv:fs[f]?=some fs[f]:=by simp [hlt]
  have hle:=V3 fs (f+1)
  rw [S7 fs f hlt,G79] at hle
  refine k5 (k1 (k2 (k3 (k2 ?_))))
  refine A4 (D1 (A43 16 (c:=I8) (ys:=[]) G8 Z Z Z (by first | rfl | (simp [H2,K8,Ob.free,SV.free,S1.free,TC.free]<;>rfl))) Z ?_);refine A2 (A5 Z Z) Z (A6 ?_)
  refine k1 (k2 (k2 ?_))
  refine A4 (A2 (A5 Z Z) Z (A6 ?_))
  refine k1 (k3 ?_)
  refine D9 (X:=Nat) (fun i=>([(0,C4 (List Str) 1 strsC fs),(3,C4 Str 1 I3 (C3 fs)),(4,.s (.one (.buf 4 (List Int) 1 intsC ((fs.take f).map (E2 (C3 fs)))))),(5,C1 f),(6,.s (.one (.buf 16 Int 1 I8 (E2 (C3 fs) (fs[f].take i))))),(7,C1 i)],[(4,.spare ((fs.take f).map (E2 (C3 fs))).length 1 25),(16,.spare (E2 (C3 fs) (fs[f].take i)).length 1 3)])) (fun i=>i≤fs[f].length) (fun i=>fs[f].length - i) 0 (by simp) (G48 ⟨le1 rfl,le1 rfl,le1 rfl,le1 rfl,le1 rfl,le1 rfl,trivial⟩ ⟨rfl,rfl,trivial⟩) ?_
  intro i hi
  dsimp only at hi ⊢
  have hil:(E2 (C3 fs) (fs[f].take i)).length=i:=by simp [E2];omega
  refine k2 (k2 ?_)
  refine A4 (A2 (A3 Z Z) Z (A2 (A3 Z Z) Z (A2 (A3 Z Z) Z (A2 (B1 Z (.pure _ _ _ _) Z (by omega) hv) Z (A2 (B3 Z Z) Z (A2 (E0 Z (.pure _ _ _ _)) Z (A2 (E9 Z Z) Z (A6 ?_))))))))
  refine k1 ?_
  refine B5 rfl (fun ht=>?_) (fun ht=>?_)
  ·have hlt2:i < fs[f].length:=by have:=A0 ht;omega
   have hvi:fs[f][i]?=some fs[f][i]:=by simp [hlt2]
   have hst:E2 (C3 fs) (fs[f].take (i+1))=E2 (C3 fs) (fs[f].take i)++[H7 (C3 fs) fs[f][i] 0]:=by
    unfold E2;rw [List.take_add_one,hvi,Option.toList_some,H02];rfl
   refine k5 (k1 (k2 (k3 ?_)))
   refine A4 (A2 (A3 Z Z) Z (A2 (A3 Z Z) Z (A2 (A3 Z Z) Z (A2 (A3 Z Z) Z (A2 (B1 Z (.pure _ _ _ _) Z (by omega) hv) Z (A2 (B3 Z Z) Z (A2 (A3 Z Z) Z (A2 (B1 Z (.pure _ _ _ _) Z (by omega) hvi) Z (A2 (B3 Z Z) Z (C8 (E60 _ _) Z Z Z ?_))))))))));rintro _ rfl;refine A2 (D8 (c:=I8) (ys:=[_]) (E5 Z Z Z Z G8) Z Z Z) Z (D1 (J2 Z Z Z (.pure _ _ _ _) (by (simp only [G81,G83];omega)) Z) Z (A2 (A5 Z Z) Z (A6 ?_)))
   refine k4 (k1 ?_)
   refine A4 (A2 (A3 Z Z) Z (A2 (C0 Z Z (by omega)) Z (A2 (A5 Z Z) Z (A6 ?_))))
   refine k1 ?_
   refine ⟨i+1,by omega,by omega,?_⟩
   rw [hst]
   exact G48 ⟨le1 rfl,le1 rfl,le1 rfl,le1 rfl,le1 rfl,le1 rfl,trivial⟩ ⟨rfl,rfl,trivial⟩
  ·have hi':i=fs[f].length:=by have:=A1 ht;omega
   have hst:(fs.take (f+1)).map (E2 (C3 fs))=(fs.take f).map (E2 (C3 fs))++[E2 (C3 fs) (fs[f].take i)]:=by
    rw [List.take_add_one,hv,Option.toList_some,H02,hi',G95];rfl
   refine k6 (k7 (k7 (k8 Z (k1 ?_))))
   refine A4 (A2 (A3 Z Z) Z (A2 (A3 Z Z) Z (A2 (D8 (c:=intsC) (ys:=[_]) (E5 Z Z Z Z G8) Z Z Z) Z (D1 (J2 Z Z Z (.pure _ _ _ _) (by (simp only [G81,G83];omega)) Z) Z (A2 (A5 Z Z) Z (A6 ?_))))))
   refine k4 (k1 ?_)
   refine A4 (A2 (A3 Z Z) Z (A2 (C0 Z Z (by omega)) Z (A2 (A5 Z Z) Z (A6 ?_))))
   refine k1 ?_
   refine ⟨f+1,by omega,by omega,?_⟩
   rw [hst]
   exact G48 ⟨le1 rfl,le1 rfl,le1 rfl,le1 rfl,trivial⟩ ⟨rfl,trivial⟩
 ·have hk':f=fs.length:=by have:=A1 ht;omega
  subst hk'
  refine k6 (k2 ?_)
  refine A4 (A2 (A3 Z Z) Z (A2 (A5 Z Z) Z (A6 ?_)))
  refine k1 (k10 ?_)
  exact B6 (G4 rfl rfl rfl) (by rw [G95])
def c9 (raw:List Int) (from':Int) (kinds:Int) (m:Nat):Str:=((List.range m).map fun (i:Nat)=>A22 (S6 (A21 raw (from'+1+(i:Int))) kinds)++[10]).flatten
def B44 (raw:List Int) (from' n kinds:Int):Str :=
 let s:=c9 raw from' kinds (S6 (A21 raw from') (n+1)).toNat
 if ((A21 raw (from'+90)).tmod 4=0∧(1:Int) < s.length)∧((s.getD (s.length - 2) 0).toNat:Int)≠10 then s.take (s.length - 1) else s
theorem A89 (raw:List Int) (from' kinds:Int) (m:Nat):c9 raw from' kinds (m+1)=c9 raw from' kinds m++A22 (S6 (A21 raw (from'+1+(m:Int))) kinds)++[10]:=by
 unfold c9;rw [List.range_succ,H02,G99];simp
theorem B22 (raw:List Int) (from' kinds:Int) (m:Nat):(c9 raw from' kinds m).length≤4*m:=by
 induction m with
 | zero=>simp [c9]
 | succ m ih=>have:=A48 (S6 (A21 raw (from'+1+(m:Int))) kinds);rw [A89];simp only [G79,G81,G83];omega
theorem blob_ok (raw:List Int) (from' n kinds:Int) (h0:0≤from'∧from'≤1073741824) (h1:0≤n∧n≤1048576) (h2:1≤kinds∧kinds≤1048576) :
  FnOk Tryz.prog 64 [O1 raw,G2 from',G2 n,G2 kinds] (fun rs=>rs=[K6 (B44 raw from' n kinds)]):=by
 obtain ⟨m,hm⟩:∃m:Nat,S6 (A21 raw from') (n+1)=m:=⟨(S6 (A21 raw from') (n+1)).toNat,by have:=j4 (A21 raw from') (n:=n+1) (by omega);omega⟩
 have hmi:=j4 (A21 raw from') (n:=n+1) (by omega)
 have hml:m≤1048576:=by omega
 refine FnOk.intro Tryz.func64 (by decide) Z Z Z Z ?_
 refine k2 ?_
 refine A4 (A2 (A5 Z Z) Z (A6 ?_))
 refine k1 (k2 ?_)
 refine A4 (A2 (A3 Z Z) Z (A2 (A3 Z Z) Z (C8 (E61 raw from' (by omega) (by omega)) Z Z Z ?_)));rintro _ rfl;refine A2 (A3 Z Z) Z (A2 (C0 Z Z (by omega)) Z (C8 (A47 _ (n+1) (by omega) (by omega)) Z Z Z ?_));rintro _ rfl;refine A2 (A5 Z Z) Z (A6 ?_)
 refine k1 (k2 ?_)
 rw [hm]
 refine A4 (A2 (A5 Z Z) Z (A6 ?_))
 refine k1 (k2 (k2 ?_))
 refine A4 (A2 (A5 Z Z) Z (A6 ?_))
 refine k1 (k3 ?_)
 refine D9 (X:=Nat) (fun i=>([(0,C4 Int 1 I8 raw),(1,C1 from'),(2,C1 m),(3,C1 kinds),(9,P7 (c9 raw from' kinds i)),(10,C1 i)],[])) (fun i=>i≤m) (fun i=>m - i) 0 (Nat.zero_le _) (G48 ⟨le1 rfl,le1 rfl,le1 rfl,le1 rfl,le1 rfl,le1 rfl,trivial⟩ trivial) ?_
 intro i hi
 dsimp only at hi ⊢
 have hbl:=B22 raw from' kinds i
 refine k2 (k2 ?_)
 refine A4 (A2 (A3 Z Z) Z (A2 (A3 Z Z) Z (A2 (E9 Z Z) Z (A6 ?_))))
 refine k1 ?_
 refine B5 rfl (fun ht=>?_) (fun ht=>?_)
 ·have hlt:i < m:=by have:=A0 ht;omega
  have hll:=A48 (S6 (A21 raw (from'+1+(i:Int))) kinds)
  refine k5 (k1 (k2 (k3 ?_)))
  refine A4 (A2 (A3 Z Z) Z (A2 (A3 Z Z) Z (A2 (A3 Z Z) Z (A2 (C0 Z Z (by omega)) Z (A2 (A3 Z Z) Z (A2 (C0 Z Z (by omega)) Z (C8 (E61 raw _ (by omega) (by omega)) Z Z Z ?_)))))));rintro _ rfl;refine A2 (A3 Z Z) Z (C8 (A47 _ kinds (by omega) (by omega)) Z Z Z ?_);rintro _ rfl;refine C8 (E63 _) Z Z Z ?_;rintro _ rfl;refine A2 (G3 Z Z (by omega)) Z (A2 (G3 Z Z (by (simp only [G79,G81,G83];omega))) Z (A2 (A5 Z Z) Z (A6 ?_)))
  refine k4 (k1 ?_)
  refine A4 (A2 (A3 Z Z) Z (A2 (C0 Z Z (by omega)) Z (A2 (A5 Z Z) Z (A6 ?_))))
  refine k1 ?_
  refine ⟨i+1,by omega,by omega,?_⟩
  rw [A89]
  exact G48 ⟨le1 rfl,le1 rfl,le1 rfl,le1 rfl,le1 rfl,le1 rfl,trivial⟩ trivial
 ·have hi':i=m:=by have:=A1 ht;omega
  subst hi'
  obtain ⟨s,hs⟩:∃s,s=c9 raw from' kinds i:=⟨_,rfl⟩
  have hv:(1:Int) < s.length→s[((s.length:Int) - 2).toNat]?=some (s.getD (s.length - 2) 0):=fun h=>by
   rw [show ((s.length:Int) - 2).toNat=s.length - 2 by omega,G85,G82 (by omega)];rfl
  have hbo:B44 raw from' n kinds=if ((A21 raw (from'+90)).tmod 4=0∧(1:Int) < s.length)∧((s.getD (s.length - 2) 0).toNat:Int)≠10 then s.take (s.length - 1) else s:=by
   simp only [B44,hm,H01,←hs]
  rw [←hs] at hbl
  refine k6 (k2 (k2 ?_))
  rw [←hs]
  refine A4 (A2 (A3 Z Z) Z (A2 (A3 Z Z) Z (A2 (C0 Z Z (by omega)) Z (C8 (E61 raw _ (by omega) (by omega)) Z Z Z ?_))));rintro _ rfl;refine A2 (B19 Z Z (by omega)) Z (A2 (I2 Z Z) Z (A2 (A3 Z Z) Z (B0 Z Z Z Z (fun hg=>by rw [hg];exact A3 Z Z) ?_)));refine B0 Z Z Z Z (fun hg=>by rw [hg];exact K9 Z) ?_;refine B0 Z Z Z Z (fun hg=>by rw [hg];exact N7 Z Z) ?_;refine A2 (B2 Z (fun h=>by first | rfl | (rw [h];rfl)) (fun h=>by first | rfl | (rw [h];rfl))) Z ?_;refine A2 (A3 Z Z) Z (B0 Z Z Z Z (fun hg=>by rw [hg];exact A3 Z Z) ?_);refine B0 Z Z Z Z (fun hg=>by rw [hg];exact A3 Z Z) ?_;refine B0 Z Z Z Z (fun hg=>by rw [hg];exact K9 Z) ?_;refine B0 Z Z Z Z (fun hg=>by have hq:=hg;(try simp at hq);rw [hg];exact H8 Z Z (by omega)) ?_;refine B0 Z Z Z Z (fun hg=>by have hq:=hg;(try simp at hq);rw [hg];exact l7 Z Z (by omega) (hv (by omega))) ?_;refine B0 Z Z Z Z (fun hg=>by rw [hg];exact J0 Z Z) ?_;refine A2 (B2 Z (fun h=>by first | rfl | (rw [h];rfl)) (fun h=>by first | rfl | (rw [h];rfl))) Z ?_;refine A6 ?_
  refine k1 ?_
  refine B5 rfl (fun ht=>?_) (fun ht=>?_)
  ·simp only [I9] at ht
   have h:=A0 ht
   skip
   refine A4 (A2 (A3 Z Z) Z (A2 (A3 Z Z) Z (A2 (K9 Z) Z (A2 (H8 Z Z (by omega)) Z (A2 (E02 Z Z (by omega) (by omega)) Z (A2 (A5 Z Z) Z (A6 ?_)))))))
   refine k1 (k2 ?_)
   refine A4 (A2 (A3 Z Z) Z (A2 (A5 Z Z) Z (A6 ?_)))
   refine k1 (k10 ?_)
   exact B6 (G4 rfl rfl rfl) (by rw [hbo,if_pos h,show ((s.length:Int) - 1).toNat=s.length - 1 by omega])
  ·simp only [I9] at ht
   have h:=A1 ht
   refine k5 (k1 (k2 ?_))
   refine A4 (A2 (A3 Z Z) Z (A2 (A5 Z Z) Z (A6 ?_)))
   refine k1 (k10 ?_)
   exact B6 (G4 rfl rfl rfl) (by rw [hbo,if_neg h])
theorem F15 (raw:List Int) (from' n kinds:Int) (h1:0≤n):((B44 raw from' n kinds).length:Int)≤4*n:=by
 have h:=j4 (A21 raw from') (n:=n+1) (by omega)
 have h2:=B22 raw from' kinds (S6 (A21 raw from') (n+1)).toNat
 unfold B44
 simp only
 split
 ·simp only [G90];omega
 ·omega
def y6 (raw:List Int) (from':Int) (i:Nat) (s:Str):List Str→Str
 | []=>s
 | x::r=>if (A21 raw (from'+(i:Int))).tmod 6=0 then y6 raw from' (i+1) s r
  else if (A21 raw (from'+(i:Int))).tmod 6=1 then y6 raw from' (i+1) (s++A22 (A21 raw (from'+40+(i:Int)))++[10]++x) r
  else y6 raw from' (i+1) (s++x) r
def C09 (blob:Str) (raw:List Int) (from':Int):Str:=y6 raw from' 0 [] (B7 blob)
theorem A49 (raw:List Int) (from':Int):∀(l:List Str) (i:Nat) (s:Str),(y6 raw from' i s l).length≤s.length+l.flatten.length+4*l.length
 | [],i,s=>by simp [y6]
 | x::r,i,s=>by
  have h1:=A49 raw from' r (i+1) s
  have h2:=A49 raw from' r (i+1) (s++A22 (A21 raw (from'+40+(i:Int)))++[10]++x)
  have h3:=A49 raw from' r (i+1) (s++x)
  have h4:=A48 (A21 raw (from'+40+(i:Int)))
  simp only [G79,G81,G83,H03] at *
  unfold y6
  split
  ·omega
  ·split<;>omega
theorem C10 (s cur:Str):(H5 cur s).flatten=cur++s:=by
 induction s generalizing cur with
 | nil=>unfold H5;split<;>simp [*]
 | cons c r ih=>unfold H5;split<;>simp [ih]
theorem A72 (s:Str):(B7 s).flatten=s:=C10 s []
theorem F62 (blob:Str) (raw:List Int) (from':Int) (hb:blob.length≤16777216) (h0:0≤from'∧from'≤1073741824) :
  FnOk Tryz.prog 26 [K6 blob,O1 raw,G2 from'] (fun rs=>rs=[K6 (C09 blob raw from')]):=by
 have hll:=X0 blob
 have hlf:=A72 blob
 have hlf':(B7 blob).flatten.length=blob.length:=by rw [hlf]
 refine FnOk.intro Tryz.func26 (by decide) Z Z Z Z ?_
 refine k2 ?_
 refine A4 (A2 (A5 Z Z) Z (A6 ?_))
 refine k1 (k2 ?_)
 refine A4 (A2 (A3 Z Z) Z (C8 (D00 blob (by omega)) Z Z Z ?_));rintro _ rfl;refine A2 (A5 Z Z) Z (A6 ?_)
 refine k1 (k2 ?_)
 obtain ⟨l,hl⟩:∃l,l=B7 blob:=⟨_,rfl⟩
 have hno:C09 blob raw from'=y6 raw from' 0 [] l:=by rw [C09,hl]
 rw [←hl] at hll hlf' ⊢
 refine A4 (A2 (A5 Z Z) Z (A6 ?_))
 refine k1 (k2 (k2 ?_))
 refine A4 (A2 (A5 Z Z) Z (A6 ?_))
 refine k1 (k3 ?_)
 refine D9 (X:=Nat × Str) (fun x=>([(1,C4 Int 1 I8 raw),(2,C1 from'),(7,C4 Str 1 I3 l),(8,P7 x.2),(9,C1 x.1)],[])) (fun x=>x.1≤l.length∧x.2.length≤(l.take x.1).flatten.length+4*x.1∧y6 raw from' x.1 x.2 (l.drop x.1)=y6 raw from' 0 [] l) (fun x=>l.length - x.1) (0,[]) (by simp) (G48 ⟨le1 rfl,le1 rfl,le1 rfl,le1 rfl,le1 rfl,trivial⟩ trivial) ?_
 rintro ⟨i,s⟩ ⟨hi,hs,hp⟩
 dsimp only at hi hs hp ⊢
 have hle:=V3 l i
 refine k2 (k2 ?_)
 refine A4 (A2 (A3 Z Z) Z (A2 (A3 Z Z) Z (A2 (E0 Z (.pure _ _ _ _)) Z (A2 (E9 Z Z) Z (A6 ?_)))))
 refine k1 ?_
 refine B5 rfl (fun ht=>?_) (fun ht=>?_)
 ·have hlt:i < l.length:=by have:=A0 ht;omega
  have hv:l[i]?=some l[i]:=by simp [hlt]
  have hle2:=V3 l (i+1)
  have hst:=S7 l i hlt
  rw [hst,G79] at hle2
  rw [G86 hlt,y6] at hp
  refine k5 (k1 (k2 (k3 (k2 (k2 ?_)))))
  refine A4 (A2 (A3 Z Z) Z (A2 (A3 Z Z) Z (A2 (A3 Z Z) Z (A2 (C0 Z Z (by omega)) Z (C8 (E61 raw _ (by omega) (by omega)) Z Z Z ?_)))));rintro _ rfl;refine A2 (B19 Z Z (by omega)) Z (A6 ?_)
  refine k1 (k3 (k2 ?_))
  refine A4 (A2 (I2 Z Z) Z (A2 (A5 Z Z) Z (A6 ?_)))
  refine k1 ?_
  refine B5 rfl (fun ht=>?_) (fun ht=>?_)
  ·rw [if_pos (A0 ht)] at hp
   refine k6 (k9 Z (k7 (k8 Z (k1 ?_))))
   refine A4 (A2 (A3 Z Z) Z (A2 (C0 Z Z (by omega)) Z (A2 (A5 Z Z) Z (A6 ?_))))
   refine k1 ?_
   exact ⟨(i+1,s),⟨by dsimp only;omega,by dsimp only;rw [hst,G79];omega,hp⟩,by dsimp only;omega,G48 ⟨le1 rfl,le1 rfl,le1 rfl,le1 rfl,le1 rfl,trivial⟩ trivial⟩
  ·rw [if_neg (A1 ht)] at hp
   refine k2 ?_
   refine A4 (A2 (I2 Z Z) Z (A2 (A5 Z Z) Z (A6 ?_)))
   refine k1 ?_
   refine B5 rfl (fun ht=>?_) (fun ht=>?_)
   ·rw [if_pos (A0 ht)] at hp
    have h4:=A48 (A21 raw (from'+40+(i:Int)))
    skip
    refine A4 (A2 (A3 Z Z) Z (A2 (A3 Z Z) Z (A2 (A3 Z Z) Z (A2 (C0 Z Z (by omega)) Z (A2 (A3 Z Z) Z (A2 (C0 Z Z (by omega)) Z (C8 (E61 raw _ (by omega) (by omega)) Z Z Z ?_)))))));rintro _ rfl;refine C8 (E63 _) Z Z Z ?_;rintro _ rfl;refine A2 (G3 Z Z (by omega)) Z (A2 (G3 Z Z (by (simp only [G79,G81,G83];omega))) Z (A2 (A5 Z Z) Z (A6 ?_)))
    refine k4 (k1 ?_)
    refine A4 (A2 (A3 Z Z) Z (A2 (A3 Z Z) Z (A2 (A3 Z Z) Z (A2 (B1 Z (.pure _ _ _ _) Z (by omega) hv) Z (A2 (B3 Z Z) Z (A2 (G3 Z Z (by (simp only [G79,G81,G83];omega))) Z (A2 (A5 Z Z) Z (A6 ?_))))))))
    refine k4 (k1 ?_)
    refine A4 (A2 (A3 Z Z) Z (A2 (C0 Z Z (by omega)) Z (A2 (A5 Z Z) Z (A6 ?_))))
    refine k1 ?_
    exact ⟨(i+1,s++A22 (A21 raw (from'+40+(i:Int)))++[10]++l[i]),⟨by dsimp only;omega,by dsimp only;rw [hst];simp only [G79,G81,G83];omega,hp⟩,by dsimp only;omega,G48 ⟨le1 rfl,le1 rfl,le1 rfl,le1 rfl,le1 rfl,trivial⟩ trivial⟩
   ·rw [if_neg (A1 ht)] at hp
    refine k5 (k4 (k1 ?_))
    refine A4 (A2 (A3 Z Z) Z (A2 (A3 Z Z) Z (A2 (A3 Z Z) Z (A2 (B1 Z (.pure _ _ _ _) Z (by omega) hv) Z (A2 (B3 Z Z) Z (A2 (G3 Z Z (by omega)) Z (A2 (A5 Z Z) Z (A6 ?_))))))))
    refine k4 (k1 ?_)
    refine A4 (A2 (A3 Z Z) Z (A2 (C0 Z Z (by omega)) Z (A2 (A5 Z Z) Z (A6 ?_))))
    refine k1 ?_
    exact ⟨(i+1,s++l[i]),⟨by dsimp only;omega,by dsimp only;rw [hst,G79,G79];omega,hp⟩,by dsimp only;omega,G48 ⟨le1 rfl,le1 rfl,le1 rfl,le1 rfl,le1 rfl,trivial⟩ trivial⟩
 ·have hi':i=l.length:=by have:=A1 ht;omega
  rw [hi',G84 (Nat.le_refl _)] at hp
  refine k6 (k2 ?_)
  refine A4 (A2 (A3 Z Z) Z (A2 (A5 Z Z) Z (A6 ?_)))
  refine k1 (k10 ?_)
  exact B6 (G4 rfl rfl rfl) (by rw [hno,←hp];rfl)
end Go.Proofs.YtbiadkkamhpdnaaGreatDoor
namespace Go.Proofs.YtbiadkkamhpdnaaGreatDoor
open Go Go.AL
set_option maxRecDepth 100000
theorem D76 (s:Str):(ByteArray.mk s.toArray).size=s.length:=by simp [ByteArray.size]
theorem E16 (s p:Str) (hs:s.length≤1099511627776):FnOk Tryz.prog 200 [K6 s,K6 p] (fun rs=>rs=[O4 (Lib.hasSuffix s p)]) :=
 G54 (xs:=[.string ⟨s.toArray⟩,.string ⟨p.toArray⟩]) ⟨_,rfl,rfl,rfl⟩ rfl fun w=>by simpa using Tryz.strings_HasSuffix ⟨s.toArray⟩ ⟨p.toArray⟩ w (by rw [D76];omega)
theorem D42 (s p:Str) (hs:s.length≤1099511627776):FnOk Tryz.prog 225 [K6 s,K6 p] (fun rs=>rs=[K6 (Lib.trimSuffix s p)]) :=
 G54 (xs:=[.string ⟨s.toArray⟩,.string ⟨p.toArray⟩]) ⟨_,rfl,rfl,rfl⟩ rfl fun w=>by simpa using Tryz.strings_TrimSuffix ⟨s.toArray⟩ ⟨p.toArray⟩ w (by rw [D76];omega)
theorem E17 (s:Str) (c:UInt8):FnOk Tryz.prog 209 [K6 s,K6 [c]] (fun rs=>rs=[O4 (decide (0≤Lib.indexByte s c))]) :=
 G54 (xs:=[.string ⟨s.toArray⟩,.string ⟨#[c]⟩]) ⟨_,rfl,rfl,rfl⟩ rfl fun w=>by simpa using Tryz.strings_Contains_one ⟨s.toArray⟩ c w
theorem B04 (s:Str) (hs:s.length≤1099511627776):FnOk Tryz.prog 137 [K6 s] (fun rs=>rs=[O4 (ended s)]):=by
 refine FnOk.intro Tryz.func137 (by decide) Z Z Z Z ?_
 refine k2 ?_
 refine A4 (A2 (A5 Z Z) Z (A6 ?_))
 refine k1 (k2 ?_)
 refine A4 (A2 (A3 Z Z) Z (C8 (E16 s [10] hs) Z Z Z ?_));rintro _ rfl;refine A2 (A5 Z Z) Z (A6 ?_)
 rw [B82]
 refine k1 (k10 ?_)
 exact B6 (G4 rfl rfl rfl) rfl
theorem G29 (s:Str) (hs:s.length≤1099511627776):FnOk Tryz.prog 210 [K6 s] (fun rs=>rs=[K6 (A91 s)]):=by
 refine FnOk.intro Tryz.func210 (by decide) Z Z Z Z ?_
 refine k2 ?_
 refine A4 (A2 (A5 Z Z) Z (A6 ?_))
 refine k1 (k2 ?_)
 refine A4 (A2 (A3 Z Z) Z (C8 (D42 s [10] hs) Z Z Z ?_));rintro _ rfl;refine A2 (A5 Z Z) Z (A6 ?_)
 rw [D52]
 refine k1 (k10 ?_)
 exact B6 (G4 rfl rfl rfl) rfl
def isBld (ob:Obs) (xs:Str):Prop:=(∃a,(a=.p (.v (.pointer none))∨a=.ref 700 0)∧C9 ob 700=some (.tbx 124 [a,.buf 701 UInt8 1 u8C xs]))∧C9 ob 701=some (.spare xs.length 1 5)
abbrev bldObs (ob:Obs) (ys xs:Str):Obs:=(700,.tbx 124 [.ref 700 0,.buf 701 UInt8 1 u8C xs])::(701,.spare xs.length 1 5)::Obs.forget 701 ((700,.tbx 124 [.ref 700 0,.buf 701 UInt8 1 u8C ys])::ob)
def F63:Go.Shelf.Ren:=⟨fun | 240=>147 | 276=>204 | n=>n,fun | 72=>124 | 70=>122 | 164=>240 | 37=>115 | n=>n,fun n=>n⟩
theorem ccLays:Go.Proofs.Lays.n240 Tryz.prog F63:={
 mixed:=by kernel_rfl
 f240:=Tryz.func147.trans (congrArg some (by kernel_rfl))
 f276:=Tryz.func204.trans (congrArg some (by kernel_rfl))
 t0:=Tryz.underlying0
 a0:=Tryz.isAgg0
 z0:=Tryz.sizeOf0
 v0:=Tryz.zeroValue0
 t4:=Tryz.underlying4
 a4:=Tryz.isAgg4
 z4:=Tryz.sizeOf4
 v4:=Tryz.zeroValue4
 t9:=Tryz.underlying9
 a9:=Tryz.isAgg9
 z9:=Tryz.sizeOf9
 v9:=Tryz.zeroValue9
 t20:=Tryz.underlying20
 a20:=Tryz.isAgg20
 z20:=Tryz.sizeOf20
 v20:=Tryz.zeroValue20
 t70:=Tryz.underlying122
 a70:=Tryz.isAgg122
 z70:=Tryz.sizeOf122
 v70:=Tryz.zeroValue122
 t72:=Tryz.underlying124
 a72:=Tryz.isAgg124
 z72:=Tryz.sizeOf124
 v72:=Tryz.zeroValue124
 t164:=Tryz.underlying240
 a164:=Tryz.isAgg240
 z164:=Tryz.sizeOf240
 v164:=Tryz.zeroValue240 }
theorem ccX:Builder.X72 Tryz.prog F63:={
 sizeBuilder:=by kernel_rfl
 liesBuilder:=by kernel_rfl }
theorem B23 {gf:Fr} {ob:Obs} {a t:TC} (hk:C9 ob 700=some (.tbx 124 [a,t])) (ha:a=.p (.v (.pointer none))∨a=.ref 700 0) :
  AL.Met Tryz.prog 147 [.one (.ref 700 0)] gf ob [] (fun rs ob'=>rs=[]∧ob'=(700,.tbx 124 [.ref 700 0,t])::ob) :=
 AL.Met.copyCheck ⟨_,rfl,rfl,rfl⟩ (fun b w h1 h2 h3=>Any.Builder_copyCheck_fresh (ρ:=F63) ccLays ccX b w h1 h2 h3) (fun b w h=>Any.Builder_copyCheck_used (ρ:=F63) ccLays ccX b w h) hk ha
theorem V2 {gf:Fr} {ob:Obs} {xs s:Str} (hb:isBld ob xs) (hlen:xs.length+s.length≤1073741824) :
  AL.Met Tryz.prog 85 [.one (.ref 700 0),.one (.p (.v (.string ⟨s.toArray⟩)))] gf ob [701] (fun rs ob'=>rs=[.one (.p (.v (.int .i64 s.length))),.one (.p (.v .nilIface))]∧ob'=bldObs ob xs (xs++s)):=by
 obtain ⟨⟨a,ha,hk⟩,hk1⟩:=hb
 refine AL.Met.intro Tryz.func85 (by decide) Z Z Z ?_
 refine k2 ?_
 refine A4 (A2 (A5 Z Z) Z (A2 (A5 Z Z) Z (A6 ?_)))
 refine k1 (k2 ?_)
 refine A4 (A2 (A3 Z Z) Z (Y8 (B23 hk ha) Z Z Z ?_));rintro _ _ ⟨rfl,rfl⟩;refine A6 ?_
 refine k1 (k2 ?_)
 refine A4 (A2 (A3 Z Z) Z (A2 (A3 Z Z) Z (A2 (D3 Z) Z (A2 (A8 Z) Z (A2 (C30 Z Z Z) Z (A2 (A3 Z Z) Z (D1 (C72 TyStr.out Z hk1 Z (by first | omega | (simp;omega)) Z) Z (A2 (D3 Z) Z (A2 (A8 Z) Z (F3 (B66 TySz.out Z Z Z Z Z Z) (A6 ?_)))))))))))
 refine k1 (k2 ?_)
 refine A4 (A2 (A3 Z Z) Z (A2 (K9 Z) Z (A2 (A5 Z Z) Z (A2 (A5 Z Z) Z (A6 ?_)))))
 refine k1 (k10 ?_)
 exact L1 (rets2 rfl rfl rfl) (by repeat (first | exact E4 | refine E1 rfl ?_ | refine F1 _ ?_)) (fun _ _ h=>h) ⟨rfl,rfl⟩
theorem A23 {gf:Fr} {ob:Obs} {xs:Str} {c:UInt8} (hb:isBld ob xs) (hlen:xs.length+1≤1073741824) :
  AL.Met Tryz.prog 136 [.one (.ref 700 0),.one (.p (.v (.int .u8 c.toNat)))] gf ob [701] (fun rs ob'=>rs=[.one (.p (.v .nilIface))]∧ob'=bldObs ob xs (xs++[c])):=by
 obtain ⟨⟨a,ha,hk⟩,hk1⟩:=hb
 refine AL.Met.intro Tryz.func136 (by decide) Z Z Z ?_
 refine k2 ?_
 refine A4 (A2 (A5 Z Z) Z (A6 ?_))
 refine k1 (k2 ?_)
 refine A4 (A2 (A3 Z Z) Z (Y8 (B23 hk ha) Z Z Z ?_));rintro _ _ ⟨rfl,rfl⟩;refine A6 ?_
 refine k1 (k2 ?_)
 refine A4 (A2 (A3 Z Z) Z (A2 (A3 Z Z) Z (A2 (D3 Z) Z (A2 (A8 Z) Z (A2 (C30 Z Z Z) Z (A2 (A3 Z Z) Z (A2 (D8 (c:=u8C) (ys:=[c]) (E5 Z Z Z Z G8) Z Z Z) Z (D1 (J2 Z hk1 Z (.pure _ _ _ _) (by (simp;omega)) Z) Z (A2 (D3 Z) Z (A2 (A8 Z) Z (F3 (B66 TySz.out Z Z Z Z Z Z) (A6 ?_))))))))))))
 refine k1 (k2 ?_)
 refine A4 (A2 (A5 Z Z) Z (A6 ?_))
 refine k1 (k10 ?_)
 exact L1 (Y7 rfl rfl) (by repeat (first | exact E4 | refine E1 rfl ?_ | refine F1 _ ?_)) (fun _ _ h=>h) ⟨rfl,rfl⟩
end Go.Proofs.YtbiadkkamhpdnaaGreatDoor
