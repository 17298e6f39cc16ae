/- Walks of the program's functions. -/
import Derived.Test.YtjmoigcpoopjhaaGreatDoorTy
import Derived.Test.YtjmoigcpoopjhaaGreatDoorFs
import Derived.Test.YtjmoigcpoopjhaaGreatDoorSh
import Derived.Lib.AppendIntMem
import Derived.RangeFuncBound
import Derived.RangeFuncOwn
import Derived.OwnWalkIn
import Derived.TacticsInMore
import Derived.LoopNIn
import Derived.LoopIn
set_option linter.unusedSimpArgs false
namespace Go.Proofs.YtjmoigcpoopjhaaGreatDoor
open Go Go.AL
set_option maxRecDepth 100000
theorem I48 (p:Int):0≤IntKind.u64.wrap p:=by simp [IntKind.wrap,IntKind.signed,IntKind.bits];omega
theorem K34 (b:Str) (hb:b.length≤536870912):FnOk Tryz.prog 67 [H7 b] (fun rs=>rs=[E12 (I6 b)]):=by
 refine FnOk.intro Tryz.func67 (by decide) A0 A0 A0 A0 ?_
 refine k2 (A3 (A7 A0 A0 (A5 ?_)));refine k1 (k2 (A3 (D1 (j4 3 _ X2 A0) A0 (A5 ?_))));refine k1 (k2 (A3 (A7 A0 A0 (A5 ?_))));refine k1 (k2 (k2 (A3 (A7 A0 A0 (A5 ?_)))));refine k1 (k3 ?_);refine D2 (X:=Nat × Nat × List Str) (fun x=>([(0,Z9 b),(3,.s (.one (.buf 3 Str 1 X2 x.2.2))),(4,C7 x.2.1),(5,C7 x.1)],[(3,.spare x.2.2.length 1 9)]))
  (fun x=>x.1≤b.length∧x.2.1≤x.1∧x.2.2.length≤x.1∧(x.1=b.length→x.2.1=x.1)∧x.2.2++L1 ((b.drop x.2.1).take (x.1 - x.2.1)) (b.drop x.1)=I6 b) (fun x=>b.length - x.1) (0,0,[]) (by simp [I6]) ?_ ?_
 ·exact Sees.of ⟨⟨_,rfl,.same _⟩,⟨_,rfl,.same _⟩,⟨_,rfl,.same _⟩,⟨_,rfl,.same _⟩,trivial⟩ ⟨rfl,trivial⟩
 ·rintro ⟨i,from',out⟩ ⟨hi,hf,ho,he,hp⟩
  dsimp only at hi hf ho he hp ⊢
  refine k2 (k2 (A3 (A4 A0 A0 (A4 A0 A0 (A6 (J7 A0) A0 (F7 A0 A0 A0 (A5 ?_)))))));refine k1 ?_;refine B1 rfl (fun ht=>?_) (fun ht=>?_)
  ·have hlt:i < b.length:=by simpa using ht
   have hv:b[i]?=some b[i]:=by simp [hlt]
   refine k5 (k1 (k2 (k3 (k2 (A3 (A4 A0 A0 (A4 A0 A0 (A6 (R7 A0 A0 (by omega) hv) A0 (A6 (H0 A0 A0) A0 (A4 A0 A0 (B5 A0 A0 A0 A0 (fun hg=>by rw [hg];exact C2 A0 A0) ?_)))))))))));refine B5 A0 A0 A0 A0 (fun hg=>by have hq:=hg;(try simp at hq);rw [hg];exact l6 A0 A0 (by omega)) ?_;refine B5 A0 A0 A0 A0 (fun hg=>by rw [hg];exact C2 A0 A0) ?_;refine B5 A0 A0 A0 A0 (fun hg=>by rw [hg];exact J7 A0) ?_;refine B5 A0 A0 A0 A0 (fun hg=>by rw [hg];exact H0 A0 A0) ?_;refine K7 A0 A0 ?_;refine A5 ?_;refine k1 ?_;refine B1 rfl (fun ht2=>?_) (fun ht2=>?_)
   ·refine k2 (A3 (A4 A0 A0 (A4 A0 A0 (A4 A0 A0 (A4 A0 A0 (E3 A0 A0 A0 (A6 (H37 A0 A0 A0 (by omega) (by omega) (by omega)) A0 (A6 (D7 (c:=X2) (ys:=[_]) (G6 A0 A0 A0 A0 I0) A0 A0 A0) A0 (D1 (P0 A0 A0 A0 (.pure _ _ _ _) (by simp;omega) A0) A0 (A7 A0 A0 (A5 ?_)))))))))));refine k1 (A3 (A4 A0 A0 (E3 A0 A0 A0 (A7 A0 A0 (A5 ?_)))));refine k4 (k1 (A3 (A4 A0 A0 (E3 A0 A0 A0 (A7 A0 A0 (A5 ?_))))));refine k1 ?_;refine ⟨(i+1,i+1,_),⟨?_,?_,?_,?_,?_⟩,?_,Sees.of ⟨⟨_,rfl,.same _⟩,⟨_,rfl,.same _⟩,⟨_,rfl,.same _⟩,⟨_,rfl,.same _⟩,trivial⟩ ⟨rfl,trivial⟩⟩
    all_goals dsimp only
    ·omega
    ·omega
    ·simp;omega
    ·omega
    ·have hc:b[i]=10∨i+1=b.length:=by
      simp only [u8_lf] at ht2
      by_cases h:b[i]=10
      ·exact .inl h
      ·simp [h] at ht2;exact .inr (by omega)
     rw [I99,L03,L42,List.take_zero,←G37 b from' i hf hlt,L15,←hp,L11 hlt,C78]
     rcases hc with h | h
     ·rw [if_pos h];rfl
     ·have hd:b.drop (i+1)=[]:=L21 (by omega)
      rw [hd]
      split
      ·rfl
      ·rw [show L1 ([]:Str) []=[] from rfl,H07 _ (by simp)];simp
    ·omega
   ·refine k5 (k4 (k1 (A3 (A4 A0 A0 (E3 A0 A0 A0 (A7 A0 A0 (A5 ?_)))))));refine k1 ?_;refine ⟨(i+1,from',out),⟨?_,?_,?_,?_,?_⟩,?_,Sees.of ⟨⟨_,rfl,.same _⟩,⟨_,rfl,.same _⟩,⟨_,rfl,.same _⟩,⟨_,rfl,.same _⟩,trivial⟩ ⟨rfl,trivial⟩⟩
    all_goals dsimp only
    ·omega
    ·omega
    ·omega
    ·intro h
     simp [show (i:Int)+1=(b.length:Int) by omega] at ht2
    ·have hc:b[i]≠10:=fun h=>by simp [h] at ht2
     rw [←G37 b from' i hf hlt,←hp,L11 hlt,C78,if_neg hc]
    ·omega
  ·refine k6 (k2 (A3 (A4 A0 A0 (A7 A0 A0 (A5 ?_)))));refine k1 (k10 (B8 (I1 A0 A0 A0) ?_))
   have hi':i=b.length:=by simp at ht;omega
   subst hi'
   have:=he rfl
   subst this
   rw [L42,List.take_zero,L21 (Nat.le_refl _)] at hp
   rw [←hp];simp [L1]
theorem K35 (b:Str) (hb:b.length≤1099511627776):FnOk Tryz.prog 36 [H7 b] (fun rs=>rs=[E2 (M8 b)]):=by
 refine FnOk.intro Tryz.func36 (by decide) A0 A0 A0 A0 ?_
 refine k2 (A3 (A7 A0 A0 (A5 ?_)));refine k1 (k2 (k2 (A3 (A4 A0 A0 (A6 (J7 A0) A0 (A6 (O1 A0 A0) A0 (A4 A0 A0 (B5 A0 A0 A0 A0 (fun hg=>by rw [hg];exact C2 A0 A0) ?_))))))));refine B5 A0 A0 A0 A0 (fun hg=>by have hq:=hg;(try simp at hq);rw [hg];exact O7 (K34 b (by omega)) A0 A0) ?_;refine B5 A0 A0 A0 A0 (fun hg=>by rw [hg];exact r5 A0 (.pure _ _ _ _)) ?_;refine B5 A0 A0 A0 A0 (fun hg=>by rw [hg];exact O1 A0 A0) ?_;refine K7 A0 A0 ?_;refine A5 ?_;refine k1 ?_;refine B1 rfl (fun ht=>?_) (fun ht=>?_)
 ·have h:=A1 (or_pick.symm.trans ht)
  refine k2 (A3 (A7 A0 A0 (A5 ?_)));refine k1 (k10 (k11 ?_))
  exact B8 (I1 rfl rfl rfl) (by rw [M8,if_pos (by omega)])
 ·have h:=A2 (or_pick.symm.trans ht)
  refine k5 (k1 (k2 (A3 (A7 A0 A0 (A5 ?_)))));refine k1 (k10 ?_)
  exact B8 (I1 rfl rfl rfl) (by rw [M8,if_neg (by omega)])
theorem D86 {p cur:Str} {i:Nat} (h:i < p.length):B16 cur (p.drop i)=if p[i]=0 then false else if p[i]=47 then Q8 cur&&B16 [] (p.drop (i+1)) else B16 (cur++[p[i]]) (p.drop (i+1)):=by
 rw [L11 h];rfl
theorem sub_one {p:Str} {i:Nat} (h:i < p.length):(p.drop i).take (i+1 - i)=[p[i]]:=by
 rw [L11 h,show i+1 - i=1 by omega];rfl
set_option maxHeartbeats 1000000
theorem F78 (p:Str) (hp:p.length≤1073741824):FnOk Tryz.prog 34 [H7 p] (fun rs=>rs=[E2 (N3 p)]):=by
 refine FnOk.intro Tryz.func34 (by decide) A0 A0 A0 A0 ?_
 refine k2 (A3 (A7 A0 A0 (A5 ?_)));refine k1 (k2 (k2 (A3 (A4 A0 A0 (A6 (J7 A0) A0 (F7 A0 A0 A0 (A4 A0 A0 (B5 A0 A0 A0 A0 (fun hg=>by rw [hg];exact C2 A0 A0) ?_))))))));refine B5 A0 A0 A0 A0 (fun hg=>by rw [hg];exact J7 A0) ?_;refine B5 A0 A0 A0 A0 (fun hg=>by rw [hg];exact O1 A0 A0) ?_;refine K7 A0 A0 ?_;refine A5 ?_;refine k1 ?_;refine B1 rfl (fun ht=>?_) (fun ht=>?_)
 ·have h:=A1 (or_pick.symm.trans ht)
  refine k2 (A3 (A7 A0 A0 (A5 ?_)));refine k1 (k10 (k11 ?_))
  exact B8 (rs:=[E2 210]) (I1 rfl rfl rfl) (by unfold N3;rw [if_pos (by omega)])
 have h:=A2 (or_pick.symm.trans ht)
 have hb:[E2 210]=[E2 (N3 p)]∨B16 [] p=true:=by
  cases hc:B16 [] p
  ·left;unfold N3;rw [if_pos (.inr (.inr hc))]
  ·exact .inr rfl
 have hg:B16 [] p=true→[E2 0]=[E2 (N3 p)]:=fun hc=>by unfold N3;rw [if_neg (by rw [hc];rintro (h1 | h1 | h1)<;>first | omega | cases h1)]
 have hbad:B16 [] p=false→[E2 210]=[E2 (N3 p)]:=fun hc=>by unfold N3;rw [if_pos (.inr (.inr hc))]
 refine k5 (k1 (k2 (A3 (A7 A0 A0 (A5 ?_)))));refine k1 (k2 (k2 (A3 (A7 A0 A0 (A5 ?_)))));refine k1 (k3 (D2 (X:=Nat × Str) (fun x=>([(0,Z9 p),(3,Z9 x.2),(4,C7 x.1)],[])) (fun x=>x.2.length≤x.1∧((x.1≤p.length∧B16 x.2 (p.drop x.1)=B16 [] p)∨(x.1=p.length+1∧B16 [] p=true))) (fun x=>p.length+1 - x.1) (0,[]) ⟨Nat.zero_le _,.inl ⟨Nat.zero_le _,rfl⟩⟩ (Sees.of ⟨le1 rfl,le1 rfl,le1 rfl,trivial⟩ trivial) ?_))
 rintro ⟨i,cur⟩ ⟨hcl,hi⟩
 dsimp only at hcl hi ⊢
 refine k2 (k2 (A3 (A4 A0 A0 (A4 A0 A0 (A6 (J7 A0) A0 (A6 (B81 A0 A0) A0 (A5 ?_)))))));refine k1 ?_;refine B1 rfl (fun ht=>?_) (fun ht=>?_)
 rotate_left
 ·have h1:¬(i:Int)≤p.length:=A2 ht
  refine k6 (k2 (A3 (A7 A0 A0 (A5 ?_))));refine k1 (k10 ?_)
  exact B8 (rs:=[E2 0]) (I1 rfl rfl rfl) (hg (by rcases hi with hi | hi<;>first | exact absurd hi.1 (by omega) | exact hi.2))
 have hle:i≤p.length:=by have h1:(i:Int)≤p.length:=A1 ht;omega
 obtain ⟨_,hcp⟩:i≤p.length∧B16 cur (p.drop i)=B16 [] p:=by rcases hi with hi | hi<;>first | exact hi | exact absurd hi.1 (by omega)
 have hv:(i:Int) < p.length→p[((i:Nat):Int).toNat]?=some (p.getD i 0):=fun h1=>by
  rw [L03,L07,L01 (by omega)];rfl
 have hg0:∀h1:i < p.length,p.getD i 0=p[i]:=fun h1=>by rw [L07,L01 h1];rfl
 have hz:∀c:UInt8,((c.toNat:Int)=0)↔c=0:=fun c=>by
  constructor
  ·intro h; exact UInt8.toNat_inj.1 (by have:c.toNat=0:=by omega
                                        simpa using this)
  ·rintro rfl;rfl
 have hs:∀c:UInt8,((c.toNat:Int)=47)↔c=47:=fun c=>by
  constructor
  ·intro h; exact UInt8.toNat_inj.1 (by have:c.toNat=47:=by omega
                                        simpa using this)
  ·rintro rfl;rfl
 refine k5 (k1 (k2 (k3 (k2 (k2 (A3 (A4 A0 A0 (A4 A0 A0 (A6 (J7 A0) A0 (F7 A0 A0 A0 (A4 A0 A0 (B5 A0 A0 A0 A0 (fun hg=>by rw [hg];exact C2 A0 A0) ?_))))))))))));refine B5 A0 A0 A0 A0 (fun hg=>by rw [hg];exact C2 A0 A0) ?_;refine B5 A0 A0 A0 A0 (fun hg=>by have hq:=hg;(try simp at hq);rw [hg];exact R7 A0 A0 (by omega) (hv (by omega))) ?_;refine B5 A0 A0 A0 A0 (fun hg=>by rw [hg];exact H0 A0 A0) ?_;refine K7 A0 A0 ?_;refine A5 ?_;refine k1 ?_;refine B1 rfl (fun ht=>?_) (fun ht=>?_)
 ·have h1:=A1 (and_pick.symm.trans ht)
  refine k2 (A3 (A7 A0 A0 (A5 ?_)));refine k1 (k10 (k11 (k12 (k11 (k11 (k12 (k11 ?_)))))));refine B8 (rs:=[E2 210]) (I1 rfl rfl rfl) (hbad ?_)
  have h2:i < p.length:=by omega
  rw [←hcp,D86 h2,if_pos (by rw [←hg0 h2,←hz];exact h1.2)]
 have hn0:=A2 (and_pick.symm.trans ht)
 refine k5 (k1 (k2 (k2 (A3 (A4 A0 A0 (A4 A0 A0 (A6 (J7 A0) A0 (F7 A0 A0 A0 (A4 A0 A0 (B5 A0 A0 A0 A0 (fun hg=>by rw [hg];exact C2 A0 A0) ?_))))))))));refine B5 A0 A0 A0 A0 (fun hg=>by rw [hg];exact C2 A0 A0) ?_;refine B5 A0 A0 A0 A0 (fun hg=>by have hq:=hg;(try simp at hq);rw [hg];exact R7 A0 A0 (by omega) (hv (by omega))) ?_;refine B5 A0 A0 A0 A0 (fun hg=>by rw [hg];exact O2 A0 A0) ?_;refine K7 A0 A0 ?_;refine A5 ?_;refine k1 ?_;refine B1 rfl (fun ht=>?_) (fun ht=>?_)
 ·have h1:=A1 (and_pick.symm.trans ht)
  have h2:i < p.length:=by omega
  have h3:p[i]≠0:=fun e=>hn0 ⟨h1.1,by rw [hz,hg0 h2];exact e⟩
  have h4:p[i]≠47:=fun e=>h1.2 (by rw [hs,hg0 h2];exact e)
  rw [D86 h2,if_neg h3,if_neg h4] at hcp
  refine k2 (A3 (A4 A0 A0 (A4 A0 A0 (A4 A0 A0 (A4 A0 A0 (E3 A0 A0 A0 (A6 (H37 A0 A0 A0 (by omega) (by omega) (by omega)) A0 (A6 (n_add_s A0 A0 (by simp;omega)) A0 (A7 A0 A0 (A5 ?_))))))))));refine k1 (k6 (k7 (k8 A0 (k1 (A3 (A4 A0 A0 (E3 A0 A0 A0 (A7 A0 A0 (A5 ?_)))))))));refine k1 ?_;refine ⟨(i+1,cur++[p[i]]),⟨by simp;omega,.inl ⟨h2,hcp⟩⟩,by dsimp only;omega,?_⟩
  rw [←sub_one h2]
  exact (Sees.of ⟨le1 rfl,le1 rfl,le1 rfl,trivial⟩ trivial)
 have hn1:=A2 (and_pick.symm.trans ht)
 have hend:B16 [] p=(Q8 cur&&(decide (i=p.length)||B16 [] (p.drop (i+1)))):=by
  rw [←hcp]
  by_cases h2:i < p.length
  ·have h3:p[i]≠0:=fun e=>hn0 ⟨by omega,by rw [hz,hg0 h2];exact e⟩
   have h4:p[i]=47:=Classical.byContradiction fun e=>hn1 ⟨by omega,fun h=>e (by rw [←hg0 h2];exact (hs _).1 h)⟩
   rw [D86 h2,if_neg h3,if_pos h4]
   have:¬i=p.length:=by omega
   simp [this]
  ·have:i=p.length:=by omega
   rw [L21 (by omega)]
   simp [B16,this]
 refine k5 (k1 (k2 (k2 (A3 (A4 A0 A0 (A6 (O5 A0 A0) A0 (A4 A0 A0 (B5 A0 A0 A0 A0 (fun hg=>by rw [hg];exact C2 A0 A0) ?_))))))));refine B5 A0 A0 A0 A0 (fun hg=>by rw [hg];exact O5 A0 A0) ?_;refine K7 A0 A0 ?_;refine A4 A0 A0 (B5 A0 A0 A0 A0 (fun hg=>by rw [hg];exact C2 A0 A0) ?_);refine B5 A0 A0 A0 A0 (fun hg=>by rw [hg];exact O5 A0 A0) ?_;refine K7 A0 A0 ?_;refine A5 ?_;refine k1 ?_;refine B1 rfl (fun ht=>?_) (fun ht=>?_)
 ·simp only [or_pick] at ht
  have h1:=A1 ht
  refine k2 (A3 (A7 A0 A0 (A5 ?_)));refine k1 (k10 (k11 (k12 (k11 (k11 (k12 (k11 ?_)))))));refine B8 (rs:=[E2 210]) (I1 rfl rfl rfl) (hbad ?_)
  rw [hend]
  have:Q8 cur=false:=by unfold Q8;rw [decide_eq_false_iff_not];rintro ⟨a,b,c⟩;rcases h1 with (h1 | h1) | h1<;>contradiction
  rw [this];rfl
 simp only [or_pick] at ht
 have h1:=A2 ht
 have hok:Q8 cur=true:=by unfold Q8;rw [decide_eq_true_eq];exact ⟨fun e=>h1 (.inl (.inl e)),fun e=>h1 (.inl (.inr e)),fun e=>h1 (.inr e)⟩
 rw [hok,Bool.true_and] at hend
 refine k5 (k1 (A3 (A7 A0 A0 (A5 ?_))));refine k4 (k1 (A3 (A4 A0 A0 (E3 A0 A0 A0 (A7 A0 A0 (A5 ?_))))));refine k1 ?_;refine ⟨(i+1,[]),⟨by simp,?_⟩,by dsimp only;omega,(Sees.of ⟨le1 rfl,le1 rfl,le1 rfl,trivial⟩ trivial)⟩
 dsimp only
 by_cases h2:i=p.length
 ·exact .inr ⟨by omega,by rw [hend];simp [h2]⟩
 ·left
  refine ⟨by omega,?_⟩
  rw [hend];simp [h2]
theorem J74 (a b:Str) (ha:a.length≤1073741824) (_hb:b.length≤1073741824):FnOk Tryz.prog 35 [H7 a,H7 b] (fun rs=>rs=[H1 (above a b)]):=by
 have hv:(a.length:Int) < b.length→b[((a.length:Nat):Int).toNat]?=some (b.getD a.length 0):=fun h1=>by
  rw [L03,L07,L01 (by omega)];rfl
 refine FnOk.intro Tryz.func35 (by decide) A0 A0 A0 A0 ?_
 refine k2 (A3 (A7 A0 A0 (A5 ?_)));refine k1 (k2 (A3 (A4 A0 A0 (A6 (J7 A0) A0 (A4 A0 A0 (A6 (J7 A0) A0 (A6 (O1 A0 A0) A0 (A4 A0 A0 (B5 A0 A0 A0 A0 (fun hg=>by rw [hg];exact C2 A0 A0) ?_)))))))));refine B5 A0 A0 A0 A0 (fun hg=>by rw [hg];exact C2 A0 A0) ?_;refine B5 A0 A0 A0 A0 (fun hg=>by rw [hg];exact J7 A0) ?_;refine B5 A0 A0 A0 A0 (fun hg=>by have hq:=hg;(try simp at hq);rw [hg];exact D22 A0 A0 (by omega) (by omega)) ?_;refine B5 A0 A0 A0 A0 (fun hg=>by rw [hg];exact C2 A0 A0) ?_;refine B5 A0 A0 A0 A0 (fun hg=>by rw [hg];exact O5 A0 A0) ?_;refine K7 A0 A0 ?_;refine A4 A0 A0 (B5 A0 A0 A0 A0 (fun hg=>by rw [hg];exact C2 A0 A0) ?_);refine B5 A0 A0 A0 A0 (fun hg=>by rw [hg];exact C2 A0 A0) ?_;refine B5 A0 A0 A0 A0 (fun hg=>by rw [hg];exact J7 A0) ?_;refine B5 A0 A0 A0 A0 (fun hg=>by have hq:=hg;(try simp at hq);rw [hg];exact R7 A0 A0 (by omega) (hv (by omega))) ?_;refine B5 A0 A0 A0 A0 (fun hg=>by rw [hg];exact H0 A0 A0) ?_;refine K7 A0 A0 ?_;refine A7 A0 A0 (A5 ?_);refine k1 (k10 (B8 (I1 A0 A0 A0) ?_))
 refine congrArg (fun x=>[H1 x]) ?_
 rw [C79,C79,L03]
 unfold above
 by_cases h:a.length < b.length
 ·have hg:b[a.length]?=some (b.getD a.length 0):=by rw [L07,L01 h];rfl
  rw [hg,decide_eq_true (show (a.length:Int) < b.length by omega),Bool.true_and]
  have h47:(((b.getD a.length 0).toNat:Int)=47)↔b.getD a.length 0=47:=⟨fun h=>UInt8.toNat_inj.1 (by
   have:(b.getD a.length 0).toNat=47:=by omega
   simpa using this),fun h=>by rw [h];rfl⟩
  rw [←Bool.decide_and,decide_eq_decide,h47]
  simp only [gt_iff_lt,h,true_and,Option.some.injEq]
 ·rw [decide_eq_false (show ¬(a.length:Int) < b.length by omega)]
  simp [h]
set_option maxHeartbeats 1000000
theorem G71 (f:FuncId) (pr:File→Bool) (l:List File) (hl:l.length≤1073741824) (hf:∀x∈l,FnOk Tryz.prog f [J46 x] (fun rs=>rs=[H1 (pr x)])) :
  FnOk Tryz.prog 131 [u0 l,.one (.v (.func (.func f) #[] #[]))] (fun rs=>∃i:Int,rs=[E2 i]∧decide (0≤i)=l.any pr):=by
 refine FnOk.intro Tryz.func131 (by decide) A0 A0 A0 A0 ?_
 refine k2 (A3 (A7 A0 A0 (A5 ?_)));refine k1 (k2 (k2 (A3 (A4 A0 A0 (F4 A0 A0 (A4 A0 A0 (A5 ?_)))))));refine k1 (k3 (D2 (X:=Nat) (fun i=>([(0,D6 File 2 d8 l),(1,I7 (.func (.func f) #[] #[])),(7,C7 l.length),(8,C7 i)],[])) (fun i=>i≤l.length∧(l.take i).any pr=false) (fun i=>l.length - i) 0 ⟨Nat.zero_le _,rfl⟩ (Sees.of ⟨le1 rfl,le1 rfl,le1 rfl,le1 rfl,trivial⟩ trivial) ?_))
 rintro i ⟨hi,hn⟩
 dsimp only at hi hn ⊢
 refine k2 (A3 (F7 A0 A0 A0 (A5 ?_)));refine k1 (k2 ?_);refine B1 rfl (fun ht=>?_) (fun ht=>?_)
 rotate_left
 ·have h1:i=l.length:=by have h1:=A2 ht;(try dsimp only at h1);omega
  rw [h1,L08] at hn
  refine k6 (k2 (A3 (A7 A0 A0 (A5 ?_))));refine k1 (k10 ?_)
  exact B8 (rs:=[E2 (-1)]) (I1 rfl rfl rfl) ⟨-1,rfl,by rw [hn];rfl⟩
 have hlt:i < l.length:=by have h1:=A1 ht;(try dsimp only at h1);omega
 obtain ⟨x,hx⟩:∃x,x=l[i]:=⟨_,rfl⟩
 have hv:l[i]?=some x:=by rw [hx];simp [hlt]
 have hfx:=hf x (by rw [hx];exact L05 hlt)
 refine k5 (k1 (k2 (k3 (k2 (A3 (A4 A0 A0 (A7 A0 A0 (A5 ?_))))))));refine k1 (k2 (A3 (A4 A0 A0 (A4 A0 A0 (A4 A0 A0 (A6 (B6 A0 (.pure _ _ _ _) A0 (by omega) hv) A0 (A6 (E1 A0 A0) A0 (A6 (G69 (hfx) A0 A0 A0) A0 (A5 ?_)))))))));refine k1 ?_;refine B1 rfl (fun ht=>?_) (fun ht=>?_)
 ·refine k2 (A3 (A4 A0 A0 (A7 A0 A0 (A5 ?_))));refine k1 (k10 (k12 (k11 (k11 (k12 (k11 ?_))))));refine B8 (rs:=[E2 i]) (I1 rfl rfl rfl) ⟨i,rfl,?_⟩
  rw [List.any_eq_true.2 ⟨x,by rw [hx];exact L05 hlt,ht⟩]
  exact decide_eq_true (by omega)
 ·refine k5 (k4 (k1 (A3 (E3 A0 A0 A0 (A4 A0 A0 (A5 ?_))))));refine k1 ?_;refine ⟨i+1,⟨hlt,?_⟩,by omega,(Sees.of ⟨le1 rfl,le1 rfl,le1 rfl,le1 rfl,trivial⟩ trivial)⟩
  rw [List.take_add_one,hv,Option.toList_some,L50,hn,Bool.false_or,List.any_cons,List.any_nil,Bool.or_false]
  exact ht
theorem B84 (f:FuncId) (pr:File→Bool) (l:List File) (hl:l.length≤1073741824) (hf:∀x∈l,FnOk Tryz.prog f [J46 x] (fun rs=>rs=[H1 (pr x)])) :
  FnOk Tryz.prog 110 [u0 l,.one (.v (.func (.func f) #[] #[]))] (fun rs=>rs=[H1 (l.any pr)]):=by
 refine FnOk.intro Tryz.func110 (by decide) A0 A0 A0 A0 ?_
 refine k2 (A3 (A7 A0 A0 (A5 ?_)));refine k1 (k2 (A3 (A4 A0 A0 (A4 A0 A0 (C9 (G71 f pr l hl hf) A0 A0 A0 ?_)))));rintro _ ⟨i,rfl,hi⟩;refine A6 (V2 A0 A0) A0 (A7 A0 A0 (A5 ?_));refine k1 (k10 ?_)
 exact B8 (I1 rfl rfl rfl) (by rw [←hi])
theorem F05 (f:FuncId) (pr:Commit→Bool) (l:List Commit) (hl:l.length≤1073741824) (hf:∀x∈l,FnOk Tryz.prog f [D47 x] (fun rs=>rs=[H1 (pr x)])) :
  FnOk Tryz.prog 109 [K3 l,.one (.v (.func (.func f) #[] #[]))] (fun rs=>∃i:Int,rs=[E2 i]∧decide (0≤i)=l.any pr):=by
 refine FnOk.intro Tryz.func109 (by decide) A0 A0 A0 A0 ?_
 refine k2 (A3 (A7 A0 A0 (A5 ?_)));refine k1 (k2 (k2 (A3 (A4 A0 A0 (F4 A0 A0 (A4 A0 A0 (A5 ?_)))))));refine k1 (k3 (D2 (X:=Nat) (fun i=>([(0,D6 Commit 3 H2 l),(1,I7 (.func (.func f) #[] #[])),(7,C7 l.length),(8,C7 i)],[])) (fun i=>i≤l.length∧(l.take i).any pr=false) (fun i=>l.length - i) 0 ⟨Nat.zero_le _,rfl⟩ (Sees.of ⟨le1 rfl,le1 rfl,le1 rfl,le1 rfl,trivial⟩ trivial) ?_))
 rintro i ⟨hi,hn⟩
 dsimp only at hi hn ⊢
 refine k2 (A3 (F7 A0 A0 A0 (A5 ?_)));refine k1 (k2 ?_);refine B1 rfl (fun ht=>?_) (fun ht=>?_)
 rotate_left
 ·have h1:i=l.length:=by have h1:=A2 ht;(try dsimp only at h1);omega
  rw [h1,L08] at hn
  refine k6 (k2 (A3 (A7 A0 A0 (A5 ?_))));refine k1 (k10 ?_)
  exact B8 (rs:=[E2 (-1)]) (I1 rfl rfl rfl) ⟨-1,rfl,by rw [hn];rfl⟩
 have hlt:i < l.length:=by have h1:=A1 ht;(try dsimp only at h1);omega
 obtain ⟨x,hx⟩:∃x,x=l[i]:=⟨_,rfl⟩
 have hv:l[i]?=some x:=by rw [hx];simp [hlt]
 have hfx:=hf x (by rw [hx];exact L05 hlt)
 refine k5 (k1 (k2 (k3 (k2 (A3 (A4 A0 A0 (A7 A0 A0 (A5 ?_))))))));refine k1 (k2 (A3 (A4 A0 A0 (A4 A0 A0 (A4 A0 A0 (A6 (B6 A0 (.pure _ _ _ _) A0 (by omega) hv) A0 (A6 (E1 A0 A0) A0 (A6 (G69 (hfx) A0 A0 A0) A0 (A5 ?_)))))))));refine k1 ?_;refine B1 rfl (fun ht=>?_) (fun ht=>?_)
 ·refine k2 (A3 (A4 A0 A0 (A7 A0 A0 (A5 ?_))));refine k1 (k10 (k12 (k11 (k11 (k12 (k11 ?_))))));refine B8 (rs:=[E2 i]) (I1 rfl rfl rfl) ⟨i,rfl,?_⟩
  rw [List.any_eq_true.2 ⟨x,by rw [hx];exact L05 hlt,ht⟩]
  exact decide_eq_true (by omega)
 ·refine k5 (k4 (k1 (A3 (E3 A0 A0 A0 (A4 A0 A0 (A5 ?_))))));refine k1 ?_;refine ⟨i+1,⟨hlt,?_⟩,by omega,(Sees.of ⟨le1 rfl,le1 rfl,le1 rfl,le1 rfl,trivial⟩ trivial)⟩
  rw [List.take_add_one,hv,Option.toList_some,L50,hn,Bool.false_or,List.any_cons,List.any_nil,Bool.or_false]
  exact ht
theorem A90 (f:FuncId) (pr:Commit→Bool) (l:List Commit) (hl:l.length≤1073741824) (hf:∀x∈l,FnOk Tryz.prog f [D47 x] (fun rs=>rs=[H1 (pr x)])) :
  FnOk Tryz.prog 72 [K3 l,.one (.v (.func (.func f) #[] #[]))] (fun rs=>rs=[H1 (l.any pr)]):=by
 refine FnOk.intro Tryz.func72 (by decide) A0 A0 A0 A0 ?_
 refine k2 (A3 (A7 A0 A0 (A5 ?_)));refine k1 (k2 (A3 (A4 A0 A0 (A4 A0 A0 (C9 (F05 f pr l hl hf) A0 A0 A0 ?_)))));rintro _ ⟨i,rfl,hi⟩;refine A6 (V2 A0 A0) A0 (A7 A0 A0 (A5 ?_));refine k1 (k10 ?_)
 exact B8 (I1 rfl rfl rfl) (by rw [←hi])
set_option maxHeartbeats 1000000
structure FewG (g:Graph):Prop where
 len:g.length≤1000
 pars:∀c∈g,c.Parents.length≤1048576
theorem rhas_ok (l:List Int) (n:Int) (hl:l.length≤1073741824):FnOk Tryz.prog 17 [K9 l,E2 n] (fun rs=>rs=[H1 (decide (n∈l))]):=by
 refine FnOk.intro Tryz.func17 (by decide) A0 A0 A0 A0 ?_
 refine k2 (A3 (A7 A0 A0 (A5 ?_)));refine k1 (k2 (k2 (A3 (A7 A0 A0 (A5 ?_)))));refine k1 (k3 (D2 (X:=Nat) (fun i=>([(0,D6 Int 1 F2 l),(1,C7 n),(5,C7 i)],[])) (fun i=>i≤l.length∧n∉l.take i) (fun i=>l.length - i) 0 ⟨Nat.zero_le _,by simp⟩ (Sees.of ⟨le1 rfl,le1 rfl,le1 rfl,trivial⟩ trivial) ?_))
 rintro i ⟨hi,hf⟩
 dsimp only at hi hf ⊢
 refine k2 (k2 (A3 (A4 A0 A0 (A4 A0 A0 (F4 A0 A0 (F7 A0 A0 A0 (A5 ?_)))))));refine k1 ?_;refine B1 rfl (fun ht=>?_) (fun ht=>?_)
 rotate_left
 ·have h1:i=l.length:=by have h1:=A2 ht;(try dsimp only at h1);omega
  rw [h1,L08] at hf
  refine k6 (k2 (A3 (A7 A0 A0 (A5 ?_))));refine k1 (k10 ?_)
  exact B8 (rs:=[H1 false]) (I1 rfl rfl rfl) (by rw [decide_eq_false hf])
 have hlt:i < l.length:=by have h1:=A1 ht;(try dsimp only at h1);omega
 have hv:l[i]?=some l[i]:=by simp [hlt]
 refine k5 (k1 (k2 (k3 (k2 (A3 (A4 A0 A0 (A4 A0 A0 (A6 (B6 A0 (.pure _ _ _ _) A0 (by omega) hv) A0 (A6 (B3 A0 A0) A0 (A4 A0 A0 (A6 (H0 A0 A0) A0 (A5 ?_))))))))))));refine k1 ?_;refine B1 rfl (fun ht=>?_) (fun ht=>?_)
 ·have h1:l[i]=n:=A1 ht
  refine k2 (A3 (A7 A0 A0 (A5 ?_)));refine k1 (k10 (k12 (k11 (k11 (k12 (k11 ?_))))))
  exact B8 (rs:=[H1 true]) (I1 rfl rfl rfl) (by rw [decide_eq_true (h1 ▸ L05 hlt)])
 ·have h1:¬l[i]=n:=A2 ht
  refine k5 (k4 (k1 (A3 (A4 A0 A0 (E3 A0 A0 A0 (A7 A0 A0 (A5 ?_)))))));refine k1 ?_;refine ⟨i+1,⟨hlt,?_⟩,by omega,(Sees.of ⟨le1 rfl,le1 rfl,le1 rfl,trivial⟩ trivial)⟩
  rw [List.take_add_one,L01 hlt,Option.toList_some,L30,List.mem_singleton]
  rintro (h | h)
  ·exact hf h
  ·exact h1 h.symm
theorem E18 (ps:List Int) (l:List Bool) (i:Nat) (h:i < ps.length):W9 (ps.take (i+1)) l=(W9 (ps.take i) l).set ps[i].toNat true:=by
 unfold W9
 rw [List.take_add_one,L01 h,Option.toList_some,L41];rfl
theorem H54 {l:List Bool} {c:Nat} (h:c < l.length):l[c]?=some (K2 l c):=by
 unfold K2;rw [L01 h];rfl
theorem F06 {ps:List Int} {l:List Bool} {c i:Nat} (h:K2 l c=true):K2 (W9 (ps.take i) l) c=true:=(D96 _ _).2 c h
def C96 (g:Graph) (l:List Bool) (c:Nat):List Bool:=(List.range c).foldl (l3 g) l
theorem H55 (g:Graph) (l:List Bool) (c:Nat):C96 g l (c+1)=l3 g (C96 g l c) c:=by unfold C96;rw [L55,L41];rfl
theorem I49 (g:Graph) (l:List Bool) (c:Nat):(C96 g l c).length=l.length:=D95 g _ l
theorem F07 (g:Graph):∀(k:Nat) (l:List Bool),Y4 g (k+1) l=C20 g (Y4 g k l)
 | 0,_=>rfl
 | k+1,l=>by rw [Y4,F07 g k];rfl
theorem J75 (g:Graph) (from':List Int) (hg:g.length≤1000) (hp:∀c∈g,c.Parents.length≤1048576) (hr:related g=true) (hf:∀f∈from',0≤f∧f < g.length) (hfl:from'.length≤1048576) :
  FnOk Tryz.prog 18 [K3 g,K9 from'] (fun rs=>rs=[pBools (P6 g from')]):=by
 have hpl:∀c,(F3 g c).length≤1048576:=fun c=>by
  by_cases hc:c < g.length
  ·rw [g9 hc];exact hp _ (L05 hc)
  ·rw [B36 hc];exact Nat.zero_le _
 refine FnOk.intro Tryz.func18 (by decide) A0 A0 A0 A0 ?_
 refine k2 (A3 (A7 A0 A0 (A5 ?_)));refine k1 (k2 (A3 (A4 A0 A0 (F4 A0 A0 (D1 (A00 753 Bool C89 false A0 A0 (by omega) (by omega) (fun _=>by first | exact ⟨⟨rfl,rfl⟩,trivial⟩ | exact ⟨I4 _ _ _,trivial⟩ | exact ⟨I4 _ _ _,⟨rfl,rfl⟩,I4 _ _ _,trivial⟩) (by first | rfl | (simp [K4,L0,Ob.free,SV.free,S1.free,TC.free]<;>rfl))) A0 ?_)))));refine A7 A0 A0 (A5 ?_);refine k1 (k2 (k2 (A3 (A7 A0 A0 (A5 ?_)))));refine k1 (k3 ?_)
 rw [L03]
 obtain ⟨z,hz⟩:∃z,z=List.replicate g.length false:=⟨_,rfl⟩
 have hzl:z.length=g.length:=by rw [hz];simp
 rw [←hz]
 refine D2 (X:=Nat) (fun i=>([(0,D6 Commit 3 H2 g),(1,D6 Int 1 F2 from'),(5,.s (.one (.mut 753))),(6,C7 i)],[(753,.arr Bool 1 C89 (W9 (from'.take i) z))])) (fun i=>i≤from'.length) (fun i=>from'.length - i) 0 (Nat.zero_le _) (Sees.of ⟨le1 rfl,le1 rfl,le1 rfl,le1 rfl,trivial⟩ ⟨rfl,trivial⟩) ?_
 intro i hi
 dsimp only at hi ⊢
 have hsl:=X0 (from'.take i) z
 refine k2 (k2 (A3 (A4 A0 A0 (A4 A0 A0 (F4 A0 A0 (F7 A0 A0 A0 (A5 ?_)))))));refine k1 ?_;refine B1 rfl (fun ht=>?_) (fun ht=>?_)
 ·have hlt:i < from'.length:=by have h1:=A1 ht;(try dsimp only at h1);omega
  have hv:from'[i]?=some from'[i]:=by simp [hlt]
  have hfr:=hf _ (L05 hlt)
  have hs:=E18 from' z i hlt
  obtain ⟨f,hfe⟩:∃f,f=from'[i]:=⟨_,rfl⟩
  rw [←hfe] at hv hfr hs
  refine k5 (k1 (k2 (k3 (A3 (A4 A0 A0 (A4 A0 A0 (A4 A0 A0 (A6 (B6 A0 (.pure _ _ _ _) A0 (by omega) hv) A0 (A6 (B3 A0 A0) A0 (A6 (F9 A0 A0 A0 (by omega) (by (rw [hsl];omega))) A0 ?_))))))))));refine G1 (L3 TySz.out A0 A0 (by (rw [hsl];omega)) A0 A0) ?_;refine A5 ?_;refine k4 (k1 (A3 (A4 A0 A0 (E3 A0 A0 A0 (A7 A0 A0 (A5 ?_))))));refine k1 ?_;refine ⟨i+1,by omega,by omega,?_⟩
  rw [hs]
  exact (Sees.of ⟨le1 rfl,le1 rfl,le1 rfl,le1 rfl,trivial⟩ ⟨rfl,trivial⟩)
 have hie:i=from'.length:=by have h1:=A2 ht;(try dsimp only at h1);omega
 rw [hie,L08]
 obtain ⟨z1,hz1⟩:∃z1,z1=W9 from' z:=⟨_,rfl⟩
 have hz1l:z1.length=g.length:=by rw [hz1,X0,hzl]
 have hres:P6 g from'=Y4 g g.length z1:=by rw [hz1,hz];rfl
 rw [←hz1,hres]
 refine k6 (k2 (k2 (A3 (A7 A0 A0 (A5 ?_)))));refine k1 (k3 (D2 (X:=Nat) (fun k=>([(0,D6 Commit 3 H2 g),(5,.s (.one (.mut 753))),(7,C7 k)],[(753,.arr Bool 1 C89 (Y4 g k z1))])) (fun k=>k≤g.length) (fun k=>g.length - k) 0 (Nat.zero_le _) (Sees.of ⟨le1 rfl,le1 rfl,le1 rfl,trivial⟩ ⟨rfl,trivial⟩) ?_))
 intro k hk
 dsimp only at hk ⊢
 refine k2 (k2 (A3 (A4 A0 A0 (A4 A0 A0 (F4 A0 A0 (F7 A0 A0 A0 (A5 ?_)))))));refine k1 ?_;refine B1 rfl (fun ht=>?_) (fun ht=>?_)
 rotate_left
 ·have hke:k=g.length:=by have h1:=A2 ht;(try dsimp only at h1);omega
  rw [hke]
  refine D3 (Sees.freeze (k:=753) A0) ?_
  refine k6 (k2 (A3 (A4 A0 A0 (A7 A0 A0 (A5 ?_)))));refine k1 (k10 ?_)
  exact B8 (rs:=[pBools (Y4 g g.length z1)]) (I1 rfl rfl rfl) rfl
 have hklt:k < g.length:=by have h1:=A1 ht;(try dsimp only at h1);omega
 have hnext:Y4 g (k+1) z1=C96 g (Y4 g k z1) g.length:=F07 g k z1
 obtain ⟨y,hy⟩:∃y,y=Y4 g k z1:=⟨_,rfl⟩
 have hyl:y.length=g.length:=by rw [hy,C45,hz1l]
 rw [←hy] at hnext ⊢
 refine k5 (k1 (k2 (k3 (k2 (A3 (A7 A0 A0 (A5 ?_)))))));refine k1 (k3 (D2 (X:=Nat) (fun c=>([(0,D6 Commit 3 H2 g),(5,.s (.one (.mut 753))),(7,C7 k),(8,C7 c)],[(753,.arr Bool 1 C89 (C96 g y c))])) (fun c=>c≤g.length) (fun c=>g.length - c) 0 (Nat.zero_le _) (Sees.of ⟨le1 rfl,le1 rfl,le1 rfl,le1 rfl,trivial⟩ ⟨rfl,trivial⟩) ?_))
 intro c hc
 dsimp only at hc ⊢
 refine k2 (k2 (A3 (A4 A0 A0 (A4 A0 A0 (F4 A0 A0 (F7 A0 A0 A0 (A5 ?_)))))));refine k1 ?_;refine B1 rfl (fun ht=>?_) (fun ht=>?_)
 rotate_left
 ·have hce:c=g.length:=by have h1:=A2 ht;(try dsimp only at h1);omega
  rw [hce,←hnext]
  refine k6 (k7 (k7 (k8 A0 (k4 (k1 (A3 (A4 A0 A0 (E3 A0 A0 A0 (A7 A0 A0 (A5 ?_))))))))));refine k1 ?_
  exact ⟨k+1,by omega,by omega,(Sees.of ⟨le1 rfl,le1 rfl,le1 rfl,trivial⟩ ⟨rfl,trivial⟩)⟩
 have hclt:c < g.length:=by have h1:=A1 ht;(try dsimp only at h1);omega
 have hsuc:=H55 g y c
 obtain ⟨x,hx⟩:∃x,x=C96 g y c:=⟨_,rfl⟩
 have hxl:x.length=g.length:=by rw [hx,I49,hyl]
 rw [←hx] at hsuc ⊢
 obtain ⟨cm,hcm⟩:∃cm,cm=g[c]:=⟨_,rfl⟩
 have hvc:g[c]?=some cm:=by rw [hcm];simp [hclt]
 have hps:F3 g c=cm.Parents:=by rw [g9 hclt,hcm]
 have hpr:=(K8 hr c).1
 have hpc:=hpl c
 rw [hps] at hpr hpc
 refine k5 (k1 (k2 (k3 (k2 (A3 (A7 A0 A0 (A5 ?_)))))));refine k1 (k3 (D2 (X:=Nat) (fun p=>([(0,D6 Commit 3 H2 g),(5,.s (.one (.mut 753))),(7,C7 k),(8,C7 c),(9,C7 p)],[(753,.arr Bool 1 C89 (if K2 x c=true then W9 (cm.Parents.take p) x else x))])) (fun p=>p≤cm.Parents.length∧(K2 x c=false→p=0)) (fun p=>cm.Parents.length - p) 0 ⟨Nat.zero_le _,fun _=>rfl⟩ (by split<;>exact (Sees.of ⟨le1 rfl,le1 rfl,le1 rfl,le1 rfl,le1 rfl,trivial⟩ ⟨rfl,trivial⟩)) ?_))
 rintro p ⟨hp1,hp2⟩
 dsimp only at hp1 hp2 ⊢
 obtain ⟨u,hu⟩:∃u,u=(if K2 x c=true then W9 (cm.Parents.take p) x else x):=⟨_,rfl⟩
 have hul:u.length=g.length:=by rw [hu];split;rw [X0,hxl];exact hxl
 have huo:K2 u c=K2 x c:=by
  rw [hu]
  cases ho:K2 x c
  ·simp [ho]
  ·simp only [if_true];exact F06 ho
 have hvo:u[((c:Nat):Int).toNat]?=some (K2 x c):=by rw [L03,H54 (by omega),huo]
 rw [←hu]
 refine k2 (k2 (A3 (A4 A0 A0 (A4 A0 A0 (A4 A0 A0 (A6 (B6 A0 (.pure _ _ _ _) A0 (by omega) hvc) A0 (A6 (C3 A0) A0 (A6 (B3 A0 A0) A0 (F4 A0 A0 (F7 A0 A0 A0 (A4 A0 A0 (B5 A0 A0 A0 A0 (fun hg=>by rw [hg];exact C2 A0 A0) ?_))))))))))));refine B5 A0 A0 A0 A0 (fun hg=>by rw [hg];exact C2 A0 A0) ?_;refine B5 A0 A0 A0 A0 (fun hg=>by have hq:=hg;(try simp at hq);rw [hg];exact F9 A0 A0 A0 (by omega) (by (rw [hul];omega))) ?_;refine B5 A0 A0 A0 A0 (fun hg=>by rw [hg];exact N8 A0 A0 hvo A0) ?_;refine K7 A0 A0 ?_;refine A5 ?_;refine k1 ?_;refine B1 rfl (fun ht=>?_) (fun ht=>?_)
 ·rw [C79,L02,decide_eq_true_eq] at ht
  have hplt:p < cm.Parents.length:=by omega
  have hvp:cm.Parents[p]?=some cm.Parents[p]:=by simp [hplt]
  have hpb:=hpr _ (L05 hplt)
  have hs:=E18 cm.Parents x p hplt
  rw [hu,if_pos ht.2] at hul
  rw [hu,if_pos ht.2]
  obtain ⟨q,hq⟩:∃q,q=cm.Parents[p]:=⟨_,rfl⟩
  rw [←hq] at hvp hpb hs
  refine k5 (k1 (k2 (k3 (A3 (A4 A0 A0 (A4 A0 A0 (A4 A0 A0 (A6 (B6 A0 (.pure _ _ _ _) A0 (by omega) hvc) A0 (A6 (C3 A0) A0 (A6 (B3 A0 A0) A0 (A4 A0 A0 (A6 (B6 A0 (.pure _ _ _ _) A0 (by omega) hvp) A0 (A6 (B3 A0 A0) A0 (A6 (F9 A0 A0 A0 (by omega) (by (rw [hul];omega))) A0 ?_))))))))))))));refine G1 (L3 TySz.out A0 A0 (by (rw [hul];omega)) A0 A0) ?_;refine A5 ?_;refine k4 (k1 (A3 (A4 A0 A0 (E3 A0 A0 A0 (A7 A0 A0 (A5 ?_))))));refine k1 ?_;refine ⟨p+1,⟨by omega,fun e=>by rw [ht.2] at e;cases e⟩,by omega,?_⟩
  rw [if_pos ht.2,hs]
  exact (Sees.of ⟨le1 rfl,le1 rfl,le1 rfl,le1 rfl,le1 rfl,trivial⟩ ⟨rfl,trivial⟩)
 ·rw [C79,Bool.and_eq_false_iff,decide_eq_false_iff_not] at ht
  have hst:u=l3 g x c:=by
   rw [hu]
   unfold l3
   rw [hps]
   cases ho:K2 x c
   ·rfl
   ·have:p=cm.Parents.length:=by
     rcases ht with h1 | h1
     ·omega
     ·rw [ho] at h1;cases h1
    rw [this,L08]
  rw [hst,←hsuc]
  refine k6 (k7 (k7 (k8 A0 (k4 (k1 (A3 (A4 A0 A0 (E3 A0 A0 A0 (A7 A0 A0 (A5 ?_))))))))));refine k1 ?_
  exact ⟨c+1,by omega,by omega,(Sees.of ⟨le1 rfl,le1 rfl,le1 rfl,le1 rfl,trivial⟩ ⟨rfl,trivial⟩)⟩
set_option maxHeartbeats 1000000
theorem J76 (l:List Int) (n:Int) (hl:l.length≤1073741824):FnOk Tryz.prog 130 [K9 l,E2 n] (fun rs=>∃i:Int,rs=[E2 i]∧decide (0≤i)=decide (n∈l)):=by
 refine FnOk.intro Tryz.func130 (by decide) A0 A0 A0 A0 ?_
 refine k2 (A3 (A7 A0 A0 (A5 ?_)));refine k1 (k2 (k2 (A3 (A4 A0 A0 (F4 A0 A0 (A4 A0 A0 (A5 ?_)))))));refine k1 (k3 (D2 (X:=Nat) (fun i=>([(0,D6 Int 1 F2 l),(1,C7 n),(7,C7 l.length),(8,C7 i)],[])) (fun i=>i≤l.length∧n∉l.take i) (fun i=>l.length - i) 0 ⟨Nat.zero_le _,by simp⟩ (Sees.of ⟨le1 rfl,le1 rfl,le1 rfl,le1 rfl,trivial⟩ trivial) ?_))
 rintro i ⟨hi,hf⟩
 dsimp only at hi hf ⊢
 refine k2 (A3 (F7 A0 A0 A0 (A5 ?_)));refine k1 (k2 ?_);refine B1 rfl (fun ht=>?_) (fun ht=>?_)
 rotate_left
 ·have h1:i=l.length:=by have h1:=A2 ht;(try dsimp only at h1);omega
  rw [h1,L08] at hf
  refine k6 (k2 (A3 (A7 A0 A0 (A5 ?_))));refine k1 (k10 ?_)
  exact B8 (rs:=[E2 (-1)]) (I1 rfl rfl rfl) ⟨-1,rfl,by rw [decide_eq_false hf];rfl⟩
 have hlt:i < l.length:=by have h1:=A1 ht;(try dsimp only at h1);omega
 have hv:l[i]?=some l[i]:=by simp [hlt]
 refine k5 (k1 (k2 (k3 (k2 (A3 (A4 A0 A0 (A7 A0 A0 (A5 ?_))))))));refine k1 (k2 (A3 (A4 A0 A0 (A4 A0 A0 (A4 A0 A0 (A6 (B6 A0 (.pure _ _ _ _) A0 (by omega) hv) A0 (A6 (B3 A0 A0) A0 (A6 (H0 A0 A0) A0 (A5 ?_)))))))));refine k1 ?_;refine B1 rfl (fun ht=>?_) (fun ht=>?_)
 ·have h1:n=l[i]:=A1 ht
  refine k2 (A3 (A4 A0 A0 (A7 A0 A0 (A5 ?_))));refine k1 (k10 (k12 (k11 (k11 (k12 (k11 ?_))))));refine B8 (rs:=[E2 i]) (I1 rfl rfl rfl) ⟨i,rfl,?_⟩
  rw [decide_eq_true (show n∈l from h1 ▸ L05 hlt)]
  exact decide_eq_true (by omega)
 ·have h1:¬n=l[i]:=A2 ht
  refine k5 (k4 (k1 (A3 (E3 A0 A0 A0 (A4 A0 A0 (A5 ?_))))));refine k1 ?_;refine ⟨i+1,⟨hlt,?_⟩,by omega,(Sees.of ⟨le1 rfl,le1 rfl,le1 rfl,le1 rfl,trivial⟩ trivial)⟩
  rw [List.take_add_one,L01 hlt,Option.toList_some,L30,List.mem_singleton]
  rintro (h | h)
  ·exact hf h
  ·exact h1 h
theorem G72 (l:List Int) (n:Int) (hl:l.length≤1073741824):FnOk Tryz.prog 108 [K9 l,E2 n] (fun rs=>rs=[H1 (decide (n∈l))]):=by
 refine FnOk.intro Tryz.func108 (by decide) A0 A0 A0 A0 ?_
 refine k2 (A3 (A7 A0 A0 (A5 ?_)));refine k1 (k2 (A3 (A4 A0 A0 (A4 A0 A0 (C9 (J76 l n hl) A0 A0 A0 ?_)))));rintro _ ⟨i,rfl,hi⟩;refine A6 (V2 A0 A0) A0 (A7 A0 A0 (A5 ?_));refine k1 (k10 ?_)
 exact B8 (I1 rfl rfl rfl) (by rw [←hi])
theorem G73 (c:Commit) (hc:c.Parents.length≤1073741824):FnOk Tryz.prog 107 [D47 c] (fun rs=>rs=[H1 (decide (c.Parents.length > 32))]):=by
 refine FnOk.intro Tryz.func107 (by decide) A0 A0 A0 A0 ?_
 refine k2 (A3 (D1 (s6 1 A0 A0 A0) A0 (A7 A0 A0 (A5 ?_))));refine k1 (k2 (A3 (A6 (B0 A0) A0 (G3 A0 A0 A0 A0 (F4 A0 A0 (A6 (O1 A0 A0) A0 (A7 A0 A0 (A5 ?_))))))));refine k1 (k10 ?_)
 exact B8 (I1 rfl rfl rfl) (congrArg (fun b=>[H1 b]) (decide_eq_decide.2 ⟨fun h=>by omega,fun h=>by omega⟩))
theorem H56 (g:Graph) (hf:FewG g) (hgl:g.length≤1073741824):FnOk Tryz.prog 69 [K3 g] (fun rs=>rs=[H1 (X8 g)]):=by
 refine FnOk.intro Tryz.func69 (by decide) A0 A0 A0 A0 ?_
 refine k2 (A3 (A7 A0 A0 (A5 ?_)));refine k1 (k2 (A3 (A4 A0 A0 (F4 A0 A0 (A6 (B81 A0 A0) A0 (A4 A0 A0 (B5 A0 A0 A0 A0 (fun hg=>by rw [hg];exact C2 A0 A0) ?_)))))));refine B5 A0 A0 A0 A0 (fun hg=>by have hq:=hg;(try simp at hq);rw [hg];exact O7 (A90 107 (fun c=>decide (c.Parents.length > 32)) g hgl (fun c hc=>G73 c (by have:=hf.pars c hc;omega))) A0 A0) ?_;refine B5 A0 A0 A0 A0 (fun hg=>by rw [hg];exact S2 A0) ?_;refine K7 A0 A0 ?_;refine A7 A0 A0 (A5 ?_);refine k1 (k10 (B8 (I1 A0 A0 A0) ?_))
 unfold X8
 rw [C79,show decide ((g.length:Int)≤300)=decide (g.length≤300) from decide_eq_decide.2 (by omega)]
theorem I50 (c:Commit):FnOk Tryz.prog 73 [D47 c] (fun rs=>rs=[H1 (decide (c.Date < 0∨c.Date > 2147483647))]):=by
 refine FnOk.intro Tryz.func73 (by decide) A0 A0 A0 A0 ?_
 refine k2 (A3 (D1 (s6 1 A0 A0 A0) A0 (A7 A0 A0 (A5 ?_))));refine k1 (k2 (A3 (A6 (B0 A0) A0 (G3 A0 A0 A0 A0 (F7 A0 A0 A0 (A4 A0 A0 (B5 A0 A0 A0 A0 (fun hg=>by rw [hg];exact B0 A0) ?_)))))));refine B5 A0 A0 A0 A0 (fun hg=>by rw [hg];exact C5 A0 A0 A0) ?_;refine B5 A0 A0 A0 A0 (fun hg=>by rw [hg];exact O1 A0 A0) ?_;refine K7 A0 A0 ?_;refine A7 A0 A0 (A5 ?_);refine k1 (k10 (B8 (I1 A0 A0 A0) ?_))
 rw [or_pick]
theorem dis_ok (g:Graph) (c:Int):FnOk Tryz.prog 42 [K3 g,E2 c] (fun rs=>rs=[H1 (decide (v6 g c))]):=by
 refine FnOk.intro Tryz.func42 (by decide) A0 A0 A0 A0 ?_
 refine k2 (A3 (A7 A0 A0 (A5 ?_)));refine k1 (k2 (A3 (A4 A0 A0 (A6 (V2 A0 A0) A0 (A4 A0 A0 (B5 A0 A0 A0 A0 (fun hg=>by rw [hg];exact C2 A0 A0) ?_))))));refine B5 A0 A0 A0 A0 (fun hg=>by rw [hg];exact C2 A0 A0) ?_;refine B5 A0 A0 A0 A0 (fun hg=>by rw [hg];exact r5 A0 (.pure _ _ _ _)) ?_;refine B5 A0 A0 A0 A0 (fun hg=>by rw [hg];exact A75 A0 A0) ?_;refine K7 A0 A0 ?_;refine A7 A0 A0 (A5 ?_);refine k1 (k10 (B8 (I1 A0 A0 A0) ?_))
 rw [and_pick]
 rfl
theorem H57 (g:Graph) (hf:FewG g) (hg:g.length≤1073741824):FnOk Tryz.prog 70 [K3 g] (fun rs=>rs=[H1 (related g)]):=by
 refine FnOk.intro Tryz.func70 (by decide) A0 A0 A0 A0 ?_
 refine k2 (A3 (A7 A0 A0 (A5 ?_)));refine k1 (k2 (k2 (A3 (A4 A0 A0 (F4 A0 A0 (A4 A0 A0 (A5 ?_)))))));refine k1 (k3 (D2 (X:=Nat) (fun i=>([(0,D6 Commit 3 H2 g),(7,D6 Commit 3 H2 g),(8,C7 g.length),(9,C7 i)],[])) (fun i=>i≤g.length∧((g.take i).all fun c=>A35 g.length [] c.Parents)=true) (fun i=>g.length - i) 0 ⟨Nat.zero_le _,rfl⟩ (Sees.of ⟨le1 rfl,le1 rfl,le1 rfl,le1 rfl,trivial⟩ trivial) ?_))
 rintro i ⟨hi,ha⟩
 dsimp only at hi ha ⊢
 refine k2 (A3 (F7 A0 A0 A0 (A5 ?_)));refine k1 (k2 ?_);refine B1 rfl (fun ht=>?_) (fun ht=>?_)
 rotate_left
 ·have h1:i=g.length:=by have h1:=A2 ht;(try dsimp only at h1);omega
  rw [h1,L08] at ha
  refine k6 (k2 (A3 (A7 A0 A0 (A5 ?_))));refine k1 (k10 ?_)
  exact B8 (rs:=[H1 true]) (I1 rfl rfl rfl) (by unfold related;rw [ha])
 have hlt:i < g.length:=by have h1:=A1 ht;(try dsimp only at h1);omega
 obtain ⟨c,hc⟩:∃c,c=g[i]:=⟨_,rfl⟩
 have hv:g[i]?=some c:=by rw [hc];simp [hlt]
 have hpl:=hf.pars c (by rw [hc];exact L05 hlt)
 have hbad:A35 g.length [] c.Parents=false→[H1 false]=[H1 (related g)]:=fun h=>by
  have:related g=false:=by
   unfold related
   rw [List.all_eq_false]
   exact ⟨c,by rw [hc];exact L05 hlt,by rw [h];decide⟩
  rw [this]
 refine k5 (k1 (k2 (k3 (k2 (A3 (A6 (B6 A0 (.pure _ _ _ _) A0 (by omega) hv) A0 (A6 (E1 A0 A0) A0 (D1 (J1 4 A0) A0 (G1 (B9 TySz.out A0 A0 A0 A0 A0 A0) (A5 ?_))))))))));refine k1 (k2 (A3 (A6 (B0 A0) A0 (G3 A0 A0 A0 A0 (F4 A0 A0 (A4 A0 A0 (A5 ?_)))))));refine k1 (k3 (D2 (X:=Nat) (fun k=>([(0,D6 Commit 3 H2 g),(4,.s (.one (.ref 4 0))),(7,D6 Commit 3 H2 g),(8,C7 g.length),(9,C7 i),(14,D6 Int 1 F2 c.Parents),(15,C7 c.Parents.length),(16,C7 k)],[(4,.box (D47 c).s1.cells)])) (fun k=>k≤c.Parents.length∧A35 g.length [] c.Parents=A35 g.length (c.Parents.take k) (c.Parents.drop k)) (fun k=>c.Parents.length - k) 0 ⟨Nat.zero_le _,rfl⟩ (Sees.of ⟨le1 rfl,le1 rfl,le1 rfl,le1 rfl,le1 rfl,le1 rfl,le1 rfl,le1 rfl,trivial⟩ ⟨rfl,trivial⟩) ?_))
 rintro k ⟨hk,hr⟩
 dsimp only at hk hr ⊢
 refine k2 (A3 (F7 A0 A0 A0 (A5 ?_)));refine k1 (k2 ?_);refine B1 rfl (fun ht=>?_) (fun ht=>?_)
 rotate_left
 ·have h1:k=c.Parents.length:=by have h1:=A2 ht;(try dsimp only at h1);omega
  rw [h1,List.drop_length] at hr
  refine k6 (k7 (k7 (k8 A0 (k4 (k1 (A3 (E3 A0 A0 A0 (A4 A0 A0 (A5 ?_)))))))));refine k1 ?_;refine ⟨i+1,⟨hlt,?_⟩,by omega,(Sees.of ⟨le1 rfl,le1 rfl,le1 rfl,le1 rfl,trivial⟩ trivial)⟩
  rw [List.take_add_one,hv,Option.toList_some,L43,ha,Bool.true_and,List.all_cons,List.all_nil,Bool.and_true,hr]
  rfl
 have hklt:k < c.Parents.length:=by have h1:=A1 ht;(try dsimp only at h1);omega
 have hvp:c.Parents[k]?=some c.Parents[k]:=by simp [hklt]
 rw [L11 hklt] at hr
 obtain ⟨p,hp⟩:∃p,p=c.Parents[k]:=⟨_,rfl⟩
 rw [←hp] at hvp hr
 have htk:c.Parents.take (k+1)=c.Parents.take k++[p]:=by rw [List.take_add_one,hvp,Option.toList_some]
 rw [A35,←htk] at hr
 refine k5 (k1 (k2 (k3 (k2 (A3 (A4 A0 A0 (A6 (B6 A0 (.pure _ _ _ _) A0 (by omega) hvp) A0 (A6 (B3 A0 A0) A0 (A7 A0 A0 (A7 A0 A0 (A5 ?_)))))))))));refine k1 (k2 (A3 (A4 A0 A0 (F7 A0 A0 A0 (A4 A0 A0 (B5 A0 A0 A0 A0 (fun hg=>by rw [hg];exact C2 A0 A0) ?_))))));refine B5 A0 A0 A0 A0 (fun hg=>by rw [hg];exact C2 A0 A0) ?_;refine B5 A0 A0 A0 A0 (fun hg=>by rw [hg];exact r5 A0 (.pure _ _ _ _)) ?_;refine B5 A0 A0 A0 A0 (fun hg=>by rw [hg];exact V2 A0 A0) ?_;refine K7 A0 A0 ?_;refine A4 A0 A0 (B5 A0 A0 A0 A0 (fun hg=>by rw [hg];exact B0 A0) ?_);refine B5 A0 A0 A0 A0 (fun hg=>by rw [hg];exact C5 A0 A0 A0) ?_;refine B5 A0 A0 A0 A0 (fun hg=>by rw [hg];exact C2 A0 A0) ?_;refine B5 A0 A0 A0 A0 (fun hg=>by have hq:=hg;(try simp at hq);rw [hg];exact G05 A0 (.pure _ _ _ _) A0 (by omega) (by omega)) ?_;refine B5 A0 A0 A0 A0 (fun hg=>by rw [hg];exact C2 A0 A0) ?_;refine B5 A0 A0 A0 A0 (fun hg=>by have hq:=hg;(try simp at hq);rw [hg];exact O7 (G72 (c.Parents.take ((k:Nat):Int).toNat) p (by rw [L10];omega)) A0 A0) ?_;refine K7 A0 A0 ?_;refine A5 ?_;refine k1 ?_
 rw [L03,F38,F38]
 refine B1 rfl (fun ht=>?_) (fun ht=>?_)
 ·rw [L20,L20,decide_eq_true_eq,decide_eq_true_eq,decide_eq_true_eq] at ht
  have h1:decide (0≤p∧p < (g.length:Int)∧p∉c.Parents.take k)=false:=by
   rw [decide_eq_false_iff_not]
   rintro ⟨a1,a2,a3⟩
   rcases ht with (h | h) | h
   ·omega
   ·omega
   ·exact a3 h
  rw [h1,Bool.false_and] at hr
  refine k2 (A3 (A7 A0 A0 (A5 ?_)));refine k1 (k10 (k12 (k11 (k11 (k12 (k12 (k11 (k11 (k12 (k11 ?_))))))))))
  exact B8 (rs:=[H1 false]) (I1 rfl rfl rfl) (hbad hr)
 ·rw [L34,L34,decide_eq_false_iff_not,decide_eq_false_iff_not,decide_eq_false_iff_not] at ht
  have h1:decide (0≤p∧p < (g.length:Int)∧p∉c.Parents.take k)=true:=decide_eq_true ⟨by omega,by omega,ht.2⟩
  rw [h1,Bool.true_and] at hr
  refine k5 (k4 (k1 (A3 (E3 A0 A0 A0 (A4 A0 A0 (A5 ?_))))));refine k1 ?_
  exact ⟨k+1,⟨hklt,hr⟩,by omega,(Sees.of ⟨le1 rfl,le1 rfl,le1 rfl,le1 rfl,le1 rfl,le1 rfl,le1 rfl,le1 rfl,trivial⟩ ⟨rfl,trivial⟩)⟩
theorem G74 (ps l:List Int) (k:Nat) (h:k < ps.length):Y8 (ps.take (k+1)) l=bump (Y8 (ps.take k) l) ps[k]:=by
 unfold Y8
 rw [List.take_add_one,L01 h,Option.toList_some,L41];rfl
theorem C97 {l:List Int} {p:Int} (h:0≤p∧p < l.length):l[p.toNat]?=some (atG l p.toNat):=by
 unfold atG;rw [L01 (by omega)];rfl
theorem I51 {ps:List Int} {l:List Int} {p:Nat} (hr:∀p∈ps,0≤p∧p < l.length) (hn:ps.Nodup):atG l p≤atG (Y8 ps l) p∧atG (Y8 ps l) p≤atG l p+1:=by
 rw [D10 (n:=0) hr hn];split<;>omega
theorem H58 {g:Graph} (hr:related g=true) {i p:Nat} (hi:i≤g.length) (hp:p < g.length):0≤atG (Q1 g i) p∧atG (Q1 g i) p≤i:=by
 rw [C22 hr p hp i hi]
 have:=List.countP_le_length (p:=fun c=>decide ((p:Int)∈F3 g c)) (l:=List.range i)
 rw [L39] at this
 omega
theorem I52 (g:Graph) (hf:FewG g) (hr:related g=true):FnOk Tryz.prog 71 [K3 g] (fun rs=>∃ch out,rs=[K9 out]∧KInv g out.length 0 ch out):=by
 have hg:=hf.len
 refine FnOk.intro Tryz.func71 (by decide) A0 A0 A0 A0 ?_
 refine k2 (A3 (A7 A0 A0 (A5 ?_)));refine k1 (k2 (A3 (A4 A0 A0 (F4 A0 A0 (D1 (A00 753 Int F2 0 A0 A0 (by omega) (by omega) (fun _=>by first | exact ⟨⟨rfl,rfl⟩,trivial⟩ | exact ⟨I4 _ _ _,trivial⟩ | exact ⟨I4 _ _ _,⟨rfl,rfl⟩,I4 _ _ _,trivial⟩) (by first | rfl | (simp [K4,L0,Ob.free,SV.free,S1.free,TC.free]<;>rfl))) A0 ?_)))));refine A7 A0 A0 (A5 ?_);refine k1 (k2 (k2 (A3 (A4 A0 A0 (F4 A0 A0 (A4 A0 A0 (A5 ?_)))))));refine k1 (k3 ?_)
 rw [L03]
 refine D2 (X:=Nat) (fun i=>([(0,D6 Commit 3 H2 g),(3,.s (.one (.mut 753))),(17,D6 Commit 3 H2 g),(18,C7 g.length),(19,C7 i)],[(753,.arr Int 1 F2 (Q1 g i))])) (fun i=>i≤g.length) (fun i=>g.length - i) 0 (Nat.zero_le _) (Sees.of ⟨le1 rfl,le1 rfl,le1 rfl,le1 rfl,le1 rfl,trivial⟩ ⟨rfl,trivial⟩) ?_
 intro i hi
 dsimp only at hi ⊢
 refine k2 (A3 (F7 A0 A0 A0 (A5 ?_)));refine k1 (k2 ?_);refine B1 rfl (fun ht=>?_) (fun ht=>?_)
 ·have hlt:i < g.length:=by have h1:=A1 ht;(try dsimp only at h1);omega
  obtain ⟨c,hc⟩:∃c,c=g[i]:=⟨_,rfl⟩
  have hv:g[i]?=some c:=by rw [hc];simp [hlt]
  have hps:F3 g i=c.Parents:=by rw [g9 hlt,hc]
  have hpr:=K8 hr i
  have hpl:=hf.pars c (by rw [hc];exact L05 hlt)
  have hs:=C83 hlt
  rw [hps] at hpr hs
  have hcl:=A40 g i
  have hhi:=fun p (hp:p < g.length)=>H58 hr (i:=i) (p:=p) (by omega) hp
  obtain ⟨z,hz⟩:∃z,z=Q1 g i:=⟨_,rfl⟩
  rw [←hz] at hs hcl hhi ⊢
  refine k5 (k1 (k2 (k3 (k2 (A3 (A6 (B6 A0 (.pure _ _ _ _) A0 (by omega) hv) A0 (A6 (E1 A0 A0) A0 (D1 (J1 5 A0) A0 (G1 (B9 TySz.out A0 A0 A0 A0 A0 A0) (A5 ?_))))))))));refine k1 (k2 (A3 (A6 (B0 A0) A0 (G3 A0 A0 A0 A0 (F4 A0 A0 (A4 A0 A0 (A5 ?_)))))));refine k1 (k3 (D2 (X:=Nat) (fun k=>([(0,D6 Commit 3 H2 g),(3,.s (.one (.mut 753))),(17,D6 Commit 3 H2 g),(18,C7 g.length),(19,C7 i),(24,D6 Int 1 F2 c.Parents),(25,C7 c.Parents.length),(26,C7 k)],[(753,.arr Int 1 F2 (Y8 (c.Parents.take k) z))])) (fun k=>k≤c.Parents.length) (fun k=>c.Parents.length - k) 0 (Nat.zero_le _) (Sees.of ⟨le1 rfl,le1 rfl,le1 rfl,le1 rfl,le1 rfl,le1 rfl,le1 rfl,le1 rfl,trivial⟩ ⟨rfl,trivial⟩) ?_))
  intro k hk
  dsimp only at hk ⊢
  have hbl:=C21 (c.Parents.take k) z
  refine k2 (A3 (F7 A0 A0 A0 (A5 ?_)));refine k1 (k2 ?_);refine B1 rfl (fun ht=>?_) (fun ht=>?_)
  rotate_left
  ·have h1:k=c.Parents.length:=by have h1:=A2 ht;(try dsimp only at h1);omega
   rw [h1,L08,←hs]
   refine k6 (k7 (k7 (k8 A0 (k4 (k1 (A3 (E3 A0 A0 A0 (A4 A0 A0 (A5 ?_)))))))));refine k1 ?_
   exact ⟨i+1,hlt,by omega,(Sees.of ⟨le1 rfl,le1 rfl,le1 rfl,le1 rfl,le1 rfl,trivial⟩ ⟨rfl,trivial⟩)⟩
  have hklt:k < c.Parents.length:=by have h1:=A1 ht;(try dsimp only at h1);omega
  have hvp:c.Parents[k]?=some c.Parents[k]:=by simp [hklt]
  have hpb:=hpr.1 _ (L05 hklt)
  have hsn:=G74 c.Parents z k hklt
  obtain ⟨p,hp⟩:∃p,p=c.Parents[k]:=⟨_,rfl⟩
  rw [←hp] at hvp hpb hsn
  have hb:=I51 (ps:=c.Parents.take k) (l:=z) (p:=p.toNat) (fun q hq=>by rw [hcl];exact hpr.1 q (List.mem_of_mem_take hq)) (hpr.2.sublist (List.take_sublist _ _))
  have hh:=hhi p.toNat (by omega)
  have hva:=C97 (l:=Y8 (c.Parents.take k) z) (p:=p) (by rw [hbl,hcl];exact hpb)
  refine k5 (k1 (k2 (k3 (k2 (A3 (A6 (B6 A0 (.pure _ _ _ _) A0 (by omega) hvp) A0 (A6 (B3 A0 A0) A0 (A7 A0 A0 (A5 ?_)))))))));refine k1 (A3 (A4 A0 A0 (A4 A0 A0 (A6 (F9 A0 A0 A0 (by omega) (by (rw [hbl];omega))) A0 ?_))));refine A6 (N8 A0 A0 hva A0) A0 (E3 A0 A0 A0 (A6 (F9 A0 A0 A0 (by omega) (by (rw [hbl];omega))) A0 ?_));refine G1 (L3 TySz.out A0 A0 (by (rw [hbl];omega)) A0 A0) ?_;refine A5 ?_;refine k4 (k1 (A3 (E3 A0 A0 A0 (A4 A0 A0 (A5 ?_)))));refine k1 ?_;refine ⟨k+1,by omega,by omega,?_⟩
  rw [hsn]
  exact (Sees.of ⟨le1 rfl,le1 rfl,le1 rfl,le1 rfl,le1 rfl,le1 rfl,le1 rfl,le1 rfl,trivial⟩ ⟨rfl,trivial⟩)
 have hie:i=g.length:=by have h1:=A2 ht;(try dsimp only at h1);omega
 rw [hie]
 have hst:=KInv.start hr
 obtain ⟨z,hz⟩:∃z,z=Q1 g g.length:=⟨_,rfl⟩
 have hzl:z.length=g.length:=by rw [hz];exact A40 g _
 rw [←hz] at hst ⊢
 refine k6 (k2 (A3 (D1 (j4 8 _ F2 A0) A0 (A5 ?_))));refine k1 (k2 (k2 (A3 (A4 A0 A0 (A6 (C35 A0 A0) A0 (A4 A0 A0 (A5 ?_)))))));refine k1 (k3 (D2 (X:=Nat) (fun i=>([(0,D6 Commit 3 H2 g),(3,.s (.one (.mut 753))),(8,.s (.one (.buf 8 Int 1 F2 (V9 z i)))),(38,.s (.one (.mut 753))),(39,C7 g.length),(40,C7 i)],[(8,.spare (V9 z i).length 1 3),(753,.arr Int 1 F2 z)])) (fun i=>i≤g.length) (fun i=>g.length - i) 0 (Nat.zero_le _) (by rw [←hzl];exact (Sees.of ⟨le1 rfl,le1 rfl,le1 rfl,le1 rfl,le1 rfl,le1 rfl,trivial⟩ ⟨rfl,rfl,trivial⟩)) ?_))
 intro i hi
 dsimp only at hi ⊢
 have hzu:=I08 z i
 have hsu:=H12 z i
 refine k2 (A3 (F7 A0 A0 A0 (A5 ?_)));refine k1 (k2 ?_);refine B1 rfl (fun ht=>?_) (fun ht=>?_)
 ·have hlt:i < g.length:=by have h1:=A1 ht;(try dsimp only at h1);omega
  have hva:=C97 (l:=z) (p:=(i:Int)) (by omega)
  rw [L03] at hva
  refine k5 (k1 (k2 (k3 (k2 (A3 (A4 A0 A0 (A6 (F9 A0 A0 A0 (by omega) (by (rw [hzl];omega))) A0 ?_)))))));refine A6 (N8 A0 A0 hva A0) A0 (A7 A0 A0 (A7 A0 A0 (A5 ?_)));refine k1 (k2 (A3 (A4 A0 A0 (A6 (H0 A0 A0) A0 (A5 ?_)))));refine k1 ?_;refine B1 rfl (fun ht=>?_) (fun ht=>?_)
  ·have h1:atG z i=0:=A1 ht
   rw [if_pos h1] at hsu
   skip
   refine A3 (A4 A0 A0 (A4 A0 A0 (A6 (D7 (c:=F2) (ys:=[(i:Int)]) (G6 A0 A0 A0 A0 I0) A0 A0 A0) A0 (D1 (P0 A0 A0 A0 (.pure _ _ _ _) (by (simp only [L04,L09];omega)) A0) A0 (A7 A0 A0 (A5 ?_))))));refine k4 (k1 (A3 (E3 A0 A0 A0 (A4 A0 A0 (A5 ?_)))));refine k1 ?_;refine ⟨i+1,by omega,by omega,?_⟩
   rw [hsu]
   exact (Sees.of ⟨le1 rfl,le1 rfl,le1 rfl,le1 rfl,le1 rfl,le1 rfl,trivial⟩ ⟨rfl,rfl,trivial⟩)
  ·have h1:¬atG z i=0:=A2 ht
   rw [if_neg h1] at hsu
   refine k5 (k4 (k1 (A3 (E3 A0 A0 A0 (A4 A0 A0 (A5 ?_))))));refine k1 ?_;refine ⟨i+1,by omega,by omega,?_⟩
   rw [hsu]
   exact (Sees.of ⟨le1 rfl,le1 rfl,le1 rfl,le1 rfl,le1 rfl,le1 rfl,trivial⟩ ⟨rfl,rfl,trivial⟩)
 have hie:i=g.length:=by have h1:=A2 ht;(try dsimp only at h1);omega
 rw [hie]
 refine k6 (k2 (k2 (A3 (A7 A0 A0 (A5 ?_)))));refine k1 (k3 (D2 (X:=Nat × List Int × List Int) (fun x=>([(0,D6 Commit 3 H2 g),(3,.s (.one (.mut 753))),(8,.s (.one (.buf 8 Int 1 F2 x.2.2))),(11,C7 x.1)],[(8,.spare x.2.2.length 1 3),(753,.arr Int 1 F2 x.2.1)])) (fun x=>x.1≤x.2.2.length∧KInv g x.1 0 x.2.1 x.2.2) (fun x=>g.length - x.1) (0,z,V9 z g.length) ⟨Nat.zero_le _,hst⟩ (Sees.of ⟨le1 rfl,le1 rfl,le1 rfl,le1 rfl,trivial⟩ ⟨rfl,rfl,trivial⟩) ?_))
 rintro ⟨k,ch,out⟩ ⟨hk,hK⟩
 dsimp only at hk hK ⊢
 have hol:=hK.le
 refine k2 (k2 (A3 (A4 A0 A0 (A4 A0 A0 (A6 (r5 A0 (.buf _ _ _ _ _)) A0 (F7 A0 A0 A0 (A5 ?_)))))));refine k1 ?_;refine B1 rfl (fun ht=>?_) (fun ht=>?_)
 rotate_left
 ·have h1:k=out.length:=by have h1:=A2 ht;(try dsimp only at h1);omega
  rw [h1] at hK
  refine k6 (k2 (A3 (A4 A0 A0 (A7 A0 A0 (A5 ?_)))));refine k1 (k10 ?_)
  exact B8 (rs:=[K9 out]) (I1 rfl rfl rfl) ⟨ch,out,rfl,hK⟩
 have hklt:k < out.length:=by have h1:=A1 ht;(try dsimp only at h1);omega
 have hcr:=hK.rng _ (L05 hklt)
 obtain ⟨cn,hcn⟩:∃cn:Nat,out[k]=(cn:Int):=⟨out[k].toNat,by omega⟩
 have hvo:out[k]?=some (cn:Int):=by rw [L01 hklt,hcn]
 have hcl:cn < g.length:=by omega
 obtain ⟨c,hc⟩:∃c,c=g[cn]:=⟨_,rfl⟩
 have hvc:g[((cn:Nat):Int).toNat]?=some c:=by rw [hc];simp [hcl]
 have hps:F3 g cn=c.Parents:=by rw [g9 hcl,hc]
 have hpl:=hf.pars c (by rw [hc];exact L05 hcl)
 refine k5 (k1 (k2 (k3 (k2 (A3 (A4 A0 A0 (A4 A0 A0 (A4 A0 A0 (A6 (B6 A0 (.buf _ _ _ _ _) A0 (by omega) hvo) A0 (A6 (B3 A0 A0) A0 (A6 (B6 A0 (.pure _ _ _ _) A0 (by omega) hvc) A0 (A6 (C3 A0) A0 (A6 (B3 A0 A0) A0 (F4 A0 A0 (A4 A0 A0 (A5 ?_))))))))))))))));refine k1 (k3 (D2 (X:=Nat × List Int × List Int) (fun x=>([(0,D6 Commit 3 H2 g),(3,.s (.one (.mut 753))),(8,.s (.one (.buf 8 Int 1 F2 x.2.2))),(11,C7 k),(65,D6 Int 1 F2 c.Parents),(66,C7 c.Parents.length),(67,C7 x.1)],[(8,.spare x.2.2.length 1 3),(753,.arr Int 1 F2 x.2.1)])) (fun x=>x.1≤c.Parents.length∧k < x.2.2.length∧x.2.2[k]?=some (cn:Int)∧KInv g k x.1 x.2.1 x.2.2) (fun x=>c.Parents.length - x.1) (0,ch,out) ⟨Nat.zero_le _,hklt,hvo,hK⟩ (Sees.of ⟨le1 rfl,le1 rfl,le1 rfl,le1 rfl,le1 rfl,le1 rfl,le1 rfl,trivial⟩ ⟨rfl,rfl,trivial⟩) ?_))
 rintro ⟨i,ch',out'⟩ ⟨hi,hkl,hvo',hK'⟩
 dsimp only at hi hkl hvo' hK' ⊢
 have hol':=hK'.le
 have hchl:=hK'.len
 have hcn':out'[k]=(cn:Int):=by rw [L01 hkl] at hvo';exact Option.some.inj hvo'
 refine k2 (A3 (F7 A0 A0 A0 (A5 ?_)));refine k1 (k2 ?_);refine B1 rfl (fun ht=>?_) (fun ht=>?_)
 rotate_left
 ·have h1:i=c.Parents.length:=by have h1:=A2 ht;(try dsimp only at h1);omega
  rw [h1,←hps] at hK'
  have hN:=hK'.next hkl hcn'
  refine k6 (k7 (k7 (k8 A0 (k4 (k1 (A3 (A4 A0 A0 (E3 A0 A0 A0 (A7 A0 A0 (A5 ?_))))))))));refine k1 ?_
  exact ⟨(k+1,ch',out'),⟨by dsimp only;omega,hN⟩,by dsimp only;omega,(Sees.of ⟨le1 rfl,le1 rfl,le1 rfl,le1 rfl,trivial⟩ ⟨rfl,rfl,trivial⟩)⟩
 have hilt:i < c.Parents.length:=by have h1:=A1 ht;(try dsimp only at h1);omega
 have hvp:c.Parents[i]?=some c.Parents[i]:=by simp [hilt]
 have hpb:=(K8 hr cn).1 c.Parents[i] (by rw [hps];exact L05 hilt)
 obtain ⟨p,hp⟩:∃p:Nat,c.Parents[i]=(p:Int):=⟨c.Parents[i].toNat,by omega⟩
 rw [hp] at hvp
 obtain ⟨s1,s2,s3,s4⟩:=hK'.step hr hkl hcn' (i:=i) (p:=p) (by rw [hps];exact hilt) (by simp only [hps];exact hp)
 have hva:=C97 (l:=ch') (p:=(p:Int)) (by omega)
 have hva2:(Y5 ch' p)[((p:Nat):Int).toNat]?=some (atG ch' p - 1):=by
  unfold Y5
  rw [L03,List.getElem?_set_self (by omega)]
 have hdl:(Y5 ch' p).length=g.length:=by unfold Y5;rw [L26,hchl]
 have hset:ch'.set ((p:Nat):Int).toNat (atG ch' ((p:Nat):Int).toNat - 1)=Y5 ch' p:=rfl
 refine k5 (k1 (k2 (k3 (k2 (A3 (A6 (B6 A0 (.pure _ _ _ _) A0 (by omega) hvp) A0 (A6 (B3 A0 A0) A0 (A7 A0 A0 (A5 ?_)))))))));refine k1 (k2 (A3 (A4 A0 A0 (A4 A0 A0 (A6 (F9 A0 A0 A0 (by omega) (by (rw [hchl];omega))) A0 ?_)))));refine A6 (N8 A0 A0 hva A0) A0 (A6 (N1 A0 A0 (by (rw [L03];omega))) A0 ?_);refine A6 (F9 A0 A0 A0 (by omega) (by (rw [hchl];omega))) A0 ?_;refine G1 (L3 TySz.out A0 A0 (by (rw [hchl];omega)) A0 A0) ?_;refine A5 ?_
 rw [hset]
 refine k1 (k2 (A3 (A4 A0 A0 (A4 A0 A0 (A6 (F9 A0 A0 A0 (by omega) (by (rw [hdl];omega))) A0 ?_)))));refine A6 (N8 A0 A0 hva2 A0) A0 (A6 (H0 A0 A0) A0 (A5 ?_));refine k1 ?_;refine B1 rfl (fun ht=>?_) (fun ht=>?_)
 ·have h1:atG ch' p - 1=0:=A1 ht
  rw [if_pos h1] at s4
  skip
  refine A3 (A4 A0 A0 (A4 A0 A0 (A6 (D7 (c:=F2) (ys:=[(p:Int)]) (G6 A0 A0 A0 A0 I0) A0 A0 A0) A0 (D1 (P0 A0 A0 A0 (.pure _ _ _ _) (by (simp only [L04,L09];omega)) A0) A0 (A7 A0 A0 (A5 ?_))))));refine k4 (k1 (A3 (E3 A0 A0 A0 (A4 A0 A0 (A5 ?_)))));refine k1 ?_
  exact ⟨(i+1,Y5 ch' p,out'++[(p:Int)]),⟨hilt,by dsimp only;rw [L06];omega,by dsimp only;rw [L19 hkl];exact hvo',s4⟩,by dsimp only;omega,(Sees.of ⟨le1 rfl,le1 rfl,le1 rfl,le1 rfl,le1 rfl,le1 rfl,le1 rfl,trivial⟩ ⟨rfl,rfl,trivial⟩)⟩
 ·have h1:¬atG ch' p - 1=0:=A2 ht
  rw [if_neg h1] at s4
  refine k5 (k4 (k1 (A3 (E3 A0 A0 A0 (A4 A0 A0 (A5 ?_))))));refine k1 ?_
  exact ⟨(i+1,Y5 ch' p,out'),⟨hilt,hkl,hvo',s4⟩,by dsimp only;omega,(Sees.of ⟨le1 rfl,le1 rfl,le1 rfl,le1 rfl,le1 rfl,le1 rfl,le1 rfl,trivial⟩ ⟨rfl,rfl,trivial⟩)⟩
set_option maxHeartbeats 1000000
abbrev F79 (s:Str):Cell:=.v (.string ⟨s.toArray⟩)
def V7 (l:List File):List (Str × Cell):=l.foldl (fun m f=>a7 m f.Path (F79 f.Blob)) []
theorem J36 (a b:Str) (c:Cell):∀kvs:List (Str × Cell),N6 (a7 kvs a c) b=if a=b then some c else N6 kvs b
 | []=>by
  unfold a7 N6
  split
  ·rfl
  ·rfl
 | (k,x)::r=>by
  unfold a7
  split
  ·rename_i e;subst e
   unfold N6
   split
   ·rfl
   ·rfl
  ·rename_i e
   rw [N6,J36 a b c r]
   by_cases h1:k=b
   ·subst h1;rw [if_pos rfl,if_neg (fun h=>e h.symm)];simp [N6]
   ·rw [if_neg h1]
    by_cases h2:a=b
    ·rw [if_pos h2,if_pos h2]
    ·rw [if_neg h2,if_neg h2,N6,if_neg h1]
theorem D30 (l:List File) (i:Nat) (h:i < l.length):V7 (l.take (i+1))=a7 (V7 (l.take i)) l[i].Path (F79 l[i].Blob):=by
 unfold V7
 rw [List.take_add_one,L01 h,Option.toList_some,L41];rfl
theorem F08 (p:Str):∀(l:List File) (m:List (Str × Cell)),N6 (l.foldl (fun m f=>a7 m f.Path (F79 f.Blob)) m) p=((L7 l.reverse p).map F79).or (N6 m p)
 | [],m=>by simp [L7]
 | f::r,m=>by
  rw [L32,F08 p r,J36,List.reverse_cons]
  have key:∀(l:List File),L7 (l++[f]) p=(L7 l p).or (if f.Path=p then some f.Blob else none):=by
   intro l
   induction l with
   | nil=>simp [L7]
   | cons g l ih =>
    rw [L25,L7,L7]
    split
    ·rfl
    ·exact ih
  rw [key]
  cases L7 r.reverse p with
  | some x=>rfl
  | none=>by_cases h:f.Path=p<;>simp [h]
theorem G75 (l:List File) (p:Str):(N6 (V7 l) p).isSome=decide (p∈l.map (·.Path)):=by
 unfold V7
 rw [F08]
 have:N6 ([]:List (Str × Cell)) p=none:=rfl
 rw [this,Option.or_none,Option.isSome_map]
 cases h:L7 l.reverse p with
 | none =>
  have:=findF_none.1 h
  rw [List.map_reverse,List.mem_reverse] at this
  simp only [Option.isSome_none,this,decide_false]
 | some x =>
  obtain ⟨f,hf,he,_⟩:=A59 h
  have:p∈l.map (·.Path):=by rw [←he];exact List.mem_map_of_mem (List.mem_reverse.1 hf)
  simp only [Option.isSome_some,this,decide_true]
theorem J77 {l m:List File} {p:Str} (hl:ascend l=true) (hm:∀f,f∈m↔f∈l) (_hu:∀f∈l,∀g∈l,f.Path=g.Path→f=g):L7 m p=L7 l p:=by
 cases h:L7 m p with
 | none =>
  symm
  rw [findF_none] at h ⊢
  intro hp
  obtain ⟨f,hf,e⟩:=List.mem_map.1 hp
  exact h (List.mem_map.2 ⟨f,(hm f).2 hf,e⟩)
 | some x =>
  obtain ⟨f,hf,e1,e2⟩:=A59 h
  rw [←e1,A19 hl f ((hm f).1 hf),e2]
theorem D31 {l:List File} (hl:ascend l=true) (p:Str):N6 (V7 l) p=(L7 l p).map F79:=by
 unfold V7
 rw [F08]
 have:N6 ([]:List (Str × Cell)) p=none:=rfl
 rw [this,Option.or_none]
 congr 1
 refine J77 hl (fun f=>List.mem_reverse) fun f hf g hg e=>?_
 have h1:=A19 hl f hf
 have h2:=A19 hl g hg
 rw [e,h2] at h1
 cases f;cases g
 simp only [File.mk.injEq]
 exact ⟨e,(Option.some.inj h1).symm⟩
theorem F09 (l:List File) (hl:l.length≤1073741824):AL.Met Tryz.prog 103 [.one (.p (.list File 2 d8 l))] [] [] [] (fun rs ob'=>rs=[.one (.mut 800)]∧ob'=[(800,.map Str s9 (V7 l))]):=by
 refine AL.Met.intro Tryz.func103 (by decide) A0 A0 A0 ?_
 refine k2 (A3 (A7 A0 A0 (A5 ?_)));refine k1 (k2 (A3 (D1 (D82 800 Str s9 A0) A0 (A7 A0 A0 (A5 ?_)))));refine k1 (k2 (k2 (A3 (A4 A0 A0 (F4 A0 A0 (A4 A0 A0 (A5 ?_)))))));refine k1 (k3 (D2 (X:=Nat) (fun i=>([(3,.s (.one (.mut 800))),(7,D6 File 2 d8 l),(8,C7 l.length),(9,C7 i)],[(800,.map Str s9 (V7 (l.take i)))])) (fun i=>i≤l.length) (fun i=>l.length - i) 0 (Nat.zero_le _) (Sees.of ⟨le1 rfl,le1 rfl,le1 rfl,le1 rfl,trivial⟩ ⟨rfl,trivial⟩) ?_))
 intro i hi
 dsimp only at hi ⊢
 refine k2 (A3 (F7 A0 A0 A0 (A5 ?_)));refine k1 (k2 ?_);refine B1 rfl (fun ht=>?_) (fun ht=>?_)
 ·have hlt:i < l.length:=by have h1:=A1 ht;(try dsimp only at h1);omega
  have hs:=D30 l i hlt
  obtain ⟨f,hf⟩:∃f,f=l[i]:=⟨_,rfl⟩
  have hv:l[i]?=some f:=by rw [hf];simp [hlt]
  rw [←hf] at hs
  refine k5 (k1 (k2 (k3 (k2 (A3 (A6 (B6 A0 (.pure _ _ _ _) A0 (by omega) hv) A0 (A6 (E1 A0 A0) A0 (D1 (J1 5 A0) A0 (G1 (B9 TySz.out A0 A0 A0 A0 A0 A0) (A5 ?_))))))))));refine k1 (A3 (A4 A0 A0 (A6 (B0 A0) A0 (G3 A0 A0 A0 A0 (A6 (B0 A0) A0 (G3 A0 A0 A0 A0 (G1 (H51 (f.Path) A0 A0 A0 A0 A0 A12 A13) (A5 ?_))))))));refine k4 (k1 (A3 (E3 A0 A0 A0 (A4 A0 A0 (A5 ?_)))));refine k1 ?_;refine ⟨i+1,by omega,by omega,?_⟩
  rw [hs]
  exact (Sees.of ⟨le1 rfl,le1 rfl,le1 rfl,le1 rfl,trivial⟩ ⟨rfl,trivial⟩)
 ·have hie:i=l.length:=by have h1:=A2 ht;(try dsimp only at h1);omega
  rw [hie,L08]
  refine k6 (k2 (A3 (A4 A0 A0 (A7 A0 A0 (A5 ?_)))));refine k1 (k10 ?_)
  exact G7 (I8 rfl rfl) (by repeat (first | exact A8 | refine A9 rfl ?_ | refine D4 _ ?_)) (fun _ _ h=>h) ⟨rfl,rfl⟩
theorem H59 (l:List File) (hl:l.length≤1073741824):AL.Met Tryz.prog 103 [.one (.p (.list File 2 d8 l))] [] [] [] (fun rs ob'=>rs=[.one (.mut 801)]∧ob'=[(801,.map Str s9 (V7 l))]):=by
 refine AL.Met.intro Tryz.func103 (by decide) A0 A0 A0 ?_
 refine k2 (A3 (A7 A0 A0 (A5 ?_)));refine k1 (k2 (A3 (D1 (D82 801 Str s9 A0) A0 (A7 A0 A0 (A5 ?_)))));refine k1 (k2 (k2 (A3 (A4 A0 A0 (F4 A0 A0 (A4 A0 A0 (A5 ?_)))))));refine k1 (k3 (D2 (X:=Nat) (fun i=>([(3,.s (.one (.mut 801))),(7,D6 File 2 d8 l),(8,C7 l.length),(9,C7 i)],[(801,.map Str s9 (V7 (l.take i)))])) (fun i=>i≤l.length) (fun i=>l.length - i) 0 (Nat.zero_le _) (Sees.of ⟨le1 rfl,le1 rfl,le1 rfl,le1 rfl,trivial⟩ ⟨rfl,trivial⟩) ?_))
 intro i hi
 dsimp only at hi ⊢
 refine k2 (A3 (F7 A0 A0 A0 (A5 ?_)));refine k1 (k2 ?_);refine B1 rfl (fun ht=>?_) (fun ht=>?_)
 ·have hlt:i < l.length:=by have h1:=A1 ht;(try dsimp only at h1);omega
  have hs:=D30 l i hlt
  obtain ⟨f,hf⟩:∃f,f=l[i]:=⟨_,rfl⟩
  have hv:l[i]?=some f:=by rw [hf];simp [hlt]
  rw [←hf] at hs
  refine k5 (k1 (k2 (k3 (k2 (A3 (A6 (B6 A0 (.pure _ _ _ _) A0 (by omega) hv) A0 (A6 (E1 A0 A0) A0 (D1 (J1 5 A0) A0 (G1 (B9 TySz.out A0 A0 A0 A0 A0 A0) (A5 ?_))))))))));refine k1 (A3 (A4 A0 A0 (A6 (B0 A0) A0 (G3 A0 A0 A0 A0 (A6 (B0 A0) A0 (G3 A0 A0 A0 A0 (G1 (H51 (f.Path) A0 A0 A0 A0 A0 A12 A13) (A5 ?_))))))));refine k4 (k1 (A3 (E3 A0 A0 A0 (A4 A0 A0 (A5 ?_)))));refine k1 ?_;refine ⟨i+1,by omega,by omega,?_⟩
  rw [hs]
  exact (Sees.of ⟨le1 rfl,le1 rfl,le1 rfl,le1 rfl,trivial⟩ ⟨rfl,trivial⟩)
 ·have hie:i=l.length:=by have h1:=A2 ht;(try dsimp only at h1);omega
  rw [hie,L08]
  refine k6 (k2 (A3 (A4 A0 A0 (A7 A0 A0 (A5 ?_)))));refine k1 (k10 ?_)
  exact G7 (I8 rfl rfl) (by repeat (first | exact A8 | refine A9 rfl ?_ | refine D4 _ ?_)) (fun _ _ h=>h) ⟨rfl,rfl⟩
theorem H60 {gf:Fr} {ob:Obs} (p:Str) (kvs:List (Str × Cell)) (hp:p.length≤1073741824) (h0:C1 ob 800=some (.map Str s9 kvs)) (_hc:∀kv∈kvs,∃v,kv.2=.v v) (ps:List Str) (hps:∀q,(N6 kvs q).isSome=decide (q∈ps)) :
  AL.Met Tryz.prog 134 [.one (.p (.v (.string ⟨p.toArray⟩))),.one (.mut 800)] gf ob [] (fun rs ob'=>rs=[.one (.p (.v (.bool (T0 p ps))))]∧ob'=ob):=by
 have h47:∀c:UInt8,((c.toNat:Int)=47)↔c=47:=fun c=>by
  constructor
  ·intro h; exact UInt8.toNat_inj.1 (by have:c.toNat=47:=by omega
                                        simpa using this)
  ·rintro rfl;rfl
 refine AL.Met.introH Tryz.func134 (by decide) rfl rfl rfl (fun hH=>?_)
 refine k2 (A3 (A7 A0 A0 (A5 ?_)));refine k1 (k2 (k2 (A3 (A4 A0 A0 (A6 (J7 A0) A0 (A4 A0 A0 (A5 ?_)))))));refine k1 (k3 ?_);refine D2 (X:=Nat) (fun i=>([(0,Z9 p),(1,.s (.one (.mut 800))),(9,C7 p.length),(10,C7 i)]++gf,ob)) (fun i=>i≤p.length∧∀j,j < i→(decide (p.take j∈ps)&&decide (p[j]?=some 47))=false) (fun i=>p.length - i) 0 ⟨Nat.zero_le _,fun j h=>by omega⟩ (K76 ⟨le1 rfl,le1 rfl,le1 rfl,le1 rfl,trivial⟩ hH (by repeat (first | exact A8 | refine A9 rfl ?_)) (fun _ _ h=>h)) ?_
 rintro i ⟨hi,hn⟩
 dsimp only at hi hn ⊢
 refine k2 (A3 (F7 A0 A0 A0 (A5 ?_)));refine k1 (k2 ?_);refine B1 rfl (fun ht=>?_) (fun ht=>?_)
 rotate_left
 ·have hie:i=p.length:=by have h1:=A2 ht;(try dsimp only at h1);omega
  have hno:T0 p ps=false:=by
   unfold T0
   rw [List.any_eq_false]
   intro j hj
   rw [hn j (by rw [hie];exact List.mem_range.1 hj)];simp
  refine k6 (k2 (A3 (A7 A0 A0 (A5 ?_))));refine k1 (k10 ?_)
  exact G7 (I8 rfl rfl) (by repeat (first | exact A8 | refine A9 rfl ?_ | refine D4 _ ?_)) (fun _ _ h=>h) ⟨by rw [hno],rfl⟩
 have hlt:i < p.length:=by have h1:=A1 ht;(try dsimp only at h1);omega
 have hv:p[((i:Nat):Int).toNat]?=some p[i]:=by simp [hlt]
 have hpi:p[i]?=some p[i]:=by simp [hlt]
 have hq:=hps (p.take ((i:Nat):Int).toNat)
 obtain ⟨r,hr⟩:∃r,r=N6 kvs (p.take ((i:Nat):Int).toNat):=⟨_,rfl⟩
 rw [←hr,L03] at hq
 refine k5 (k1 (k2 (k3 (k2 (A3 (A4 A0 A0 (A7 A0 A0 (A5 ?_))))))));refine k1 (k2 (A3 (A4 A0 A0 (A4 A0 A0 (A4 A0 A0 (A6 (D22 A0 A0 (by omega) (by omega)) A0 (A6 (C02 ((p.take ((i:Nat):Int).toNat)) (r:=r) A0 h0 A0 A12 A13 (hr.symm)) A0 (A4 A0 A0 (E8 A0 A0 A0 (E8 A0 A0 A0 (A7 A0 A0 (A7 A0 A0 (A5 ?_)))))))))))));refine k1 (k2 (A3 (A4 A0 A0 (A4 A0 A0 (B5 A0 A0 A0 A0 (fun hg=>by rw [hg];exact C2 A0 A0) ?_)))));refine B5 A0 A0 A0 A0 (fun hg=>by rw [hg];exact C2 A0 A0) ?_;refine B5 A0 A0 A0 A0 (fun hg=>by have hq:=hg;(try simp at hq);rw [hg];exact R7 A0 A0 (by omega) hv) ?_;refine B5 A0 A0 A0 A0 (fun hg=>by rw [hg];exact H0 A0 A0) ?_;refine K7 A0 A0 ?_;refine A5 ?_;refine k1 ?_;refine B1 rfl (fun ht=>?_) (fun ht=>?_)
 ·rw [C79,L02,decide_eq_true_eq] at ht
  have hyes:T0 p ps=true:=by
   unfold T0
   rw [List.any_eq_true]
   exact ⟨i,List.mem_range.2 hlt,by rw [←hq,ht.1,hpi,(h47 _).1 ht.2];rfl⟩
  refine k2 (A3 (A7 A0 A0 (A5 ?_)));refine k1 (k10 (k12 (k11 (k11 (k12 (k11 ?_))))))
  exact G7 (I8 rfl rfl) (by repeat (first | exact A8 | refine A9 rfl ?_ | refine D4 _ ?_)) (fun _ _ h=>h) ⟨by rw [hyes],rfl⟩
 ·rw [C79] at ht
  refine k5 (k4 (k1 (A3 (E3 A0 A0 A0 (A4 A0 A0 (A5 ?_))))));refine k1 ?_;refine ⟨i+1,⟨hlt,fun j hj=>?_⟩,by omega,K76 ⟨le1 rfl,le1 rfl,le1 rfl,le1 rfl,trivial⟩ hH (by repeat (first | exact A8 | refine A9 rfl ?_)) (fun _ _ h=>h)⟩
  by_cases e:j=i
  ·subst e
   rw [←hq,hpi]
   cases hrs:r.isSome
   ·rfl
   ·rw [hrs,Bool.true_and,decide_eq_false_iff_not] at ht
    have:¬p[j]=47:=fun h=>ht ((h47 _).2 h)
    simp [this]
  ·exact hn j (by omega)
theorem J78 (l:List File):∀kv∈V7 l,∃v,kv.2=.v v:=by
 have key:∀(l:List File) (m:List (Str × Cell)),(∀kv∈m,∃v,kv.2=.v v)→∀kv∈l.foldl (fun m f=>a7 m f.Path (F79 f.Blob)) m,∃v,kv.2=.v v:=by
  intro l
  induction l with
  | nil=>exact fun m h=>h
  | cons f r ih =>
   intro m h
   refine ih _ ?_
   clear ih
   induction m with
   | nil=>intro kv hkv;change kv∈a7 [] f.Path (F79 f.Blob) at hkv;rw [a7,List.mem_singleton] at hkv;rw [hkv];exact ⟨_,rfl⟩
   | cons x m ihm =>
    obtain ⟨k,c⟩:=x
    intro kv hkv
    change kv∈a7 ((k,c)::m) f.Path (F79 f.Blob) at hkv
    rw [a7] at hkv
    split at hkv
    ·rcases List.mem_cons.1 hkv with rfl | hkv
     ·exact ⟨_,rfl⟩
     ·exact h kv (by simp [hkv])
    ·rcases List.mem_cons.1 hkv with rfl | hkv
     ·exact h _ (by simp)
     ·exact ihm (fun kv hk=>h kv (by simp [hk])) kv hkv
 exact key l [] fun _ h=>by cases h
theorem E19:∀(l:List File) (i:Nat),i+1 < l.length→(ascend (l.take (i+2))=(ascend (l.take (i+1))&&ltS (l.getD i ⟨[],[]⟩).Path (l.getD (i+1) ⟨[],[]⟩).Path))
 | [],i,h=>by simp at h
 | [_],i,h=>by simp at h
 | f::g::r,0,_=>by simp [ascend]
 | f::g::r,i+1,h=>by
  have ih:ascend (g::r.take (i+1))=(ascend (g::r.take i)&&ltS ((g::r).getD i ⟨[],[]⟩).Path ((g::r).getD (i+1) ⟨[],[]⟩).Path):=E19 (g::r) i (by simpa using h)
  show ascend (f::g::r.take (i+1))=(ascend (f::g::r.take i)&&ltS ((g::r).getD i ⟨[],[]⟩).Path ((g::r).getD (i+1) ⟨[],[]⟩).Path)
  rw [ascend,ascend,ih,Bool.and_assoc]
theorem G76 (l:List File):ascend (l.take 1)=true:=by
 cases l with
 | nil=>rfl
 | cons f r=>rfl
theorem H61 (l:List File) (hl:l.length≤1073741824) (hp:∀f∈l,f.Path.length≤1073741824):FnOk Tryz.prog 113 [u0 l] (fun rs=>rs=[H1 (N9 l)]):=by
 rw [←J00]
 have hbv:=J78 l
 have hbs:=G75 l
 refine FnOk.intro Tryz.func113 (by decide) A0 A0 A0 A0 ?_
 refine k2 (A3 (A7 A0 A0 (A5 ?_)));refine k1 (k2 (A3 (A4 A0 A0 (A33 (F09 l hl) A0 A0 A0 A0 ?_))));rintro _ _ ⟨rfl,rfl⟩;refine ⟨rfl,?_⟩;refine A7 A0 A0 (A5 ?_);refine k1 (k2 (k2 (A3 (A4 A0 A0 (F4 A0 A0 (A4 A0 A0 (A5 ?_)))))));refine k1 (k3 (D2 (X:=Nat) (fun i=>([(0,D6 File 2 d8 l),(3,.s (.one (.mut 800))),(8,D6 File 2 d8 l),(9,C7 l.length),(10,C7 i)],[(800,.map Str s9 (V7 l))])) (fun i=>i≤l.length∧ascend (l.take i)=true∧((l.take i).all fun f=>!T0 f.Path (l.map (·.Path)))=true) (fun i=>l.length - i) 0 ⟨Nat.zero_le _,rfl,rfl⟩ (Sees.of ⟨le1 rfl,le1 rfl,le1 rfl,le1 rfl,le1 rfl,trivial⟩ ⟨rfl,trivial⟩) ?_))
 rintro i ⟨hi,ha,hn⟩
 dsimp only at hi ha hn ⊢
 refine k2 (A3 (F7 A0 A0 A0 (A5 ?_)));refine k1 (k2 ?_);refine B1 rfl (fun ht=>?_) (fun ht=>?_)
 rotate_left
 ·have hie:i=l.length:=by have h1:=A2 ht;(try dsimp only at h1);omega
  rw [hie,L08] at ha hn
  refine k6 (k2 (A3 (A7 A0 A0 (A5 ?_))));refine k1 (k10 ?_)
  exact B8 (rs:=[H1 true]) (I1 rfl rfl rfl) (by unfold A18;rw [ha,hn];rfl)
 have hlt:i < l.length:=by have h1:=A1 ht;(try dsimp only at h1);omega
 obtain ⟨f,hf⟩:∃f,f=l[i]:=⟨_,rfl⟩
 have hv:l[i]?=some f:=by rw [hf];simp [hlt]
 have hfp:=hp f (by rw [hf];exact L05 hlt)
 obtain ⟨g,hg⟩:∃g,g=l.getD (i - 1) ⟨[],[]⟩:=⟨_,rfl⟩
 have hvg:0 < i→l[((i:Int) - 1).toNat]?=some g:=fun h0=>by
  rw [hg,show ((i:Int) - 1).toNat=i - 1 by omega,L07,L01 (by omega)];rfl
 have hnext:ascend (l.take (i+1))=if 0 < i then ltS g.Path f.Path else true:=by
  cases i with
  | zero=>rw [if_neg (by omega)];exact G76 l
  | succ i =>
   rw [if_pos (by omega),E19 l i hlt,ha,Bool.true_and,hg]
   rw [show l.getD (i+1) ⟨[],[]⟩=f by rw [L07,hv];rfl]
   rfl
 have hbad:((0 < i∧ltS g.Path f.Path=false)∨T0 f.Path (l.map (·.Path))=true)→[H1 false]=[H1 (A18 l)]:=by
  rintro (⟨h0,h⟩ | h)
  ·have : ascend l=false:=by
    cases h2:ascend l
    ·rfl
    ·exfalso
     rw [if_pos h0,h] at hnext
     have key:∀(l:List File) (k:Nat),ascend l=true→ascend (l.take k)=true:=by
      intro l
      induction l with
      | nil=>intro k h;simpa using h
      | cons x r ih =>
       intro k h
       cases k with
       | zero=>rfl
       | succ k =>
        have h3:=ih k (A92 h)
        rw [List.take_succ_cons]
        cases hk:r.take k with
        | nil=>rfl
        | cons y t =>
         unfold ascend
         rw [L02]
         refine ⟨p7 h y (List.mem_of_mem_take (by rw [hk];simp)),by rw [←hk];exact h3⟩
     rw [key l (i+1) h2] at hnext;cases hnext
   unfold A18;rw [this];rfl
  ·have:(l.all fun f=>!T0 f.Path (l.map (·.Path)))=false:=by
    rw [List.all_eq_false]
    exact ⟨f,by rw [hf];exact L05 hlt,by rw [h];simp⟩
   unfold A18;rw [this,Bool.and_false]
 have hgood:(0 < i→ltS g.Path f.Path=true)→T0 f.Path (l.map (·.Path))=false→ascend (l.take (i+1))=true∧((l.take (i+1)).all fun f=>!T0 f.Path (l.map (·.Path)))=true:=by
  intro h1 h2
  refine ⟨?_,?_⟩
  ·rw [hnext];split
   ·rename_i h0;exact h1 h0
   ·rfl
  ·rw [List.take_add_one,hv,Option.toList_some,L43,hn,Bool.true_and,List.all_cons,List.all_nil,h2];rfl
 refine k5 (k1 (k2 (k3 (k2 (A3 (A4 A0 A0 (A6 (B6 A0 (.pure _ _ _ _) A0 (by omega) hv) A0 (A6 (E1 A0 A0) A0 (D1 (J1 5 A0) A0 (A7 A0 A0 (G1 (B9 TySz.out A0 A0 A0 A0 A0 A0) (A5 ?_))))))))))));refine k1 (k2 ?_)
 cases hQ:(if decide ((0:Int) < (i:Int))=true then !Op.bytesLess g.Path f.Path else false)
 ·have h1:0 < i→ltS g.Path f.Path=true:=fun h0=>by
   rw [if_pos (decide_eq_true (by omega)),Bool.not_eq_false'] at hQ;exact hQ
  refine F01 17 (by kernel_rfl) (by kernel_rfl) A0 (E9 A0 A0 (B7 (O1 A0 A0) A0 A0 (E9 A0 A0 (F6 A0 A0 (fun hg=>by rw [hg];exact C2 A0 A0) A0 A0 ?_))));refine F6 A0 A0 (fun hg=>by rw [hg];exact C2 A0 A0) A0 A0 ?_;refine F6 A0 A0 (fun hg=>by have hq:=hg;(try simp at hq);rw [hg];exact N1 A0 A0 (by omega)) A0 A0 ?_;refine F6 A0 A0 (fun hg=>by have hq:=hg;(try simp at hq);rw [hg];exact B6 A0 (.pure _ _ _ _) A0 (by omega) (hvg (by omega))) A0 A0 ?_;refine F6 A0 A0 (fun hg=>by rw [hg];exact C3 A0) A0 A0 ?_;refine F6 A0 A0 (fun hg=>by rw [hg];exact B3 A0 A0) A0 A0 ?_;refine F6 A0 A0 (fun hg=>by rw [hg];exact B0 A0) A0 A0 ?_;refine F6 A0 A0 (fun hg=>by rw [hg];exact C5 A0 A0 A0) A0 A0 ?_;refine F6 A0 A0 (fun hg=>by rw [hg];exact G68 A0 A0) A0 A0 ?_;refine B7 (L8 A0 (fun h=>by first | rfl | (rw [h];rfl)) (fun h=>by first | rfl | (rw [h];rfl))) A0 A0 ?_;refine E9 A0 A0 (d_go A0 A0 hQ A0 (B7 (B0 A0) A0 A0 (d_go A0 A0 hQ A0 (B7 (C5 A0 A0 A0) A0 A0 (d_go A0 A0 hQ A0 (E9 A0 A0 (Q6 ?_)))))));refine J71 A0 A0 hQ (H42 (H60 f.Path (V7 l) hfp A0 hbv (l.map (·.Path)) hbs) A0 A0 A0 ?_);rintro _ _ ⟨rfl,rfl⟩;refine ⟨_,rfl,?_⟩;refine B7 (L8 A0 (fun h=>by first | rfl | (rw [h];rfl)) (fun h=>by first | rfl | (rw [h];rfl))) A0 A0 ?_;refine Q6 ?_;refine k1 ?_
  rw [hQ]
  refine B1 rfl (fun ht=>?_) (fun ht=>?_)
  ·have h2:T0 f.Path (l.map (·.Path))=true:=by simpa using ht
   refine k2 (A3 (A7 A0 A0 (A5 ?_)));refine k1 (k10 (k12 (k11 (k11 (k12 (k11 ?_))))))
   exact B8 (rs:=[H1 false]) (I1 rfl rfl rfl) (hbad (.inr h2))
  ·have h2:T0 f.Path (l.map (·.Path))=false:=by simpa using ht
   obtain ⟨h3,h4⟩:=hgood h1 h2
   refine k5 (k4 (k1 (A3 (E3 A0 A0 A0 (A4 A0 A0 (A5 ?_))))));refine k1 ?_
   exact ⟨i+1,⟨hlt,h3,h4⟩,by omega,(Sees.of ⟨le1 rfl,le1 rfl,le1 rfl,le1 rfl,le1 rfl,trivial⟩ ⟨rfl,trivial⟩)⟩
 ·have h0:0 < i:=by
   apply Classical.byContradiction
   intro h0;rw [if_neg (by rw [decide_eq_true_eq];omega)] at hQ;cases hQ
  have h1:ltS g.Path f.Path=false:=by
   rw [if_pos (decide_eq_true (by omega)),Bool.not_eq_true'] at hQ;exact hQ
  refine E7 (by kernel_rfl) (by kernel_rfl) (E9 A0 A0 (B7 (O1 A0 A0) A0 A0 (E9 A0 A0 (F6 A0 A0 (fun hg=>by rw [hg];exact C2 A0 A0) A0 A0 ?_))));refine F6 A0 A0 (fun hg=>by rw [hg];exact C2 A0 A0) A0 A0 ?_;refine F6 A0 A0 (fun hg=>by have hq:=hg;(try simp at hq);rw [hg];exact N1 A0 A0 (by omega)) A0 A0 ?_;refine F6 A0 A0 (fun hg=>by have hq:=hg;(try simp at hq);rw [hg];exact B6 A0 (.pure _ _ _ _) A0 (by omega) (hvg (by omega))) A0 A0 ?_;refine F6 A0 A0 (fun hg=>by rw [hg];exact C3 A0) A0 A0 ?_;refine F6 A0 A0 (fun hg=>by rw [hg];exact B3 A0 A0) A0 A0 ?_;refine F6 A0 A0 (fun hg=>by rw [hg];exact B0 A0) A0 A0 ?_;refine F6 A0 A0 (fun hg=>by rw [hg];exact C5 A0 A0 A0) A0 A0 ?_;refine F6 A0 A0 (fun hg=>by rw [hg];exact G68 A0 A0) A0 A0 ?_;refine B7 (L8 A0 (fun h=>by first | rfl | (rw [h];rfl)) (fun h=>by first | rfl | (rw [h];rfl))) A0 A0 ?_;refine E9 A0 A0 (E84 A0 A0 (by rw [hQ];decide) A0 A0 ?_);refine E84 A0 A0 (by rw [hQ];decide) A0 A0 ?_;refine E84 A0 A0 (by rw [hQ];decide) A0 A0 ?_;refine E84 A0 A0 (by rw [hQ];decide) A0 A0 ?_;refine B7 (S9 A0 (hQ) A0) A0 A0 (Q6 ?_);refine k1 ?_;refine B1 rfl (fun ht=>?_) (fun ht=>?_)
  ·refine k2 (A3 (A7 A0 A0 (A5 ?_)));refine k1 (k10 (k12 (k11 (k11 (k12 (k11 ?_))))))
   exact B8 (rs:=[H1 false]) (I1 rfl rfl rfl) (hbad (.inl ⟨h0,h1⟩))
  ·cases ht
end Go.Proofs.YtjmoigcpoopjhaaGreatDoor
namespace Go.Proofs.YtjmoigcpoopjhaaGreatDoor
open Go Go.AL
set_option maxRecDepth 100000
theorem u64_in {n:Int} (h:0≤n∧n < 18446744073709551616):IntKind.u64.wrap n=n:=by simp [IntKind.wrap,IntKind.signed,IntKind.bits];omega
def G17 (a n:Int):Int:=IntKind.u64.wrap a % n
theorem H62 (a:Int) {n:Int} (h:1≤n):0≤G17 a n∧G17 a n < n:=⟨Int.emod_nonneg _ (by omega),Int.emod_lt_of_pos _ (by omega)⟩
theorem mod_ok (a n:Int) (hn:1≤n) (hn':n≤9223372036854775807):FnOk Tryz.prog 5 [E2 a,E2 n] (fun rs=>rs=[E2 (G17 a n)]):=by
 refine FnOk.intro Tryz.func5 (by decide) A0 A0 A0 A0 ?_
 refine k2 (A3 (A7 A0 A0 (A5 ?_)));refine k1 (k2 ?_)
 have h1:IntKind.u64.wrap n=n:=u64_in (by omega)
 refine A3 (A4 A0 A0 (A6 (j3 A0) A0 (A4 A0 A0 (A6 (j3 A0) A0 (A6 (n_rem A0 A0 (by (rw [h1];omega))) A0 ?_)))));refine A6 (j3 A0) A0 (A7 A0 A0 (A5 ?_));refine k1 (k10 (B8 (I1 A0 A0 A0) ?_))
 have h2:=I48 a
 have h3:(IntKind.u64.wrap a).tmod n=IntKind.u64.wrap a % n:=Int.tmod_eq_emod_of_nonneg h2
 have h4:=H62 a hn
 unfold G17 at *
 rw [h1,h3,B95 ⟨by omega,by omega⟩]
def at0 (k:Int):Int:=IntKind.u64.wrap (IntKind.u64.wrap (k+1)*11400714819323198485)
end Go.Proofs.YtjmoigcpoopjhaaGreatDoor
namespace Go.Proofs.YtjmoigcpoopjhaaGreatDoor
open Go Go.AL
set_option maxRecDepth 100000
theorem G18 (s:Str):(ByteArray.mk s.toArray).size=s.length:=by simp [ByteArray.size]
theorem G77 (s p:Str) (hs:s.length≤1099511627776):FnOk Tryz.prog 122 [H7 s,H7 p] (fun rs=>rs=[H1 (Lib.hasSuffix s p)]) :=
 K80 (xs:=[.string ⟨s.toArray⟩,.string ⟨p.toArray⟩]) ⟨_,rfl,rfl,rfl⟩ rfl fun w=>by simpa using Tryz.strings_HasSuffix ⟨s.toArray⟩ ⟨p.toArray⟩ w (by rw [G18];omega)
theorem F80 (s p:Str) (hs:s.length≤1099511627776):FnOk Tryz.prog 66 [H7 s,H7 p] (fun rs=>rs=[H7 (Lib.trimSuffix s p)]) :=
 K80 (xs:=[.string ⟨s.toArray⟩,.string ⟨p.toArray⟩]) ⟨_,rfl,rfl,rfl⟩ rfl fun w=>by simpa using Tryz.strings_TrimSuffix ⟨s.toArray⟩ ⟨p.toArray⟩ w (by rw [G18];omega)
theorem G78 (s:Str) (c:UInt8):FnOk Tryz.prog 158 [H7 s,.one (.v (.int .u8 c.toNat))] (fun rs=>rs=[E2 (Lib.indexByte s c)]) :=
 K80 (xs:=[.string ⟨s.toArray⟩,.int .u8 c.toNat]) ⟨_,rfl,rfl,rfl⟩ rfl fun w=>by simpa using Tryz.strings_IndexByte ⟨s.toArray⟩ c.toNat w
theorem J79 (s:Str) (hs:s.length≤1099511627776):FnOk Tryz.prog 87 [H7 s] (fun rs=>rs=[H1 (ended s)]):=by
 refine FnOk.intro Tryz.func87 (by decide) A0 A0 A0 A0 ?_
 refine k2 (A3 (A7 A0 A0 (A5 ?_)));refine k1 (k2 (A3 (A4 A0 A0 (C9 (G77 s [10] hs) A0 A0 A0 ?_))));rintro _ rfl;refine A7 A0 A0 (A5 ?_)
 rw [D53]
 refine k1 (k10 ?_)
 exact B8 (I1 rfl rfl rfl) rfl
theorem K36 (s:Str) (hs:s.length≤1099511627776):FnOk Tryz.prog 33 [H7 s] (fun rs=>rs=[H7 (A62 s)]):=by
 refine FnOk.intro Tryz.func33 (by decide) A0 A0 A0 A0 ?_
 refine k2 (A3 (A7 A0 A0 (A5 ?_)));refine k1 (k2 (A3 (A4 A0 A0 (C9 (F80 s [10] hs) A0 A0 A0 ?_))));rintro _ rfl;refine A7 A0 A0 (A5 ?_)
 rw [F98]
 refine k1 (k10 ?_)
 exact B8 (I1 rfl rfl rfl) rfl
end Go.Proofs.YtjmoigcpoopjhaaGreatDoor
namespace Go.Proofs.YtjmoigcpoopjhaaGreatDoor
open Go Go.AL
set_option maxRecDepth 100000
end Go.Proofs.YtjmoigcpoopjhaaGreatDoor
namespace Go.Proofs.YtjmoigcpoopjhaaGreatDoor
open Go Go.AL Go.RowKit
set_option maxRecDepth 100000
theorem G19 (s:Str) (c:UInt8):FnOk Tryz.prog 86 [H7 s,H7 [c]] (fun rs=>rs=[E2 (s.count c)]) :=
 K80 (xs:=[.string ⟨s.toArray⟩,.string ⟨#[c]⟩]) ⟨_,rfl,rfl,rfl⟩ rfl fun w=>by simpa [Lib.countByte] using Tryz.strings_Count_one ⟨s.toArray⟩ c w
theorem J80 (s:Str) (c:UInt8):FnOk Tryz.prog 78 [H7 s,H7 [c]] (fun rs=>rs=[E2 (Lib.indexByte s c)]) :=
 K80 (xs:=[.string ⟨s.toArray⟩,.string ⟨#[c]⟩]) ⟨_,rfl,rfl,rfl⟩ rfl fun w=>by simpa using Tryz.strings_Index_one ⟨s.toArray⟩ c w
abbrev D32 (l:List Str):Ob:=.grow 9 Str 1 X2 l
theorem G79 (s:Str) (hs:s.length≤536870912):AL.Met Tryz.prog 88 [(H7 s).s1,(H7 [10]).s1,(E2 1).s1,(E2 (-1)).s1] [] [] [] (fun rs ob'=>rs=[.one (.mut 9)]∧ob'=[(9,D32 (T4 s))]):=by
 have hP:=i6 s []
 have hc:s.count 10≤s.length:=List.count_le_length
 have h10:([10]:Str).length=1:=rfl
 obtain ⟨P,hPe⟩:∃P,P=T4 s:=⟨_,rfl⟩
 have hPl:P.length=s.count 10+1:=by rw [hPe];exact hP
 refine AL.Met.intro Tryz.func88 (by decide) A0 A0 A0 ?_
 refine k2 (A3 (A7 A0 A0 (A5 ?_)));refine k1 (k2 (k2 (A3 (A4 A0 A0 (A6 (H0 A0 A0) A0 (A5 ?_))))));refine k1 ?_;refine B1 rfl (fun ht=>?_) (fun ht=>?_)
 ·exact absurd (A1 ht) (by omega)
 refine k5 (k1 (k2 (k2 (A3 (A4 A0 A0 (A6 (O5 A0 A0) A0 (A5 ?_)))))));refine k1 ?_;refine B1 rfl (fun ht=>?_) (fun ht=>?_)
 ·exact absurd (A1 ht) (by simp)
 refine k5 (k1 (k2 (k2 (A3 (A4 A0 A0 (F7 A0 A0 A0 (A5 ?_)))))));refine k1 ?_;refine B1 rfl (fun ht=>?_) (fun ht=>?_)
 rotate_left
 ·exact absurd (A2 ht) (by omega)
 skip
 refine A3 (A4 A0 A0 (A4 A0 A0 (C9 (G19 s 10) A0 A0 A0 ?_)));rintro _ rfl;refine E3 A0 A0 A0 (A7 A0 A0 (A5 ?_));refine k1 (k2 (A3 (A4 A0 A0 (A4 A0 A0 (A6 (J7 A0) A0 (E3 A0 A0 A0 (A6 (E85 A0 A0) A0 (A7 A0 A0 (A5 ?_)))))))));refine k1 (k2 ?_)
 rw [show (if (s.length:Int)+1 < (s.count 10:Int)+1 then (s.length:Int)+1 else (s.count 10:Int)+1)=(P.length:Int) from by split<;>omega]
 refine A3 (A4 A0 A0 (D1 (f_makeG 9 Str X2 [] A0 A0 (by omega) (by omega) (fun _=>by first | exact ⟨⟨rfl,rfl⟩,trivial⟩ | exact ⟨I4 _ _ _,trivial⟩ | exact ⟨I4 _ _ _,⟨rfl,rfl⟩,I4 _ _ _,trivial⟩) (by first | rfl | (simp [K4,L0,Ob.free,SV.free,S1.free,TC.free]<;>rfl))) A0 ?_));refine A7 A0 A0 (A5 ?_);refine k1 (k2 (A3 (A4 A0 A0 (A6 (N1 A0 A0 (by omega)) A0 (A7 A0 A0 (A5 ?_))))));refine k1 (k2 (A3 (A7 A0 A0 (A5 ?_))));refine k1 (k2 (k3 (D2 (X:=Nat × Str) (fun x=>([(0,Z9 x.2),(1,Z9 [10]),(2,C7 1),(3,C7 ((P.length:Int) - 1)),(9,.s (.one (.mut 9))),(10,C7 x.1)],[(9,D32 (P.take x.1++List.replicate (P.length - x.1) []))])) (fun x=>x.1+1≤P.length∧P.drop x.1=T4 x.2∧x.2.length≤s.length) (fun x=>P.length - x.1) (0,s) ⟨by dsimp only;omega,hPe,Nat.le_refl _⟩ (Sees.of ⟨le1 rfl,le1 rfl,le1 rfl,le1 rfl,le1 rfl,le1 rfl,trivial⟩ ⟨rfl,trivial⟩) ?_)))
 rintro ⟨i,r⟩ ⟨hi,hp,hr⟩
 dsimp only at hi hp hr ⊢
 refine k2 (k2 (A3 (A4 A0 A0 (A4 A0 A0 (F7 A0 A0 A0 (A5 ?_))))));refine k1 ?_;refine B1 rfl (fun ht=>?_) (fun ht=>?_)
 ·have hlt:i+1 < P.length:=by have:=A1 ht;omega
  have hin:(10:UInt8)∈r:=by
   have h1:=i6 r []
   have h2:(P.drop i).length=r.count 10+1:=by rw [hp];exact h1
   rw [L12] at h2
   exact List.count_pos_iff.1 (by omega)
  rcases n5 10 r with ⟨h1,_⟩ | ⟨a,b,h1,h2,h3⟩
  ·exact absurd hin h1
  obtain ⟨h4,h5⟩:=J03 hp h1 h2
  have hl:r.length=a.length+1+b.length:=by rw [h1];simp;omega
  refine k5 (k1 (k3 (k2 (A3 (A4 A0 A0 (A4 A0 A0 (C9 (J80 r 10) A0 A0 A0 ?_)))))));rintro _ rfl;refine A7 A0 A0 (A5 ?_);refine k1 (k2 (k2 (A3 (A4 A0 A0 (F7 A0 A0 A0 (A5 ?_))))));refine k1 ?_
  rw [h3]
  refine B1 rfl (fun ht=>?_) (fun ht=>?_)
  ·exact absurd (A1 ht) (by omega)
  refine k5 (k1 (k2 ?_))
  have hvi:(P.take i++List.replicate (P.length - i) ([]:Str))[((i:Nat):Int).toNat]?=some []:=by
   rw [L03,L17 (by rw [L10];omega),List.getElem?_replicate,if_pos (by rw [L10];omega)]
  refine A3 (A4 A0 A0 (A4 A0 A0 (A4 A0 A0 (A4 A0 A0 (A4 A0 A0 (E3 A0 A0 A0 (A6 (D22 A0 A0 (by omega) (by omega)) A0 (A6 (H6 A0 A0 A0 (by omega) (by (simp;omega))) A0 (G1 (x9 ((r.take ((a.length:Int)+1).toNat)) TySz.out A0 A0 hvi A0 A0 A0 A0 (fun _ _ _ h=>s8 h) (by intro j h1 h2;rcases j with _ | _ | _ | _ | _ | _ | _ | j<;>first | rfl | omega)) ?_)))))))));refine A5 ?_;refine k1 (k2 (A3 (A4 A0 A0 (A4 A0 A0 (A4 A0 A0 (A6 (J7 A0) A0 (E3 A0 A0 A0 (A6 (B44 A0 A0 (by omega) (by omega)) A0 (A7 A0 A0 (A5 ?_))))))))));refine k1 (A3 (A4 A0 A0 (E3 A0 A0 A0 (A7 A0 A0 (A5 ?_)))));refine k4 (k1 ?_)
  have e1:r.take (((a.length:Int)+1).toNat)=a++[10]:=by rw [h1,show ((a.length:Int)+1).toNat=a.length+1 by omega,show a++10::b=(a++[10])++b by simp,List.take_left' (by simp)]
  have e2:r.drop (((a.length:Int)+(([10]:Str).length:Int)).toNat)=b:=by rw [h1,h10,show ((a.length:Int)+((1:Nat):Int)).toNat=a.length+1 by omega,show a++10::b=(a++[10])++b by simp,List.drop_left' (by simp)]
  refine ⟨(i+1,b),⟨by dsimp only;omega,h5,by dsimp only;omega⟩,by dsimp only;omega,?_⟩
  rw [e1,e2]
  dsimp only
  rw [←G45 P [] _ i h4]
  exact Sees.of ⟨le1 rfl,le1 rfl,le1 rfl,le1 rfl,le1 rfl,le1 rfl,trivial⟩ ⟨rfl,trivial⟩
 ·have hge:i+1=P.length:=by have:=A2 ht;omega
  have h1:=i6 r []
  have h2:(P.drop i).length=r.count 10+1:=by rw [hp];exact h1
  rw [L12] at h2
  have h3:(10:UInt8)∉r:=List.count_eq_zero.1 (by omega)
  have h4:P[i]?=some r:=by rw [←List.head?_drop,hp];unfold T4;rw [F99 _ _ h3];rfl
  refine k6 (k2 ?_)
  have hvi:(P.take i++List.replicate (P.length - i) ([]:Str))[((i:Nat):Int).toNat]?=some []:=by
   rw [L03,L17 (by rw [L10];omega),List.getElem?_replicate,if_pos (by rw [L10];omega)]
  refine A3 (A4 A0 A0 (A4 A0 A0 (A4 A0 A0 (A6 (H6 A0 A0 A0 (by omega) (by (simp;omega))) A0 (G1 (x9 (r) TySz.out A0 A0 hvi A0 A0 A0 A0 (fun _ _ _ h=>s8 h) (by intro j h1 h2;rcases j with _ | _ | _ | _ | _ | _ | _ | j<;>first | rfl | omega)) ?_)))));refine A5 ?_;refine k1 (k2 ?_)
  have e:(P.take i++List.replicate (P.length - i) ([]:Str)).set (i:Int).toNat r=P:=by rw [L03,G45 P [] r i h4,hge];simp
  rw [e]
  refine A3 (A4 A0 A0 (A4 A0 A0 (E3 A0 A0 A0 (D1 (A88 A0 A0 A0 (by omega) (by omega) A0) A0 (A7 A0 A0 (A5 ?_))))));refine k1 (k10 ?_)
  rw [show ((i:Int)+1).toNat=P.length by omega,L08,hPe]
  exact G7 (I8 rfl rfl) (by repeat (first | exact A8 | refine A9 rfl ?_ | refine D4 _ ?_)) (ObIn.spec (ob':=[(9,_)]) ⟨rfl,trivial⟩) ⟨rfl,rfl⟩
theorem F10 (s:Str) (hs:s.length≤536870912):AL.Met Tryz.prog 58 [(H7 s).s1,(H7 [10]).s1] [] [] [] (fun rs ob'=>rs=[.one (.mut 9)]∧ob'=[(9,D32 (T4 s))]):=by
 refine AL.Met.intro Tryz.func58 (by decide) A0 A0 A0 ?_
 refine k2 (A3 (A7 A0 A0 (A5 ?_)));refine k1 (k2 (A3 (A4 A0 A0 (A4 A0 A0 (A4 A0 A0 (A6 (J7 A0) A0 (A33 (G79 s hs) A0 A0 A0 A0 ?_)))))));rintro _ _ ⟨rfl,rfl⟩;refine ⟨rfl,?_⟩;refine A7 A0 A0 (A5 ?_);refine k1 (k10 ?_)
 exact G7 (I8 rfl rfl) (by repeat (first | exact A8 | refine A9 rfl ?_ | refine D4 _ ?_)) (ObIn.spec (ob':=[(9,_)]) ⟨rfl,trivial⟩) ⟨rfl,rfl⟩
theorem G20 (s:Str) (hs:s.length≤536870912):FnOk Tryz.prog 57 [H7 s] (fun rs=>rs=[E2 (M8 s)]):=by
 have hl:=C87 s
 have hc:s.count 10≤s.length:=List.count_le_length
 refine FnOk.intro Tryz.func57 (by decide) A0 A0 A0 A0 ?_
 refine k2 (A3 (A7 A0 A0 (A5 ?_)));refine k1 (k2 (A3 (A4 A0 A0 (C9 (G19 s 10) A0 A0 A0 ?_))));rintro _ rfl;refine A7 A0 A0 (A5 ?_);refine V4 ?_
 refine G61 [(0,Z9 s),(3,C7 (I6 s).length)] [] ?_ ?_
 ·refine k2 (A3 (A4 A0 A0 (A6 (J27 A0 A0) A0 (A4 A0 A0 (B5 A0 A0 A0 A0 (fun hg=>by rw [hg];exact C2 A0 A0) ?_)))));refine B5 A0 A0 A0 A0 (fun hg=>by have hq:=hg;(try simp at hq);rw [hg];exact O7 (J79 s (by omega)) A0 A0) ?_;refine B5 A0 A0 A0 A0 (fun hg=>by rw [hg];exact S2 A0) ?_;refine K7 A0 A0 ?_;refine A5 ?_;refine k1 ?_;refine B1 rfl (fun ht=>?_) (fun ht=>?_)
  ·have h:s≠[]∧ended s=false:=by
    by_cases h1:s=[]
    ·simp [h1] at ht
    ·refine ⟨h1,?_⟩;simpa [h1] using ht
   rw [if_pos h] at hl
   skip
   refine A3 (A4 A0 A0 (E3 A0 A0 A0 (A7 A0 A0 (A5 ?_))));refine k1 ?_
   rw [hl,Int.natCast_add]
   exact Sees.of ⟨le1 rfl,le1 rfl,trivial⟩ trivial
  ·have h:¬(s≠[]∧ended s=false):=by
    rintro ⟨h1,h2⟩
    simp [h1,h2] at ht
   rw [if_neg h] at hl
   refine k5 (k1 ?_)
   rw [hl]
   exact Sees.of ⟨le1 rfl,le1 rfl,trivial⟩ trivial
 ·refine k2 (k2 (A3 (A4 A0 A0 (A6 (J7 A0) A0 (A6 (O1 A0 A0) A0 (A4 A0 A0 (B5 A0 A0 A0 A0 (fun hg=>by rw [hg];exact C2 A0 A0) ?_)))))));refine B5 A0 A0 A0 A0 (fun hg=>by rw [hg];exact O1 A0 A0) ?_;refine K7 A0 A0 ?_;refine A5 ?_;refine k1 ?_;refine B1 rfl (fun ht=>?_) (fun ht=>?_)
  ·have h:=A1 (or_pick.symm.trans ht)
   refine k2 (A3 (A7 A0 A0 (A5 ?_)));refine k1 (k10 (k11 ?_))
   exact B8 (I1 rfl rfl rfl) (by rw [M8,if_pos (by omega)])
  ·have h:=A2 (or_pick.symm.trans ht)
   refine k5 (k1 (k2 (A3 (A7 A0 A0 (A5 ?_)))));refine k1 (k10 ?_)
   exact B8 (I1 rfl rfl rfl) (by rw [M8,if_neg (by omega)])
theorem I53 (s:Str) (hs:s.length≤536870912):AL.Met Tryz.prog 28 [(H7 s).s1] [] [] [] (fun rs ob'=>rs=[.one (.mut 9),(E2 (j6 s).2).s1]∧ob'=[(9,D32 (j6 s).1)]):=by
 have hp:I6 s=if (T4 s).getLastD []=[] then (T4 s).dropLast else T4 s:=I10 s []
 have hc:(T4 s).length=s.count 10+1:=i6 s []
 have hcl:s.count 10≤s.length:=List.count_le_length
 refine AL.Met.intro Tryz.func28 (by decide) A0 A0 A0 ?_
 refine k2 (A3 (A7 A0 A0 (A7 A0 A0 (A5 ?_))));refine k1 (k2 (k2 (A3 (A4 A0 A0 (C9 (G20 s hs) A0 A0 A0 ?_)))));rintro _ rfl;refine A7 A0 A0 (A5 ?_);refine k1 (k2 (A3 (A4 A0 A0 (A6 (O2 A0 A0) A0 (A5 ?_)))));refine k1 ?_;refine B1 rfl (fun ht=>?_) (fun ht=>?_)
 ·have h:M8 s≠0:=by simpa using ht
  have h1:s.length > 1048576∨(I6 s).length > 4096:=by
   by_cases h1:s.length > 1048576∨(I6 s).length > 4096
   ·exact h1
   ·exact absurd (by rw [M8,if_neg h1]) h
  refine k2 (A3 (A4 A0 A0 (D1 (H40 9 _ X2 A0) A0 (A7 A0 A0 (A5 ?_)))));refine k1 (k10 (k11 ?_));refine G7 (E86 rfl rfl rfl) (by repeat (first | exact A8 | refine A9 rfl ?_ | refine D4 _ ?_)) (ObIn.spec (ob':=[(9,_)]) ⟨rfl,trivial⟩) ?_
  rw [j6,if_pos h1,M8,if_pos h1]
  exact ⟨rfl,rfl⟩
 ·have h:M8 s=0:=by simpa using ht
  have h1:¬(s.length > 1048576∨(I6 s).length > 4096):=fun h1=>by rw [M8,if_pos h1] at h;omega
  have hv:(T4 s)[(T4 s).length - 1]?=some ((T4 s).getLastD []):=by
   rw [←List.getLast?_eq_getElem?,List.getLast?_eq_some_getLast (fun e=>by rw [e] at hc;simp at hc)]
   rw [List.getLastD_eq_getLast?,List.getLast?_eq_some_getLast (fun e=>by rw [e] at hc;simp at hc)];rfl
  have hi:(((T4 s).length:Int) - 1).toNat=(T4 s).length - 1:=by omega
  refine k5 (k1 (k2 (A3 (A4 A0 A0 (A33 (F10 s hs) A0 A0 A0 A0 ?_)))));rintro _ _ ⟨rfl,rfl⟩;refine ⟨rfl,?_⟩;refine A7 A0 A0 (A5 ?_);refine V4 ?_
  refine G61 [(5,.s (.one (.mut 9)))] [(9,D32 (I6 s))] ?_ ?_
  ·refine k2 (A3 (A4 A0 A0 (A4 A0 A0 (A6 (X3 A0 A0) A0 (A6 (N1 A0 A0 (by omega)) A0 (A6 (H6 A0 A0 A0 (by omega) (by omega)) A0 (A6 (A15 A0 A0 (by rw [hi];exact hv) A0) A0 ?_)))))));refine A6 (O5 A0 A0) A0 (A5 ?_);refine k1 ?_;refine B1 rfl (fun ht=>?_) (fun ht=>?_)
   ·have h2:=A1 ht
    skip
    refine A3 (A4 A0 A0 (A4 A0 A0 (A6 (X3 A0 A0) A0 (A6 (N1 A0 A0 (by omega)) A0 (D1 (A88 A0 A0 A0 (by omega) (by omega) A0) A0 (A7 A0 A0 (A5 ?_)))))));refine k1 ?_
    rw [hp,if_pos h2,List.dropLast_eq_take,←hi]
    exact Sees.of ⟨le1 rfl,trivial⟩ ⟨rfl,trivial⟩
   ·have h2:=A2 ht
    refine k5 (k1 ?_)
    rw [hp,if_neg h2]
    exact Sees.of ⟨le1 rfl,trivial⟩ ⟨rfl,trivial⟩
  ·refine k2 (A3 (A4 A0 A0 (A7 A0 A0 (A7 A0 A0 (A5 ?_)))));refine k1 (k10 ?_);refine G7 (E86 rfl rfl rfl) (by repeat (first | exact A8 | refine A9 rfl ?_ | refine D4 _ ?_)) (ObIn.spec (ob':=[(9,_)]) ⟨rfl,trivial⟩) ?_
   rw [j6,if_neg h1]
   exact ⟨rfl,rfl⟩
theorem G21 (s:Str) (hs:s.length≤536870912):FnOk Tryz.prog 28 [H7 s] (fun rs=>rs=[E12 (j6 s).1,E2 (j6 s).2]) :=
 FnOk.ofMet (I53 s hs) fun rs ob' hm=>by
  obtain ⟨rfl,rfl⟩:=hm
  exact ⟨9,Str,1,X2,(j6 s).1,_,[E12 (j6 s).1,E2 (j6 s).2],rfl,rfl,rfl,rfl⟩
end Go.Proofs.YtjmoigcpoopjhaaGreatDoor
namespace Go.Proofs.YtjmoigcpoopjhaaGreatDoor
open Go Go.RowKit Go.AL
attribute [local go_sem] Oper.semAt_some
set_option maxRecDepth 100000
set_option maxHeartbeats 2000000
theorem C71:∀(a r cur:Str),47∉a→L2 cur (a++47::r)=(cur++a)::L2 [] r
 | [],r,cur,_=>by simp [L2]
 | x::a,r,cur,h=>by
  have hx:x≠47:=fun e=>h (by simp [e])
  rw [L25,L2,if_neg hx,C71 a r _ (fun e=>h (by simp [e])),L15];rfl
theorem C72:∀(a cur:Str),47∉a→L2 cur a=[cur++a]
 | [],cur,_=>by simp [L2]
 | x::a,cur,h=>by
  have hx:x≠47:=fun e=>h (by simp [e])
  rw [L2,if_neg hx,C72 a _ (fun e=>h (by simp [e])),L15];rfl
theorem d6 {W:World} {B:Nat} {v:Value} {t:TypeId} (h:W.heap[B]?=some (.cells #[v] t (0,0))):W.cell? ⟨B,0,none⟩=some v∧W.frozen? ⟨B,0,none⟩=false:=by
 constructor<;>simp [World.cell?,World.frozen?,h]
structure RInv (rec:LoopState→Option Code→Loop) (n0:Nat) (w0:World) (l D b2 bs bp bv:Nat) (rest:Str) (W:World):Prop where
 s:W.heap[bs]?=some (.cells #[.string ⟨rest.toArray⟩] 9 (0,0))
 p:W.heap[bp]?=some (.cells #[.string ⟨#[47]⟩] 9 (0,0))
 v:W.heap[bv]?=some (.cells #[.int .i64 0] 3 (0,0))
 r:W.heap[b2]?=some (.cells #[.int .i64 0] 30 (0,0))
 l:W.heap[l]?=some (.loop (rec .ready none))
 d:W.heap[D]?=some (.deferred (some []))
 b:Below n0 w0 W
structure RFin (rec:LoopState→Option Code→Loop) (n0:Nat) (w0:World) (l D b2:Nat) (W:World):Prop where
 r:W.heap[b2]?=some (.cells #[.int .i64 210] 30 (0,0))
 l:W.heap[l]?=some (.loop (rec .done (some .ret)))
 d:W.heap[D]?=some (.deferred (some []))
 b:Below n0 w0 W
def leftIn (bs:Nat) (W:World):Nat:=match W.cell? ⟨bs,0,none⟩ with | some (.string s)=>s.size | _=>0
theorem y4 {W:World} {B:Nat} {v v':Value} {t:TypeId} (h:W.heap[B]?=some (.cells #[v] t (0,0))):(W.setCell ⟨B,0,none⟩ v').heap[B]?=some (.cells #[v'] t (0,0)):=by
 obtain ⟨hlt,hk'⟩:=Array.getElem?_eq_some_iff.1 h
 show (W.heap.modify B _)[B]?=_
 rw [Array.getElem?_eq_getElem (by rw [Array.size_modify];exact hlt),Array.getElem_modify_self,hk']
 rfl
theorem RInv.step {rec:LoopState→Option Code→Loop} {n0:Nat} {w0:World} {l D b2 bs bp bv:Nat} {rest:Str} {W:World} (h:RInv rec n0 w0 l D b2 bs bp bv rest W) (hne:bs≠bp∧bs≠bv∧bs≠b2∧bs≠l∧bs≠D∧n0≤bs) (r:Str) :
  RInv rec n0 w0 l D b2 bs bp bv r (W.setCell ⟨bs,0,none⟩ (.string ⟨r.toArray⟩)):=by
 obtain ⟨h1,h2,h3,h4,h5,h6⟩:=hne
 exact ⟨y4 h.s,(Below.heap_setCell W _ _ _ (Ne.symm h1)).trans h.p,(Below.heap_setCell W _ _ _ (Ne.symm h2)).trans h.v,(Below.heap_setCell W _ _ _ (Ne.symm h3)).trans h.r,(Below.heap_setCell W _ _ _ (Ne.symm h4)).trans h.l,(Below.heap_setCell W _ _ _ (Ne.symm h5)).trans h.d,h.b.setCell (p:=⟨bs,0,none⟩) h6 _⟩
theorem H63 {rec:LoopState→Option Code→Loop} {n0:Nat} {w0:World} {l D b2 bs bp bv:Nat} (hne:bs≠bp∧bs≠bv∧bs≠b2∧bs≠l∧bs≠D∧n0≤bs)
  (hIdx:∀(s:Str) (w:World),Calls Tryz.prog 78 #[.string ⟨s.toArray⟩,.string ⟨#[47]⟩] w (fun e w'=>e=.returned (.int .i64 (Lib.indexByte s 47))∧w'=w))
  (hY:∀rest x W,RInv rec n0 w0 l D b2 bs bp bv rest W→YieldAt Fence.wide 3 Tryz.prog l #[.string ⟨x.toArray⟩] W (fun e W'=>(Q8 x=true∧e=.returned (.bool true)∧RInv rec n0 w0 l D b2 bs bp bv rest W')∨(Q8 x=false∧e=.returned (.bool false)∧RFin rec n0 w0 l D b2 W')))
  (p:Str) (hp:p.length≤1073741824) (W:World) (hI:RInv rec n0 w0 l D b2 bs bp bv p W) :
  CallsIn Fence.wide 4 Tryz.prog 171 #[.func (.yield l) #[] #[],.pointer (some ⟨bp,0,none⟩),.pointer (some ⟨bs,0,none⟩),.pointer (some ⟨bv,0,none⟩)] W (fun e W'=>(∃v,e=.returned v) ∧
   (((L2 [] p).all Q8=true∧∃rest,RInv rec n0 w0 l D b2 bs bp bv rest W')∨((L2 [] p).all Q8=false∧RFin rec n0 w0 l D b2 W'))):=by
 refine callsIn_of_wp Tryz.func171 rfl trivial ?_ rfl
 simp only [Tryz.ntmps171,List.size_toArray,L04,L09,Nat.reduceAdd,Nat.reduceSub,Array.replicate_succ,Array.replicate_zero,List.push_toArray,List.append_toArray,L37,L25]
 have hcp:=d6 hI.p
 gi_wp2
 gi_loopw [7] (fun v wr=>∃rest:Str,rest.length≤p.length∧(L2 [] p).all Q8=(L2 [] rest).all Q8∧RInv rec n0 w0 l D b2 bs bp bv rest wr) (fun v wr=>leftIn bs wr)
 case atStart=>exact ⟨p,Nat.le_refl _,rfl,hI⟩
 case round =>
  obtain ⟨rest,hl,hall,hR⟩:=hrel
  obtain ⟨hs1,hs2⟩:=d6 hR.s
  obtain ⟨hp1,hp2⟩:=d6 hR.p
  obtain ⟨hv1,hv2⟩:=d6 hR.v
  rcases n5 47 rest with ⟨h1,h2⟩ | ⟨x,r,h1,h2,h3⟩
  ·rw [C72 _ _ h1] at hall
   obtain ⟨fn,tmps,assign,body,hy,hRd⟩:=hY rest rest wr hR
   gi_wp2_with (refine ⟨trivial,?_⟩;gi_at_call 78;refine (callsIn_wide.2 (hIdx rest _)).mono ?_;rintro e w' ⟨rfl,rfl⟩;rw [h2])
   refine hRd.mono ?_
   rintro e W' (⟨h5,rfl,h6⟩ | ⟨h5,rfl,h6⟩)
   ·gi_wp2
    go_end0
    exact ⟨⟨_,rfl⟩,.inl ⟨by simp [hall,h5],rest,h6⟩⟩
   ·gi_wp2
    go_end0
    exact ⟨⟨_,rfl⟩,.inr ⟨by simp [hall,h5],h6⟩⟩
  ·subst h1
   rw [C71 _ _ _ h2,List.all_cons] at hall
   have hxl:x.length < (x++47::r).length:=by simp
   have hex:(⟨(x++47::r).toArray⟩:ByteArray).extract 0 x.length=⟨x.toArray⟩:=by
    apply ByteArray.ext;rw [ByteArray.data_extract];simp
   have hex2:(⟨(x++47::r).toArray⟩:ByteArray).extract (x.length+1) (x.length+(r.length+1))=⟨r.toArray⟩:=by
    apply ByteArray.ext;rw [ByteArray.data_extract];simp;exact L31 (by omega)
   obtain ⟨fn,tmps,assign,body,hy,hRd⟩:=hY _ x wr hR
   gi_wp2_with (refine ⟨trivial,?_⟩;gi_at_call 78;refine (callsIn_wide.2 (hIdx _ _)).mono ?_;rintro e w' ⟨rfl,rfl⟩;rw [h3])
   refine hRd.mono ?_
   rintro e W' (⟨h5,rfl,h6⟩ | ⟨h5,rfl,h6⟩)
   ·obtain ⟨hs3,hs4⟩:=d6 h6.s
    obtain ⟨hp3,hp4⟩:=d6 h6.p
    gi_wp2
    try rw [hex2]
    have h7:=h6.step hne r
    refine ⟨⟨r,by simp at hl;omega,by simp [hall,h5],h7⟩,?_⟩
    unfold leftIn
    rw [(d6 h7.s).1,hs1]
    show r.toArray.size < (x++47::r).toArray.size
    simp
    omega
   ·gi_wp2
    refine bodyPost_ret (results_none A0 _ _ _) A0 ?_
    exact ⟨⟨_,rfl⟩,.inr ⟨by simp [hall,h5],h6⟩⟩
def chkPost (b2:Nat) (x:Str) (W:World):Exit→Act→World→Prop
 | .normal,_,W'=>Q8 x=true∧W'=W
 | .ret,_,W'=>Q8 x=false∧W'=W.setCell ⟨b2,0,none⟩ (.int .i64 210)
 | _,_,_=>False
theorem H64 {ps:Array Tmp} {assign body:Code} {Q:Exit→Act→World→Prop} {a:Act} {w:World} {g:Operand} {b2 bs bp bv:Nat} {n0:Nat} {w0:World} {p:Str} (hp:p.length≤1073741824)
  (hne:bs≠bp∧bs≠bv∧bs≠b2∧n0≤bs∧n0≤b2) (hlt:bs < w.heap.size∧b2 < w.heap.size∧n0≤w.heap.size) (hps:ps.size=1)
  (hIdx:∀(s:Str) (w:World),Calls Tryz.prog 78 #[.string ⟨s.toArray⟩,.string ⟨#[47]⟩] w (fun e w'=>e=.returned (.int .i64 (Lib.indexByte s 47))∧w'=w))
  (hg:a.eval g=.func (.func 171) #[] #[.pointer (some ⟨bp,0,none⟩),.pointer (some ⟨bs,0,none⟩),.pointer (some ⟨bv,0,none⟩)])
  (hs:w.heap[bs]?=some (.cells #[.string ⟨p.toArray⟩] 9 (0,0))) (hsp:w.heap[bp]?=some (.cells #[.string ⟨#[47]⟩] 9 (0,0))) (hsv:w.heap[bv]?=some (.cells #[.int .i64 0] 3 (0,0))) (hr:w.heap[b2]?=some (.cells #[.int .i64 0] 30 (0,0))) (hb:Below n0 w0 w)
  (a₁:Str→Act)
  (hassign:∀(l:Nat) (x:Str) (W:World) (K:Act→World→Prop),K (a₁ x) W →
   assign.wpIn (Fence.wide.inRound l) 3 Tryz.prog (Exit.then K (fun _ _ _=>False)) { tmps:=(ps.zip #[Value.string ⟨x.toArray⟩]).foldl (fun t (p,v)=>t.setIfInBounds p v) a.tmps,defers:=[] } W)
  (hbody:∀(l:Nat) (x:Str) (W:World),W.heap[b2]?=some (.cells #[.int .i64 0] 30 (0,0))→body.wpIn (Fence.wide.inRound l) 3 Tryz.prog (chkPost b2 x W) (a₁ x) W)
  (hdone:∀(D:Nat) (W:World),w.heap.size≤D→(L2 [] p).all Q8=true→W.heap[b2]?=some (.cells #[.int .i64 0] 30 (0,0))→W.heap[D]?=some (.deferred (some []))→Below n0 w0 W→Q .normal { a with defers:={ target:=.collected D,args:=#[] }::a.defers } W)
  (hstop:∀(D:Nat) (W:World),w.heap.size≤D→(L2 [] p).all Q8=false→W.heap[b2]?=some (.cells #[.int .i64 210] 30 (0,0))→W.heap[D]?=some (.deferred (some []))→Below n0 w0 W→Code.ret.wpIn Fence.wide 5 Tryz.prog Q { a with defers:={ target:=.collected D,args:=#[] }::a.defers } W) :
  (Code.rangeFunc g ps assign body).wpIn Fence.wide 5 Tryz.prog Q a w:=by
 refine wpIn_rangeFunc ?_
 intro fn hfn
 obtain ⟨rec,hrec⟩:∃rec:LoopState→Option Code→Loop,rec=fun st pe=>{ state:=st,pending:=pe,fn,tmps:=a.tmps,params:=ps,assign,body,defers:=w.heap.size }:=⟨_,rfl⟩
 obtain ⟨W1,hW1⟩:∃W1,(w.alloc (.deferred (some []))).alloc (.loop (rec .ready none))=W1:=⟨_,rfl⟩
 have old:∀k o,w.heap[k]?=some o→W1.heap[k]?=some o:=fun k o h=>by
  have hlt:=(Array.getElem?_eq_some_iff.1 h).1
  rw [←hW1]
  exact (Below.heap_alloc _ _ _ (by rw [World.size_alloc];omega)).trans ((Below.heap_alloc _ _ _ hlt).trans h)
 have hL1:W1.heap[w.heap.size+1]?=some (.loop (rec .ready none)):=by
  rw [←hW1];have:=World.alloc_heap_new (w.alloc (.deferred (some []))) (.loop (rec .ready none));rwa [World.size_alloc] at this
 have hK1:W1.heap[w.heap.size]?=some (.deferred (some [])):=by
  rw [←hW1];exact (Below.heap_alloc _ _ _ (by simp)).trans (World.alloc_heap_new w _)
 have hb1:Below n0 w0 W1:=by
  rw [←hW1];exact hb.trans (((Below.refl n0 w).alloc hlt.2.2 _).alloc (by simp;omega) _)
 refine ⟨w.heap.size+1,[{ target:=.collected w.heap.size,args:=#[] }],W1,{ target:=.fn (.func 171) #[.pointer (some ⟨bp,0,none⟩),.pointer (some ⟨bs,0,none⟩),.pointer (some ⟨bv,0,none⟩)],args:=#[.func (.yield (w.heap.size+1)) #[] #[]] },W1,171,
  #[.func (.yield (w.heap.size+1)) #[] #[],.pointer (some ⟨bp,0,none⟩),.pointer (some ⟨bs,0,none⟩),.pointer (some ⟨bv,0,none⟩)],W1,?_,?_,?_,?_,fun _=>by omega,?_⟩
 ·rw [←hW1,hrec];exact run_enterLoop_outer _ _ _ _ _
 ·simp only [resolve,hg]
  simp [go_sem]
 ·intro f' hf';trivial
 ·simp [invoke,go_sem]
 ·have hY:∀rest x W,RInv rec n0 w0 (w.heap.size+1) w.heap.size b2 bs bp bv rest W→YieldAt Fence.wide 3 Tryz.prog (w.heap.size+1) #[.string ⟨x.toArray⟩] W (fun e W'=>(Q8 x=true∧e=.returned (.bool true)∧RInv rec n0 w0 (w.heap.size+1) w.heap.size b2 bs bp bv rest W')∨(Q8 x=false∧e=.returned (.bool false)∧RFin rec n0 w0 (w.heap.size+1) w.heap.size b2 W')):=by
   intro rest x W hI
   have hy:=run_yield (P:=Tryz.prog) (args:=#[Value.string ⟨x.toArray⟩]) hI.l (by rw [hrec];exact hps.symm)
   rw [hrec] at hy
   refine ⟨fn,_,assign,body,hy,roundIn_of_wpIn hfn (hassign _ x W _ ⟨_,run_beginRound hI.l (by rw [hrec]),?_⟩)⟩
   have hltl:w.heap.size+1 < W.heap.size:=(Array.getElem?_eq_some_iff.1 hI.l).1
   obtain ⟨W2,hW2⟩:∃W2,W.putObj (w.heap.size+1) (.loop { rec .ready none with state:=.busy })=W2:=⟨_,rfl⟩
   rw [hW2]
   have oth:∀k,k≠w.heap.size+1→W2.heap[k]?=W.heap[k]?:=fun k hk=>by rw [←hW2];exact World.putObj_heap_other hk
   have hl2:W2.heap[w.heap.size+1]?=some (.loop { rec .ready none with state:=.busy }):=by rw [←hW2];exact World.putObj_heap_same hltl
   have hbB:∀(o:Obj) (X:World),Below n0 w0 X→w.heap.size+1 < X.heap.size→Below n0 w0 (X.putObj (w.heap.size+1) o):=fun o X hX hXs=>hX.grown (grownBy_putObj' X _ o) (by have:=hX.size;omega) (fun k e=>by cases e;omega)
   have hb2:Below n0 w0 W2:=by rw [←hW2];exact hbB _ _ hI.b hltl
   refine wpIn_mono (hbody _ x W2 ((oth _ (by omega)).trans hI.r)) ?_
   rintro e a3 W3 hp
   cases e with
   | normal =>
    obtain ⟨hok,rfl⟩:=hp
    refine ⟨_,_,run_endRound none hl2,.inl ⟨hok,rfl,?_⟩⟩
    have fin:∀k,k≠w.heap.size+1→(W3.putObj (w.heap.size+1) (.loop { rec .ready none with state:=.ready,pending:=none })).heap[k]?=W.heap[k]?:=fun k hk=>(World.putObj_heap_other hk).trans (oth k hk)
    have hsz:w.heap.size+1 < W3.heap.size:=(Array.getElem?_eq_some_iff.1 hl2).1
    have hbs:=(Array.getElem?_eq_some_iff.1 hs).1
    have hbp:=(Array.getElem?_eq_some_iff.1 hsp).1
    have hbv:=(Array.getElem?_eq_some_iff.1 hsv).1
    refine ⟨(fin _ (by omega)).trans hI.s,(fin _ (by omega)).trans hI.p,(fin _ (by omega)).trans hI.v,(fin _ (by omega)).trans hI.r,?_,(fin _ (by omega)).trans hI.d,hbB _ _ hb2 hsz⟩
    refine (World.putObj_heap_same hsz).trans ?_
    rw [hrec];rfl
   | ret =>
    obtain ⟨hok,rfl⟩:=hp
    have hl3:(W2.setCell ⟨b2,0,none⟩ (.int .i64 210)).heap[w.heap.size+1]?=some (.loop { rec .ready none with state:=.busy }):=(Below.heap_setCell W2 _ _ _ (by show w.heap.size+1≠b2;omega)).trans hl2
    have hsz:w.heap.size+1 < (W2.setCell ⟨b2,0,none⟩ (.int .i64 210)).heap.size:=(Array.getElem?_eq_some_iff.1 hl3).1
    refine ⟨_,_,run_endRound (some .ret) hl3,.inr ⟨hok,rfl,?_⟩⟩
    refine ⟨(World.putObj_heap_other (by omega)).trans (y4 ((oth _ (by omega)).trans hI.r)),?_,?_,hbB _ _ (hb2.setCell (p:=⟨b2,0,none⟩) hne.2.2.2.2 _) hsz⟩
    ·refine (World.putObj_heap_same hsz).trans ?_
     rw [hrec];rfl
    ·exact (World.putObj_heap_other (by omega)).trans ((Below.heap_setCell W2 _ _ _ (by show w.heap.size≠b2;omega)).trans ((oth _ (by omega)).trans hI.d))
   | _=>exact hp.elim
  refine (H63 ⟨hne.1,hne.2.1,hne.2.2.1,by omega,by omega,hne.2.2.2.1⟩ hIdx hY p hp W1 ⟨old _ _ hs,old _ _ hsp,old _ _ hsv,old _ _ hr,hL1,hK1,hb1⟩).mono ?_
  have hbE:∀(o:Obj) (X:World),Below n0 w0 X→w.heap.size+1 < X.heap.size→Below n0 w0 (X.putObj (w.heap.size+1) o):=fun o X hX hXs=>hX.grown (grownBy_putObj' X _ o) (by have:=hX.size;omega) (fun k e=>by cases e;omega)
  rintro e W2 ⟨⟨v,rfl⟩,(⟨hall,rest,hI⟩ | ⟨hall,hI⟩)⟩
  ·have hsz:w.heap.size+1 < W2.heap.size:=(Array.getElem?_eq_some_iff.1 hI.l).1
   refine ⟨none,_,by have:=run_endLoop (P:=Tryz.prog) hI.l (by rw [hrec];simp);rw [hrec] at this;exact this,?_⟩
   exact hdone _ _ (Nat.le_refl _) hall ((World.putObj_heap_other (by omega)).trans hI.r) ((World.putObj_heap_other (by omega)).trans hI.d) (hbE _ _ hI.b hsz)
  ·have hsz:w.heap.size+1 < W2.heap.size:=(Array.getElem?_eq_some_iff.1 hI.l).1
   refine ⟨some .ret,_,by have:=run_endLoop (P:=Tryz.prog) hI.l (by rw [hrec];simp);rw [hrec] at this;exact this,?_⟩
   exact hstop _ _ (Nat.le_refl _) hall ((World.putObj_heap_other (by omega)).trans hI.r) ((World.putObj_heap_other (by omega)).trans hI.d) (hbE _ _ hI.b hsz)
theorem H65 (w:World) (s p:ByteArray):CallsIn Fence.wide 3 Tryz.prog 155 #[.string s,.string p,.int .i64 0] w fun e w' =>
  e=.returned (.func (.func 171) #[] #[.pointer (some ⟨w.heap.size+1,0,none⟩),.pointer (some ⟨w.heap.size,0,none⟩),.pointer (some ⟨w.heap.size+1+1,0,none⟩)]) ∧
  w'=((w.alloc (.cells #[.string s] 9)).alloc (.cells #[.string p] 9)).alloc (.cells #[.int .i64 0] 3):=by
 have hmf:∀(fn:Fn) (first cap:Array Value) (w:World),(Instr.makeFunc fn first cap).run Tryz.prog w=.ok (.func fn first cap) w:=fun _ _ _ _=>rfl
 refine callsIn_of_wp Tryz.func155 rfl trivial ?_ rfl
 simp only [Tryz.ntmps155,List.size_toArray,L04,L09,Nat.reduceAdd,Nat.reduceSub,Array.replicate_succ,Array.replicate_zero,List.push_toArray,List.append_toArray,L37,L25]
 gi_wp2
 go_ret
 exact ⟨rfl,rfl⟩
theorem H66 (w:World) (s p:ByteArray):CallsIn Fence.wide 4 Tryz.prog 133 #[.string s,.string p] w fun e w' =>
  e=.returned (.func (.func 171) #[] #[.pointer (some ⟨w.heap.size+1,0,none⟩),.pointer (some ⟨w.heap.size,0,none⟩),.pointer (some ⟨w.heap.size+1+1,0,none⟩)]) ∧
  w'=((w.alloc (.cells #[.string s] 9)).alloc (.cells #[.string p] 9)).alloc (.cells #[.int .i64 0] 3):=by
 refine callsIn_of_wp Tryz.func133 rfl trivial ?_ rfl
 simp only [Tryz.ntmps133,List.size_toArray,L04,L09,Nat.reduceAdd,Nat.reduceSub,Array.replicate_succ,Array.replicate_zero,List.push_toArray,List.append_toArray,L37,L25]
 gi_wp2_with (refine ⟨trivial,?_⟩;gi_at_call 155;refine (H65 _ _ _).mono ?_;rintro e w' ⟨rfl,rfl⟩)
 go_ret
 exact ⟨rfl,rfl⟩
theorem D33 {tmps:Array Value} {b:Nat} {v:Value} {W:World} (ht:tmps[2]?.getD undef=.pointer (some ⟨b,0,none⟩)) (hc:W.heap[b]?=some (.cells #[v] 30 (0,0))):(results Tryz.f112 tmps).run Tryz.prog W=.ok v W:=by
 have h1:=(d6 hc).1
 simp [results,Tryz.results112,go_sem,h1,ht]
theorem G80 (p:Str) (hp:p.length≤1073741824)
  (hIdx:∀(s:Str) (w:World),Calls Tryz.prog 78 #[.string ⟨s.toArray⟩,.string ⟨#[47]⟩] w (fun e w'=>e=.returned (.int .i64 (Lib.indexByte s 47))∧w'=w))
  (hCon:∀(s:Str) (w:World),Calls Tryz.prog 132 #[.string ⟨s.toArray⟩,.string ⟨#[0]⟩] w (fun e w'=>e=.returned (.bool (decide (0≤Lib.indexByte s 0)))∧w'=w)) (w:World) :
  CallsIn Fence.wide 5 Tryz.prog 112 #[.string ⟨p.toArray⟩] w (fun e w'=>e=.returned (.int .i64 (if p.length > 200∨0≤Lib.indexByte p 0 then 210 else if (L2 [] p).all Q8=true then 0 else 210))∧Below w.heap.size w w'):=by
 refine callsIn_of_wp_marks Tryz.func112 rfl trivial ?_ rfl
 simp only [Tryz.ntmps112,List.size_toArray,L04,L09,Nat.reduceAdd,Nat.reduceSub,Array.replicate_succ,Array.replicate_zero,List.push_toArray,List.append_toArray,L37,L25]
 have hnew:=d6 (World.alloc_heap_new w (.cells #[.int .i64 0] 30))
 have hB:Below w.heap.size w (w.alloc (.cells #[.int .i64 0] 30)):=(Below.refl _ w).alloc (Nat.le_refl _) _
 by_cases h1:200 < p.length
 ·rw [if_pos (.inl h1)]
  gi_wp2_with (refine ⟨trivial,?_⟩)
  exact ⟨_,D33 rfl (World.alloc_heap_new w _),rfl,(Below.refl _ w).alloc (Nat.le_refl _) _⟩
 by_cases h2:0≤Lib.indexByte p 0
 ·rw [if_pos (.inr h2)]
  gi_wp2_with (refine ⟨trivial,?_⟩;gi_at_call 132;refine (callsIn_wide.2 (hCon p _)).mono ?_;rintro e w' ⟨rfl,rfl⟩)
  exact ⟨_,D33 rfl (World.alloc_heap_new w _),rfl,(Below.refl _ w).alloc (Nat.le_refl _) _⟩
 ·rw [if_neg (by omega)]
  obtain ⟨r,hr0⟩:∃r:Int,(if (L2 [] p).all Q8=true then 0 else 210:Int)=r:=⟨_,rfl⟩
  rw [hr0]
  gi_wp2_with (first | (refine ⟨trivial,?_⟩;gi_at_call 132;refine (callsIn_wide.2 (hCon p _)).mono ?_;rintro e w' ⟨rfl,rfl⟩) | (refine ⟨trivial,?_⟩;gi_at_call 133;refine (H66 _ _ _).mono ?_;rintro e w' ⟨rfl,rfl⟩))
  obtain ⟨W0,hW0⟩:∃W0,(((w.alloc (.cells #[.int .i64 0] 30)).alloc (.cells #[.string ⟨p.toArray⟩] 9)).alloc (.cells #[.string ⟨#[47]⟩] 9)).alloc (.cells #[.int .i64 0] 3)=W0:=⟨_,rfl⟩
  have hsz:W0.heap.size=w.heap.size+4:=by rw [←hW0];simp
  have g0:W0.heap[w.heap.size]?=some (.cells #[.int .i64 0] 30 (0,0)):=by
   rw [←hW0]
   refine (Below.heap_alloc _ _ _ (by simp;omega)).trans ((Below.heap_alloc _ _ _ (by simp;omega)).trans ((Below.heap_alloc _ _ _ (by simp)).trans (World.alloc_heap_new w _)))
  have g1:W0.heap[w.heap.size+1]?=some (.cells #[.string ⟨p.toArray⟩] 9 (0,0)):=by
   rw [←hW0]
   refine (Below.heap_alloc _ _ _ (by simp)).trans ((Below.heap_alloc _ _ _ (by simp)).trans ?_)
   have:=World.alloc_heap_new (w.alloc (.cells #[.int .i64 0] 30)) (.cells #[.string ⟨p.toArray⟩] 9)
   rwa [World.size_alloc] at this
  have g2:W0.heap[w.heap.size+1+1]?=some (.cells #[.string ⟨#[47]⟩] 9 (0,0)):=by
   rw [←hW0]
   refine (Below.heap_alloc _ _ _ (by simp)).trans ?_
   have:=World.alloc_heap_new ((w.alloc (.cells #[.int .i64 0] 30)).alloc (.cells #[.string ⟨p.toArray⟩] 9)) (.cells #[.string ⟨#[47]⟩] 9)
   simp only [World.size_alloc] at this
   exact this
  have g3:W0.heap[w.heap.size+1+1+1]?=some (.cells #[.int .i64 0] 3 (0,0)):=by
   rw [←hW0]
   have:=World.alloc_heap_new (((w.alloc (.cells #[.int .i64 0] 30)).alloc (.cells #[.string ⟨p.toArray⟩] 9)).alloc (.cells #[.string ⟨#[47]⟩] 9)) (.cells #[.int .i64 0] 3)
   simp only [World.size_alloc] at this
   exact this
  have hb0:Below w.heap.size w W0:=by
   rw [←hW0]
   exact (((hB.alloc (by simp) _).alloc (by simp;omega) _).alloc (by simp;omega) _)
  rw [hW0]
  refine H64 (b2:=w.heap.size) (bs:=w.heap.size+1) (bp:=w.heap.size+1+1) (bv:=w.heap.size+1+1+1) (n0:=w.heap.size) (w0:=w) (p:=p) hp (by omega) (by omega) rfl hIdx rfl g1 g2 g3 g0 hb0 (fun x=>{ tmps:=#[.string ⟨p.toArray⟩,undef,.pointer (some ⟨w.heap.size,0,none⟩),.string ⟨x.toArray⟩,.string ⟨p.toArray⟩,.int .i64 p.length,.bool (decide (200 < (p.length:Int))),.bool (decide (200 < (p.length:Int))),.string ⟨p.toArray⟩,.bool (decide (0≤Lib.indexByte p 0)),.bool (decide (200 < (p.length:Int))||decide (0≤Lib.indexByte p 0)),.string ⟨p.toArray⟩,.func (.func 171) #[] #[.pointer (some ⟨w.heap.size+1+1,0,none⟩),.pointer (some ⟨w.heap.size+1,0,none⟩),.pointer (some ⟨w.heap.size+1+1+1,0,none⟩)],.string ⟨x.toArray⟩,undef,undef,undef,undef,undef,undef,undef,undef,undef,undef],defers:=[] }) ?assign ?body ?done ?stop
  case assign =>
   intro l x W K hK
   gi_wp2
   exact hK
  case body =>
   intro l x W hr
   obtain ⟨hc1,hc2⟩:=d6 hr
   by_cases e1:x=[]
   ·subst e1
    gi_wp2
    exact ⟨rfl,rfl⟩
   by_cases e2:x=[46]
   ·subst e2
    gi_wp2
    exact ⟨rfl,rfl⟩
   by_cases e3:x=[46,46]
   ·subst e3
    gi_wp2
    exact ⟨rfl,rfl⟩
   have f1:x.isEmpty=false:=by cases x with | nil=>exact absurd rfl e1 | cons _ _=>rfl
   have f2:(x == [46])=false:=by simpa using e2
   have f3:(x == [46,46])=false:=by simpa using e3
   have hok:Q8 x=true:=decide_eq_true ⟨e1,e2,e3⟩
   clear e1 e2 e3
   gi_wp2
   all_goals exact ⟨hok,rfl⟩
  case done =>
   intro D W hD hall hr hK hb
   obtain ⟨hc1,hc2⟩:=d6 hr
   rw [if_pos hall] at hr0
   subst hr0
   clear hall
   gi_wp2
   have hK2:(W.setCell ⟨w.heap.size,0,none⟩ (.int .i64 0)).heap[D]?=some (.deferred (some [])):=(Below.heap_setCell W _ _ _ (by show D≠w.heap.size;omega)).trans hK
   refine ⟨by simp,.inl ⟨_,_,rfl,run_takeDeferred hK2,?_⟩⟩
   refine ⟨_,D33 rfl ((World.putObj_heap_other (by omega)).trans (y4 hr)),rfl,?_⟩
   have hb3:=hb.setCell (p:=⟨w.heap.size,0,none⟩) (Nat.le_refl _) (.int .i64 0)
   exact hb3.grown (grownBy_putObj' _ _ _) (by have:=hb3.size;omega) (fun k e=>by cases e;omega)
  case stop =>
   intro D W hD hall hr hK hb
   rw [hall,if_neg (by decide)] at hr0
   subst hr0
   clear hall
   gi_wp2
   refine ⟨by simp,.inl ⟨_,_,rfl,run_takeDeferred hK,?_⟩⟩
   refine ⟨_,D33 rfl ((World.putObj_heap_other (by omega)).trans hr),rfl,?_⟩
   exact hb.grown (grownBy_putObj' W _ _) (by have:=hb.size;omega) (fun k e=>by cases e;omega)
theorem F81 (p:Str) (hp:p.length≤1073741824):FnOk Tryz.prog 112 [H7 p] (fun rs=>rs=[E2 (N3 p)]) :=
 K85 (xs:=[.string ⟨p.toArray⟩]) ⟨_,rfl,rfl,rfl⟩ rfl fun w hg=>by
  have h:=callsIn_wide.1 (G80 p hp (fun s w=>by simpa using Tryz.strings_Index_one ⟨s.toArray⟩ 47 w) (fun s w=>by simpa using Tryz.strings_Contains_one ⟨s.toArray⟩ 0 w) w)
  refine h.mono ?_
  rintro e w' ⟨rfl,hb⟩
  refine ⟨?_,hb⟩
  rw [H10]
  have hc:p.contains 0=true↔0≤Lib.indexByte p 0:=by rw [B18,List.contains_iff_mem]
  simp only [hc]
set_option maxHeartbeats 1000000
structure FewF (l:List File):Prop where
 len:l.length≤1073741824
 path:∀f∈l,f.Path.length≤1073741824
 blob:∀f∈l,f.Blob.length≤16777216
theorem I54 (f:File) (hp:f.Path.length≤1073741824):FnOk Tryz.prog 111 [J46 f] (fun rs=>rs=[H1 (decide (N3 f.Path≠0))]):=by
 refine FnOk.intro Tryz.func111 (by decide) A0 A0 A0 A0 ?_
 refine k2 (A3 (D1 (s6 1 A0 A0 A0) A0 (A7 A0 A0 (A5 ?_))));refine k1 (k2 (A3 (A6 (B0 A0) A0 (G3 A0 A0 A0 A0 (C9 (F81 f.Path hp) A0 A0 A0 ?_)))));rintro _ rfl;refine A6 (O2 A0 A0) A0 (A7 A0 A0 (A5 ?_));refine k1 (k10 ?_)
 exact B8 (I1 rfl rfl rfl) rfl
theorem I55 (f:File) (hp:f.Blob.length≤16777216):FnOk Tryz.prog 114 [J46 f] (fun rs=>rs=[H1 (decide (M8 f.Blob≠0))]):=by
 refine FnOk.intro Tryz.func114 (by decide) A0 A0 A0 A0 ?_
 refine k2 (A3 (D1 (s6 1 A0 A0 A0) A0 (A7 A0 A0 (A5 ?_))));refine k1 (k2 (A3 (A6 (B0 A0) A0 (G3 A0 A0 A0 A0 (C9 (G20 f.Blob (by omega)) A0 A0 A0 ?_)))));rintro _ rfl;refine A6 (O2 A0 A0) A0 (A7 A0 A0 (A5 ?_));refine k1 (k10 ?_)
 exact B8 (I1 rfl rfl rfl) rfl
theorem C98 (l:List File) (h:FewF l):FnOk Tryz.prog 74 [u0 l] (fun rs=>rs=[E2 (F1 l)]):=by
 have hl:=h.len
 refine FnOk.intro Tryz.func74 (by decide) A0 A0 A0 A0 ?_
 refine k2 (A3 (A7 A0 A0 (A5 ?_)));refine k1 (k2 (k3 (k2 (A3 (A4 A0 A0 (F4 A0 A0 (A6 (O1 A0 A0) A0 (A7 A0 A0 (A5 ?_)))))))));refine k1 ?_;refine B1 rfl (fun ht=>?_) (fun ht=>?_)
 ·have h1:(200:Int) < l.length:=A1 ht
  refine k2 (A3 (A7 A0 A0 (A5 ?_)));refine k1 (k10 (k12 (k11 ?_)))
  exact B8 (rs:=[E2 1]) (I1 rfl rfl rfl) (by unfold F1;rw [if_pos (by omega)])
 have h1:¬(200:Int) < l.length:=A2 ht
 refine k2 (A3 (A4 A0 A0 (C9 (B84 111 (fun f=>decide (N3 f.Path≠0)) l hl (fun f hf=>I54 f (h.path f hf))) A0 A0 A0 ?_)));rintro _ rfl;refine A7 A0 A0 (A5 ?_);refine k1 ?_;refine B1 rfl (fun ht=>?_) (fun ht=>?_)
 ·refine k2 (A3 (A7 A0 A0 (A5 ?_)));refine k1 (k10 (k12 (k11 ?_)))
  exact B8 (rs:=[E2 210]) (I1 rfl rfl rfl) (by unfold F1;rw [if_neg (by omega),if_pos ht])
 have h2:=ht
 refine k2 (A3 (A4 A0 A0 (C9 (H61 l hl h.path) A0 A0 A0 ?_)));rintro _ rfl;refine A6 (S2 A0) A0 (A7 A0 A0 (A5 ?_));refine k1 ?_;refine B1 rfl (fun ht=>?_) (fun ht=>?_)
 ·refine k2 (A3 (A7 A0 A0 (A5 ?_)));refine k1 (k10 (k12 (k11 ?_)))
  exact B8 (rs:=[E2 211]) (I1 rfl rfl rfl) (by unfold F1;rw [if_neg (by omega),if_neg (by rw [h2];decide),if_pos (by simpa using ht)])
 have h3:N9 l=true:=by simpa using ht
 refine k2 (A3 (A4 A0 A0 (C9 (B84 114 (fun f=>decide (M8 f.Blob≠0)) l hl (fun f hf=>I55 f (h.blob f hf))) A0 A0 A0 ?_)));rintro _ rfl;refine A7 A0 A0 (A5 ?_);refine k1 ?_;refine B1 rfl (fun ht=>?_) (fun ht=>?_)
 ·refine k2 (A3 (A7 A0 A0 (A5 ?_)));refine k1 (k10 (k12 (k11 ?_)))
  exact B8 (rs:=[E2 1]) (I1 rfl rfl rfl) (by unfold F1;rw [if_neg (by omega),if_neg (by rw [h2];decide),if_neg (by rw [h3];decide),if_pos ht])
 ·refine k5 (k2 (A3 (A7 A0 A0 (A5 ?_))));refine k1 (k10 ?_)
  exact B8 (rs:=[E2 0]) (I1 rfl rfl rfl) (by unfold F1;rw [if_neg (by omega),if_neg (by rw [h2];decide),if_neg (by rw [h3];decide),if_neg (by rw [ht];decide)])
theorem K37 (a b:List File) (ha:FewF a) (hb:FewF b):FnOk Tryz.prog 102 [u0 a,u0 b] (fun rs=>rs=[E2 (if F1 a≠0 then F1 a else F1 b)]):=by
 refine FnOk.intro Tryz.func102 (by decide) A0 A0 A0 A0 ?_
 refine k2 (A3 (A7 A0 A0 (A5 ?_)));refine k1 (k2 (k2 (A3 (A4 A0 A0 (C9 (C98 a ha) A0 A0 A0 ?_)))));rintro _ rfl;refine A7 A0 A0 (A5 ?_);refine k1 (k2 (A3 (A4 A0 A0 (A6 (O2 A0 A0) A0 (A5 ?_)))));refine k1 ?_;refine B1 rfl (fun ht=>?_) (fun ht=>?_)
 ·have h1:F1 a≠0:=A1 ht
  refine k2 (A3 (A4 A0 A0 (A7 A0 A0 (A5 ?_))));refine k1 (k10 (k11 ?_))
  exact B8 (rs:=[E2 (F1 a)]) (I1 rfl rfl rfl) (by rw [if_pos h1])
 ·have h1:¬F1 a≠0:=A2 ht
  refine k5 (k1 (k2 (A3 (A4 A0 A0 (C9 (C98 b hb) A0 A0 A0 ?_)))));rintro _ rfl;refine A7 A0 A0 (A5 ?_);refine k1 (k10 ?_)
  exact B8 (rs:=[E2 (F1 b)]) (I1 rfl rfl rfl) (by rw [if_neg h1])
theorem H67 (l:List File) (p:Str) (hl:l.length≤1073741824):FnOk Tryz.prog 40 [u0 l,H7 p] (fun rs=>rs=[H7 ((L7 l p).getD []),H1 (L7 l p).isSome]):=by
 refine FnOk.intro Tryz.func40 (by decide) A0 A0 A0 A0 ?_
 refine k2 (A3 (A7 A0 A0 (A7 A0 A0 (A5 ?_))));refine k1 (k2 (k2 (A3 (A4 A0 A0 (F4 A0 A0 (A4 A0 A0 (A5 ?_)))))));refine k1 (k3 (D2 (X:=Nat) (fun i=>([(1,Z9 p),(8,D6 File 2 d8 l),(9,C7 l.length),(10,C7 i)],[])) (fun i=>i≤l.length∧L7 l p=L7 (l.drop i) p) (fun i=>l.length - i) 0 ⟨Nat.zero_le _,rfl⟩ (Sees.of ⟨le1 rfl,le1 rfl,le1 rfl,le1 rfl,trivial⟩ trivial) ?_))
 rintro i ⟨hi,hf⟩
 dsimp only at hi hf ⊢
 refine k2 (A3 (F7 A0 A0 A0 (A5 ?_)));refine k1 (k2 ?_);refine B1 rfl (fun ht=>?_) (fun ht=>?_)
 rotate_left
 ·have h1:i=l.length:=by have h1:=A2 ht;(try dsimp only at h1);omega
  rw [L21 (by omega)] at hf
  rw [hf]
  refine k6 (k2 (A3 (A7 A0 A0 (A7 A0 A0 (A5 ?_)))));refine k1 (k10 ?_)
  exact B8 (rs:=[H7 [],H1 false]) (a6 rfl rfl rfl rfl rfl) rfl
 have hlt:i < l.length:=by have h1:=A1 ht;(try dsimp only at h1);omega
 obtain ⟨f,hfe⟩:∃f,f=l[i]:=⟨_,rfl⟩
 have hv:l[i]?=some f:=by rw [hfe];simp [hlt]
 rw [L11 hlt,←hfe] at hf
 have hfs:L7 (f::l.drop (i+1)) p=if f.Path=p then some f.Blob else L7 (l.drop (i+1)) p:=rfl
 rw [hfs] at hf
 refine k5 (k1 (k2 (k3 (k2 (A3 (A6 (B6 A0 (.pure _ _ _ _) A0 (by omega) hv) A0 (A6 (E1 A0 A0) A0 (D1 (J1 7 A0) A0 (G1 (B9 TySz.out A0 A0 A0 A0 A0 A0) (A5 ?_))))))))));refine k1 (k2 (A3 (A6 (B0 A0) A0 (G3 A0 A0 A0 A0 (A4 A0 A0 (A6 (O5 A0 A0) A0 (A5 ?_)))))));refine k1 ?_;refine B1 rfl (fun ht=>?_) (fun ht=>?_)
 ·have h1:f.Path=p:=A1 ht
  rw [if_pos h1] at hf
  rw [hf]
  refine k2 (A3 (A6 (B0 A0) A0 (G3 A0 A0 A0 A0 (A7 A0 A0 (A7 A0 A0 (A5 ?_))))));refine k1 (k10 (k12 (k11 (k11 (k12 (k11 ?_))))))
  exact B8 (rs:=[H7 f.Blob,H1 true]) (a6 rfl rfl rfl rfl rfl) rfl
 ·have h1:¬f.Path=p:=A2 ht
  rw [if_neg h1] at hf
  refine k5 (k4 (k1 (A3 (E3 A0 A0 A0 (A4 A0 A0 (A5 ?_))))));refine k1 ?_
  exact ⟨i+1,⟨hlt,hf⟩,by omega,(Sees.of ⟨le1 rfl,le1 rfl,le1 rfl,le1 rfl,trivial⟩ trivial)⟩
set_option maxHeartbeats 1000000
def C06 (f x:File):Bool:=ltS f.Path x.Path&&!above f.Path x.Path
theorem D34:∀(l:List File) (x:File),N9 (l++[x])=(N9 l&&l.all fun f=>C06 f x)
 | [],x=>rfl
 | f::r,x=>by
  rw [L25,N9,N9,D34 r x,L43,List.all_cons,List.all_cons,List.all_nil]
  unfold C06
  cases (r.all fun x=>ltS f.Path x.Path&&!above f.Path x.Path)<;>cases ltS f.Path x.Path<;>cases above f.Path x.Path<;>cases N9 r<;>simp
theorem G81:∀(l:List File) (i:Nat),N9 l=true→N9 (l.take i)=true:=by
 intro l
 induction l with
 | nil=>intro i h;simpa using h
 | cons f r ih =>
  intro i h
  cases i with
  | zero=>rfl
  | succ i =>
   unfold N9 at h
   rw [L02,List.all_eq_true] at h
   rw [List.take_succ_cons]
   unfold N9
   rw [L02,List.all_eq_true]
   exact ⟨fun x hx=>h.1 x (List.mem_of_mem_take hx),ih i h.2⟩
theorem F82 (l:List File) (h:FewF l):FnOk Tryz.prog 19 [u0 l] (fun rs=>rs=[E2 (F1 l)]):=by
 have hl:=h.len
 refine FnOk.intro Tryz.func19 (by decide) A0 A0 A0 A0 ?_
 refine k2 (A3 (A7 A0 A0 (A5 ?_)));refine k1 (k2 (k2 (A3 (A4 A0 A0 (F4 A0 A0 (A6 (O1 A0 A0) A0 (A5 ?_)))))));refine k1 ?_;refine B1 rfl (fun ht=>?_) (fun ht=>?_)
 ·have h1:(200:Int) < l.length:=A1 ht
  refine k2 (A3 (A7 A0 A0 (A5 ?_)));refine k1 (k10 (k11 ?_))
  exact B8 (rs:=[E2 1]) (I1 rfl rfl rfl) (by unfold F1;rw [if_pos (by omega)])
 have h1:¬(200:Int) < l.length:=A2 ht
 refine k5 (k1 (k2 (k2 (A3 (A7 A0 A0 (A5 ?_))))));refine k1 (k3 (D2 (X:=Nat) (fun i=>([(0,D6 File 2 d8 l),(3,C7 i)],[])) (fun i=>i≤l.length∧((l.take i).any fun f=>decide (N3 f.Path≠0))=false) (fun i=>l.length - i) 0 ⟨Nat.zero_le _,rfl⟩ (Sees.of ⟨le1 rfl,le1 rfl,trivial⟩ trivial) ?_))
 rintro i ⟨hi,hn⟩
 dsimp only at hi hn ⊢
 refine k2 (k2 (A3 (A4 A0 A0 (A4 A0 A0 (F4 A0 A0 (F7 A0 A0 A0 (A5 ?_)))))));refine k1 ?_;refine B1 rfl (fun ht=>?_) (fun ht=>?_)
 ·have hlt:i < l.length:=by have h1:=A1 ht;(try dsimp only at h1);omega
  obtain ⟨f,hf⟩:∃f,f=l[i]:=⟨_,rfl⟩
  have hv:l[i]?=some f:=by rw [hf];simp [hlt]
  have hm:f∈l:=by rw [hf];exact L05 hlt
  refine k5 (k1 (k2 (k3 (k2 (A3 (A4 A0 A0 (A4 A0 A0 (A6 (B6 A0 (.pure _ _ _ _) A0 (by omega) hv) A0 (A6 (C3 A0) A0 (A6 (B3 A0 A0) A0 (C9 (F78 f.Path (h.path f hm)) A0 A0 A0 ?_)))))))))));rintro _ rfl;refine A6 (O2 A0 A0) A0 (A5 ?_);refine k1 ?_;refine B1 rfl (fun ht=>?_) (fun ht=>?_)
  ·have h2:N3 f.Path≠0:=A1 ht
   refine k2 (A3 (A7 A0 A0 (A5 ?_)));refine k1 (k10 (k12 (k11 (k11 (k12 (k11 ?_))))))
   exact B8 (rs:=[E2 210]) (I1 rfl rfl rfl) (by unfold F1;rw [if_neg (by omega),if_pos (List.any_eq_true.2 ⟨f,hm,decide_eq_true h2⟩)])
  ·have h2:¬N3 f.Path≠0:=A2 ht
   refine k5 (k4 (k1 (A3 (A4 A0 A0 (E3 A0 A0 A0 (A7 A0 A0 (A5 ?_)))))));refine k1 ?_;refine ⟨i+1,⟨hlt,?_⟩,by omega,(Sees.of ⟨le1 rfl,le1 rfl,trivial⟩ trivial)⟩
   rw [List.take_add_one,hv,Option.toList_some,L50,hn,Bool.false_or,List.any_cons,List.any_nil,Bool.or_false,decide_eq_false h2]
 have hie:i=l.length:=by have h1:=A2 ht;(try dsimp only at h1);omega
 rw [hie,L08] at hn
 have hpa:=hn
 have hbad:N9 l=false→[E2 211]=[E2 (F1 l)]:=fun e=>by unfold F1;rw [if_neg (by omega),if_neg (by rw [hpa];decide),if_pos e]
 refine k6 (k2 (k2 (A3 (A7 A0 A0 (A5 ?_)))));refine k1 (k3 (D2 (X:=Nat) (fun i=>([(0,D6 File 2 d8 l),(4,C7 i)],[])) (fun i=>i≤l.length∧N9 (l.take i)=true) (fun i=>l.length - i) 0 ⟨Nat.zero_le _,rfl⟩ (Sees.of ⟨le1 rfl,le1 rfl,trivial⟩ trivial) ?_))
 rintro i ⟨hi,ho⟩
 dsimp only at hi ho ⊢
 refine k2 (k2 (A3 (A4 A0 A0 (A4 A0 A0 (F4 A0 A0 (F7 A0 A0 A0 (A5 ?_)))))));refine k1 ?_;refine B1 rfl (fun ht=>?_) (fun ht=>?_)
 ·have hlt:i < l.length:=by have h1:=A1 ht;(try dsimp only at h1);omega
  obtain ⟨f,hf⟩:∃f,f=l[i]:=⟨_,rfl⟩
  have hv:l[i]?=some f:=by rw [hf];simp [hlt]
  have hm:f∈l:=by rw [hf];exact L05 hlt
  have hfp:=h.path f hm
  have hsn:N9 (l.take (i+1))=(l.take i).all fun g=>C06 g f:=by
   rw [List.take_add_one,hv,Option.toList_some,D34,ho,Bool.true_and]
  refine k5 (k1 (k2 (k3 (k2 (A3 (A7 A0 A0 (A5 ?_)))))));refine k1 (k3 (D2 (X:=Nat) (fun k=>([(0,D6 File 2 d8 l),(4,C7 i),(5,C7 k)],[])) (fun k=>k≤i∧((l.take k).all fun g=>C06 g f)=true) (fun k=>i - k) 0 ⟨Nat.zero_le _,rfl⟩ (Sees.of ⟨le1 rfl,le1 rfl,le1 rfl,trivial⟩ trivial) ?_))
  rintro k ⟨hk,hak⟩
  dsimp only at hk hak ⊢
  refine k2 (k2 (A3 (A4 A0 A0 (A4 A0 A0 (F7 A0 A0 A0 (A5 ?_))))));refine k1 ?_;refine B1 rfl (fun ht=>?_) (fun ht=>?_)
  ·have hklt:k < i:=by have h1:=A1 ht;(try dsimp only at h1);omega
   obtain ⟨g,hg⟩:∃g,g=l[k]:=⟨_,rfl⟩
   have hvg:l[k]?=some g:=by rw [hg];simp [show k < l.length by omega]
   have hmg:g∈l.take i:=by
    rw [hg]
    have:(l.take i)[k]'(by rw [L10];omega)=l[k]:=List.getElem_take
    rw [←this];exact L05 _
   have hgp:=h.path g (List.mem_of_mem_take hmg)
   refine k5 (k1 (k2 (k3 (k2 (E7 (by kernel_rfl) (by kernel_rfl) (E9 A0 A0 (E9 A0 A0 (B7 (B6 A0 (.pure _ _ _ _) A0 (by omega) hvg) A0 A0 (B7 (C3 A0) A0 A0 (B7 (B3 A0 A0) A0 A0 (E9 A0 A0 (E9 A0 A0 (B7 (B6 A0 (.pure _ _ _ _) A0 (by omega) hv) A0 A0 (B7 (C3 A0) A0 A0 (B7 (B3 A0 A0) A0 A0 (B7 (G68 A0 A0) A0 A0 (E9 A0 A0 (F6 A0 A0 (fun hg=>by rw [hg];exact C2 A0 A0) A0 A0 ?_))))))))))))))))));refine F6 A0 A0 (fun hg=>by rw [hg];exact C2 A0 A0) A0 A0 ?_;refine F6 A0 A0 (fun hg=>by have hq:=hg;(try simp at hq);rw [hg];exact B6 A0 (.pure _ _ _ _) A0 (by omega) hvg) A0 A0 ?_;refine F6 A0 A0 (fun hg=>by rw [hg];exact C3 A0) A0 A0 ?_;refine F6 A0 A0 (fun hg=>by rw [hg];exact B3 A0 A0) A0 A0 ?_;refine F6 A0 A0 (fun hg=>by rw [hg];exact C2 A0 A0) A0 A0 ?_;refine F6 A0 A0 (fun hg=>by rw [hg];exact C2 A0 A0) A0 A0 ?_;refine F6 A0 A0 (fun hg=>by have hq:=hg;(try simp at hq);rw [hg];exact B6 A0 (.pure _ _ _ _) A0 (by omega) hv) A0 A0 ?_;refine F6 A0 A0 (fun hg=>by rw [hg];exact C3 A0) A0 A0 ?_;refine F6 A0 A0 (fun hg=>by rw [hg];exact B3 A0 A0) A0 A0 ?_;refine F6 A0 A0 (fun hg=>by have hq:=hg;(try simp at hq);rw [hg];exact O7 (J74 g.Path f.Path hgp hfp) A0 A0) A0 A0 ?_;refine B7 (L8 A0 (fun h=>by first | rfl | (rw [h];rfl)) (fun h=>by first | rfl | (rw [h];rfl))) A0 A0 ?_;refine Q6 ?_;refine k1 ?_
   rw [F38]
   refine B1 rfl (fun ht=>?_) (fun ht=>?_)
   ·have hpo:C06 g f=false:=by
     unfold C06
     rw [L20,Bool.not_eq_true'] at ht
     rcases ht with h2 | h2
     ·have h2:ltS g.Path f.Path=false:=h2
      rw [h2];rfl
     ·rw [h2];simp
    refine k2 (A3 (A7 A0 A0 (A5 ?_)));refine k1 (k10 (k12 (k11 (k11 (k12 (k12 (k11 (k11 (k12 (k11 ?_))))))))));refine B8 (rs:=[E2 211]) (I1 rfl rfl rfl) (hbad ?_)
    cases hq:N9 l
    ·rfl
    ·have h3:=G81 l (i+1) hq
     rw [hsn,List.all_eq_true] at h3
     rw [h3 g hmg] at hpo;cases hpo
   ·have hpo:C06 g f=true:=by
     unfold C06
     rw [L34,Bool.not_eq_false'] at ht
     have h2:ltS g.Path f.Path=true:=ht.1
     rw [h2,ht.2];rfl
    refine k5 (k4 (k1 (A3 (A4 A0 A0 (E3 A0 A0 A0 (A7 A0 A0 (A5 ?_)))))));refine k1 ?_;refine ⟨k+1,⟨hklt,?_⟩,by omega,(Sees.of ⟨le1 rfl,le1 rfl,le1 rfl,trivial⟩ trivial)⟩
    rw [List.take_add_one,hvg,Option.toList_some,L43,hak,Bool.true_and,List.all_cons,List.all_nil,hpo];rfl
  ·have hke:k=i:=by have h1:=A2 ht;(try dsimp only at h1);omega
   rw [hke] at hak
   refine k6 (k7 (k7 (k8 A0 (k4 (k1 (A3 (A4 A0 A0 (E3 A0 A0 A0 (A7 A0 A0 (A5 ?_))))))))));refine k1 ?_
   exact ⟨i+1,⟨hlt,by rw [hsn];exact hak⟩,by omega,(Sees.of ⟨le1 rfl,le1 rfl,trivial⟩ trivial)⟩
 have hie:i=l.length:=by have h1:=A2 ht;(try dsimp only at h1);omega
 rw [hie,L08] at ho
 refine k6 (k2 (k2 (A3 (A7 A0 A0 (A5 ?_)))));refine k1 (k3 (D2 (X:=Nat) (fun i=>([(0,D6 File 2 d8 l),(6,C7 i)],[])) (fun i=>i≤l.length∧((l.take i).any fun f=>decide (M8 f.Blob≠0))=false) (fun i=>l.length - i) 0 ⟨Nat.zero_le _,rfl⟩ (Sees.of ⟨le1 rfl,le1 rfl,trivial⟩ trivial) ?_))
 rintro i ⟨hi,hn⟩
 dsimp only at hi hn ⊢
 refine k2 (k2 (A3 (A4 A0 A0 (A4 A0 A0 (F4 A0 A0 (F7 A0 A0 A0 (A5 ?_)))))));refine k1 ?_;refine B1 rfl (fun ht=>?_) (fun ht=>?_)
 ·have hlt:i < l.length:=by have h1:=A1 ht;(try dsimp only at h1);omega
  obtain ⟨f,hf⟩:∃f,f=l[i]:=⟨_,rfl⟩
  have hv:l[i]?=some f:=by rw [hf];simp [hlt]
  have hm:f∈l:=by rw [hf];exact L05 hlt
  have hfb:=h.blob f hm
  refine k5 (k1 (k2 (k3 (k2 (A3 (A4 A0 A0 (A4 A0 A0 (A6 (B6 A0 (.pure _ _ _ _) A0 (by omega) hv) A0 (A6 (C3 A0) A0 (A6 (B3 A0 A0) A0 (C9 (K35 f.Blob (by omega)) A0 A0 A0 ?_)))))))))));rintro _ rfl;refine A6 (O2 A0 A0) A0 (A5 ?_);refine k1 ?_;refine B1 rfl (fun ht=>?_) (fun ht=>?_)
  ·have h2:M8 f.Blob≠0:=A1 ht
   refine k2 (A3 (A7 A0 A0 (A5 ?_)));refine k1 (k10 (k12 (k11 (k11 (k12 (k11 ?_))))))
   exact B8 (rs:=[E2 1]) (I1 rfl rfl rfl) (by unfold F1;rw [if_neg (by omega),if_neg (by rw [hpa];decide),if_neg (by rw [ho];decide),if_pos (List.any_eq_true.2 ⟨f,hm,decide_eq_true h2⟩)])
  ·have h2:¬M8 f.Blob≠0:=A2 ht
   refine k5 (k4 (k1 (A3 (A4 A0 A0 (E3 A0 A0 A0 (A7 A0 A0 (A5 ?_)))))));refine k1 ?_;refine ⟨i+1,⟨hlt,?_⟩,by omega,(Sees.of ⟨le1 rfl,le1 rfl,trivial⟩ trivial)⟩
   rw [List.take_add_one,hv,Option.toList_some,L50,hn,Bool.false_or,List.any_cons,List.any_nil,Bool.or_false,decide_eq_false h2]
 have hie:i=l.length:=by have h1:=A2 ht;(try dsimp only at h1);omega
 rw [hie,L08] at hn
 refine k6 (k2 (A3 (A7 A0 A0 (A5 ?_))));refine k1 (k10 ?_)
 exact B8 (rs:=[E2 0]) (I1 rfl rfl rfl) (by unfold F1;rw [if_neg (by omega),if_neg (by rw [hpa];decide),if_neg (by rw [ho];decide),if_neg (by rw [hn];decide)])
structure FewT (g:Graph):Prop where
 few:FewG g
 tree:∀c∈g,FewF c.Files
theorem FewT.files {g:Graph} (h:FewT g) (c:Nat):FewF (R4 g c):=by
 unfold R4
 by_cases hc:c < g.length
 ·rw [L01 hc];exact h.tree _ (L05 hc)
 ·rw [L18 (by omega)];exact ⟨by simp,(fun _ h=>by cases h),(fun _ h=>by cases h)⟩
theorem B09:∀{g:List Commit} {i:Nat},(∀k,k < i→∀h:k < g.length,F1 g[k].Files=0)→X7 g=X7 (g.drop i)
 | g,0,_=>rfl
 | [],i+1,_=>by simp
 | c::r,i+1,h=>by
  have h0:=h 0 (by omega) (by simp)
  rw [X7,if_neg (by simpa using h0),List.drop_succ_cons]
  exact B09 fun k hk hl=>h (k+1) (by omega) (by simpa using hl)
theorem J81 {g:Graph} {c:Nat} (hc:c < g.length) (h0:F3 g c≠[]) (h:K2 (P6 g (F3 g c)) c=true):cyclic g=true:=by
 unfold cyclic
 rw [List.any_eq_true]
 exact ⟨c,List.mem_range.2 hc,by rw [h,Bool.and_true];exact decide_eq_true h0⟩
theorem J37 (g:Graph) (h:FewT g):FnOk Tryz.prog 8 [K3 g] (fun rs=>rs=[E2 (H3 g)]):=by
 have hg:=h.few.len
 refine FnOk.intro Tryz.func8 (by decide) A0 A0 A0 A0 ?_
 refine k2 (A3 (A7 A0 A0 (A5 ?_)));refine k1 (k2 (k2 (A3 (A4 A0 A0 (F4 A0 A0 (A6 (O1 A0 A0) A0 (A5 ?_)))))));refine k1 ?_;refine B1 rfl (fun ht=>?_) (fun ht=>?_)
 ·have h1:(300:Int) < g.length:=A1 ht
  refine k2 (A3 (A7 A0 A0 (A5 ?_)));refine k1 (k10 (k11 ?_))
  exact B8 (rs:=[E2 1]) (I1 rfl rfl rfl) (by unfold H3 X8;rw [if_pos (by rw [decide_eq_false (by omega)];rfl)])
 have h1:¬(300:Int) < g.length:=A2 ht
 refine k5 (k1 (k2 (k2 (A3 (A7 A0 A0 (A5 ?_))))));refine k1 (k3 (D2 (X:=Nat) (fun i=>([(0,D6 Commit 3 H2 g),(3,C7 i)],[])) (fun i=>i≤g.length∧((g.take i).any fun c=>decide (c.Parents.length > 32))=false) (fun i=>g.length - i) 0 ⟨Nat.zero_le _,rfl⟩ (Sees.of ⟨le1 rfl,le1 rfl,trivial⟩ trivial) ?_))
 rintro i ⟨hi,hn⟩
 dsimp only at hi hn ⊢
 refine k2 (k2 (A3 (A4 A0 A0 (A4 A0 A0 (F4 A0 A0 (F7 A0 A0 A0 (A5 ?_)))))));refine k1 ?_;refine B1 rfl (fun ht=>?_) (fun ht=>?_)
 ·have hlt:i < g.length:=by have h1:=A1 ht;(try dsimp only at h1);omega
  obtain ⟨c,hc⟩:∃c,c=g[i]:=⟨_,rfl⟩
  have hv:g[i]?=some c:=by rw [hc];simp [hlt]
  have hm:c∈g:=by rw [hc];exact L05 hlt
  refine k5 (k1 (k2 (k3 (k2 (A3 (A4 A0 A0 (A4 A0 A0 (A6 (B6 A0 (.pure _ _ _ _) A0 (by omega) hv) A0 (A6 (C3 A0) A0 (A6 (B3 A0 A0) A0 (F4 A0 A0 (A6 (O1 A0 A0) A0 (A5 ?_)))))))))))));refine k1 ?_;refine B1 rfl (fun ht=>?_) (fun ht=>?_)
  ·have h2:(32:Int) < c.Parents.length:=A1 ht
   refine k2 (A3 (A7 A0 A0 (A5 ?_)));refine k1 (k10 (k12 (k11 (k11 (k12 (k11 ?_))))))
   exact B8 (rs:=[E2 1]) (I1 rfl rfl rfl) (by unfold H3 X8;rw [if_pos (by rw [List.any_eq_true.2 ⟨c,hm,decide_eq_true (show c.Parents.length > 32 by omega)⟩];simp)])
  ·have h2:¬(32:Int) < c.Parents.length:=A2 ht
   refine k5 (k4 (k1 (A3 (A4 A0 A0 (E3 A0 A0 A0 (A7 A0 A0 (A5 ?_)))))));refine k1 ?_;refine ⟨i+1,⟨hlt,?_⟩,by omega,(Sees.of ⟨le1 rfl,le1 rfl,trivial⟩ trivial)⟩
   rw [List.take_add_one,hv,Option.toList_some,L50,hn,Bool.false_or,List.any_cons,List.any_nil,Bool.or_false,decide_eq_false (show ¬c.Parents.length > 32 by omega)]
 have hie:i=g.length:=by have h1:=A2 ht;(try dsimp only at h1);omega
 rw [hie,L08] at hn
 have hlim:X8 g=true:=by unfold X8;rw [hn,decide_eq_true (show g.length≤300 by omega)];rfl
 refine k6 (k2 (k2 (A3 (A7 A0 A0 (A5 ?_)))));refine k1 (k3 (D2 (X:=Nat) (fun i=>([(0,D6 Commit 3 H2 g),(4,C7 i)],[])) (fun i=>i≤g.length∧((g.take i).all fun c=>A35 g.length [] c.Parents)=true) (fun i=>g.length - i) 0 ⟨Nat.zero_le _,rfl⟩ (Sees.of ⟨le1 rfl,le1 rfl,trivial⟩ trivial) ?_))
 rintro i ⟨hi,ha⟩
 dsimp only at hi ha ⊢
 refine k2 (k2 (A3 (A4 A0 A0 (A4 A0 A0 (F4 A0 A0 (F7 A0 A0 A0 (A5 ?_)))))));refine k1 ?_;refine B1 rfl (fun ht=>?_) (fun ht=>?_)
 ·have hlt:i < g.length:=by have h1:=A1 ht;(try dsimp only at h1);omega
  obtain ⟨c,hc⟩:∃c,c=g[i]:=⟨_,rfl⟩
  have hv:g[i]?=some c:=by rw [hc];simp [hlt]
  have hm:c∈g:=by rw [hc];exact L05 hlt
  have hpl:=h.few.pars c hm
  have hbad:A35 g.length [] c.Parents=false→[E2 230]=[E2 (H3 g)]:=fun hr=>by
   have:related g=false:=by
    unfold related
    rw [List.all_eq_false]
    exact ⟨c,hm,by rw [hr];decide⟩
   unfold H3;rw [if_neg (by rw [hlim];decide),if_pos this]
  refine k5 (k1 (k2 (k3 (k2 (A3 (A7 A0 A0 (A5 ?_)))))));refine k1 (k3 (D2 (X:=Nat) (fun k=>([(0,D6 Commit 3 H2 g),(4,C7 i),(5,C7 k)],[])) (fun k=>k≤c.Parents.length∧A35 g.length [] c.Parents=A35 g.length (c.Parents.take k) (c.Parents.drop k)) (fun k=>c.Parents.length - k) 0 ⟨Nat.zero_le _,rfl⟩ (Sees.of ⟨le1 rfl,le1 rfl,le1 rfl,trivial⟩ trivial) ?_))
  rintro k ⟨hk,hr⟩
  dsimp only at hk hr ⊢
  refine k2 (k2 (A3 (A4 A0 A0 (A4 A0 A0 (A4 A0 A0 (A6 (B6 A0 (.pure _ _ _ _) A0 (by omega) hv) A0 (A6 (C3 A0) A0 (A6 (B3 A0 A0) A0 (F4 A0 A0 (F7 A0 A0 A0 (A5 ?_)))))))))));refine k1 ?_;refine B1 rfl (fun ht=>?_) (fun ht=>?_)
  ·have hklt:k < c.Parents.length:=by have h1:=A1 ht;(try dsimp only at h1);omega
   have hvp:c.Parents[k]?=some c.Parents[k]:=by simp [hklt]
   rw [L11 hklt] at hr
   obtain ⟨p,hp⟩:∃p,p=c.Parents[k]:=⟨_,rfl⟩
   rw [←hp] at hvp hr
   have htk:c.Parents.take (k+1)=c.Parents.take k++[p]:=by rw [List.take_add_one,hvp,Option.toList_some]
   rw [A35,←htk] at hr
   refine k5 (k1 (k2 (k3 (k2 (A3 (A4 A0 A0 (A4 A0 A0 (A6 (B6 A0 (.pure _ _ _ _) A0 (by omega) hv) A0 (A6 (C3 A0) A0 (A6 (B3 A0 A0) A0 (A4 A0 A0 (A6 (B6 A0 (.pure _ _ _ _) A0 (by omega) hvp) A0 (A6 (B3 A0 A0) A0 (A7 A0 A0 (A5 ?_)))))))))))))));refine k1 (k2 (A3 (A4 A0 A0 (F7 A0 A0 A0 (A4 A0 A0 (B5 A0 A0 A0 A0 (fun hg=>by rw [hg];exact C2 A0 A0) ?_))))));refine B5 A0 A0 A0 A0 (fun hg=>by rw [hg];exact C2 A0 A0) ?_;refine B5 A0 A0 A0 A0 (fun hg=>by rw [hg];exact r5 A0 (.pure _ _ _ _)) ?_;refine B5 A0 A0 A0 A0 (fun hg=>by rw [hg];exact V2 A0 A0) ?_;refine K7 A0 A0 ?_;refine A4 A0 A0 (B5 A0 A0 A0 A0 (fun hg=>by rw [hg];exact C2 A0 A0) ?_);refine B5 A0 A0 A0 A0 (fun hg=>by rw [hg];exact C2 A0 A0) ?_;refine B5 A0 A0 A0 A0 (fun hg=>by have hq:=hg;(try simp at hq);rw [hg];exact B6 A0 (.pure _ _ _ _) A0 (by omega) hv) ?_;refine B5 A0 A0 A0 A0 (fun hg=>by rw [hg];exact C3 A0) ?_;refine B5 A0 A0 A0 A0 (fun hg=>by rw [hg];exact B3 A0 A0) ?_;refine B5 A0 A0 A0 A0 (fun hg=>by rw [hg];exact C2 A0 A0) ?_;refine B5 A0 A0 A0 A0 (fun hg=>by have hq:=hg;(try simp at hq);rw [hg];exact G05 A0 (.pure _ _ _ _) A0 (by omega) (by omega)) ?_;refine B5 A0 A0 A0 A0 (fun hg=>by rw [hg];exact C2 A0 A0) ?_;refine B5 A0 A0 A0 A0 (fun hg=>by have hq:=hg;(try simp at hq);rw [hg];exact O7 (rhas_ok (c.Parents.take ((k:Nat):Int).toNat) p (by rw [L10];omega)) A0 A0) ?_;refine K7 A0 A0 ?_;refine A5 ?_;refine k1 ?_
   rw [L03,F38,F38]
   refine B1 rfl (fun ht=>?_) (fun ht=>?_)
   ·rw [L20,L20,decide_eq_true_eq,decide_eq_true_eq,decide_eq_true_eq] at ht
    have h1:decide (0≤p∧p < (g.length:Int)∧p∉c.Parents.take k)=false:=by
     rw [decide_eq_false_iff_not]
     rintro ⟨a1,a2,a3⟩
     rcases ht with (h | h) | h
     ·omega
     ·omega
     ·exact a3 h
    rw [h1,Bool.false_and] at hr
    refine k2 (A3 (A7 A0 A0 (A5 ?_)));refine k1 (k10 (k12 (k11 (k11 (k12 (k12 (k11 (k11 (k12 (k11 ?_))))))))))
    exact B8 (rs:=[E2 230]) (I1 rfl rfl rfl) (hbad hr)
   ·rw [L34,L34,decide_eq_false_iff_not,decide_eq_false_iff_not,decide_eq_false_iff_not] at ht
    have h1:decide (0≤p∧p < (g.length:Int)∧p∉c.Parents.take k)=true:=decide_eq_true ⟨by omega,by omega,ht.2⟩
    rw [h1,Bool.true_and] at hr
    refine k5 (k4 (k1 (A3 (A4 A0 A0 (E3 A0 A0 A0 (A7 A0 A0 (A5 ?_)))))));refine k1 ?_
    exact ⟨k+1,⟨hklt,hr⟩,by omega,(Sees.of ⟨le1 rfl,le1 rfl,le1 rfl,trivial⟩ trivial)⟩
  ·have h1:k=c.Parents.length:=by have h1:=A2 ht;(try dsimp only at h1);omega
   rw [h1,List.drop_length] at hr
   refine k6 (k7 (k7 (k8 A0 (k4 (k1 (A3 (A4 A0 A0 (E3 A0 A0 A0 (A7 A0 A0 (A5 ?_))))))))));refine k1 ?_;refine ⟨i+1,⟨hlt,?_⟩,by omega,(Sees.of ⟨le1 rfl,le1 rfl,trivial⟩ trivial)⟩
   rw [List.take_add_one,hv,Option.toList_some,L43,ha,Bool.true_and,List.all_cons,List.all_nil,Bool.and_true,hr]
   rfl
 have hie:i=g.length:=by have h1:=A2 ht;(try dsimp only at h1);omega
 rw [hie,L08] at ha
 have hrel:related g=true:=ha
 have hres:H3 g=if cyclic g=true then 231 else if A95 g=true then 3 else X7 g:=by unfold H3;rw [if_neg (by rw [hlim];decide),if_neg (by rw [hrel];decide)]
 rw [hres]
 refine k6 (k2 (k2 (A3 (A7 A0 A0 (A5 ?_)))));refine k1 (k3 (D2 (X:=Nat) (fun i=>([(0,D6 Commit 3 H2 g),(7,C7 i)],[])) (fun i=>i≤g.length∧∀c,c < i→(decide (F3 g c≠[])&&K2 (P6 g (F3 g c)) c)=false) (fun i=>g.length - i) 0 ⟨Nat.zero_le _,fun c h=>by omega⟩ (Sees.of ⟨le1 rfl,le1 rfl,trivial⟩ trivial) ?_))
 rintro i ⟨hi,hcy⟩
 dsimp only at hi hcy ⊢
 refine k2 (k2 (A3 (A4 A0 A0 (A4 A0 A0 (F4 A0 A0 (F7 A0 A0 A0 (A5 ?_)))))));refine k1 ?_;refine B1 rfl (fun ht=>?_) (fun ht=>?_)
 ·have hlt:i < g.length:=by have h1:=A1 ht;(try dsimp only at h1);omega
  obtain ⟨c,hc⟩:∃c,c=g[i]:=⟨_,rfl⟩
  have hv:g[i]?=some c:=by rw [hc];simp [hlt]
  have hm:c∈g:=by rw [hc];exact L05 hlt
  have hpl:=h.few.pars c hm
  have hps:F3 g i=c.Parents:=by rw [g9 hlt,hc]
  have hpr:=(K8 hrel i).1
  have hne:c.Parents≠[]↔(0:Int) < c.Parents.length:=by
   constructor
   ·intro h;have:=List.length_pos_iff.2 h;omega
   ·intro h e;rw [e] at h;simp at h
  have hvr:(P6 g c.Parents)[((i:Nat):Int).toNat]?=some (K2 (P6 g c.Parents) i):=by rw [L03];exact H54 (by rw [E34];exact hlt)
  rw [hps] at hpr
  refine k5 (k1 (k2 (k3 (k2 (A3 (A4 A0 A0 (A4 A0 A0 (A6 (B6 A0 (.pure _ _ _ _) A0 (by omega) hv) A0 (A6 (C3 A0) A0 (A6 (B3 A0 A0) A0 (F4 A0 A0 (A6 (O1 A0 A0) A0 (A4 A0 A0 (B5 A0 A0 A0 A0 (fun hg=>by rw [hg];exact C2 A0 A0) ?_))))))))))))));refine B5 A0 A0 A0 A0 (fun hg=>by rw [hg];exact C2 A0 A0) ?_;refine B5 A0 A0 A0 A0 (fun hg=>by rw [hg];exact C2 A0 A0) ?_;refine B5 A0 A0 A0 A0 (fun hg=>by have hq:=hg;(try simp at hq);rw [hg];exact B6 A0 (.pure _ _ _ _) A0 (by omega) hv) ?_;refine B5 A0 A0 A0 A0 (fun hg=>by rw [hg];exact C3 A0) ?_;refine B5 A0 A0 A0 A0 (fun hg=>by rw [hg];exact B3 A0 A0) ?_;refine B5 A0 A0 A0 A0 (fun hg=>by have hq:=hg;(try simp at hq);rw [hg];exact O7 (J75 g c.Parents h.few.len h.few.pars hrel hpr hpl) A0 A0) ?_;refine B5 A0 A0 A0 A0 (fun hg=>by rw [hg];exact C2 A0 A0) ?_;refine B5 A0 A0 A0 A0 (fun hg=>by have hq:=hg;(try simp at hq);rw [hg];exact B6 A0 (.pure _ _ _ _) A0 (by omega) hvr) ?_;refine B5 A0 A0 A0 A0 (fun hg=>by rw [hg];exact B3 A0 A0) ?_;refine K7 A0 A0 ?_;refine A5 ?_;refine k1 ?_
  rw [C79]
  refine B1 rfl (fun ht=>?_) (fun ht=>?_)
  ·rw [L02,decide_eq_true_eq] at ht
   have:=J81 hlt (by rw [hps];exact hne.2 ht.1) (by rw [hps];exact ht.2)
   rw [if_pos this]
   refine k2 (A3 (A7 A0 A0 (A5 ?_)));refine k1 (k10 (k12 (k11 (k11 (k12 (k11 ?_))))))
   exact B8 (rs:=[E2 231]) (I1 rfl rfl rfl) rfl
  ·refine k5 (k4 (k1 (A3 (A4 A0 A0 (E3 A0 A0 A0 (A7 A0 A0 (A5 ?_)))))));refine k1 ?_;refine ⟨i+1,⟨hlt,fun d hd=>?_⟩,by omega,(Sees.of ⟨le1 rfl,le1 rfl,trivial⟩ trivial)⟩
   by_cases e:d=i
   ·subst e
    rw [hps,decide_eq_decide.2 hne];exact ht
   ·exact hcy d (by omega)
 have hie:i=g.length:=by have h1:=A2 ht;(try dsimp only at h1);omega
 have hcyc:cyclic g=false:=by
  unfold cyclic
  rw [List.any_eq_false]
  intro c hc
  rw [hcy c (by rw [hie];exact List.mem_range.1 hc)];decide
 rw [hcyc,if_neg (by decide)]
 refine k6 (k2 (k2 (A3 (A7 A0 A0 (A5 ?_)))));refine k1 (k3 (D2 (X:=Nat) (fun i=>([(0,D6 Commit 3 H2 g),(8,C7 i)],[])) (fun i=>i≤g.length∧((g.take i).any fun c=>decide (c.Date < 0∨c.Date > 2147483647))=false) (fun i=>g.length - i) 0 ⟨Nat.zero_le _,rfl⟩ (Sees.of ⟨le1 rfl,le1 rfl,trivial⟩ trivial) ?_))
 rintro i ⟨hi,hn⟩
 dsimp only at hi hn ⊢
 refine k2 (k2 (A3 (A4 A0 A0 (A4 A0 A0 (F4 A0 A0 (F7 A0 A0 A0 (A5 ?_)))))));refine k1 ?_;refine B1 rfl (fun ht=>?_) (fun ht=>?_)
 ·have hlt:i < g.length:=by have h1:=A1 ht;(try dsimp only at h1);omega
  obtain ⟨c,hc⟩:∃c,c=g[i]:=⟨_,rfl⟩
  have hv:g[i]?=some c:=by rw [hc];simp [hlt]
  have hm:c∈g:=by rw [hc];exact L05 hlt
  refine k5 (k1 (k2 (k3 (k2 (A3 (A4 A0 A0 (A4 A0 A0 (A6 (B6 A0 (.pure _ _ _ _) A0 (by omega) hv) A0 (A6 (C3 A0) A0 (A6 (B3 A0 A0) A0 (F7 A0 A0 A0 (A4 A0 A0 (B5 A0 A0 A0 A0 (fun hg=>by rw [hg];exact C2 A0 A0) ?_)))))))))))));refine B5 A0 A0 A0 A0 (fun hg=>by rw [hg];exact C2 A0 A0) ?_;refine B5 A0 A0 A0 A0 (fun hg=>by have hq:=hg;(try simp at hq);rw [hg];exact B6 A0 (.pure _ _ _ _) A0 (by omega) hv) ?_;refine B5 A0 A0 A0 A0 (fun hg=>by rw [hg];exact C3 A0) ?_;refine B5 A0 A0 A0 A0 (fun hg=>by rw [hg];exact B3 A0 A0) ?_;refine B5 A0 A0 A0 A0 (fun hg=>by rw [hg];exact O1 A0 A0) ?_;refine K7 A0 A0 ?_;refine A5 ?_;refine k1 ?_;refine B1 rfl (fun ht=>?_) (fun ht=>?_)
  ·have h2:c.Date < 0∨c.Date > 2147483647:=A1 (or_pick.symm.trans ht)
   have:A95 g=true:=List.any_eq_true.2 ⟨c,hm,decide_eq_true h2⟩
   rw [if_pos this]
   refine k2 (A3 (A7 A0 A0 (A5 ?_)));refine k1 (k10 (k12 (k11 (k11 (k12 (k11 ?_))))))
   exact B8 (rs:=[E2 3]) (I1 rfl rfl rfl) rfl
  ·have h2:¬(c.Date < 0∨c.Date > 2147483647):=A2 (or_pick.symm.trans ht)
   refine k5 (k4 (k1 (A3 (A4 A0 A0 (E3 A0 A0 A0 (A7 A0 A0 (A5 ?_)))))));refine k1 ?_;refine ⟨i+1,⟨hlt,?_⟩,by omega,(Sees.of ⟨le1 rfl,le1 rfl,trivial⟩ trivial)⟩
   rw [List.take_add_one,hv,Option.toList_some,L50,hn,Bool.false_or,List.any_cons,List.any_nil,Bool.or_false,decide_eq_false h2]
 have hie:i=g.length:=by have h1:=A2 ht;(try dsimp only at h1);omega
 rw [hie,L08] at hn
 have hbd:A95 g=false:=hn
 rw [hbd,if_neg (by decide)]
 refine k6 (k2 (k2 (A3 (A7 A0 A0 (A5 ?_)))));refine k1 (k3 (D2 (X:=Nat) (fun i=>([(0,D6 Commit 3 H2 g),(9,C7 i)],[])) (fun i=>i≤g.length∧∀k,k < i→∀h:k < g.length,F1 g[k].Files=0) (fun i=>g.length - i) 0 ⟨Nat.zero_le _,fun c h=>by omega⟩ (Sees.of ⟨le1 rfl,le1 rfl,trivial⟩ trivial) ?_))
 rintro i ⟨hi,hz⟩
 dsimp only at hi hz ⊢
 have hfe:=B09 hz
 refine k2 (k2 (A3 (A4 A0 A0 (A4 A0 A0 (F4 A0 A0 (F7 A0 A0 A0 (A5 ?_)))))));refine k1 ?_;refine B1 rfl (fun ht=>?_) (fun ht=>?_)
 ·have hlt:i < g.length:=by have h1:=A1 ht;(try dsimp only at h1);omega
  obtain ⟨c,hc⟩:∃c,c=g[i]:=⟨_,rfl⟩
  have hv:g[i]?=some c:=by rw [hc];simp [hlt]
  have hm:c∈g:=by rw [hc];exact L05 hlt
  rw [L11 hlt,←hc,X7] at hfe
  refine k5 (k1 (k2 (k3 (k2 (A3 (A4 A0 A0 (A4 A0 A0 (A6 (B6 A0 (.pure _ _ _ _) A0 (by omega) hv) A0 (A6 (C3 A0) A0 (A6 (B3 A0 A0) A0 (C9 (F82 c.Files (h.tree c hm)) A0 A0 A0 ?_)))))))))));rintro _ rfl;refine A7 A0 A0 (A5 ?_);refine k1 (k2 (A3 (A4 A0 A0 (A6 (O2 A0 A0) A0 (A5 ?_)))));refine k1 ?_;refine B1 rfl (fun ht=>?_) (fun ht=>?_)
  ·have h2:F1 c.Files≠0:=A1 ht
   rw [if_pos h2] at hfe
   rw [hfe]
   refine k2 (A3 (A4 A0 A0 (A7 A0 A0 (A5 ?_))));refine k1 (k10 (k12 (k11 (k11 (k12 (k11 ?_))))))
   exact B8 (rs:=[E2 (F1 c.Files)]) (I1 rfl rfl rfl) rfl
  ·have h2:¬F1 c.Files≠0:=A2 ht
   refine k5 (k4 (k1 (A3 (A4 A0 A0 (E3 A0 A0 A0 (A7 A0 A0 (A5 ?_)))))));refine k1 ?_;refine ⟨i+1,⟨hlt,fun k hk hkl=>?_⟩,by omega,(Sees.of ⟨le1 rfl,le1 rfl,trivial⟩ trivial)⟩
   by_cases e:k=i
   ·subst e;rw [←hc];exact Decidable.not_not.1 h2
   ·exact hz k (by omega) hkl
 have hie:i=g.length:=by have h1:=A2 ht;(try dsimp only at h1);omega
 rw [hie,List.drop_length] at hfe
 rw [hfe]
 refine k6 (k2 (A3 (A7 A0 A0 (A5 ?_))));refine k1 (k10 ?_)
 exact B8 (rs:=[E2 0]) (I1 rfl rfl rfl) rfl
theorem J38 (g:Graph) (h:FewT g):FnOk Tryz.prog 41 [K3 g] (fun rs=>rs=[E2 (H3 g)]):=by
 have hg:=h.few.len
 refine FnOk.intro Tryz.func41 (by decide) A0 A0 A0 A0 ?_
 refine k2 (A3 (A7 A0 A0 (A5 ?_)));refine k1 (k2 (k3 (k2 (A3 (A4 A0 A0 (C9 (H56 g h.few (by omega)) A0 A0 A0 ?_))))));rintro _ rfl;refine A6 (S2 A0) A0 (A7 A0 A0 (A5 ?_));refine k1 ?_;refine B1 rfl (fun ht=>?_) (fun ht=>?_)
 ·have h1:X8 g=false:=by simpa using ht
  refine k2 (A3 (A7 A0 A0 (A5 ?_)));refine k1 (k10 (k12 (k11 ?_)))
  exact B8 (rs:=[E2 1]) (I1 rfl rfl rfl) (by unfold H3;rw [if_pos h1])
 have hlim:X8 g=true:=by simpa using ht
 refine k2 (A3 (A4 A0 A0 (C9 (H57 g h.few (by omega)) A0 A0 A0 ?_)));rintro _ rfl;refine A6 (S2 A0) A0 (A7 A0 A0 (A5 ?_));refine k1 ?_;refine B1 rfl (fun ht=>?_) (fun ht=>?_)
 ·have h1:related g=false:=by simpa using ht
  refine k2 (A3 (A7 A0 A0 (A5 ?_)));refine k1 (k10 (k12 (k11 ?_)))
  exact B8 (rs:=[E2 230]) (I1 rfl rfl rfl) (by unfold H3;rw [if_neg (by rw [hlim];decide),if_pos h1])
 have hrel:related g=true:=by simpa using ht
 have hres:H3 g=if cyclic g=true then 231 else if A95 g=true then 3 else X7 g:=by unfold H3;rw [if_neg (by rw [hlim];decide),if_neg (by rw [hrel];decide)]
 rw [hres]
 refine k2 (A3 (A4 A0 A0 (C9 (I52 g h.few hrel) A0 A0 A0 ?_)));rintro _ ⟨ch,out,rfl,hK⟩;refine F4 A0 A0 (A4 A0 A0 (F4 A0 A0 (F7 A0 A0 A0 (A7 A0 A0 (A5 ?_)))))
 have hcy:=hK.done hrel
 have hcy:decide ((out.length:Int) < g.length)=cyclic g:=by rw [←hcy,decide_eq_decide];omega
 refine k1 ?_
 rw [hcy]
 refine B1 rfl (fun ht=>?_) (fun ht=>?_)
 ·rw [if_pos ht]
  refine k2 (A3 (A7 A0 A0 (A5 ?_)));refine k1 (k10 (k12 (k11 ?_)))
  exact B8 (rs:=[E2 231]) (I1 rfl rfl rfl) rfl
 rw [ht,if_neg (by decide)]
 refine k2 (A3 (A4 A0 A0 (C9 (A90 73 (fun c=>decide (c.Date < 0∨c.Date > 2147483647)) g (by omega) (fun c _=>I50 c)) A0 A0 A0 ?_)));rintro _ rfl;refine A7 A0 A0 (A5 ?_);refine k1 ?_;refine B1 rfl (fun ht=>?_) (fun ht=>?_)
 ·have h1:A95 g=true:=ht
  rw [if_pos h1]
  refine k2 (A3 (A7 A0 A0 (A5 ?_)));refine k1 (k10 (k12 (k11 ?_)))
  exact B8 (rs:=[E2 3]) (I1 rfl rfl rfl) rfl
 have hbd:A95 g=false:=ht
 rw [hbd,if_neg (by decide)]
 refine k5 (k2 (k2 (A3 (A4 A0 A0 (F4 A0 A0 (A4 A0 A0 (A5 ?_)))))));refine k1 (k3 (D2 (X:=Nat) (fun i=>([(24,D6 Commit 3 H2 g),(25,C7 g.length),(26,C7 i)],[])) (fun i=>i≤g.length∧∀k,k < i→∀h:k < g.length,F1 g[k].Files=0) (fun i=>g.length - i) 0 ⟨Nat.zero_le _,fun c h=>by omega⟩ (Sees.of ⟨le1 rfl,le1 rfl,le1 rfl,trivial⟩ trivial) ?_))
 rintro i ⟨hi,hz⟩
 dsimp only at hi hz ⊢
 have hfe:=B09 hz
 refine k2 (A3 (F7 A0 A0 A0 (A5 ?_)));refine k1 (k2 ?_);refine B1 rfl (fun ht=>?_) (fun ht=>?_)
 ·have hlt:i < g.length:=by have h1:=A1 ht;(try dsimp only at h1);omega
  obtain ⟨c,hc⟩:∃c,c=g[i]:=⟨_,rfl⟩
  have hv:g[i]?=some c:=by rw [hc];simp [hlt]
  have hm:c∈g:=by rw [hc];exact L05 hlt
  rw [L11 hlt,←hc,X7] at hfe
  refine k5 (k1 (k2 (k3 (k2 (A3 (A6 (B6 A0 (.pure _ _ _ _) A0 (by omega) hv) A0 (A6 (E1 A0 A0) A0 (D1 (J1 4 A0) A0 (G1 (B9 TySz.out A0 A0 A0 A0 A0 A0) (A5 ?_))))))))));refine k1 (k2 (A3 (A6 (B0 A0) A0 (G3 A0 A0 A0 A0 (C9 (C98 c.Files (h.tree c hm)) A0 A0 A0 ?_)))));rintro _ rfl;refine A7 A0 A0 (A5 ?_);refine k1 (k2 (A3 (A4 A0 A0 (A6 (O2 A0 A0) A0 (A5 ?_)))));refine k1 ?_;refine B1 rfl (fun ht=>?_) (fun ht=>?_)
  ·have h2:F1 c.Files≠0:=A1 ht
   rw [if_pos h2] at hfe
   rw [hfe]
   refine k2 (A3 (A4 A0 A0 (A7 A0 A0 (A5 ?_))));refine k1 (k10 (k12 (k11 (k11 (k12 (k11 ?_))))))
   exact B8 (rs:=[E2 (F1 c.Files)]) (I1 rfl rfl rfl) rfl
  ·have h2:¬F1 c.Files≠0:=A2 ht
   refine k5 (k4 (k1 (A3 (E3 A0 A0 A0 (A4 A0 A0 (A5 ?_))))));refine k1 ?_;refine ⟨i+1,⟨hlt,fun k hk hkl=>?_⟩,by omega,(Sees.of ⟨le1 rfl,le1 rfl,le1 rfl,trivial⟩ trivial)⟩
   by_cases e:k=i
   ·subst e;rw [←hc];exact Decidable.not_not.1 h2
   ·exact hz k (by omega) hkl
 have hie:i=g.length:=by have h1:=A2 ht;(try dsimp only at h1);omega
 rw [hie,List.drop_length] at hfe
 rw [hfe]
 refine k6 (k2 (A3 (A7 A0 A0 (A5 ?_))));refine k1 (k10 ?_)
 exact B8 (rs:=[E2 0]) (I1 rfl rfl rfl) rfl
set_option maxHeartbeats 1000000
end Go.Proofs.YtjmoigcpoopjhaaGreatDoor
