/- Walks of the program's functions. -/
import Derived.Test.YtkahafmcmiiolaaGreatDoorTy
import Derived.Test.YtkahafmcmiiolaaGreatDoorFs
import Derived.Test.YtkahafmcmiiolaaGreatDoorSh
import Derived.Lib.AppendIntMem
import Derived.RangeFuncBound
import Derived.RangeFuncOwn
import Derived.OwnWalkIn
import Derived.TacticsInMore
import Derived.LoopNIn
import Derived.LoopIn
set_option linter.unusedSimpArgs false
namespace Go.Proofs.YtkahafmcmiiolaaGreatDoor
open Go Go.AL
set_option maxRecDepth 100000
theorem I17 (p:Int):0≤IntKind.u64.wrap p:=by simp [IntKind.wrap,IntKind.signed,IntKind.bits];omega
theorem H10 (b:Str) (hb:b.length≤536870912):FnOk Tryz.prog 15 [J6 b] (fun rs=>rs=[D74 (F1 b)]):=by
 refine FnOk.intro Tryz.func15 (by decide) J J J J ?_
 refine k2 (A2 (A6 J J (A4 ?_)));refine k1 (k2 (A2 (D1 (S9 3 _ R5 J) J (A4 ?_))));refine k1 (k2 (A2 (A6 J J (A4 ?_))));refine k1 (k2 (k2 (A2 (A6 J J (A4 ?_)))));refine k1 (k3 ?_);refine D2 (X:=Nat × Nat × List Str) (fun x=>([(0,Y9 b),(3,.s (.one (.buf 3 Str 1 R5 x.2.2))),(4,C3 x.2.1),(5,C3 x.1)],[(3,.spare x.2.2.length 1 9)]))
  (fun x=>x.1≤b.length∧x.2.1≤x.1∧x.2.2.length≤x.1∧(x.1=b.length→x.2.1=x.1)∧x.2.2++J3 ((b.drop x.2.1).take (x.1 - x.2.1)) (b.drop x.1)=F1 b) (fun x=>b.length - x.1) (0,0,[]) (by simp [F1]) ?_ ?_
 ·exact Sees.of ⟨⟨_,rfl,.same _⟩,⟨_,rfl,.same _⟩,⟨_,rfl,.same _⟩,⟨_,rfl,.same _⟩,trivial⟩ ⟨rfl,trivial⟩
 ·rintro ⟨i,from',out⟩ ⟨hi,hf,ho,he,hp⟩
  dsimp only at hi hf ho he hp ⊢
  refine k2 (k2 (A2 (A3 J J (A3 J J (A5 (I6 J) J (F3 J J J (A4 ?_)))))));refine k1 ?_;refine B1 rfl (fun ht=>?_) (fun ht=>?_)
  ·have hlt:i < b.length:=by simpa using ht
   have hv:b[i]?=some b[i]:=by simp [hlt]
   refine k5 (k1 (k2 (k3 (k2 (A2 (A3 J J (A3 J J (A5 (m8 J J (by omega) hv) J (A5 (F7 J J) J (A3 J J (B3 J J J J (fun hg=>by rw [hg];exact B9 J J) ?_)))))))))));refine B3 J J J J (fun hg=>by have hq:=hg;(try simp at hq);rw [hg];exact X0 J J (by omega)) ?_;refine B3 J J J J (fun hg=>by rw [hg];exact B9 J J) ?_;refine B3 J J J J (fun hg=>by rw [hg];exact I6 J) ?_;refine B3 J J J J (fun hg=>by rw [hg];exact F7 J J) ?_;refine K4 J J ?_;refine A4 ?_;refine k1 ?_;refine B1 rfl (fun ht2=>?_) (fun ht2=>?_)
   ·refine k2 (A2 (A3 J J (A3 J J (A3 J J (A3 J J (D6 J J J (A5 (G93 J J J (by omega) (by omega) (by omega)) J (A5 (C5 (c:=R5) (ys:=[_]) (E0 J J J J G5) J J J) J (D1 (J7 J J J (.pure _ _ _ _) (by simp;omega) J) J (A6 J J (A4 ?_)))))))))));refine k1 (A2 (A3 J J (D6 J J J (A6 J J (A4 ?_)))));refine k4 (k1 (A2 (A3 J J (D6 J J J (A6 J J (A4 ?_))))));refine k1 ?_;refine ⟨(i+1,i+1,_),⟨?_,?_,?_,?_,?_⟩,?_,Sees.of ⟨⟨_,rfl,.same _⟩,⟨_,rfl,.same _⟩,⟨_,rfl,.same _⟩,⟨_,rfl,.same _⟩,trivial⟩ ⟨rfl,trivial⟩⟩
    all_goals dsimp only
    ·omega
    ·omega
    ·simp;omega
    ·omega
    ·have hc:b[i]=10∨i+1=b.length:=by
      simp only [u8_lf] at ht2
      by_cases h:b[i]=10
      ·exact .inl h
      ·simp [h] at ht2;exact .inr (by omega)
     rw [I79,K84,L31,List.take_zero,←F97 b from' i hf hlt,K96,←hp,K91 hlt,A96]
     rcases hc with h | h
     ·rw [if_pos h];rfl
     ·have hd:b.drop (i+1)=[]:=L00 (by omega)
      rw [hd]
      split
      ·rfl
      ·rw [show J3 ([]:Str) []=[] from rfl,G65 _ (by simp)];simp
    ·omega
   ·refine k5 (k4 (k1 (A2 (A3 J J (D6 J J J (A6 J J (A4 ?_)))))));refine k1 ?_;refine ⟨(i+1,from',out),⟨?_,?_,?_,?_,?_⟩,?_,Sees.of ⟨⟨_,rfl,.same _⟩,⟨_,rfl,.same _⟩,⟨_,rfl,.same _⟩,⟨_,rfl,.same _⟩,trivial⟩ ⟨rfl,trivial⟩⟩
    all_goals dsimp only
    ·omega
    ·omega
    ·omega
    ·intro h
     simp [show (i:Int)+1=(b.length:Int) by omega] at ht2
    ·have hc:b[i]≠10:=fun h=>by simp [h] at ht2
     rw [←F97 b from' i hf hlt,←hp,K91 hlt,A96,if_neg hc]
    ·omega
  ·refine k6 (k2 (A2 (A3 J J (A6 J J (A4 ?_)))));refine k1 (k10 (B6 (H3 J J J) ?_))
   have hi':i=b.length:=by simp at ht;omega
   subst hi'
   have:=he rfl
   subst this
   rw [L31,List.take_zero,L00 (Nat.le_refl _)] at hp
   rw [←hp];simp [J3]
theorem K21 (b:Str) (hb:b.length≤1099511627776):FnOk Tryz.prog 83 [J6 b] (fun rs=>rs=[F2 (M2 b)]):=by
 refine FnOk.intro Tryz.func83 (by decide) J J J J ?_
 refine k2 (A2 (A6 J J (A4 ?_)));refine k1 (k2 (k2 (A2 (A3 J J (A5 (I6 J) J (A5 (N4 J J) J (A3 J J (B3 J J J J (fun hg=>by rw [hg];exact B9 J J) ?_))))))));refine B3 J J J J (fun hg=>by have hq:=hg;(try simp at hq);rw [hg];exact O6 (H10 b (by omega)) J J) ?_;refine B3 J J J J (fun hg=>by rw [hg];exact Z2 J (.pure _ _ _ _)) ?_;refine B3 J J J J (fun hg=>by rw [hg];exact N4 J J) ?_;refine K4 J J ?_;refine A4 ?_;refine k1 ?_;refine B1 rfl (fun ht=>?_) (fun ht=>?_)
 ·have h:=A0 (or_pick.symm.trans ht)
  refine k2 (A2 (A6 J J (A4 ?_)));refine k1 (k10 (k11 ?_))
  exact B6 (H3 rfl rfl rfl) (by rw [M2,if_pos (by omega)])
 ·have h:=A1 (or_pick.symm.trans ht)
  refine k5 (k1 (k2 (A2 (A6 J J (A4 ?_)))));refine k1 (k10 ?_)
  exact B6 (H3 rfl rfl rfl) (by rw [M2,if_neg (by omega)])
theorem D50 {p cur:Str} {i:Nat} (h:i < p.length):A97 cur (p.drop i)=if p[i]=0 then false else if p[i]=47 then P8 cur&&A97 [] (p.drop (i+1)) else A97 (cur++[p[i]]) (p.drop (i+1)):=by
 rw [K91 h];rfl
theorem sub_one {p:Str} {i:Nat} (h:i < p.length):(p.drop i).take (i+1 - i)=[p[i]]:=by
 rw [K91 h,show i+1 - i=1 by omega];rfl
set_option maxHeartbeats 1000000
theorem F41 (p:Str) (hp:p.length≤1073741824):FnOk Tryz.prog 81 [J6 p] (fun rs=>rs=[F2 (N2 p)]):=by
 refine FnOk.intro Tryz.func81 (by decide) J J J J ?_
 refine k2 (A2 (A6 J J (A4 ?_)));refine k1 (k2 (k2 (A2 (A3 J J (A5 (I6 J) J (F3 J J J (A3 J J (B3 J J J J (fun hg=>by rw [hg];exact B9 J J) ?_))))))));refine B3 J J J J (fun hg=>by rw [hg];exact I6 J) ?_;refine B3 J J J J (fun hg=>by rw [hg];exact N4 J J) ?_;refine K4 J J ?_;refine A4 ?_;refine k1 ?_;refine B1 rfl (fun ht=>?_) (fun ht=>?_)
 ·have h:=A0 (or_pick.symm.trans ht)
  refine k2 (A2 (A6 J J (A4 ?_)));refine k1 (k10 (k11 ?_))
  exact B6 (rs:=[F2 210]) (H3 rfl rfl rfl) (by unfold N2;rw [if_pos (by omega)])
 have h:=A1 (or_pick.symm.trans ht)
 have hb:[F2 210]=[F2 (N2 p)]∨A97 [] p=true:=by
  cases hc:A97 [] p
  ·left;unfold N2;rw [if_pos (.inr (.inr hc))]
  ·exact .inr rfl
 have hg:A97 [] p=true→[F2 0]=[F2 (N2 p)]:=fun hc=>by unfold N2;rw [if_neg (by rw [hc];rintro (h1 | h1 | h1)<;>first | omega | cases h1)]
 have hbad:A97 [] p=false→[F2 210]=[F2 (N2 p)]:=fun hc=>by unfold N2;rw [if_pos (.inr (.inr hc))]
 refine k5 (k1 (k2 (A2 (A6 J J (A4 ?_)))));refine k1 (k2 (k2 (A2 (A6 J J (A4 ?_)))));refine k1 (k3 (D2 (X:=Nat × Str) (fun x=>([(0,Y9 p),(3,Y9 x.2),(4,C3 x.1)],[])) (fun x=>x.2.length≤x.1∧((x.1≤p.length∧A97 x.2 (p.drop x.1)=A97 [] p)∨(x.1=p.length+1∧A97 [] p=true))) (fun x=>p.length+1 - x.1) (0,[]) ⟨Nat.zero_le _,.inl ⟨Nat.zero_le _,rfl⟩⟩ (Sees.of ⟨le1 rfl,le1 rfl,le1 rfl,trivial⟩ trivial) ?_))
 rintro ⟨i,cur⟩ ⟨hcl,hi⟩
 dsimp only at hcl hi ⊢
 refine k2 (k2 (A2 (A3 J J (A3 J J (A5 (I6 J) J (A5 (B74 J J) J (A4 ?_)))))));refine k1 ?_;refine B1 rfl (fun ht=>?_) (fun ht=>?_)
 rotate_left
 ·have h1:¬(i:Int)≤p.length:=A1 ht
  refine k6 (k2 (A2 (A6 J J (A4 ?_))));refine k1 (k10 ?_)
  exact B6 (rs:=[F2 0]) (H3 rfl rfl rfl) (hg (by rcases hi with hi | hi<;>first | exact absurd hi.1 (by omega) | exact hi.2))
 have hle:i≤p.length:=by have h1:(i:Int)≤p.length:=A0 ht;omega
 obtain ⟨_,hcp⟩:i≤p.length∧A97 cur (p.drop i)=A97 [] p:=by rcases hi with hi | hi<;>first | exact hi | exact absurd hi.1 (by omega)
 have hv:(i:Int) < p.length→p[((i:Nat):Int).toNat]?=some (p.getD i 0):=fun h1=>by
  rw [K84,K88,K82 (by omega)];rfl
 have hg0:∀h1:i < p.length,p.getD i 0=p[i]:=fun h1=>by rw [K88,K82 h1];rfl
 have hz:∀c:UInt8,((c.toNat:Int)=0)↔c=0:=fun c=>by
  constructor
  ·intro h; exact UInt8.toNat_inj.1 (by have:c.toNat=0:=by omega
                                        simpa using this)
  ·rintro rfl;rfl
 have hs:∀c:UInt8,((c.toNat:Int)=47)↔c=47:=fun c=>by
  constructor
  ·intro h; exact UInt8.toNat_inj.1 (by have:c.toNat=47:=by omega
                                        simpa using this)
  ·rintro rfl;rfl
 refine k5 (k1 (k2 (k3 (k2 (k2 (A2 (A3 J J (A3 J J (A5 (I6 J) J (F3 J J J (A3 J J (B3 J J J J (fun hg=>by rw [hg];exact B9 J J) ?_))))))))))));refine B3 J J J J (fun hg=>by rw [hg];exact B9 J J) ?_;refine B3 J J J J (fun hg=>by have hq:=hg;(try simp at hq);rw [hg];exact m8 J J (by omega) (hv (by omega))) ?_;refine B3 J J J J (fun hg=>by rw [hg];exact F7 J J) ?_;refine K4 J J ?_;refine A4 ?_;refine k1 ?_;refine B1 rfl (fun ht=>?_) (fun ht=>?_)
 ·have h1:=A0 (and_pick.symm.trans ht)
  refine k2 (A2 (A6 J J (A4 ?_)));refine k1 (k10 (k11 (k12 (k11 (k11 (k12 (k11 ?_)))))));refine B6 (rs:=[F2 210]) (H3 rfl rfl rfl) (hbad ?_)
  have h2:i < p.length:=by omega
  rw [←hcp,D50 h2,if_pos (by rw [←hg0 h2,←hz];exact h1.2)]
 have hn0:=A1 (and_pick.symm.trans ht)
 refine k5 (k1 (k2 (k2 (A2 (A3 J J (A3 J J (A5 (I6 J) J (F3 J J J (A3 J J (B3 J J J J (fun hg=>by rw [hg];exact B9 J J) ?_))))))))));refine B3 J J J J (fun hg=>by rw [hg];exact B9 J J) ?_;refine B3 J J J J (fun hg=>by have hq:=hg;(try simp at hq);rw [hg];exact m8 J J (by omega) (hv (by omega))) ?_;refine B3 J J J J (fun hg=>by rw [hg];exact R2 J J) ?_;refine K4 J J ?_;refine A4 ?_;refine k1 ?_;refine B1 rfl (fun ht=>?_) (fun ht=>?_)
 ·have h1:=A0 (and_pick.symm.trans ht)
  have h2:i < p.length:=by omega
  have h3:p[i]≠0:=fun e=>hn0 ⟨h1.1,by rw [hz,hg0 h2];exact e⟩
  have h4:p[i]≠47:=fun e=>h1.2 (by rw [hs,hg0 h2];exact e)
  rw [D50 h2,if_neg h3,if_neg h4] at hcp
  refine k2 (A2 (A3 J J (A3 J J (A3 J J (A3 J J (D6 J J J (A5 (G93 J J J (by omega) (by omega) (by omega)) J (A5 (B26 J J (by simp;omega)) J (A6 J J (A4 ?_))))))))));refine k1 (k6 (k7 (k8 J (k1 (A2 (A3 J J (D6 J J J (A6 J J (A4 ?_)))))))));refine k1 ?_;refine ⟨(i+1,cur++[p[i]]),⟨by simp;omega,.inl ⟨h2,hcp⟩⟩,by dsimp only;omega,?_⟩
  rw [←sub_one h2]
  exact (Sees.of ⟨le1 rfl,le1 rfl,le1 rfl,trivial⟩ trivial)
 have hn1:=A1 (and_pick.symm.trans ht)
 have hend:A97 [] p=(P8 cur&&(decide (i=p.length)||A97 [] (p.drop (i+1)))):=by
  rw [←hcp]
  by_cases h2:i < p.length
  ·have h3:p[i]≠0:=fun e=>hn0 ⟨by omega,by rw [hz,hg0 h2];exact e⟩
   have h4:p[i]=47:=Classical.byContradiction fun e=>hn1 ⟨by omega,fun h=>e (by rw [←hg0 h2];exact (hs _).1 h)⟩
   rw [D50 h2,if_neg h3,if_pos h4]
   have:¬i=p.length:=by omega
   simp [this]
  ·have:i=p.length:=by omega
   rw [L00 (by omega)]
   simp [A97,this]
 refine k5 (k1 (k2 (k2 (A2 (A3 J J (A5 (c9 J J) J (A3 J J (B3 J J J J (fun hg=>by rw [hg];exact B9 J J) ?_))))))));refine B3 J J J J (fun hg=>by rw [hg];exact c9 J J) ?_;refine K4 J J ?_;refine A3 J J (B3 J J J J (fun hg=>by rw [hg];exact B9 J J) ?_);refine B3 J J J J (fun hg=>by rw [hg];exact c9 J J) ?_;refine K4 J J ?_;refine A4 ?_;refine k1 ?_;refine B1 rfl (fun ht=>?_) (fun ht=>?_)
 ·simp only [or_pick] at ht
  have h1:=A0 ht
  refine k2 (A2 (A6 J J (A4 ?_)));refine k1 (k10 (k11 (k12 (k11 (k11 (k12 (k11 ?_)))))));refine B6 (rs:=[F2 210]) (H3 rfl rfl rfl) (hbad ?_)
  rw [hend]
  have:P8 cur=false:=by unfold P8;rw [decide_eq_false_iff_not];rintro ⟨a,b,c⟩;rcases h1 with (h1 | h1) | h1<;>contradiction
  rw [this];rfl
 simp only [or_pick] at ht
 have h1:=A1 ht
 have hok:P8 cur=true:=by unfold P8;rw [decide_eq_true_eq];exact ⟨fun e=>h1 (.inl (.inl e)),fun e=>h1 (.inl (.inr e)),fun e=>h1 (.inr e)⟩
 rw [hok,Bool.true_and] at hend
 refine k5 (k1 (A2 (A6 J J (A4 ?_))));refine k4 (k1 (A2 (A3 J J (D6 J J J (A6 J J (A4 ?_))))));refine k1 ?_;refine ⟨(i+1,[]),⟨by simp,?_⟩,by dsimp only;omega,(Sees.of ⟨le1 rfl,le1 rfl,le1 rfl,trivial⟩ trivial)⟩
 dsimp only
 by_cases h2:i=p.length
 ·exact .inr ⟨by omega,by rw [hend];simp [h2]⟩
 ·left
  refine ⟨by omega,?_⟩
  rw [hend];simp [h2]
theorem J52 (a b:Str) (ha:a.length≤1073741824) (_hb:b.length≤1073741824):FnOk Tryz.prog 82 [J6 a,J6 b] (fun rs=>rs=[H9 (above a b)]):=by
 have hv:(a.length:Int) < b.length→b[((a.length:Nat):Int).toNat]?=some (b.getD a.length 0):=fun h1=>by
  rw [K84,K88,K82 (by omega)];rfl
 refine FnOk.intro Tryz.func82 (by decide) J J J J ?_
 refine k2 (A2 (A6 J J (A4 ?_)));refine k1 (k2 (A2 (A3 J J (A5 (I6 J) J (A3 J J (A5 (I6 J) J (A5 (N4 J J) J (A3 J J (B3 J J J J (fun hg=>by rw [hg];exact B9 J J) ?_)))))))));refine B3 J J J J (fun hg=>by rw [hg];exact B9 J J) ?_;refine B3 J J J J (fun hg=>by rw [hg];exact I6 J) ?_;refine B3 J J J J (fun hg=>by have hq:=hg;(try simp at hq);rw [hg];exact C15 J J (by omega) (by omega)) ?_;refine B3 J J J J (fun hg=>by rw [hg];exact B9 J J) ?_;refine B3 J J J J (fun hg=>by rw [hg];exact c9 J J) ?_;refine K4 J J ?_;refine A3 J J (B3 J J J J (fun hg=>by rw [hg];exact B9 J J) ?_);refine B3 J J J J (fun hg=>by rw [hg];exact B9 J J) ?_;refine B3 J J J J (fun hg=>by rw [hg];exact I6 J) ?_;refine B3 J J J J (fun hg=>by have hq:=hg;(try simp at hq);rw [hg];exact m8 J J (by omega) (hv (by omega))) ?_;refine B3 J J J J (fun hg=>by rw [hg];exact F7 J J) ?_;refine K4 J J ?_;refine A6 J J (A4 ?_);refine k1 (k10 (B6 (H3 J J J) ?_))
 refine congrArg (fun x=>[H9 x]) ?_
 rw [A20,A20,K84]
 unfold above
 by_cases h:a.length < b.length
 ·have hg:b[a.length]?=some (b.getD a.length 0):=by rw [K88,K82 h];rfl
  rw [hg,decide_eq_true (show (a.length:Int) < b.length by omega),Bool.true_and]
  have h47:(((b.getD a.length 0).toNat:Int)=47)↔b.getD a.length 0=47:=⟨fun h=>UInt8.toNat_inj.1 (by
   have:(b.getD a.length 0).toNat=47:=by omega
   simpa using this),fun h=>by rw [h];rfl⟩
  rw [←Bool.decide_and,decide_eq_decide,h47]
  simp only [gt_iff_lt,h,true_and,Option.some.injEq]
 ·rw [decide_eq_false (show ¬(a.length:Int) < b.length by omega)]
  simp [h]
theorem H11 (l:List File) (p:Str) (hl:l.length≤1073741824):FnOk Tryz.prog 11 [U9 l,J6 p] (fun rs=>rs=[J6 ((I5 l p).getD []),H9 (I5 l p).isSome]):=by
 refine FnOk.intro Tryz.func11 (by decide) J J J J ?_
 refine k2 (A2 (A6 J J (A6 J J (A4 ?_))));refine k1 (k2 (k2 (A2 (A6 J J (A4 ?_)))));refine k1 (k3 (D2 (X:=Nat) (fun i=>([(0,D3 File 2 S7 l),(1,Y9 p),(6,C3 i)],[])) (fun i=>i≤l.length∧I5 l p=I5 (l.drop i) p) (fun i=>l.length - i) 0 ⟨Nat.zero_le _,rfl⟩ (Sees.of ⟨le1 rfl,le1 rfl,le1 rfl,trivial⟩ trivial) ?_))
 rintro i ⟨hi,hf⟩
 dsimp only at hi hf ⊢
 refine k2 (k2 (A2 (A3 J J (A3 J J (E5 J J (F3 J J J (A4 ?_)))))));refine k1 ?_;refine B1 rfl (fun ht=>?_) (fun ht=>?_)
 rotate_left
 ·have h1:i=l.length:=by have h1:=A1 ht;(try dsimp only at h1);omega
  rw [L00 (by omega)] at hf
  rw [hf]
  refine k6 (k2 (A2 (A6 J J (A6 J J (A4 ?_)))));refine k1 (k10 ?_)
  exact B6 (rs:=[J6 [],H9 false]) (Z6 rfl rfl rfl rfl rfl) rfl
 have hlt:i < l.length:=by have h1:=A0 ht;(try dsimp only at h1);omega
 obtain ⟨f,hfe⟩:∃f,f=l[i]:=⟨_,rfl⟩
 have hv:l[i]?=some f:=by rw [hfe];simp [hlt]
 rw [K91 hlt,←hfe] at hf
 have hfs:I5 (f::l.drop (i+1)) p=if f.Path=p then some f.Blob else I5 (l.drop (i+1)) p:=rfl
 rw [hfs] at hf
 refine k5 (k1 (k2 (k3 (k2 (A2 (A3 J J (A3 J J (A5 (B2 J (.pure _ _ _ _) J (by omega) hv) J (A5 (B7 J) J (A5 (B0 J J) J (A3 J J (A5 (c9 J J) J (A4 ?_)))))))))))));refine k1 ?_;refine B1 rfl (fun ht=>?_) (fun ht=>?_)
 ·have h1:f.Path=p:=A0 ht
  rw [if_pos h1] at hf
  rw [hf]
  refine k2 (A2 (A3 J J (A3 J J (A5 (B2 J (.pure _ _ _ _) J (by omega) hv) J (A5 (B7 J) J (A5 (B0 J J) J (A6 J J (A6 J J (A4 ?_)))))))));refine k1 (k10 (k12 (k11 (k11 (k12 (k11 ?_))))))
  exact B6 (rs:=[J6 f.Blob,H9 true]) (Z6 rfl rfl rfl rfl rfl) rfl
 ·have h1:¬f.Path=p:=A1 ht
  rw [if_neg h1] at hf
  refine k5 (k4 (k1 (A2 (A3 J J (D6 J J J (A6 J J (A4 ?_)))))));refine k1 ?_
  exact ⟨i+1,⟨hlt,hf⟩,by omega,(Sees.of ⟨le1 rfl,le1 rfl,le1 rfl,trivial⟩ trivial)⟩
set_option maxHeartbeats 1000000
theorem G37 (f:FuncId) (pr:File→Bool) (l:List File) (hl:l.length≤1073741824) (hf:∀x∈l,FnOk Tryz.prog f [J23 x] (fun rs=>rs=[H9 (pr x)])) :
  FnOk Tryz.prog 152 [U9 l,.one (.v (.func (.func f) #[] #[]))] (fun rs=>∃i:Int,rs=[F2 i]∧decide (0≤i)=l.any pr):=by
 refine FnOk.intro Tryz.func152 (by decide) J J J J ?_
 refine k2 (A2 (A6 J J (A4 ?_)));refine k1 (k2 (k2 (A2 (A3 J J (E5 J J (A3 J J (A4 ?_)))))));refine k1 (k3 (D2 (X:=Nat) (fun i=>([(0,D3 File 2 S7 l),(1,I7 (.func (.func f) #[] #[])),(7,C3 l.length),(8,C3 i)],[])) (fun i=>i≤l.length∧(l.take i).any pr=false) (fun i=>l.length - i) 0 ⟨Nat.zero_le _,rfl⟩ (Sees.of ⟨le1 rfl,le1 rfl,le1 rfl,le1 rfl,trivial⟩ trivial) ?_))
 rintro i ⟨hi,hn⟩
 dsimp only at hi hn ⊢
 refine k2 (A2 (F3 J J J (A4 ?_)));refine k1 (k2 ?_);refine B1 rfl (fun ht=>?_) (fun ht=>?_)
 rotate_left
 ·have h1:i=l.length:=by have h1:=A1 ht;(try dsimp only at h1);omega
  rw [h1,K89] at hn
  refine k6 (k2 (A2 (A6 J J (A4 ?_))));refine k1 (k10 ?_)
  exact B6 (rs:=[F2 (-1)]) (H3 rfl rfl rfl) ⟨-1,rfl,by rw [hn];rfl⟩
 have hlt:i < l.length:=by have h1:=A0 ht;(try dsimp only at h1);omega
 obtain ⟨x,hx⟩:∃x,x=l[i]:=⟨_,rfl⟩
 have hv:l[i]?=some x:=by rw [hx];simp [hlt]
 have hfx:=hf x (by rw [hx];exact K85 hlt)
 refine k5 (k1 (k2 (k3 (k2 (A2 (A3 J J (A6 J J (A4 ?_))))))));refine k1 (k2 (A2 (A3 J J (A3 J J (A3 J J (A5 (B2 J (.pure _ _ _ _) J (by omega) hv) J (A5 (E2 J J) J (A5 (G35 (hfx) J J J) J (A4 ?_)))))))));refine k1 ?_;refine B1 rfl (fun ht=>?_) (fun ht=>?_)
 ·refine k2 (A2 (A3 J J (A6 J J (A4 ?_))));refine k1 (k10 (k12 (k11 (k11 (k12 (k11 ?_))))));refine B6 (rs:=[F2 i]) (H3 rfl rfl rfl) ⟨i,rfl,?_⟩
  rw [List.any_eq_true.2 ⟨x,by rw [hx];exact K85 hlt,ht⟩]
  exact decide_eq_true (by omega)
 ·refine k5 (k4 (k1 (A2 (D6 J J J (A3 J J (A4 ?_))))));refine k1 ?_;refine ⟨i+1,⟨hlt,?_⟩,by omega,(Sees.of ⟨le1 rfl,le1 rfl,le1 rfl,le1 rfl,trivial⟩ trivial)⟩
  rw [List.take_add_one,hv,Option.toList_some,L29,hn,Bool.false_or,List.any_cons,List.any_nil,Bool.or_false]
  exact ht
theorem B65 (f:FuncId) (pr:File→Bool) (l:List File) (hl:l.length≤1073741824) (hf:∀x∈l,FnOk Tryz.prog f [J23 x] (fun rs=>rs=[H9 (pr x)])) :
  FnOk Tryz.prog 131 [U9 l,.one (.v (.func (.func f) #[] #[]))] (fun rs=>rs=[H9 (l.any pr)]):=by
 refine FnOk.intro Tryz.func131 (by decide) J J J J ?_
 refine k2 (A2 (A6 J J (A4 ?_)));refine k1 (k2 (A2 (A3 J J (A3 J J (D7 (G37 f pr l hl hf) J J J ?_)))));rintro _ ⟨i,rfl,hi⟩;refine A5 (V4 J J) J (A6 J J (A4 ?_));refine k1 (k10 ?_)
 exact B6 (H3 rfl rfl rfl) (by rw [←hi])
theorem E69 (f:FuncId) (pr:Commit→Bool) (l:List Commit) (hl:l.length≤1073741824) (hf:∀x∈l,FnOk Tryz.prog f [D11 x] (fun rs=>rs=[H9 (pr x)])) :
  FnOk Tryz.prog 130 [J8 l,.one (.v (.func (.func f) #[] #[]))] (fun rs=>∃i:Int,rs=[F2 i]∧decide (0≤i)=l.any pr):=by
 refine FnOk.intro Tryz.func130 (by decide) J J J J ?_
 refine k2 (A2 (A6 J J (A4 ?_)));refine k1 (k2 (k2 (A2 (A3 J J (E5 J J (A3 J J (A4 ?_)))))));refine k1 (k3 (D2 (X:=Nat) (fun i=>([(0,D3 Commit 3 G6 l),(1,I7 (.func (.func f) #[] #[])),(7,C3 l.length),(8,C3 i)],[])) (fun i=>i≤l.length∧(l.take i).any pr=false) (fun i=>l.length - i) 0 ⟨Nat.zero_le _,rfl⟩ (Sees.of ⟨le1 rfl,le1 rfl,le1 rfl,le1 rfl,trivial⟩ trivial) ?_))
 rintro i ⟨hi,hn⟩
 dsimp only at hi hn ⊢
 refine k2 (A2 (F3 J J J (A4 ?_)));refine k1 (k2 ?_);refine B1 rfl (fun ht=>?_) (fun ht=>?_)
 rotate_left
 ·have h1:i=l.length:=by have h1:=A1 ht;(try dsimp only at h1);omega
  rw [h1,K89] at hn
  refine k6 (k2 (A2 (A6 J J (A4 ?_))));refine k1 (k10 ?_)
  exact B6 (rs:=[F2 (-1)]) (H3 rfl rfl rfl) ⟨-1,rfl,by rw [hn];rfl⟩
 have hlt:i < l.length:=by have h1:=A0 ht;(try dsimp only at h1);omega
 obtain ⟨x,hx⟩:∃x,x=l[i]:=⟨_,rfl⟩
 have hv:l[i]?=some x:=by rw [hx];simp [hlt]
 have hfx:=hf x (by rw [hx];exact K85 hlt)
 refine k5 (k1 (k2 (k3 (k2 (A2 (A3 J J (A6 J J (A4 ?_))))))));refine k1 (k2 (A2 (A3 J J (A3 J J (A3 J J (A5 (B2 J (.pure _ _ _ _) J (by omega) hv) J (A5 (E2 J J) J (A5 (G35 (hfx) J J J) J (A4 ?_)))))))));refine k1 ?_;refine B1 rfl (fun ht=>?_) (fun ht=>?_)
 ·refine k2 (A2 (A3 J J (A6 J J (A4 ?_))));refine k1 (k10 (k12 (k11 (k11 (k12 (k11 ?_))))));refine B6 (rs:=[F2 i]) (H3 rfl rfl rfl) ⟨i,rfl,?_⟩
  rw [List.any_eq_true.2 ⟨x,by rw [hx];exact K85 hlt,ht⟩]
  exact decide_eq_true (by omega)
 ·refine k5 (k4 (k1 (A2 (D6 J J J (A3 J J (A4 ?_))))));refine k1 ?_;refine ⟨i+1,⟨hlt,?_⟩,by omega,(Sees.of ⟨le1 rfl,le1 rfl,le1 rfl,le1 rfl,trivial⟩ trivial)⟩
  rw [List.take_add_one,hv,Option.toList_some,L29,hn,Bool.false_or,List.any_cons,List.any_nil,Bool.or_false]
  exact ht
theorem A65 (f:FuncId) (pr:Commit→Bool) (l:List Commit) (hl:l.length≤1073741824) (hf:∀x∈l,FnOk Tryz.prog f [D11 x] (fun rs=>rs=[H9 (pr x)])) :
  FnOk Tryz.prog 96 [J8 l,.one (.v (.func (.func f) #[] #[]))] (fun rs=>rs=[H9 (l.any pr)]):=by
 refine FnOk.intro Tryz.func96 (by decide) J J J J ?_
 refine k2 (A2 (A6 J J (A4 ?_)));refine k1 (k2 (A2 (A3 J J (A3 J J (D7 (E69 f pr l hl hf) J J J ?_)))));rintro _ ⟨i,rfl,hi⟩;refine A5 (V4 J J) J (A6 J J (A4 ?_));refine k1 (k10 ?_)
 exact B6 (H3 rfl rfl rfl) (by rw [←hi])
set_option maxHeartbeats 1000000
structure FewG (g:Graph):Prop where
 len:g.length≤1000
 pars:∀c∈g,c.Parents.length≤1048576
theorem J12 (l:List Int) (n:Int) (hl:l.length≤1073741824):FnOk Tryz.prog 48 [K2 l,F2 n] (fun rs=>rs=[H9 (decide (n∈l))]):=by
 refine FnOk.intro Tryz.func48 (by decide) J J J J ?_
 refine k2 (A2 (A6 J J (A4 ?_)));refine k1 (k2 (k2 (A2 (A6 J J (A4 ?_)))));refine k1 (k3 (D2 (X:=Nat) (fun i=>([(0,D3 Int 1 E4 l),(1,C3 n),(5,C3 i)],[])) (fun i=>i≤l.length∧n∉l.take i) (fun i=>l.length - i) 0 ⟨Nat.zero_le _,by simp⟩ (Sees.of ⟨le1 rfl,le1 rfl,le1 rfl,trivial⟩ trivial) ?_))
 rintro i ⟨hi,hf⟩
 dsimp only at hi hf ⊢
 refine k2 (k2 (A2 (A3 J J (A3 J J (E5 J J (F3 J J J (A4 ?_)))))));refine k1 ?_;refine B1 rfl (fun ht=>?_) (fun ht=>?_)
 rotate_left
 ·have h1:i=l.length:=by have h1:=A1 ht;(try dsimp only at h1);omega
  rw [h1,K89] at hf
  refine k6 (k2 (A2 (A6 J J (A4 ?_))));refine k1 (k10 ?_)
  exact B6 (rs:=[H9 false]) (H3 rfl rfl rfl) (by rw [decide_eq_false hf])
 have hlt:i < l.length:=by have h1:=A0 ht;(try dsimp only at h1);omega
 have hv:l[i]?=some l[i]:=by simp [hlt]
 refine k5 (k1 (k2 (k3 (k2 (A2 (A3 J J (A3 J J (A5 (B2 J (.pure _ _ _ _) J (by omega) hv) J (A5 (B0 J J) J (A3 J J (A5 (F7 J J) J (A4 ?_))))))))))));refine k1 ?_;refine B1 rfl (fun ht=>?_) (fun ht=>?_)
 ·have h1:l[i]=n:=A0 ht
  refine k2 (A2 (A6 J J (A4 ?_)));refine k1 (k10 (k12 (k11 (k11 (k12 (k11 ?_))))))
  exact B6 (rs:=[H9 true]) (H3 rfl rfl rfl) (by rw [decide_eq_true (h1 ▸ K85 hlt)])
 ·have h1:¬l[i]=n:=A1 ht
  refine k5 (k4 (k1 (A2 (A3 J J (D6 J J J (A6 J J (A4 ?_)))))));refine k1 ?_;refine ⟨i+1,⟨hlt,?_⟩,by omega,(Sees.of ⟨le1 rfl,le1 rfl,le1 rfl,trivial⟩ trivial)⟩
  rw [List.take_add_one,K82 hlt,Option.toList_some,L07,List.mem_singleton]
  rintro (h | h)
  ·exact hf h
  ·exact h1 h.symm
theorem D81 (ps:List Int) (l:List Bool) (i:Nat) (h:i < ps.length):V0 (ps.take (i+1)) l=(V0 (ps.take i) l).set ps[i].toNat true:=by
 unfold V0
 rw [List.take_add_one,K82 h,Option.toList_some,L27];rfl
theorem B13 {l:List Bool} {c:Nat} (h:c < l.length):l[c]?=some (J0 l c):=by
 unfold J0;rw [K82 h];rfl
theorem E70 {ps:List Int} {l:List Bool} {c i:Nat} (h:J0 l c=true):J0 (V0 (ps.take i) l) c=true:=(D61 _ _).2 c h
def C66 (g:Graph) (l:List Bool) (c:Nat):List Bool:=(List.range c).foldl (d8 g) l
theorem H12 (g:Graph) (l:List Bool) (c:Nat):C66 g l (c+1)=d8 g (C66 g l c) c:=by unfold C66;rw [L28,L27];rfl
theorem I18 (g:Graph) (l:List Bool) (c:Nat):(C66 g l c).length=l.length:=D60 g _ l
theorem E71 (g:Graph):∀(k:Nat) (l:List Bool),X1 g (k+1) l=C00 g (X1 g k l)
 | 0,_=>rfl
 | k+1,l=>by rw [X1,E71 g k];rfl
theorem F80 (g:Graph) (from':List Int) (hg:g.length≤1000) (hp:∀c∈g,c.Parents.length≤1048576) (hr:related g=true) (hf:∀f∈from',0≤f∧f < g.length) (hfl:from'.length≤1048576) :
  FnOk Tryz.prog 29 [J8 g,K2 from'] (fun rs=>rs=[G80 (O7 g from')]):=by
 have hpl:∀c,(E6 g c).length≤1048576:=fun c=>by
  by_cases hc:c < g.length
  ·rw [S8 hc];exact hp _ (K85 hc)
  ·rw [B17 hc];exact Nat.zero_le _
 refine FnOk.intro Tryz.func29 (by decide) J J J J ?_
 refine k2 (A2 (A6 J J (A4 ?_)));refine k1 (k2 (A2 (A3 J J (E5 J J (D1 (o5 753 Bool A12 false J J (by omega) (by omega) (fun _=>by first | exact ⟨⟨rfl,rfl⟩,trivial⟩ | exact ⟨H8 _ _ _,trivial⟩ | exact ⟨H8 _ _ _,⟨rfl,rfl⟩,H8 _ _ _,trivial⟩) (by first | rfl | (simp [K0,K3,Ob.free,SV.free,S1.free,TC.free]<;>rfl))) J ?_)))));refine A6 J J (A4 ?_);refine k1 (k2 (k2 (A2 (A6 J J (A4 ?_)))));refine k1 (k3 ?_)
 rw [K84]
 obtain ⟨z,hz⟩:∃z,z=List.replicate g.length false:=⟨_,rfl⟩
 have hzl:z.length=g.length:=by rw [hz];simp
 rw [←hz]
 refine D2 (X:=Nat) (fun i=>([(0,D3 Commit 3 G6 g),(1,D3 Int 1 E4 from'),(5,.s (.one (.mut 753))),(6,C3 i)],[(753,.arr Bool 1 A12 (V0 (from'.take i) z))])) (fun i=>i≤from'.length) (fun i=>from'.length - i) 0 (Nat.zero_le _) (Sees.of ⟨le1 rfl,le1 rfl,le1 rfl,le1 rfl,trivial⟩ ⟨rfl,trivial⟩) ?_
 intro i hi
 dsimp only at hi ⊢
 have hsl:=V1 (from'.take i) z
 refine k2 (k2 (A2 (A3 J J (A3 J J (E5 J J (F3 J J J (A4 ?_)))))));refine k1 ?_;refine B1 rfl (fun ht=>?_) (fun ht=>?_)
 ·have hlt:i < from'.length:=by have h1:=A0 ht;(try dsimp only at h1);omega
  have hv:from'[i]?=some from'[i]:=by simp [hlt]
  have hfr:=hf _ (K85 hlt)
  have hs:=D81 from' z i hlt
  obtain ⟨f,hfe⟩:∃f,f=from'[i]:=⟨_,rfl⟩
  rw [←hfe] at hv hfr hs
  refine k5 (k1 (k2 (k3 (A2 (A3 J J (A3 J J (A3 J J (A5 (B2 J (.pure _ _ _ _) J (by omega) hv) J (A5 (B0 J J) J (A5 (G4 J J J (by omega) (by (rw [hsl];omega))) J ?_))))))))));refine H1 (K9 TySz.out J J (by (rw [hsl];omega)) J J) ?_;refine A4 ?_;refine k4 (k1 (A2 (A3 J J (D6 J J J (A6 J J (A4 ?_))))));refine k1 ?_;refine ⟨i+1,by omega,by omega,?_⟩
  rw [hs]
  exact (Sees.of ⟨le1 rfl,le1 rfl,le1 rfl,le1 rfl,trivial⟩ ⟨rfl,trivial⟩)
 have hie:i=from'.length:=by have h1:=A1 ht;(try dsimp only at h1);omega
 rw [hie,K89]
 obtain ⟨z1,hz1⟩:∃z1,z1=V0 from' z:=⟨_,rfl⟩
 have hz1l:z1.length=g.length:=by rw [hz1,V1,hzl]
 have hres:O7 g from'=X1 g g.length z1:=by rw [hz1,hz];rfl
 rw [←hz1,hres]
 refine k6 (k2 (k2 (A2 (A6 J J (A4 ?_)))));refine k1 (k3 (D2 (X:=Nat) (fun k=>([(0,D3 Commit 3 G6 g),(5,.s (.one (.mut 753))),(7,C3 k)],[(753,.arr Bool 1 A12 (X1 g k z1))])) (fun k=>k≤g.length) (fun k=>g.length - k) 0 (Nat.zero_le _) (Sees.of ⟨le1 rfl,le1 rfl,le1 rfl,trivial⟩ ⟨rfl,trivial⟩) ?_))
 intro k hk
 dsimp only at hk ⊢
 refine k2 (k2 (A2 (A3 J J (A3 J J (E5 J J (F3 J J J (A4 ?_)))))));refine k1 ?_;refine B1 rfl (fun ht=>?_) (fun ht=>?_)
 rotate_left
 ·have hke:k=g.length:=by have h1:=A1 ht;(try dsimp only at h1);omega
  rw [hke]
  refine D8 (Sees.freeze (k:=753) J) ?_
  refine k6 (k2 (A2 (A3 J J (A6 J J (A4 ?_)))));refine k1 (k10 ?_)
  exact B6 (rs:=[G80 (X1 g g.length z1)]) (H3 rfl rfl rfl) rfl
 have hklt:k < g.length:=by have h1:=A0 ht;(try dsimp only at h1);omega
 have hnext:X1 g (k+1) z1=C66 g (X1 g k z1) g.length:=E71 g k z1
 obtain ⟨y,hy⟩:∃y,y=X1 g k z1:=⟨_,rfl⟩
 have hyl:y.length=g.length:=by rw [hy,C28,hz1l]
 rw [←hy] at hnext ⊢
 refine k5 (k1 (k2 (k3 (k2 (A2 (A6 J J (A4 ?_)))))));refine k1 (k3 (D2 (X:=Nat) (fun c=>([(0,D3 Commit 3 G6 g),(5,.s (.one (.mut 753))),(7,C3 k),(8,C3 c)],[(753,.arr Bool 1 A12 (C66 g y c))])) (fun c=>c≤g.length) (fun c=>g.length - c) 0 (Nat.zero_le _) (Sees.of ⟨le1 rfl,le1 rfl,le1 rfl,le1 rfl,trivial⟩ ⟨rfl,trivial⟩) ?_))
 intro c hc
 dsimp only at hc ⊢
 refine k2 (k2 (A2 (A3 J J (A3 J J (E5 J J (F3 J J J (A4 ?_)))))));refine k1 ?_;refine B1 rfl (fun ht=>?_) (fun ht=>?_)
 rotate_left
 ·have hce:c=g.length:=by have h1:=A1 ht;(try dsimp only at h1);omega
  rw [hce,←hnext]
  refine k6 (k7 (k7 (k8 J (k4 (k1 (A2 (A3 J J (D6 J J J (A6 J J (A4 ?_))))))))));refine k1 ?_
  exact ⟨k+1,by omega,by omega,(Sees.of ⟨le1 rfl,le1 rfl,le1 rfl,trivial⟩ ⟨rfl,trivial⟩)⟩
 have hclt:c < g.length:=by have h1:=A0 ht;(try dsimp only at h1);omega
 have hsuc:=H12 g y c
 obtain ⟨x,hx⟩:∃x,x=C66 g y c:=⟨_,rfl⟩
 have hxl:x.length=g.length:=by rw [hx,I18,hyl]
 rw [←hx] at hsuc ⊢
 obtain ⟨cm,hcm⟩:∃cm,cm=g[c]:=⟨_,rfl⟩
 have hvc:g[c]?=some cm:=by rw [hcm];simp [hclt]
 have hps:E6 g c=cm.Parents:=by rw [S8 hclt,hcm]
 have hpr:=(K6 hr c).1
 have hpc:=hpl c
 rw [hps] at hpr hpc
 refine k5 (k1 (k2 (k3 (k2 (A2 (A6 J J (A4 ?_)))))));refine k1 (k3 (D2 (X:=Nat) (fun p=>([(0,D3 Commit 3 G6 g),(5,.s (.one (.mut 753))),(7,C3 k),(8,C3 c),(9,C3 p)],[(753,.arr Bool 1 A12 (if J0 x c=true then V0 (cm.Parents.take p) x else x))])) (fun p=>p≤cm.Parents.length∧(J0 x c=false→p=0)) (fun p=>cm.Parents.length - p) 0 ⟨Nat.zero_le _,fun _=>rfl⟩ (by split<;>exact (Sees.of ⟨le1 rfl,le1 rfl,le1 rfl,le1 rfl,le1 rfl,trivial⟩ ⟨rfl,trivial⟩)) ?_))
 rintro p ⟨hp1,hp2⟩
 dsimp only at hp1 hp2 ⊢
 obtain ⟨u,hu⟩:∃u,u=(if J0 x c=true then V0 (cm.Parents.take p) x else x):=⟨_,rfl⟩
 have hul:u.length=g.length:=by rw [hu];split;rw [V1,hxl];exact hxl
 have huo:J0 u c=J0 x c:=by
  rw [hu]
  cases ho:J0 x c
  ·simp [ho]
  ·simp only [if_true];exact E70 ho
 have hvo:u[((c:Nat):Int).toNat]?=some (J0 x c):=by rw [K84,B13 (by omega),huo]
 rw [←hu]
 refine k2 (k2 (A2 (A3 J J (A3 J J (A3 J J (A5 (B2 J (.pure _ _ _ _) J (by omega) hvc) J (A5 (B7 J) J (A5 (B0 J J) J (E5 J J (F3 J J J (A3 J J (B3 J J J J (fun hg=>by rw [hg];exact B9 J J) ?_))))))))))));refine B3 J J J J (fun hg=>by rw [hg];exact B9 J J) ?_;refine B3 J J J J (fun hg=>by have hq:=hg;(try simp at hq);rw [hg];exact G4 J J J (by omega) (by (rw [hul];omega))) ?_;refine B3 J J J J (fun hg=>by rw [hg];exact N7 J J hvo J) ?_;refine K4 J J ?_;refine A4 ?_;refine k1 ?_;refine B1 rfl (fun ht=>?_) (fun ht=>?_)
 ·rw [A20,K83,decide_eq_true_eq] at ht
  have hplt:p < cm.Parents.length:=by omega
  have hvp:cm.Parents[p]?=some cm.Parents[p]:=by simp [hplt]
  have hpb:=hpr _ (K85 hplt)
  have hs:=D81 cm.Parents x p hplt
  rw [hu,if_pos ht.2] at hul
  rw [hu,if_pos ht.2]
  obtain ⟨q,hq⟩:∃q,q=cm.Parents[p]:=⟨_,rfl⟩
  rw [←hq] at hvp hpb hs
  refine k5 (k1 (k2 (k3 (A2 (A3 J J (A3 J J (A3 J J (A5 (B2 J (.pure _ _ _ _) J (by omega) hvc) J (A5 (B7 J) J (A5 (B0 J J) J (A3 J J (A5 (B2 J (.pure _ _ _ _) J (by omega) hvp) J (A5 (B0 J J) J (A5 (G4 J J J (by omega) (by (rw [hul];omega))) J ?_))))))))))))));refine H1 (K9 TySz.out J J (by (rw [hul];omega)) J J) ?_;refine A4 ?_;refine k4 (k1 (A2 (A3 J J (D6 J J J (A6 J J (A4 ?_))))));refine k1 ?_;refine ⟨p+1,⟨by omega,fun e=>by rw [ht.2] at e;cases e⟩,by omega,?_⟩
  rw [if_pos ht.2,hs]
  exact (Sees.of ⟨le1 rfl,le1 rfl,le1 rfl,le1 rfl,le1 rfl,trivial⟩ ⟨rfl,trivial⟩)
 ·rw [A20,Bool.and_eq_false_iff,decide_eq_false_iff_not] at ht
  have hst:u=d8 g x c:=by
   rw [hu]
   unfold d8
   rw [hps]
   cases ho:J0 x c
   ·rfl
   ·have:p=cm.Parents.length:=by
     rcases ht with h1 | h1
     ·omega
     ·rw [ho] at h1;cases h1
    rw [this,K89]
  rw [hst,←hsuc]
  refine k6 (k7 (k7 (k8 J (k4 (k1 (A2 (A3 J J (D6 J J J (A6 J J (A4 ?_))))))))));refine k1 ?_
  exact ⟨c+1,by omega,by omega,(Sees.of ⟨le1 rfl,le1 rfl,le1 rfl,le1 rfl,trivial⟩ ⟨rfl,trivial⟩)⟩
def p5 (g:Graph) (c:Int) (k:Nat):List Int:=((List.range k).filter fun i=>decide (c∈E6 g i)).map fun i:Nat=>(i:Int)
theorem H13 (g:Graph) (c:Int) (k:Nat):p5 g c (k+1)=if c∈E6 g k then p5 g c k++[(k:Int)] else p5 g c k:=by
 unfold p5
 rw [L28,L32,L08]
 by_cases h:c∈E6 g k<;>simp [h]
theorem E72 (g:Graph) (c:Int) (k:Nat):(p5 g c k).length≤k:=by
 unfold p5
 rw [L04]
 have:=List.length_filter_le (fun i=>decide (c∈E6 g i)) (List.range k)
 rwa [L15] at this
theorem K22 (g:Graph) (c:Int) (hg:g.length≤1000) (hp:∀c∈g,c.Parents.length≤1048576) :
  FnOk Tryz.prog 50 [J8 g,F2 c] (fun rs=>rs=[K2 (p5 g c g.length)]):=by
 refine FnOk.intro Tryz.func50 (by decide) J J J J ?_
 refine k2 (A2 (A6 J J (A4 ?_)));refine k1 (k2 (A2 (D1 (S9 5 _ E4 J) J (A4 ?_))));refine k1 (k2 (k2 (A2 (A6 J J (A4 ?_)))));refine k1 (k3 (D2 (X:=Nat) (fun k=>([(0,D3 Commit 3 G6 g),(1,C3 c),(5,.s (.one (.buf 5 Int 1 E4 (p5 g c k)))),(6,C3 k)],[(5,.spare (p5 g c k).length 1 3)])) (fun k=>k≤g.length) (fun k=>g.length - k) 0 (Nat.zero_le _) (Sees.of ⟨le1 rfl,le1 rfl,le1 rfl,le1 rfl,trivial⟩ ⟨rfl,trivial⟩) ?_))
 intro k hk
 dsimp only at hk ⊢
 have hkl:=E72 g c k
 refine k2 (k2 (A2 (A3 J J (A3 J J (E5 J J (F3 J J J (A4 ?_)))))));refine k1 ?_;refine B1 rfl (fun ht=>?_) (fun ht=>?_)
 rotate_left
 ·have hke:k=g.length:=by have h1:=A1 ht;(try dsimp only at h1);omega
  rw [hke]
  refine k6 (k2 (A2 (A3 J J (A6 J J (A4 ?_)))));refine k1 (k10 ?_)
  exact B6 (rs:=[K2 (p5 g c g.length)]) (H3 rfl rfl rfl) rfl
 have hlt:k < g.length:=by have h1:=A0 ht;(try dsimp only at h1);omega
 obtain ⟨cm,hcm⟩:∃cm,cm=g[k]:=⟨_,rfl⟩
 have hv:g[k]?=some cm:=by rw [hcm];simp [hlt]
 have hps:E6 g k=cm.Parents:=by rw [S8 hlt,hcm]
 have hpc:=hp cm (by rw [hcm];exact K85 hlt)
 have hs:=H13 g c k
 rw [hps] at hs
 refine k5 (k1 (k2 (k3 (k2 (A2 (A3 J J (A3 J J (A5 (B2 J (.pure _ _ _ _) J (by omega) hv) J (A5 (B7 J) J (A5 (B0 J J) J (A3 J J (D7 (J12 cm.Parents c (by omega)) J J J ?_))))))))))));rintro _ rfl;refine A4 ?_;refine k1 ?_;refine B1 rfl (fun ht=>?_) (fun ht=>?_)
 ·have h1:=A0 ht
  rw [if_pos h1] at hs
  skip
  refine A2 (A3 J J (A3 J J (A5 (C5 (c:=E4) (ys:=[(k:Int)]) (E0 J J J J G5) J J J) J (D1 (J7 J J J (.pure _ _ _ _) (by (simp only [K87,K90];omega)) J) J (A6 J J (A4 ?_))))));refine k4 (k1 (A2 (A3 J J (D6 J J J (A6 J J (A4 ?_))))));refine k1 ?_;refine ⟨k+1,by omega,by omega,?_⟩
  rw [hs]
  exact (Sees.of ⟨le1 rfl,le1 rfl,le1 rfl,le1 rfl,trivial⟩ ⟨rfl,trivial⟩)
 ·have h1:=A1 ht
  rw [if_neg h1] at hs
  refine k5 (k4 (k1 (A2 (A3 J J (D6 J J J (A6 J J (A4 ?_)))))));refine k1 ?_;refine ⟨k+1,by omega,by omega,?_⟩
  rw [hs]
  exact (Sees.of ⟨le1 rfl,le1 rfl,le1 rfl,le1 rfl,trivial⟩ ⟨rfl,trivial⟩)
set_option maxHeartbeats 1000000
theorem J53 (l:List Int) (n:Int) (hl:l.length≤1073741824):FnOk Tryz.prog 151 [K2 l,F2 n] (fun rs=>∃i:Int,rs=[F2 i]∧decide (0≤i)=decide (n∈l)):=by
 refine FnOk.intro Tryz.func151 (by decide) J J J J ?_
 refine k2 (A2 (A6 J J (A4 ?_)));refine k1 (k2 (k2 (A2 (A3 J J (E5 J J (A3 J J (A4 ?_)))))));refine k1 (k3 (D2 (X:=Nat) (fun i=>([(0,D3 Int 1 E4 l),(1,C3 n),(7,C3 l.length),(8,C3 i)],[])) (fun i=>i≤l.length∧n∉l.take i) (fun i=>l.length - i) 0 ⟨Nat.zero_le _,by simp⟩ (Sees.of ⟨le1 rfl,le1 rfl,le1 rfl,le1 rfl,trivial⟩ trivial) ?_))
 rintro i ⟨hi,hf⟩
 dsimp only at hi hf ⊢
 refine k2 (A2 (F3 J J J (A4 ?_)));refine k1 (k2 ?_);refine B1 rfl (fun ht=>?_) (fun ht=>?_)
 rotate_left
 ·have h1:i=l.length:=by have h1:=A1 ht;(try dsimp only at h1);omega
  rw [h1,K89] at hf
  refine k6 (k2 (A2 (A6 J J (A4 ?_))));refine k1 (k10 ?_)
  exact B6 (rs:=[F2 (-1)]) (H3 rfl rfl rfl) ⟨-1,rfl,by rw [decide_eq_false hf];rfl⟩
 have hlt:i < l.length:=by have h1:=A0 ht;(try dsimp only at h1);omega
 have hv:l[i]?=some l[i]:=by simp [hlt]
 refine k5 (k1 (k2 (k3 (k2 (A2 (A3 J J (A6 J J (A4 ?_))))))));refine k1 (k2 (A2 (A3 J J (A3 J J (A3 J J (A5 (B2 J (.pure _ _ _ _) J (by omega) hv) J (A5 (B0 J J) J (A5 (F7 J J) J (A4 ?_)))))))));refine k1 ?_;refine B1 rfl (fun ht=>?_) (fun ht=>?_)
 ·have h1:n=l[i]:=A0 ht
  refine k2 (A2 (A3 J J (A6 J J (A4 ?_))));refine k1 (k10 (k12 (k11 (k11 (k12 (k11 ?_))))));refine B6 (rs:=[F2 i]) (H3 rfl rfl rfl) ⟨i,rfl,?_⟩
  rw [decide_eq_true (show n∈l from h1 ▸ K85 hlt)]
  exact decide_eq_true (by omega)
 ·have h1:¬n=l[i]:=A1 ht
  refine k5 (k4 (k1 (A2 (D6 J J J (A3 J J (A4 ?_))))));refine k1 ?_;refine ⟨i+1,⟨hlt,?_⟩,by omega,(Sees.of ⟨le1 rfl,le1 rfl,le1 rfl,le1 rfl,trivial⟩ trivial)⟩
  rw [List.take_add_one,K82 hlt,Option.toList_some,L07,List.mem_singleton]
  rintro (h | h)
  ·exact hf h
  ·exact h1 h
theorem G38 (l:List Int) (n:Int) (hl:l.length≤1073741824):FnOk Tryz.prog 129 [K2 l,F2 n] (fun rs=>rs=[H9 (decide (n∈l))]):=by
 refine FnOk.intro Tryz.func129 (by decide) J J J J ?_
 refine k2 (A2 (A6 J J (A4 ?_)));refine k1 (k2 (A2 (A3 J J (A3 J J (D7 (J53 l n hl) J J J ?_)))));rintro _ ⟨i,rfl,hi⟩;refine A5 (V4 J J) J (A6 J J (A4 ?_));refine k1 (k10 ?_)
 exact B6 (H3 rfl rfl rfl) (by rw [←hi])
theorem G39 (c:Commit) (hc:c.Parents.length≤1073741824):FnOk Tryz.prog 128 [D11 c] (fun rs=>rs=[H9 (decide (c.Parents.length > 32))]):=by
 refine FnOk.intro Tryz.func128 (by decide) J J J J ?_
 refine k2 (A2 (D1 (i6 1 J J J) J (A6 J J (A4 ?_))));refine k1 (k2 (A2 (A5 (A7 J) J (G7 J J J J (E5 J J (A5 (N4 J J) J (A6 J J (A4 ?_))))))));refine k1 (k10 ?_)
 exact B6 (H3 rfl rfl rfl) (congrArg (fun b=>[H9 b]) (decide_eq_decide.2 ⟨fun h=>by omega,fun h=>by omega⟩))
theorem H14 (g:Graph) (hf:FewG g) (hgl:g.length≤1073741824):FnOk Tryz.prog 93 [J8 g] (fun rs=>rs=[H9 (W6 g)]):=by
 refine FnOk.intro Tryz.func93 (by decide) J J J J ?_
 refine k2 (A2 (A6 J J (A4 ?_)));refine k1 (k2 (A2 (A3 J J (E5 J J (A5 (B74 J J) J (A3 J J (B3 J J J J (fun hg=>by rw [hg];exact B9 J J) ?_)))))));refine B3 J J J J (fun hg=>by have hq:=hg;(try simp at hq);rw [hg];exact O6 (A65 128 (fun c=>decide (c.Parents.length > 32)) g hgl (fun c hc=>G39 c (by have:=hf.pars c hc;omega))) J J) ?_;refine B3 J J J J (fun hg=>by rw [hg];exact Q8 J) ?_;refine K4 J J ?_;refine A6 J J (A4 ?_);refine k1 (k10 (B6 (H3 J J J) ?_))
 unfold W6
 rw [A20,show decide ((g.length:Int)≤300)=decide (g.length≤300) from decide_eq_decide.2 (by omega)]
theorem I19 (c:Commit):FnOk Tryz.prog 97 [D11 c] (fun rs=>rs=[H9 (decide (c.Date < 0∨c.Date > 2147483647))]):=by
 refine FnOk.intro Tryz.func97 (by decide) J J J J ?_
 refine k2 (A2 (D1 (i6 1 J J J) J (A6 J J (A4 ?_))));refine k1 (k2 (A2 (A5 (A7 J) J (G7 J J J J (F3 J J J (A3 J J (B3 J J J J (fun hg=>by rw [hg];exact A7 J) ?_)))))));refine B3 J J J J (fun hg=>by rw [hg];exact C9 J J J) ?_;refine B3 J J J J (fun hg=>by rw [hg];exact N4 J J) ?_;refine K4 J J ?_;refine A6 J J (A4 ?_);refine k1 (k10 (B6 (H3 J J J) ?_))
 rw [or_pick]
theorem dis_ok (g:Graph) (c:Int):FnOk Tryz.prog 63 [J8 g,F2 c] (fun rs=>rs=[H9 (decide (U6 g c))]):=by
 refine FnOk.intro Tryz.func63 (by decide) J J J J ?_
 refine k2 (A2 (A6 J J (A4 ?_)));refine k1 (k2 (A2 (A3 J J (A5 (V4 J J) J (A3 J J (B3 J J J J (fun hg=>by rw [hg];exact B9 J J) ?_))))));refine B3 J J J J (fun hg=>by rw [hg];exact B9 J J) ?_;refine B3 J J J J (fun hg=>by rw [hg];exact Z2 J (.pure _ _ _ _)) ?_;refine B3 J J J J (fun hg=>by rw [hg];exact B08 J J) ?_;refine K4 J J ?_;refine A6 J J (A4 ?_);refine k1 (k10 (B6 (H3 J J J) ?_))
 rw [and_pick]
 rfl
theorem H15 (g:Graph) (hf:FewG g) (hg:g.length≤1073741824):FnOk Tryz.prog 94 [J8 g] (fun rs=>rs=[H9 (related g)]):=by
 refine FnOk.intro Tryz.func94 (by decide) J J J J ?_
 refine k2 (A2 (A6 J J (A4 ?_)));refine k1 (k2 (k2 (A2 (A3 J J (E5 J J (A3 J J (A4 ?_)))))));refine k1 (k3 (D2 (X:=Nat) (fun i=>([(0,D3 Commit 3 G6 g),(7,D3 Commit 3 G6 g),(8,C3 g.length),(9,C3 i)],[])) (fun i=>i≤g.length∧((g.take i).all fun c=>A21 g.length [] c.Parents)=true) (fun i=>g.length - i) 0 ⟨Nat.zero_le _,rfl⟩ (Sees.of ⟨le1 rfl,le1 rfl,le1 rfl,le1 rfl,trivial⟩ trivial) ?_))
 rintro i ⟨hi,ha⟩
 dsimp only at hi ha ⊢
 refine k2 (A2 (F3 J J J (A4 ?_)));refine k1 (k2 ?_);refine B1 rfl (fun ht=>?_) (fun ht=>?_)
 rotate_left
 ·have h1:i=g.length:=by have h1:=A1 ht;(try dsimp only at h1);omega
  rw [h1,K89] at ha
  refine k6 (k2 (A2 (A6 J J (A4 ?_))));refine k1 (k10 ?_)
  exact B6 (rs:=[H9 true]) (H3 rfl rfl rfl) (by unfold related;rw [ha])
 have hlt:i < g.length:=by have h1:=A0 ht;(try dsimp only at h1);omega
 obtain ⟨c,hc⟩:∃c,c=g[i]:=⟨_,rfl⟩
 have hv:g[i]?=some c:=by rw [hc];simp [hlt]
 have hpl:=hf.pars c (by rw [hc];exact K85 hlt)
 have hbad:A21 g.length [] c.Parents=false→[H9 false]=[H9 (related g)]:=fun h=>by
  have:related g=false:=by
   unfold related
   rw [List.all_eq_false]
   exact ⟨c,by rw [hc];exact K85 hlt,by rw [h];decide⟩
  rw [this]
 refine k5 (k1 (k2 (k3 (k2 (A2 (A5 (B2 J (.pure _ _ _ _) J (by omega) hv) J (A5 (E2 J J) J (D1 (I4 4 J) J (H1 (C1 TySz.out J J J J J J) (A4 ?_))))))))));refine k1 (k2 (A2 (A5 (A7 J) J (G7 J J J J (E5 J J (A3 J J (A4 ?_)))))));refine k1 (k3 (D2 (X:=Nat) (fun k=>([(0,D3 Commit 3 G6 g),(4,.s (.one (.ref 4 0))),(7,D3 Commit 3 G6 g),(8,C3 g.length),(9,C3 i),(14,D3 Int 1 E4 c.Parents),(15,C3 c.Parents.length),(16,C3 k)],[(4,.box (D11 c).s1.cells)])) (fun k=>k≤c.Parents.length∧A21 g.length [] c.Parents=A21 g.length (c.Parents.take k) (c.Parents.drop k)) (fun k=>c.Parents.length - k) 0 ⟨Nat.zero_le _,rfl⟩ (Sees.of ⟨le1 rfl,le1 rfl,le1 rfl,le1 rfl,le1 rfl,le1 rfl,le1 rfl,le1 rfl,trivial⟩ ⟨rfl,trivial⟩) ?_))
 rintro k ⟨hk,hr⟩
 dsimp only at hk hr ⊢
 refine k2 (A2 (F3 J J J (A4 ?_)));refine k1 (k2 ?_);refine B1 rfl (fun ht=>?_) (fun ht=>?_)
 rotate_left
 ·have h1:k=c.Parents.length:=by have h1:=A1 ht;(try dsimp only at h1);omega
  rw [h1,List.drop_length] at hr
  refine k6 (k7 (k7 (k8 J (k4 (k1 (A2 (D6 J J J (A3 J J (A4 ?_)))))))));refine k1 ?_;refine ⟨i+1,⟨hlt,?_⟩,by omega,(Sees.of ⟨le1 rfl,le1 rfl,le1 rfl,le1 rfl,trivial⟩ trivial)⟩
  rw [List.take_add_one,hv,Option.toList_some,L25,ha,Bool.true_and,List.all_cons,List.all_nil,Bool.and_true,hr]
  rfl
 have hklt:k < c.Parents.length:=by have h1:=A0 ht;(try dsimp only at h1);omega
 have hvp:c.Parents[k]?=some c.Parents[k]:=by simp [hklt]
 rw [K91 hklt] at hr
 obtain ⟨p,hp⟩:∃p,p=c.Parents[k]:=⟨_,rfl⟩
 rw [←hp] at hvp hr
 have htk:c.Parents.take (k+1)=c.Parents.take k++[p]:=by rw [List.take_add_one,hvp,Option.toList_some]
 rw [A21,←htk] at hr
 refine k5 (k1 (k2 (k3 (k2 (A2 (A3 J J (A5 (B2 J (.pure _ _ _ _) J (by omega) hvp) J (A5 (B0 J J) J (A6 J J (A6 J J (A4 ?_)))))))))));refine k1 (k2 (A2 (A3 J J (F3 J J J (A3 J J (B3 J J J J (fun hg=>by rw [hg];exact B9 J J) ?_))))));refine B3 J J J J (fun hg=>by rw [hg];exact B9 J J) ?_;refine B3 J J J J (fun hg=>by rw [hg];exact Z2 J (.pure _ _ _ _)) ?_;refine B3 J J J J (fun hg=>by rw [hg];exact V4 J J) ?_;refine K4 J J ?_;refine A3 J J (B3 J J J J (fun hg=>by rw [hg];exact A7 J) ?_);refine B3 J J J J (fun hg=>by rw [hg];exact C9 J J J) ?_;refine B3 J J J J (fun hg=>by rw [hg];exact B9 J J) ?_;refine B3 J J J J (fun hg=>by have hq:=hg;(try simp at hq);rw [hg];exact F66 J (.pure _ _ _ _) J (by omega) (by omega)) ?_;refine B3 J J J J (fun hg=>by rw [hg];exact B9 J J) ?_;refine B3 J J J J (fun hg=>by have hq:=hg;(try simp at hq);rw [hg];exact O6 (G38 (c.Parents.take ((k:Nat):Int).toNat) p (by rw [K92];omega)) J J) ?_;refine K4 J J ?_;refine A4 ?_;refine k1 ?_
 rw [K84,F03,F03]
 refine B1 rfl (fun ht=>?_) (fun ht=>?_)
 ·rw [L02,L02,decide_eq_true_eq,decide_eq_true_eq,decide_eq_true_eq] at ht
  have h1:decide (0≤p∧p < (g.length:Int)∧p∉c.Parents.take k)=false:=by
   rw [decide_eq_false_iff_not]
   rintro ⟨a1,a2,a3⟩
   rcases ht with (h | h) | h
   ·omega
   ·omega
   ·exact a3 h
  rw [h1,Bool.false_and] at hr
  refine k2 (A2 (A6 J J (A4 ?_)));refine k1 (k10 (k12 (k11 (k11 (k12 (k12 (k11 (k11 (k12 (k11 ?_))))))))))
  exact B6 (rs:=[H9 false]) (H3 rfl rfl rfl) (hbad hr)
 ·rw [L14,L14,decide_eq_false_iff_not,decide_eq_false_iff_not,decide_eq_false_iff_not] at ht
  have h1:decide (0≤p∧p < (g.length:Int)∧p∉c.Parents.take k)=true:=decide_eq_true ⟨by omega,by omega,ht.2⟩
  rw [h1,Bool.true_and] at hr
  refine k5 (k4 (k1 (A2 (D6 J J J (A3 J J (A4 ?_))))));refine k1 ?_
  exact ⟨k+1,⟨hklt,hr⟩,by omega,(Sees.of ⟨le1 rfl,le1 rfl,le1 rfl,le1 rfl,le1 rfl,le1 rfl,le1 rfl,le1 rfl,trivial⟩ ⟨rfl,trivial⟩)⟩
theorem G40 (ps l:List Int) (k:Nat) (h:k < ps.length):X7 (ps.take (k+1)) l=bump (X7 (ps.take k) l) ps[k]:=by
 unfold X7
 rw [List.take_add_one,K82 h,Option.toList_some,L27];rfl
theorem C67 {l:List Int} {p:Int} (h:0≤p∧p < l.length):l[p.toNat]?=some (atG l p.toNat):=by
 unfold atG;rw [K82 (by omega)];rfl
theorem I20 {ps:List Int} {l:List Int} {p:Nat} (hr:∀p∈ps,0≤p∧p < l.length) (hn:ps.Nodup):atG l p≤atG (X7 ps l) p∧atG (X7 ps l) p≤atG l p+1:=by
 rw [C79 (n:=0) hr hn];split<;>omega
theorem H16 {g:Graph} (hr:related g=true) {i p:Nat} (hi:i≤g.length) (hp:p < g.length):0≤atG (P4 g i) p∧atG (P4 g i) p≤i:=by
 rw [C03 hr p hp i hi]
 have:=List.countP_le_length (p:=fun c=>decide ((p:Int)∈E6 g c)) (l:=List.range i)
 rw [L15] at this
 omega
theorem I21 (g:Graph) (hf:FewG g) (hr:related g=true):FnOk Tryz.prog 95 [J8 g] (fun rs=>∃ch out,rs=[K2 out]∧KInv g out.length 0 ch out):=by
 have hg:=hf.len
 refine FnOk.intro Tryz.func95 (by decide) J J J J ?_
 refine k2 (A2 (A6 J J (A4 ?_)));refine k1 (k2 (A2 (A3 J J (E5 J J (D1 (o5 753 Int E4 0 J J (by omega) (by omega) (fun _=>by first | exact ⟨⟨rfl,rfl⟩,trivial⟩ | exact ⟨H8 _ _ _,trivial⟩ | exact ⟨H8 _ _ _,⟨rfl,rfl⟩,H8 _ _ _,trivial⟩) (by first | rfl | (simp [K0,K3,Ob.free,SV.free,S1.free,TC.free]<;>rfl))) J ?_)))));refine A6 J J (A4 ?_);refine k1 (k2 (k2 (A2 (A3 J J (E5 J J (A3 J J (A4 ?_)))))));refine k1 (k3 ?_)
 rw [K84]
 refine D2 (X:=Nat) (fun i=>([(0,D3 Commit 3 G6 g),(3,.s (.one (.mut 753))),(17,D3 Commit 3 G6 g),(18,C3 g.length),(19,C3 i)],[(753,.arr Int 1 E4 (P4 g i))])) (fun i=>i≤g.length) (fun i=>g.length - i) 0 (Nat.zero_le _) (Sees.of ⟨le1 rfl,le1 rfl,le1 rfl,le1 rfl,le1 rfl,trivial⟩ ⟨rfl,trivial⟩) ?_
 intro i hi
 dsimp only at hi ⊢
 refine k2 (A2 (F3 J J J (A4 ?_)));refine k1 (k2 ?_);refine B1 rfl (fun ht=>?_) (fun ht=>?_)
 ·have hlt:i < g.length:=by have h1:=A0 ht;(try dsimp only at h1);omega
  obtain ⟨c,hc⟩:∃c,c=g[i]:=⟨_,rfl⟩
  have hv:g[i]?=some c:=by rw [hc];simp [hlt]
  have hps:E6 g i=c.Parents:=by rw [S8 hlt,hc]
  have hpr:=K6 hr i
  have hpl:=hf.pars c (by rw [hc];exact K85 hlt)
  have hs:=C55 hlt
  rw [hps] at hpr hs
  have hcl:=A29 g i
  have hhi:=fun p (hp:p < g.length)=>H16 hr (i:=i) (p:=p) (by omega) hp
  obtain ⟨z,hz⟩:∃z,z=P4 g i:=⟨_,rfl⟩
  rw [←hz] at hs hcl hhi ⊢
  refine k5 (k1 (k2 (k3 (k2 (A2 (A5 (B2 J (.pure _ _ _ _) J (by omega) hv) J (A5 (E2 J J) J (D1 (I4 5 J) J (H1 (C1 TySz.out J J J J J J) (A4 ?_))))))))));refine k1 (k2 (A2 (A5 (A7 J) J (G7 J J J J (E5 J J (A3 J J (A4 ?_)))))));refine k1 (k3 (D2 (X:=Nat) (fun k=>([(0,D3 Commit 3 G6 g),(3,.s (.one (.mut 753))),(17,D3 Commit 3 G6 g),(18,C3 g.length),(19,C3 i),(24,D3 Int 1 E4 c.Parents),(25,C3 c.Parents.length),(26,C3 k)],[(753,.arr Int 1 E4 (X7 (c.Parents.take k) z))])) (fun k=>k≤c.Parents.length) (fun k=>c.Parents.length - k) 0 (Nat.zero_le _) (Sees.of ⟨le1 rfl,le1 rfl,le1 rfl,le1 rfl,le1 rfl,le1 rfl,le1 rfl,le1 rfl,trivial⟩ ⟨rfl,trivial⟩) ?_))
  intro k hk
  dsimp only at hk ⊢
  have hbl:=C02 (c.Parents.take k) z
  refine k2 (A2 (F3 J J J (A4 ?_)));refine k1 (k2 ?_);refine B1 rfl (fun ht=>?_) (fun ht=>?_)
  rotate_left
  ·have h1:k=c.Parents.length:=by have h1:=A1 ht;(try dsimp only at h1);omega
   rw [h1,K89,←hs]
   refine k6 (k7 (k7 (k8 J (k4 (k1 (A2 (D6 J J J (A3 J J (A4 ?_)))))))));refine k1 ?_
   exact ⟨i+1,hlt,by omega,(Sees.of ⟨le1 rfl,le1 rfl,le1 rfl,le1 rfl,le1 rfl,trivial⟩ ⟨rfl,trivial⟩)⟩
  have hklt:k < c.Parents.length:=by have h1:=A0 ht;(try dsimp only at h1);omega
  have hvp:c.Parents[k]?=some c.Parents[k]:=by simp [hklt]
  have hpb:=hpr.1 _ (K85 hklt)
  have hsn:=G40 c.Parents z k hklt
  obtain ⟨p,hp⟩:∃p,p=c.Parents[k]:=⟨_,rfl⟩
  rw [←hp] at hvp hpb hsn
  have hb:=I20 (ps:=c.Parents.take k) (l:=z) (p:=p.toNat) (fun q hq=>by rw [hcl];exact hpr.1 q (List.mem_of_mem_take hq)) (hpr.2.sublist (List.take_sublist _ _))
  have hh:=hhi p.toNat (by omega)
  have hva:=C67 (l:=X7 (c.Parents.take k) z) (p:=p) (by rw [hbl,hcl];exact hpb)
  refine k5 (k1 (k2 (k3 (k2 (A2 (A5 (B2 J (.pure _ _ _ _) J (by omega) hvp) J (A5 (B0 J J) J (A6 J J (A4 ?_)))))))));refine k1 (A2 (A3 J J (A3 J J (A5 (G4 J J J (by omega) (by (rw [hbl];omega))) J ?_))));refine A5 (N7 J J hva J) J (D6 J J J (A5 (G4 J J J (by omega) (by (rw [hbl];omega))) J ?_));refine H1 (K9 TySz.out J J (by (rw [hbl];omega)) J J) ?_;refine A4 ?_;refine k4 (k1 (A2 (D6 J J J (A3 J J (A4 ?_)))));refine k1 ?_;refine ⟨k+1,by omega,by omega,?_⟩
  rw [hsn]
  exact (Sees.of ⟨le1 rfl,le1 rfl,le1 rfl,le1 rfl,le1 rfl,le1 rfl,le1 rfl,le1 rfl,trivial⟩ ⟨rfl,trivial⟩)
 have hie:i=g.length:=by have h1:=A1 ht;(try dsimp only at h1);omega
 rw [hie]
 have hst:=KInv.start hr
 obtain ⟨z,hz⟩:∃z,z=P4 g g.length:=⟨_,rfl⟩
 have hzl:z.length=g.length:=by rw [hz];exact A29 g _
 rw [←hz] at hst ⊢
 refine k6 (k2 (A2 (D1 (S9 8 _ E4 J) J (A4 ?_))));refine k1 (k2 (k2 (A2 (A3 J J (A5 (D39 J J) J (A3 J J (A4 ?_)))))));refine k1 (k3 (D2 (X:=Nat) (fun i=>([(0,D3 Commit 3 G6 g),(3,.s (.one (.mut 753))),(8,.s (.one (.buf 8 Int 1 E4 (U5 z i)))),(38,.s (.one (.mut 753))),(39,C3 g.length),(40,C3 i)],[(8,.spare (U5 z i).length 1 3),(753,.arr Int 1 E4 z)])) (fun i=>i≤g.length) (fun i=>g.length - i) 0 (Nat.zero_le _) (by rw [←hzl];exact (Sees.of ⟨le1 rfl,le1 rfl,le1 rfl,le1 rfl,le1 rfl,le1 rfl,trivial⟩ ⟨rfl,rfl,trivial⟩)) ?_))
 intro i hi
 dsimp only at hi ⊢
 have hzu:=H73 z i
 have hsu:=G68 z i
 refine k2 (A2 (F3 J J J (A4 ?_)));refine k1 (k2 ?_);refine B1 rfl (fun ht=>?_) (fun ht=>?_)
 ·have hlt:i < g.length:=by have h1:=A0 ht;(try dsimp only at h1);omega
  have hva:=C67 (l:=z) (p:=(i:Int)) (by omega)
  rw [K84] at hva
  refine k5 (k1 (k2 (k3 (k2 (A2 (A3 J J (A5 (G4 J J J (by omega) (by (rw [hzl];omega))) J ?_)))))));refine A5 (N7 J J hva J) J (A6 J J (A6 J J (A4 ?_)));refine k1 (k2 (A2 (A3 J J (A5 (F7 J J) J (A4 ?_)))));refine k1 ?_;refine B1 rfl (fun ht=>?_) (fun ht=>?_)
  ·have h1:atG z i=0:=A0 ht
   rw [if_pos h1] at hsu
   skip
   refine A2 (A3 J J (A3 J J (A5 (C5 (c:=E4) (ys:=[(i:Int)]) (E0 J J J J G5) J J J) J (D1 (J7 J J J (.pure _ _ _ _) (by (simp only [K87,K90];omega)) J) J (A6 J J (A4 ?_))))));refine k4 (k1 (A2 (D6 J J J (A3 J J (A4 ?_)))));refine k1 ?_;refine ⟨i+1,by omega,by omega,?_⟩
   rw [hsu]
   exact (Sees.of ⟨le1 rfl,le1 rfl,le1 rfl,le1 rfl,le1 rfl,le1 rfl,trivial⟩ ⟨rfl,rfl,trivial⟩)
  ·have h1:¬atG z i=0:=A1 ht
   rw [if_neg h1] at hsu
   refine k5 (k4 (k1 (A2 (D6 J J J (A3 J J (A4 ?_))))));refine k1 ?_;refine ⟨i+1,by omega,by omega,?_⟩
   rw [hsu]
   exact (Sees.of ⟨le1 rfl,le1 rfl,le1 rfl,le1 rfl,le1 rfl,le1 rfl,trivial⟩ ⟨rfl,rfl,trivial⟩)
 have hie:i=g.length:=by have h1:=A1 ht;(try dsimp only at h1);omega
 rw [hie]
 refine k6 (k2 (k2 (A2 (A6 J J (A4 ?_)))));refine k1 (k3 (D2 (X:=Nat × List Int × List Int) (fun x=>([(0,D3 Commit 3 G6 g),(3,.s (.one (.mut 753))),(8,.s (.one (.buf 8 Int 1 E4 x.2.2))),(11,C3 x.1)],[(8,.spare x.2.2.length 1 3),(753,.arr Int 1 E4 x.2.1)])) (fun x=>x.1≤x.2.2.length∧KInv g x.1 0 x.2.1 x.2.2) (fun x=>g.length - x.1) (0,z,U5 z g.length) ⟨Nat.zero_le _,hst⟩ (Sees.of ⟨le1 rfl,le1 rfl,le1 rfl,le1 rfl,trivial⟩ ⟨rfl,rfl,trivial⟩) ?_))
 rintro ⟨k,ch,out⟩ ⟨hk,hK⟩
 dsimp only at hk hK ⊢
 have hol:=hK.le
 refine k2 (k2 (A2 (A3 J J (A3 J J (A5 (Z2 J (.buf _ _ _ _ _)) J (F3 J J J (A4 ?_)))))));refine k1 ?_;refine B1 rfl (fun ht=>?_) (fun ht=>?_)
 rotate_left
 ·have h1:k=out.length:=by have h1:=A1 ht;(try dsimp only at h1);omega
  rw [h1] at hK
  refine k6 (k2 (A2 (A3 J J (A6 J J (A4 ?_)))));refine k1 (k10 ?_)
  exact B6 (rs:=[K2 out]) (H3 rfl rfl rfl) ⟨ch,out,rfl,hK⟩
 have hklt:k < out.length:=by have h1:=A0 ht;(try dsimp only at h1);omega
 have hcr:=hK.rng _ (K85 hklt)
 obtain ⟨cn,hcn⟩:∃cn:Nat,out[k]=(cn:Int):=⟨out[k].toNat,by omega⟩
 have hvo:out[k]?=some (cn:Int):=by rw [K82 hklt,hcn]
 have hcl:cn < g.length:=by omega
 obtain ⟨c,hc⟩:∃c,c=g[cn]:=⟨_,rfl⟩
 have hvc:g[((cn:Nat):Int).toNat]?=some c:=by rw [hc];simp [hcl]
 have hps:E6 g cn=c.Parents:=by rw [S8 hcl,hc]
 have hpl:=hf.pars c (by rw [hc];exact K85 hcl)
 refine k5 (k1 (k2 (k3 (k2 (A2 (A3 J J (A3 J J (A3 J J (A5 (B2 J (.buf _ _ _ _ _) J (by omega) hvo) J (A5 (B0 J J) J (A5 (B2 J (.pure _ _ _ _) J (by omega) hvc) J (A5 (B7 J) J (A5 (B0 J J) J (E5 J J (A3 J J (A4 ?_))))))))))))))));refine k1 (k3 (D2 (X:=Nat × List Int × List Int) (fun x=>([(0,D3 Commit 3 G6 g),(3,.s (.one (.mut 753))),(8,.s (.one (.buf 8 Int 1 E4 x.2.2))),(11,C3 k),(65,D3 Int 1 E4 c.Parents),(66,C3 c.Parents.length),(67,C3 x.1)],[(8,.spare x.2.2.length 1 3),(753,.arr Int 1 E4 x.2.1)])) (fun x=>x.1≤c.Parents.length∧k < x.2.2.length∧x.2.2[k]?=some (cn:Int)∧KInv g k x.1 x.2.1 x.2.2) (fun x=>c.Parents.length - x.1) (0,ch,out) ⟨Nat.zero_le _,hklt,hvo,hK⟩ (Sees.of ⟨le1 rfl,le1 rfl,le1 rfl,le1 rfl,le1 rfl,le1 rfl,le1 rfl,trivial⟩ ⟨rfl,rfl,trivial⟩) ?_))
 rintro ⟨i,ch',out'⟩ ⟨hi,hkl,hvo',hK'⟩
 dsimp only at hi hkl hvo' hK' ⊢
 have hol':=hK'.le
 have hchl:=hK'.len
 have hcn':out'[k]=(cn:Int):=by rw [K82 hkl] at hvo';exact Option.some.inj hvo'
 refine k2 (A2 (F3 J J J (A4 ?_)));refine k1 (k2 ?_);refine B1 rfl (fun ht=>?_) (fun ht=>?_)
 rotate_left
 ·have h1:i=c.Parents.length:=by have h1:=A1 ht;(try dsimp only at h1);omega
  rw [h1,←hps] at hK'
  have hN:=hK'.next hkl hcn'
  refine k6 (k7 (k7 (k8 J (k4 (k1 (A2 (A3 J J (D6 J J J (A6 J J (A4 ?_))))))))));refine k1 ?_
  exact ⟨(k+1,ch',out'),⟨by dsimp only;omega,hN⟩,by dsimp only;omega,(Sees.of ⟨le1 rfl,le1 rfl,le1 rfl,le1 rfl,trivial⟩ ⟨rfl,rfl,trivial⟩)⟩
 have hilt:i < c.Parents.length:=by have h1:=A0 ht;(try dsimp only at h1);omega
 have hvp:c.Parents[i]?=some c.Parents[i]:=by simp [hilt]
 have hpb:=(K6 hr cn).1 c.Parents[i] (by rw [hps];exact K85 hilt)
 obtain ⟨p,hp⟩:∃p:Nat,c.Parents[i]=(p:Int):=⟨c.Parents[i].toNat,by omega⟩
 rw [hp] at hvp
 obtain ⟨s1,s2,s3,s4⟩:=hK'.step hr hkl hcn' (i:=i) (p:=p) (by rw [hps];exact hilt) (by simp only [hps];exact hp)
 have hva:=C67 (l:=ch') (p:=(p:Int)) (by omega)
 have hva2:(X2 ch' p)[((p:Nat):Int).toNat]?=some (atG ch' p - 1):=by
  unfold X2
  rw [K84,List.getElem?_set_self (by omega)]
 have hdl:(X2 ch' p).length=g.length:=by unfold X2;rw [L06,hchl]
 have hset:ch'.set ((p:Nat):Int).toNat (atG ch' ((p:Nat):Int).toNat - 1)=X2 ch' p:=rfl
 refine k5 (k1 (k2 (k3 (k2 (A2 (A5 (B2 J (.pure _ _ _ _) J (by omega) hvp) J (A5 (B0 J J) J (A6 J J (A4 ?_)))))))));refine k1 (k2 (A2 (A3 J J (A3 J J (A5 (G4 J J J (by omega) (by (rw [hchl];omega))) J ?_)))));refine A5 (N7 J J hva J) J (A5 (L7 J J (by (rw [K84];omega))) J ?_);refine A5 (G4 J J J (by omega) (by (rw [hchl];omega))) J ?_;refine H1 (K9 TySz.out J J (by (rw [hchl];omega)) J J) ?_;refine A4 ?_
 rw [hset]
 refine k1 (k2 (A2 (A3 J J (A3 J J (A5 (G4 J J J (by omega) (by (rw [hdl];omega))) J ?_)))));refine A5 (N7 J J hva2 J) J (A5 (F7 J J) J (A4 ?_));refine k1 ?_;refine B1 rfl (fun ht=>?_) (fun ht=>?_)
 ·have h1:atG ch' p - 1=0:=A0 ht
  rw [if_pos h1] at s4
  skip
  refine A2 (A3 J J (A3 J J (A5 (C5 (c:=E4) (ys:=[(p:Int)]) (E0 J J J J G5) J J J) J (D1 (J7 J J J (.pure _ _ _ _) (by (simp only [K87,K90];omega)) J) J (A6 J J (A4 ?_))))));refine k4 (k1 (A2 (D6 J J J (A3 J J (A4 ?_)))));refine k1 ?_
  exact ⟨(i+1,X2 ch' p,out'++[(p:Int)]),⟨hilt,by dsimp only;rw [K86];omega,by dsimp only;rw [K97 hkl];exact hvo',s4⟩,by dsimp only;omega,(Sees.of ⟨le1 rfl,le1 rfl,le1 rfl,le1 rfl,le1 rfl,le1 rfl,le1 rfl,trivial⟩ ⟨rfl,rfl,trivial⟩)⟩
 ·have h1:¬atG ch' p - 1=0:=A1 ht
  rw [if_neg h1] at s4
  refine k5 (k4 (k1 (A2 (D6 J J J (A3 J J (A4 ?_))))));refine k1 ?_
  exact ⟨(i+1,X2 ch' p,out'),⟨hilt,hkl,hvo',s4⟩,by dsimp only;omega,(Sees.of ⟨le1 rfl,le1 rfl,le1 rfl,le1 rfl,le1 rfl,le1 rfl,le1 rfl,trivial⟩ ⟨rfl,rfl,trivial⟩)⟩
set_option maxHeartbeats 1000000
abbrev F42 (s:Str):Cell:=.v (.string ⟨s.toArray⟩)
def U1 (l:List File):List (Str × Cell):=l.foldl (fun m f=>Z1 m f.Path (F42 f.Blob)) []
theorem J13 (a b:Str) (c:Cell):∀kvs:List (Str × Cell),N5 (Z1 kvs a c) b=if a=b then some c else N5 kvs b
 | []=>by
  unfold Z1 N5
  split
  ·rfl
  ·rfl
 | (k,x)::r=>by
  unfold Z1
  split
  ·rename_i e;subst e
   unfold N5
   split
   ·rfl
   ·rfl
  ·rename_i e
   rw [N5,J13 a b c r]
   by_cases h1:k=b
   ·subst h1;rw [if_pos rfl,if_neg (fun h=>e h.symm)];simp [N5]
   ·rw [if_neg h1]
    by_cases h2:a=b
    ·rw [if_pos h2,if_pos h2]
    ·rw [if_neg h2,if_neg h2,N5,if_neg h1]
theorem C98 (l:List File) (i:Nat) (h:i < l.length):U1 (l.take (i+1))=Z1 (U1 (l.take i)) l[i].Path (F42 l[i].Blob):=by
 unfold U1
 rw [List.take_add_one,K82 h,Option.toList_some,L27];rfl
theorem E73 (p:Str):∀(l:List File) (m:List (Str × Cell)),N5 (l.foldl (fun m f=>Z1 m f.Path (F42 f.Blob)) m) p=((I5 l.reverse p).map F42).or (N5 m p)
 | [],m=>by simp [I5]
 | f::r,m=>by
  rw [L12,E73 p r,J13,List.reverse_cons]
  have key:∀(l:List File),I5 (l++[f]) p=(I5 l p).or (if f.Path=p then some f.Blob else none):=by
   intro l
   induction l with
   | nil=>simp [I5]
   | cons g l ih =>
    rw [L05,I5,I5]
    split
    ·rfl
    ·exact ih
  rw [key]
  cases I5 r.reverse p with
  | some x=>rfl
  | none=>by_cases h:f.Path=p<;>simp [h]
theorem G41 (l:List File) (p:Str):(N5 (U1 l) p).isSome=decide (p∈l.map (·.Path)):=by
 unfold U1
 rw [E73]
 have:N5 ([]:List (Str × Cell)) p=none:=rfl
 rw [this,Option.or_none,Option.isSome_map]
 cases h:I5 l.reverse p with
 | none =>
  have:=findF_none.1 h
  rw [List.map_reverse,List.mem_reverse] at this
  simp only [Option.isSome_none,this,decide_false]
 | some x =>
  obtain ⟨f,hf,he,_⟩:=A06 h
  have:p∈l.map (·.Path):=by rw [←he];exact List.mem_map_of_mem (List.mem_reverse.1 hf)
  simp only [Option.isSome_some,this,decide_true]
theorem J54 {l m:List File} {p:Str} (hl:ascend l=true) (hm:∀f,f∈m↔f∈l) (_hu:∀f∈l,∀g∈l,f.Path=g.Path→f=g):I5 m p=I5 l p:=by
 cases h:I5 m p with
 | none =>
  symm
  rw [findF_none] at h ⊢
  intro hp
  obtain ⟨f,hf,e⟩:=List.mem_map.1 hp
  exact h (List.mem_map.2 ⟨f,(hm f).2 hf,e⟩)
 | some x =>
  obtain ⟨f,hf,e1,e2⟩:=A06 h
  rw [←e1,A07 hl f ((hm f).1 hf),e2]
theorem C99 {l:List File} (hl:ascend l=true) (p:Str):N5 (U1 l) p=(I5 l p).map F42:=by
 unfold U1
 rw [E73]
 have:N5 ([]:List (Str × Cell)) p=none:=rfl
 rw [this,Option.or_none]
 congr 1
 refine J54 hl (fun f=>List.mem_reverse) fun f hf g hg e=>?_
 have h1:=A07 hl f hf
 have h2:=A07 hl g hg
 rw [e,h2] at h1
 cases f;cases g
 simp only [File.mk.injEq]
 exact ⟨e,(Option.some.inj h1).symm⟩
theorem E74 (l:List File) (hl:l.length≤1073741824):AL.Met Tryz.prog 120 [.one (.p (.list File 2 S7 l))] [] [] [] (fun rs ob'=>rs=[.one (.mut 800)]∧ob'=[(800,.map Str o8 (U1 l))]):=by
 refine AL.Met.intro Tryz.func120 (by decide) J J J ?_
 refine k2 (A2 (A6 J J (A4 ?_)));refine k1 (k2 (A2 (D1 (D46 800 Str o8 J) J (A6 J J (A4 ?_)))));refine k1 (k2 (k2 (A2 (A3 J J (E5 J J (A3 J J (A4 ?_)))))));refine k1 (k3 (D2 (X:=Nat) (fun i=>([(3,.s (.one (.mut 800))),(7,D3 File 2 S7 l),(8,C3 l.length),(9,C3 i)],[(800,.map Str o8 (U1 (l.take i)))])) (fun i=>i≤l.length) (fun i=>l.length - i) 0 (Nat.zero_le _) (Sees.of ⟨le1 rfl,le1 rfl,le1 rfl,le1 rfl,trivial⟩ ⟨rfl,trivial⟩) ?_))
 intro i hi
 dsimp only at hi ⊢
 refine k2 (A2 (F3 J J J (A4 ?_)));refine k1 (k2 ?_);refine B1 rfl (fun ht=>?_) (fun ht=>?_)
 ·have hlt:i < l.length:=by have h1:=A0 ht;(try dsimp only at h1);omega
  have hs:=C98 l i hlt
  obtain ⟨f,hf⟩:∃f,f=l[i]:=⟨_,rfl⟩
  have hv:l[i]?=some f:=by rw [hf];simp [hlt]
  rw [←hf] at hs
  refine k5 (k1 (k2 (k3 (k2 (A2 (A5 (B2 J (.pure _ _ _ _) J (by omega) hv) J (A5 (E2 J J) J (D1 (I4 5 J) J (H1 (C1 TySz.out J J J J J J) (A4 ?_))))))))));refine k1 (A2 (A3 J J (A5 (A7 J) J (G7 J J J J (A5 (A7 J) J (G7 J J J J (H1 (H07 (f.Path) J J J J J z8 A00) (A4 ?_))))))));refine k4 (k1 (A2 (D6 J J J (A3 J J (A4 ?_)))));refine k1 ?_;refine ⟨i+1,by omega,by omega,?_⟩
  rw [hs]
  exact (Sees.of ⟨le1 rfl,le1 rfl,le1 rfl,le1 rfl,trivial⟩ ⟨rfl,trivial⟩)
 ·have hie:i=l.length:=by have h1:=A1 ht;(try dsimp only at h1);omega
  rw [hie,K89]
  refine k6 (k2 (A2 (A3 J J (A6 J J (A4 ?_)))));refine k1 (k10 ?_)
  exact E1 (I1 rfl rfl) (by repeat (first | exact A8 | refine A9 rfl ?_ | refine C2 _ ?_)) (fun _ _ h=>h) ⟨rfl,rfl⟩
theorem H17 (l:List File) (hl:l.length≤1073741824):AL.Met Tryz.prog 120 [.one (.p (.list File 2 S7 l))] [] [] [] (fun rs ob'=>rs=[.one (.mut 801)]∧ob'=[(801,.map Str o8 (U1 l))]):=by
 refine AL.Met.intro Tryz.func120 (by decide) J J J ?_
 refine k2 (A2 (A6 J J (A4 ?_)));refine k1 (k2 (A2 (D1 (D46 801 Str o8 J) J (A6 J J (A4 ?_)))));refine k1 (k2 (k2 (A2 (A3 J J (E5 J J (A3 J J (A4 ?_)))))));refine k1 (k3 (D2 (X:=Nat) (fun i=>([(3,.s (.one (.mut 801))),(7,D3 File 2 S7 l),(8,C3 l.length),(9,C3 i)],[(801,.map Str o8 (U1 (l.take i)))])) (fun i=>i≤l.length) (fun i=>l.length - i) 0 (Nat.zero_le _) (Sees.of ⟨le1 rfl,le1 rfl,le1 rfl,le1 rfl,trivial⟩ ⟨rfl,trivial⟩) ?_))
 intro i hi
 dsimp only at hi ⊢
 refine k2 (A2 (F3 J J J (A4 ?_)));refine k1 (k2 ?_);refine B1 rfl (fun ht=>?_) (fun ht=>?_)
 ·have hlt:i < l.length:=by have h1:=A0 ht;(try dsimp only at h1);omega
  have hs:=C98 l i hlt
  obtain ⟨f,hf⟩:∃f,f=l[i]:=⟨_,rfl⟩
  have hv:l[i]?=some f:=by rw [hf];simp [hlt]
  rw [←hf] at hs
  refine k5 (k1 (k2 (k3 (k2 (A2 (A5 (B2 J (.pure _ _ _ _) J (by omega) hv) J (A5 (E2 J J) J (D1 (I4 5 J) J (H1 (C1 TySz.out J J J J J J) (A4 ?_))))))))));refine k1 (A2 (A3 J J (A5 (A7 J) J (G7 J J J J (A5 (A7 J) J (G7 J J J J (H1 (H07 (f.Path) J J J J J z8 A00) (A4 ?_))))))));refine k4 (k1 (A2 (D6 J J J (A3 J J (A4 ?_)))));refine k1 ?_;refine ⟨i+1,by omega,by omega,?_⟩
  rw [hs]
  exact (Sees.of ⟨le1 rfl,le1 rfl,le1 rfl,le1 rfl,trivial⟩ ⟨rfl,trivial⟩)
 ·have hie:i=l.length:=by have h1:=A1 ht;(try dsimp only at h1);omega
  rw [hie,K89]
  refine k6 (k2 (A2 (A3 J J (A6 J J (A4 ?_)))));refine k1 (k10 ?_)
  exact E1 (I1 rfl rfl) (by repeat (first | exact A8 | refine A9 rfl ?_ | refine C2 _ ?_)) (fun _ _ h=>h) ⟨rfl,rfl⟩
theorem H18 {gf:Fr} {ob:Obs} (p:Str) (kvs:List (Str × Cell)) (hp:p.length≤1073741824) (h0:B8 ob 800=some (.map Str o8 kvs)) (_hc:∀kv∈kvs,∃v,kv.2=.v v) (ps:List Str) (hps:∀q,(N5 kvs q).isSome=decide (q∈ps)) :
  AL.Met Tryz.prog 155 [.one (.p (.v (.string ⟨p.toArray⟩))),.one (.mut 800)] gf ob [] (fun rs ob'=>rs=[.one (.p (.v (.bool (R4 p ps))))]∧ob'=ob):=by
 have h47:∀c:UInt8,((c.toNat:Int)=47)↔c=47:=fun c=>by
  constructor
  ·intro h; exact UInt8.toNat_inj.1 (by have:c.toNat=47:=by omega
                                        simpa using this)
  ·rintro rfl;rfl
 refine AL.Met.introH Tryz.func155 (by decide) rfl rfl rfl (fun hH=>?_)
 refine k2 (A2 (A6 J J (A4 ?_)));refine k1 (k2 (k2 (A2 (A3 J J (A5 (I6 J) J (A3 J J (A4 ?_)))))));refine k1 (k3 ?_);refine D2 (X:=Nat) (fun i=>([(0,Y9 p),(1,.s (.one (.mut 800))),(9,C3 p.length),(10,C3 i)]++gf,ob)) (fun i=>i≤p.length∧∀j,j < i→(decide (p.take j∈ps)&&decide (p[j]?=some 47))=false) (fun i=>p.length - i) 0 ⟨Nat.zero_le _,fun j h=>by omega⟩ (K57 ⟨le1 rfl,le1 rfl,le1 rfl,le1 rfl,trivial⟩ hH (by repeat (first | exact A8 | refine A9 rfl ?_)) (fun _ _ h=>h)) ?_
 rintro i ⟨hi,hn⟩
 dsimp only at hi hn ⊢
 refine k2 (A2 (F3 J J J (A4 ?_)));refine k1 (k2 ?_);refine B1 rfl (fun ht=>?_) (fun ht=>?_)
 rotate_left
 ·have hie:i=p.length:=by have h1:=A1 ht;(try dsimp only at h1);omega
  have hno:R4 p ps=false:=by
   unfold R4
   rw [List.any_eq_false]
   intro j hj
   rw [hn j (by rw [hie];exact List.mem_range.1 hj)];simp
  refine k6 (k2 (A2 (A6 J J (A4 ?_))));refine k1 (k10 ?_)
  exact E1 (I1 rfl rfl) (by repeat (first | exact A8 | refine A9 rfl ?_ | refine C2 _ ?_)) (fun _ _ h=>h) ⟨by rw [hno],rfl⟩
 have hlt:i < p.length:=by have h1:=A0 ht;(try dsimp only at h1);omega
 have hv:p[((i:Nat):Int).toNat]?=some p[i]:=by simp [hlt]
 have hpi:p[i]?=some p[i]:=by simp [hlt]
 have hq:=hps (p.take ((i:Nat):Int).toNat)
 obtain ⟨r,hr⟩:∃r,r=N5 kvs (p.take ((i:Nat):Int).toNat):=⟨_,rfl⟩
 rw [←hr,K84] at hq
 refine k5 (k1 (k2 (k3 (k2 (A2 (A3 J J (A6 J J (A4 ?_))))))));refine k1 (k2 (A2 (A3 J J (A3 J J (A3 J J (A5 (C15 J J (by omega) (by omega)) J (A5 (B83 ((p.take ((i:Nat):Int).toNat)) (r:=r) J h0 J z8 A00 (hr.symm)) J (A3 J J (H0 J J J (H0 J J J (A6 J J (A6 J J (A4 ?_)))))))))))));refine k1 (k2 (A2 (A3 J J (A3 J J (B3 J J J J (fun hg=>by rw [hg];exact B9 J J) ?_)))));refine B3 J J J J (fun hg=>by rw [hg];exact B9 J J) ?_;refine B3 J J J J (fun hg=>by have hq:=hg;(try simp at hq);rw [hg];exact m8 J J (by omega) hv) ?_;refine B3 J J J J (fun hg=>by rw [hg];exact F7 J J) ?_;refine K4 J J ?_;refine A4 ?_;refine k1 ?_;refine B1 rfl (fun ht=>?_) (fun ht=>?_)
 ·rw [A20,K83,decide_eq_true_eq] at ht
  have hyes:R4 p ps=true:=by
   unfold R4
   rw [List.any_eq_true]
   exact ⟨i,List.mem_range.2 hlt,by rw [←hq,ht.1,hpi,(h47 _).1 ht.2];rfl⟩
  refine k2 (A2 (A6 J J (A4 ?_)));refine k1 (k10 (k12 (k11 (k11 (k12 (k11 ?_))))))
  exact E1 (I1 rfl rfl) (by repeat (first | exact A8 | refine A9 rfl ?_ | refine C2 _ ?_)) (fun _ _ h=>h) ⟨by rw [hyes],rfl⟩
 ·rw [A20] at ht
  refine k5 (k4 (k1 (A2 (D6 J J J (A3 J J (A4 ?_))))));refine k1 ?_;refine ⟨i+1,⟨hlt,fun j hj=>?_⟩,by omega,K57 ⟨le1 rfl,le1 rfl,le1 rfl,le1 rfl,trivial⟩ hH (by repeat (first | exact A8 | refine A9 rfl ?_)) (fun _ _ h=>h)⟩
  by_cases e:j=i
  ·subst e
   rw [←hq,hpi]
   cases hrs:r.isSome
   ·rfl
   ·rw [hrs,Bool.true_and,decide_eq_false_iff_not] at ht
    have:¬p[j]=47:=fun h=>ht ((h47 _).2 h)
    simp [this]
  ·exact hn j (by omega)
theorem J55 (l:List File):∀kv∈U1 l,∃v,kv.2=.v v:=by
 have key:∀(l:List File) (m:List (Str × Cell)),(∀kv∈m,∃v,kv.2=.v v)→∀kv∈l.foldl (fun m f=>Z1 m f.Path (F42 f.Blob)) m,∃v,kv.2=.v v:=by
  intro l
  induction l with
  | nil=>exact fun m h=>h
  | cons f r ih =>
   intro m h
   refine ih _ ?_
   clear ih
   induction m with
   | nil=>intro kv hkv;change kv∈Z1 [] f.Path (F42 f.Blob) at hkv;rw [Z1,List.mem_singleton] at hkv;rw [hkv];exact ⟨_,rfl⟩
   | cons x m ihm =>
    obtain ⟨k,c⟩:=x
    intro kv hkv
    change kv∈Z1 ((k,c)::m) f.Path (F42 f.Blob) at hkv
    rw [Z1] at hkv
    split at hkv
    ·rcases List.mem_cons.1 hkv with rfl | hkv
     ·exact ⟨_,rfl⟩
     ·exact h kv (by simp [hkv])
    ·rcases List.mem_cons.1 hkv with rfl | hkv
     ·exact h _ (by simp)
     ·exact ihm (fun kv hk=>h kv (by simp [hk])) kv hkv
 exact key l [] fun _ h=>by cases h
theorem D82:∀(l:List File) (i:Nat),i+1 < l.length→(ascend (l.take (i+2))=(ascend (l.take (i+1))&&ltS (l.getD i ⟨[],[]⟩).Path (l.getD (i+1) ⟨[],[]⟩).Path))
 | [],i,h=>by simp at h
 | [_],i,h=>by simp at h
 | f::g::r,0,_=>by simp [ascend]
 | f::g::r,i+1,h=>by
  have ih:ascend (g::r.take (i+1))=(ascend (g::r.take i)&&ltS ((g::r).getD i ⟨[],[]⟩).Path ((g::r).getD (i+1) ⟨[],[]⟩).Path):=D82 (g::r) i (by simpa using h)
  show ascend (f::g::r.take (i+1))=(ascend (f::g::r.take i)&&ltS ((g::r).getD i ⟨[],[]⟩).Path ((g::r).getD (i+1) ⟨[],[]⟩).Path)
  rw [ascend,ascend,ih,Bool.and_assoc]
theorem G42 (l:List File):ascend (l.take 1)=true:=by
 cases l with
 | nil=>rfl
 | cons f r=>rfl
theorem H19 (l:List File) (hl:l.length≤1073741824) (hp:∀f∈l,f.Path.length≤1073741824):FnOk Tryz.prog 134 [U9 l] (fun rs=>rs=[H9 (N9 l)]):=by
 rw [←I80]
 have hbv:=J55 l
 have hbs:=G41 l
 refine FnOk.intro Tryz.func134 (by decide) J J J J ?_
 refine k2 (A2 (A6 J J (A4 ?_)));refine k1 (k2 (A2 (A3 J J (B12 (E74 l hl) J J J J ?_))));rintro _ _ ⟨rfl,rfl⟩;refine ⟨rfl,?_⟩;refine A6 J J (A4 ?_);refine k1 (k2 (k2 (A2 (A3 J J (E5 J J (A3 J J (A4 ?_)))))));refine k1 (k3 (D2 (X:=Nat) (fun i=>([(0,D3 File 2 S7 l),(3,.s (.one (.mut 800))),(8,D3 File 2 S7 l),(9,C3 l.length),(10,C3 i)],[(800,.map Str o8 (U1 l))])) (fun i=>i≤l.length∧ascend (l.take i)=true∧((l.take i).all fun f=>!R4 f.Path (l.map (·.Path)))=true) (fun i=>l.length - i) 0 ⟨Nat.zero_le _,rfl,rfl⟩ (Sees.of ⟨le1 rfl,le1 rfl,le1 rfl,le1 rfl,le1 rfl,trivial⟩ ⟨rfl,trivial⟩) ?_))
 rintro i ⟨hi,ha,hn⟩
 dsimp only at hi ha hn ⊢
 refine k2 (A2 (F3 J J J (A4 ?_)));refine k1 (k2 ?_);refine B1 rfl (fun ht=>?_) (fun ht=>?_)
 rotate_left
 ·have hie:i=l.length:=by have h1:=A1 ht;(try dsimp only at h1);omega
  rw [hie,K89] at ha hn
  refine k6 (k2 (A2 (A6 J J (A4 ?_))));refine k1 (k10 ?_)
  exact B6 (rs:=[H9 true]) (H3 rfl rfl rfl) (by unfold A05;rw [ha,hn];rfl)
 have hlt:i < l.length:=by have h1:=A0 ht;(try dsimp only at h1);omega
 obtain ⟨f,hf⟩:∃f,f=l[i]:=⟨_,rfl⟩
 have hv:l[i]?=some f:=by rw [hf];simp [hlt]
 have hfp:=hp f (by rw [hf];exact K85 hlt)
 obtain ⟨g,hg⟩:∃g,g=l.getD (i - 1) ⟨[],[]⟩:=⟨_,rfl⟩
 have hvg:0 < i→l[((i:Int) - 1).toNat]?=some g:=fun h0=>by
  rw [hg,show ((i:Int) - 1).toNat=i - 1 by omega,K88,K82 (by omega)];rfl
 have hnext:ascend (l.take (i+1))=if 0 < i then ltS g.Path f.Path else true:=by
  cases i with
  | zero=>rw [if_neg (by omega)];exact G42 l
  | succ i =>
   rw [if_pos (by omega),D82 l i hlt,ha,Bool.true_and,hg]
   rw [show l.getD (i+1) ⟨[],[]⟩=f by rw [K88,hv];rfl]
   rfl
 have hbad:((0 < i∧ltS g.Path f.Path=false)∨R4 f.Path (l.map (·.Path))=true)→[H9 false]=[H9 (A05 l)]:=by
  rintro (⟨h0,h⟩ | h)
  ·have : ascend l=false:=by
    cases h2:ascend l
    ·rfl
    ·exfalso
     rw [if_pos h0,h] at hnext
     have key:∀(l:List File) (k:Nat),ascend l=true→ascend (l.take k)=true:=by
      intro l
      induction l with
      | nil=>intro k h;simpa using h
      | cons x r ih =>
       intro k h
       cases k with
       | zero=>rfl
       | succ k =>
        have h3:=ih k (A70 h)
        rw [List.take_succ_cons]
        cases hk:r.take k with
        | nil=>rfl
        | cons y t =>
         unfold ascend
         rw [K83]
         refine ⟨n6 h y (List.mem_of_mem_take (by rw [hk];simp)),by rw [←hk];exact h3⟩
     rw [key l (i+1) h2] at hnext;cases hnext
   unfold A05;rw [this];rfl
  ·have:(l.all fun f=>!R4 f.Path (l.map (·.Path)))=false:=by
    rw [List.all_eq_false]
    exact ⟨f,by rw [hf];exact K85 hlt,by rw [h];simp⟩
   unfold A05;rw [this,Bool.and_false]
 have hgood:(0 < i→ltS g.Path f.Path=true)→R4 f.Path (l.map (·.Path))=false→ascend (l.take (i+1))=true∧((l.take (i+1)).all fun f=>!R4 f.Path (l.map (·.Path)))=true:=by
  intro h1 h2
  refine ⟨?_,?_⟩
  ·rw [hnext];split
   ·rename_i h0;exact h1 h0
   ·rfl
  ·rw [List.take_add_one,hv,Option.toList_some,L25,hn,Bool.true_and,List.all_cons,List.all_nil,h2];rfl
 refine k5 (k1 (k2 (k3 (k2 (A2 (A3 J J (A5 (B2 J (.pure _ _ _ _) J (by omega) hv) J (A5 (E2 J J) J (D1 (I4 5 J) J (A6 J J (H1 (C1 TySz.out J J J J J J) (A4 ?_))))))))))));refine k1 (k2 ?_)
 cases hQ:(if decide ((0:Int) < (i:Int))=true then !Op.bytesLess g.Path f.Path else false)
 ·have h1:0 < i→ltS g.Path f.Path=true:=fun h0=>by
   rw [if_pos (decide_eq_true (by omega)),Bool.not_eq_false'] at hQ;exact hQ
  refine E63 17 (by kernel_rfl) (by kernel_rfl) J (E3 J J (B5 (N4 J J) J J (E3 J J (F5 J J (fun hg=>by rw [hg];exact B9 J J) J J ?_))));refine F5 J J (fun hg=>by rw [hg];exact B9 J J) J J ?_;refine F5 J J (fun hg=>by have hq:=hg;(try simp at hq);rw [hg];exact L7 J J (by omega)) J J ?_;refine F5 J J (fun hg=>by have hq:=hg;(try simp at hq);rw [hg];exact B2 J (.pure _ _ _ _) J (by omega) (hvg (by omega))) J J ?_;refine F5 J J (fun hg=>by rw [hg];exact B7 J) J J ?_;refine F5 J J (fun hg=>by rw [hg];exact B0 J J) J J ?_;refine F5 J J (fun hg=>by rw [hg];exact A7 J) J J ?_;refine F5 J J (fun hg=>by rw [hg];exact C9 J J J) J J ?_;refine F5 J J (fun hg=>by rw [hg];exact G34 J J) J J ?_;refine B5 (N6 J (fun h=>by first | rfl | (rw [h];rfl)) (fun h=>by first | rfl | (rw [h];rfl))) J J ?_;refine E3 J J (E26 J J hQ J (B5 (A7 J) J J (E26 J J hQ J (B5 (C9 J J J) J J (E26 J J hQ J (E3 J J (P2 ?_)))))));refine J48 J J hQ (G97 (H18 f.Path (U1 l) hfp J hbv (l.map (·.Path)) hbs) J J J ?_);rintro _ _ ⟨rfl,rfl⟩;refine ⟨_,rfl,?_⟩;refine B5 (N6 J (fun h=>by first | rfl | (rw [h];rfl)) (fun h=>by first | rfl | (rw [h];rfl))) J J ?_;refine P2 ?_;refine k1 ?_
  rw [hQ]
  refine B1 rfl (fun ht=>?_) (fun ht=>?_)
  ·have h2:R4 f.Path (l.map (·.Path))=true:=by simpa using ht
   refine k2 (A2 (A6 J J (A4 ?_)));refine k1 (k10 (k12 (k11 (k11 (k12 (k11 ?_))))))
   exact B6 (rs:=[H9 false]) (H3 rfl rfl rfl) (hbad (.inr h2))
  ·have h2:R4 f.Path (l.map (·.Path))=false:=by simpa using ht
   obtain ⟨h3,h4⟩:=hgood h1 h2
   refine k5 (k4 (k1 (A2 (D6 J J J (A3 J J (A4 ?_))))));refine k1 ?_
   exact ⟨i+1,⟨hlt,h3,h4⟩,by omega,(Sees.of ⟨le1 rfl,le1 rfl,le1 rfl,le1 rfl,le1 rfl,trivial⟩ ⟨rfl,trivial⟩)⟩
 ·have h0:0 < i:=by
   apply Classical.byContradiction
   intro h0;rw [if_neg (by rw [decide_eq_true_eq];omega)] at hQ;cases hQ
  have h1:ltS g.Path f.Path=false:=by
   rw [if_pos (decide_eq_true (by omega)),Bool.not_eq_true'] at hQ;exact hQ
  refine E8 (by kernel_rfl) (by kernel_rfl) (E3 J J (B5 (N4 J J) J J (E3 J J (F5 J J (fun hg=>by rw [hg];exact B9 J J) J J ?_))));refine F5 J J (fun hg=>by rw [hg];exact B9 J J) J J ?_;refine F5 J J (fun hg=>by have hq:=hg;(try simp at hq);rw [hg];exact L7 J J (by omega)) J J ?_;refine F5 J J (fun hg=>by have hq:=hg;(try simp at hq);rw [hg];exact B2 J (.pure _ _ _ _) J (by omega) (hvg (by omega))) J J ?_;refine F5 J J (fun hg=>by rw [hg];exact B7 J) J J ?_;refine F5 J J (fun hg=>by rw [hg];exact B0 J J) J J ?_;refine F5 J J (fun hg=>by rw [hg];exact A7 J) J J ?_;refine F5 J J (fun hg=>by rw [hg];exact C9 J J J) J J ?_;refine F5 J J (fun hg=>by rw [hg];exact G34 J J) J J ?_;refine B5 (N6 J (fun h=>by first | rfl | (rw [h];rfl)) (fun h=>by first | rfl | (rw [h];rfl))) J J ?_;refine E3 J J (E47 J J (by rw [hQ];decide) J J ?_);refine E47 J J (by rw [hQ];decide) J J ?_;refine E47 J J (by rw [hQ];decide) J J ?_;refine E47 J J (by rw [hQ];decide) J J ?_;refine B5 (R3 J (hQ) J) J J (P2 ?_);refine k1 ?_;refine B1 rfl (fun ht=>?_) (fun ht=>?_)
  ·refine k2 (A2 (A6 J J (A4 ?_)));refine k1 (k10 (k12 (k11 (k11 (k12 (k11 ?_))))))
   exact B6 (rs:=[H9 false]) (H3 rfl rfl rfl) (hbad (.inl ⟨h0,h1⟩))
  ·cases ht
end Go.Proofs.YtkahafmcmiiolaaGreatDoor
namespace Go.Proofs.YtkahafmcmiiolaaGreatDoor
open Go Go.AL
set_option maxRecDepth 100000
theorem u64_in {n:Int} (h:0≤n∧n < 18446744073709551616):IntKind.u64.wrap n=n:=by simp [IntKind.wrap,IntKind.signed,IntKind.bits];omega
def Z9 (a n:Int):Int:=IntKind.u64.wrap a % n
theorem j2 (a:Int) {n:Int} (h:1≤n):0≤Z9 a n∧Z9 a n < n:=⟨Int.emod_nonneg _ (by omega),Int.emod_lt_of_pos _ (by omega)⟩
theorem C68 (a n:Int) (hn:1≤n) (hn':n≤9223372036854775807):FnOk Tryz.prog 7 [F2 a,F2 n] (fun rs=>rs=[F2 (Z9 a n)]):=by
 refine FnOk.intro Tryz.func7 (by decide) J J J J ?_
 refine k2 (A2 (A6 J J (A4 ?_)));refine k1 (k2 ?_)
 have h1:IntKind.u64.wrap n=n:=u64_in (by omega)
 refine A2 (A3 J J (A5 (V8 J) J (A3 J J (A5 (V8 J) J (A5 (B07 J J (by (rw [h1];omega))) J ?_)))));refine A5 (V8 J) J (A6 J J (A4 ?_));refine k1 (k10 (B6 (H3 J J J) ?_))
 have h2:=I17 a
 have h3:(IntKind.u64.wrap a).tmod n=IntKind.u64.wrap a % n:=Int.tmod_eq_emod_of_nonneg h2
 have h4:=j2 a hn
 unfold Z9 at *
 rw [h1,h3,B77 ⟨by omega,by omega⟩]
def xor64 (a b:Int):Int:=IntKind.u64.wrap ((BitVec.ofInt IntKind.u64.bits a ^^^ BitVec.ofInt IntKind.u64.bits b).toNat:Int)
def shr64 (a n:Int):Int:=a.fdiv (2 ^ (min n.toNat IntKind.u64.bits))
def at0 (k:Int):Int:=IntKind.u64.wrap (IntKind.u64.wrap (k+1)*11400714819323198485)
def at1 (raw:List Int) (k:Int):Int:=if 0 < raw.length then xor64 (at0 k) (IntKind.u64.wrap (raw.getD (k.tmod raw.length).toNat 0)) else at0 k
def at2 (x:Int):Int:=IntKind.u64.wrap (xor64 x (shr64 x 31)*13787848793156543929)
def j3 (raw:List Int) (k:Int):Int:=IntKind.i64.wrap (shr64 (xor64 (at2 (at1 raw k)) (shr64 (at2 (at1 raw k)) 29)) 1)
theorem A66 (raw:List Int) (k:Int) (h0:0≤k) (h1:k≤1099511627776):FnOk Tryz.prog 17 [K2 raw,F2 k] (fun rs=>rs=[F2 (j3 raw k)]):=by
 refine FnOk.intro Tryz.func17 (by decide) J J J J ?_
 refine c_bound (t:=0) rfl (.pure _ _ _ _) fun hlen=>?_
 refine k2 (A2 (A6 J J (A4 ?_)));refine k1 (k2 (A2 (A3 J J (D6 J J J (A5 (V8 J) J (A5 (G24 J J) J (A6 J J (A4 ?_))))))));refine R8 ?_
 refine E48 [(0,D3 Int 1 E4 raw),(1,C3 k),(5,I7 (.int .u64 (at1 raw k)))] [] ?_ ?_
 ·refine k2 (A2 (A3 J J (E5 J J (A5 (N4 J J) J (A4 ?_)))));refine k1 ?_;refine B1 rfl (fun ht=>?_) (fun ht=>?_)
  ·have hpos:0 < raw.length:=by have:=A0 ht;omega
   have hm0:0≤k.tmod raw.length:=Int.tmod_nonneg _ h0
   have hm1:k.tmod raw.length < raw.length:=Int.tmod_lt_of_pos _ (by omega)
   have hv:raw[(k.tmod raw.length).toNat]?=some (raw.getD (k.tmod raw.length).toNat 0):=by
    rw [K88,K82 (by omega)];rfl
   skip
   refine A2 (A3 J J (A3 J J (A3 J J (A3 J J (E5 J J (A5 (B07 J J (by omega)) J (A5 (B2 J (.pure _ _ _ _) J (by omega) hv) J (A5 (B0 J J) J (A5 (V8 J) J (A5 (D38 J J J (fun _=>rfl)) J (A6 J J (A4 ?_))))))))))));refine k1 ?_
   rw [at1,if_pos hpos]
   exact Sees.of ⟨le1 rfl,le1 rfl,le1 rfl,trivial⟩ trivial
  ·have hpos:¬0 < raw.length:=by have:=A1 ht;omega
   refine k5 (k1 ?_)
   rw [at1,if_neg hpos]
   exact Sees.of ⟨le1 rfl,le1 rfl,le1 rfl,trivial⟩ trivial
 ·refine k2 (A2 (A3 J J (A3 J J (A5 (J02 J J (by omega)) J (A5 (D38 J J J (fun _=>rfl)) J (A5 (G24 J J) J (A6 J J (A4 ?_))))))));refine k1 (k2 (A2 (A3 J J (A3 J J (A5 (J02 J J (by omega)) J (A5 (D38 J J J (fun _=>rfl)) J (A5 (J02 J J (by omega)) J (A5 (V8 J) J (A6 J J (A4 ?_))))))))));refine k1 (k10 ?_)
  exact B6 (H3 rfl rfl rfl) rfl
def lineTab:List Str:=[[97],[98],[99],[97,98],[98,97],[],[97,97],[98,32,97],[120,43,121],[92]]
def l6 (k:Int):Str:=lineTab.getD (Z9 k 10).toNat []
theorem H20:∀s∈lineTab,s.length≤3:=by decide
theorem B36 (k:Int):(l6 k).length≤3:=by
 unfold l6
 rw [K88]
 cases h:lineTab[(Z9 k 10).toNat]? with
 | none=>simp
 | some s=>exact H20 s (K93 h)
theorem H21 (k:Int):FnOk Tryz.prog 31 [F2 k] (fun rs=>rs=[J6 (l6 k)]):=by
 refine FnOk.intro Tryz.func31 (by decide) J J J J ?_
 refine k2 (A2 (A6 J J (A4 ?_)));refine k1 (k2 ?_)
 have hm:=j2 k (n:=10) (by decide)
 have hv:lineTab[(Z9 k 10).toNat]?=some (l6 k):=by
  unfold l6
  rw [K88,K82 (show (Z9 k 10).toNat < lineTab.length by simp [lineTab];omega)];rfl
 refine A2 (A5 (C5 (c:=R5) (ys:=lineTab) (E0 J J J J (E0 J J J J (E0 J J J J (E0 J J J J (E0 J J J J (E0 J J J J (E0 J J J J (E0 J J J J (E0 J J J J (E0 J J J J G5)))))))))) J J J) J (A3 J J (D7 (C68 k 10 (by decide) (by decide)) J J J ?_)));rintro _ rfl;refine A5 (B2 J (.pure _ _ _ _) J (by omega) hv) J (A5 (B0 J J) J (A6 J J (A4 ?_)));refine k1 (k10 ?_)
 exact B6 (H3 rfl rfl rfl) rfl
def Y6 (raw:List Int) (from':Int) (kinds:Int) (m:Nat):Str:=((List.range m).map fun (i:Nat)=>l6 (Z9 (j3 raw (from'+1+(i:Int))) kinds)++[10]).flatten
def B37 (raw:List Int) (from' n kinds:Int):Str :=
 let s:=Y6 raw from' kinds (Z9 (j3 raw from') (n+1)).toNat
 if ((j3 raw (from'+90)).tmod 4=0∧(1:Int) < s.length)∧((s.getD (s.length - 2) 0).toNat:Int)≠10 then s.take (s.length - 1) else s
theorem A40 (raw:List Int) (from' kinds:Int) (m:Nat):Y6 raw from' kinds (m+1)=Y6 raw from' kinds m++l6 (Z9 (j3 raw (from'+1+(m:Int))) kinds)++[10]:=by
 unfold Y6;rw [L28,L08,L20];simp
theorem C46 (raw:List Int) (from' kinds:Int) (m:Nat):(Y6 raw from' kinds m).length≤4*m:=by
 induction m with
 | zero=>simp [Y6]
 | succ m ih=>have:=B36 (Z9 (j3 raw (from'+1+(m:Int))) kinds);rw [A40];simp only [K86,K87,K90];omega
theorem blob_ok (raw:List Int) (from' n kinds:Int) (h0:0≤from'∧from'≤1073741824) (h1:0≤n∧n≤1048576) (h2:1≤kinds∧kinds≤1048576) :
  FnOk Tryz.prog 12 [K2 raw,F2 from',F2 n,F2 kinds] (fun rs=>rs=[J6 (B37 raw from' n kinds)]):=by
 obtain ⟨m,hm⟩:∃m:Nat,Z9 (j3 raw from') (n+1)=m:=⟨(Z9 (j3 raw from') (n+1)).toNat,by have:=j2 (j3 raw from') (n:=n+1) (by omega);omega⟩
 have hmi:=j2 (j3 raw from') (n:=n+1) (by omega)
 have hml:m≤1048576:=by omega
 refine FnOk.intro Tryz.func12 (by decide) J J J J ?_
 refine k2 (A2 (A6 J J (A4 ?_)));refine k1 (k2 (A2 (A3 J J (A3 J J (D7 (A66 raw from' (by omega) (by omega)) J J J ?_)))));rintro _ rfl;refine A3 J J (D6 J J J (D7 (C68 _ (n+1) (by omega) (by omega)) J J J ?_));rintro _ rfl;refine A6 J J (A4 ?_);refine k1 (k2 ?_)
 rw [hm]
 refine A2 (A6 J J (A4 ?_));refine k1 (k2 (k2 (A2 (A6 J J (A4 ?_)))));refine k1 (k3 (D2 (X:=Nat) (fun i=>([(0,D3 Int 1 E4 raw),(1,C3 from'),(2,C3 m),(3,C3 kinds),(9,Y9 (Y6 raw from' kinds i)),(10,C3 i)],[])) (fun i=>i≤m) (fun i=>m - i) 0 (Nat.zero_le _) (Sees.of ⟨le1 rfl,le1 rfl,le1 rfl,le1 rfl,le1 rfl,le1 rfl,trivial⟩ trivial) ?_))
 intro i hi
 dsimp only at hi ⊢
 have hbl:=C46 raw from' kinds i
 refine k2 (k2 (A2 (A3 J J (A3 J J (F3 J J J (A4 ?_))))));refine k1 ?_;refine B1 rfl (fun ht=>?_) (fun ht=>?_)
 ·have hlt:i < m:=by have:=A0 ht;omega
  have hll:=B36 (Z9 (j3 raw (from'+1+(i:Int))) kinds)
  refine k5 (k1 (k2 (k3 (A2 (A3 J J (A3 J J (A3 J J (D6 J J J (A3 J J (D6 J J J (D7 (A66 raw _ (by omega) (by omega)) J J J ?_)))))))))));rintro _ rfl;refine A3 J J (D7 (C68 _ kinds (by omega) (by omega)) J J J ?_);rintro _ rfl;refine D7 (H21 _) J J J ?_;rintro _ rfl;refine A5 (B26 J J (by omega)) J (A5 (B26 J J (by (simp only [K86,K87,K90];omega))) J (A6 J J (A4 ?_)));refine k4 (k1 (A2 (A3 J J (D6 J J J (A6 J J (A4 ?_))))));refine k1 ?_;refine ⟨i+1,by omega,by omega,?_⟩
  rw [A40]
  exact Sees.of ⟨le1 rfl,le1 rfl,le1 rfl,le1 rfl,le1 rfl,le1 rfl,trivial⟩ trivial
 ·have hi':i=m:=by have:=A1 ht;omega
  subst hi'
  obtain ⟨s,hs⟩:∃s,s=Y6 raw from' kinds i:=⟨_,rfl⟩
  have hv:(1:Int) < s.length→s[((s.length:Int) - 2).toNat]?=some (s.getD (s.length - 2) 0):=fun h=>by
   rw [show ((s.length:Int) - 2).toNat=s.length - 2 by omega,K88,K82 (by omega)];rfl
  have hbo:B37 raw from' n kinds=if ((j3 raw (from'+90)).tmod 4=0∧(1:Int) < s.length)∧((s.getD (s.length - 2) 0).toNat:Int)≠10 then s.take (s.length - 1) else s:=by
   simp only [B37,hm,K84,←hs]
  rw [←hs] at hbl
  refine k6 (k2 (k2 ?_))
  rw [←hs]
  refine A2 (A3 J J (A3 J J (D6 J J J (D7 (A66 raw _ (by omega) (by omega)) J J J ?_))));rintro _ rfl;refine A5 (B07 J J (by omega)) J (A5 (F7 J J) J (A3 J J (B3 J J J J (fun hg=>by rw [hg];exact B9 J J) ?_)));refine B3 J J J J (fun hg=>by rw [hg];exact I6 J) ?_;refine B3 J J J J (fun hg=>by rw [hg];exact N4 J J) ?_;refine K4 J J ?_;refine A3 J J (B3 J J J J (fun hg=>by rw [hg];exact B9 J J) ?_);refine B3 J J J J (fun hg=>by rw [hg];exact B9 J J) ?_;refine B3 J J J J (fun hg=>by rw [hg];exact I6 J) ?_;refine B3 J J J J (fun hg=>by have hq:=hg;(try simp at hq);rw [hg];exact L7 J J (by omega)) ?_;refine B3 J J J J (fun hg=>by have hq:=hg;(try simp at hq);rw [hg];exact m8 J J (by omega) (hv (by omega))) ?_;refine B3 J J J J (fun hg=>by rw [hg];exact R2 J J) ?_;refine K4 J J ?_;refine A4 ?_;refine k1 ?_;refine B1 rfl (fun ht=>?_) (fun ht=>?_)
  ·simp only [and_pick] at ht
   have h:=A0 ht
   skip
   refine A2 (A3 J J (A3 J J (A5 (I6 J) J (A5 (L7 J J (by omega)) J (A5 (C15 J J (by omega) (by omega)) J (A6 J J (A4 ?_)))))));refine k1 (k2 (A2 (A3 J J (A6 J J (A4 ?_)))));refine k1 (k10 ?_)
   exact B6 (H3 rfl rfl rfl) (by rw [hbo,if_pos h,show ((s.length:Int) - 1).toNat=s.length - 1 by omega])
  ·simp only [and_pick] at ht
   have h:=A1 ht
   refine k5 (k1 (k2 (A2 (A3 J J (A6 J J (A4 ?_))))));refine k1 (k10 ?_)
   exact B6 (H3 rfl rfl rfl) (by rw [hbo,if_neg h])
theorem I22 (raw:List Int) (from' n kinds:Int) (h1:0≤n):((B37 raw from' n kinds).length:Int)≤4*n:=by
 have h:=j2 (j3 raw from') (n:=n+1) (by omega)
 have h2:=C46 raw from' kinds (Z9 (j3 raw from') (n+1)).toNat
 unfold B37
 simp only
 split
 ·simp only [K92];omega
 ·omega
def d9 (raw:List Int) (from':Int) (i:Nat) (s:Str):List Str→Str
 | []=>s
 | x::r=>if (j3 raw (from'+(i:Int))).tmod 6=0 then d9 raw from' (i+1) s r
  else if (j3 raw (from'+(i:Int))).tmod 6=1 then d9 raw from' (i+1) (s++l6 (j3 raw (from'+40+(i:Int)))++[10]++x) r
  else d9 raw from' (i+1) (s++x) r
def A89 (blob:Str) (raw:List Int) (from':Int):Str:=d9 raw from' 0 [] (F1 blob)
theorem B38 (raw:List Int) (from':Int):∀(l:List Str) (i:Nat) (s:Str),(d9 raw from' i s l).length≤s.length+l.flatten.length+4*l.length
 | [],i,s=>by simp [d9]
 | x::r,i,s=>by
  have h1:=B38 raw from' r (i+1) s
  have h2:=B38 raw from' r (i+1) (s++l6 (j3 raw (from'+40+(i:Int)))++[10]++x)
  have h3:=B38 raw from' r (i+1) (s++x)
  have h4:=B36 (j3 raw (from'+40+(i:Int)))
  simp only [K86,K87,K90,L16] at *
  unfold d9
  split
  ·omega
  ·split<;>omega
theorem D51 (s cur:Str):(J3 cur s).flatten=cur++s:=by
 induction s generalizing cur with
 | nil=>unfold J3;split<;>simp [*]
 | cons c r ih=>unfold J3;split<;>simp [ih]
theorem j6 (s:Str):(F1 s).flatten=s:=D51 s []
theorem near_ok (blob:Str) (raw:List Int) (from':Int) (hb:blob.length≤16777216) (h0:0≤from'∧from'≤1073741824) :
  FnOk Tryz.prog 13 [J6 blob,K2 raw,F2 from'] (fun rs=>rs=[J6 (A89 blob raw from')]):=by
 have hll:=B98 blob
 have hlf:=j6 blob
 have hlf':(F1 blob).flatten.length=blob.length:=by rw [hlf]
 refine FnOk.intro Tryz.func13 (by decide) J J J J ?_
 refine k2 (A2 (A6 J J (A4 ?_)));refine k1 (k2 (A2 (A3 J J (D7 (H10 blob (by omega)) J J J ?_))));rintro _ rfl;refine A6 J J (A4 ?_);refine k1 (k2 ?_)
 obtain ⟨l,hl⟩:∃l,l=F1 blob:=⟨_,rfl⟩
 have hno:A89 blob raw from'=d9 raw from' 0 [] l:=by rw [A89,hl]
 rw [←hl] at hll hlf' ⊢
 refine A2 (A6 J J (A4 ?_));refine k1 (k2 (k2 (A2 (A6 J J (A4 ?_)))));refine k1 (k3 (D2 (X:=Nat × Str) (fun x=>([(1,D3 Int 1 E4 raw),(2,C3 from'),(7,D3 Str 1 R5 l),(8,Y9 x.2),(9,C3 x.1)],[])) (fun x=>x.1≤l.length∧x.2.length≤(l.take x.1).flatten.length+4*x.1∧d9 raw from' x.1 x.2 (l.drop x.1)=d9 raw from' 0 [] l) (fun x=>l.length - x.1) (0,[]) (by simp) (Sees.of ⟨le1 rfl,le1 rfl,le1 rfl,le1 rfl,le1 rfl,trivial⟩ trivial) ?_))
 rintro ⟨i,s⟩ ⟨hi,hs,hp⟩
 dsimp only at hi hs hp ⊢
 have hle:=B68 l i
 refine k2 (k2 (A2 (A3 J J (A3 J J (E5 J J (F3 J J J (A4 ?_)))))));refine k1 ?_;refine B1 rfl (fun ht=>?_) (fun ht=>?_)
 ·have hlt:i < l.length:=by have:=A0 ht;omega
  have hv:l[i]?=some l[i]:=by simp [hlt]
  have hle2:=B68 l (i+1)
  have hst:=A69 l i hlt
  rw [hst,K86] at hle2
  rw [K91 hlt,d9] at hp
  refine k5 (k1 (k2 (k3 (k2 (k2 (A2 (A3 J J (A3 J J (A3 J J (D6 J J J (D7 (A66 raw _ (by omega) (by omega)) J J J ?_)))))))))));rintro _ rfl;refine A5 (B07 J J (by omega)) J (A4 ?_);refine k1 (k3 (k2 (A2 (A5 (F7 J J) J (A6 J J (A4 ?_))))));refine k1 ?_;refine B1 rfl (fun ht=>?_) (fun ht=>?_)
  ·rw [if_pos (A0 ht)] at hp
   refine k6 (k9 J (k7 (k8 J (k1 (A2 (A3 J J (D6 J J J (A6 J J (A4 ?_)))))))));refine k1 ?_
   exact ⟨(i+1,s),⟨by dsimp only;omega,by dsimp only;rw [hst,K86];omega,hp⟩,by dsimp only;omega,Sees.of ⟨le1 rfl,le1 rfl,le1 rfl,le1 rfl,le1 rfl,trivial⟩ trivial⟩
  ·rw [if_neg (A1 ht)] at hp
   refine k2 (A2 (A5 (F7 J J) J (A6 J J (A4 ?_))));refine k1 ?_;refine B1 rfl (fun ht=>?_) (fun ht=>?_)
   ·rw [if_pos (A0 ht)] at hp
    have h4:=B36 (j3 raw (from'+40+(i:Int)))
    skip
    refine A2 (A3 J J (A3 J J (A3 J J (D6 J J J (A3 J J (D6 J J J (D7 (A66 raw _ (by omega) (by omega)) J J J ?_)))))));rintro _ rfl;refine D7 (H21 _) J J J ?_;rintro _ rfl;refine A5 (B26 J J (by omega)) J (A5 (B26 J J (by (simp only [K86,K87,K90];omega))) J (A6 J J (A4 ?_)));refine k4 (k1 (A2 (A3 J J (A3 J J (A3 J J (A5 (B2 J (.pure _ _ _ _) J (by omega) hv) J (A5 (B0 J J) J (A5 (B26 J J (by (simp only [K86,K87,K90];omega))) J (A6 J J (A4 ?_))))))))));refine k4 (k1 (A2 (A3 J J (D6 J J J (A6 J J (A4 ?_))))));refine k1 ?_
    exact ⟨(i+1,s++l6 (j3 raw (from'+40+(i:Int)))++[10]++l[i]),⟨by dsimp only;omega,by dsimp only;rw [hst];simp only [K86,K87,K90];omega,hp⟩,by dsimp only;omega,Sees.of ⟨le1 rfl,le1 rfl,le1 rfl,le1 rfl,le1 rfl,trivial⟩ trivial⟩
   ·rw [if_neg (A1 ht)] at hp
    refine k5 (k4 (k1 (A2 (A3 J J (A3 J J (A3 J J (A5 (B2 J (.pure _ _ _ _) J (by omega) hv) J (A5 (B0 J J) J (A5 (B26 J J (by omega)) J (A6 J J (A4 ?_)))))))))));refine k4 (k1 (A2 (A3 J J (D6 J J J (A6 J J (A4 ?_))))));refine k1 ?_
    exact ⟨(i+1,s++l[i]),⟨by dsimp only;omega,by dsimp only;rw [hst,K86,K86];omega,hp⟩,by dsimp only;omega,Sees.of ⟨le1 rfl,le1 rfl,le1 rfl,le1 rfl,le1 rfl,trivial⟩ trivial⟩
 ·have hi':i=l.length:=by have:=A1 ht;omega
  rw [hi',L00 (Nat.le_refl _)] at hp
  refine k6 (k2 (A2 (A3 J J (A6 J J (A4 ?_)))));refine k1 (k10 ?_)
  exact B6 (H3 rfl rfl rfl) (by rw [hno,←hp];rfl)
end Go.Proofs.YtkahafmcmiiolaaGreatDoor
namespace Go.Proofs.YtkahafmcmiiolaaGreatDoor
open Go Go.AL
set_option maxRecDepth 100000
theorem F81 (s:Str):(ByteArray.mk s.toArray).size=s.length:=by simp [ByteArray.size]
theorem G43 (s p:Str) (hs:s.length≤1099511627776):FnOk Tryz.prog 138 [J6 s,J6 p] (fun rs=>rs=[H9 (Lib.hasSuffix s p)]) :=
 K62 (xs:=[.string ⟨s.toArray⟩,.string ⟨p.toArray⟩]) ⟨_,rfl,rfl,rfl⟩ rfl fun w=>by simpa using Tryz.strings_HasSuffix ⟨s.toArray⟩ ⟨p.toArray⟩ w (by rw [F81];omega)
theorem F43 (s p:Str) (hs:s.length≤1099511627776):FnOk Tryz.prog 80 [J6 s,J6 p] (fun rs=>rs=[J6 (Lib.trimSuffix s p)]) :=
 K62 (xs:=[.string ⟨s.toArray⟩,.string ⟨p.toArray⟩]) ⟨_,rfl,rfl,rfl⟩ rfl fun w=>by simpa using Tryz.strings_TrimSuffix ⟨s.toArray⟩ ⟨p.toArray⟩ w (by rw [F81];omega)
theorem D00 (s:Str) (c:UInt8):FnOk Tryz.prog 172 [J6 s,.one (.v (.int .u8 c.toNat))] (fun rs=>rs=[F2 (Lib.indexByte s c)]) :=
 K62 (xs:=[.string ⟨s.toArray⟩,.int .u8 c.toNat]) ⟨_,rfl,rfl,rfl⟩ rfl fun w=>by simpa using Tryz.strings_IndexByte ⟨s.toArray⟩ c.toNat w
theorem J56 (s:Str) (hs:s.length≤1099511627776):FnOk Tryz.prog 103 [J6 s] (fun rs=>rs=[H9 (ended s)]):=by
 refine FnOk.intro Tryz.func103 (by decide) J J J J ?_
 refine k2 (A2 (A6 J J (A4 ?_)));refine k1 (k2 (A2 (A3 J J (D7 (G43 s [10] hs) J J J ?_))));rintro _ rfl;refine A6 J J (A4 ?_)
 rw [D17]
 refine k1 (k10 ?_)
 exact B6 (H3 rfl rfl rfl) rfl
theorem K23 (s:Str) (hs:s.length≤1099511627776):FnOk Tryz.prog 47 [J6 s] (fun rs=>rs=[J6 (f0 s)]):=by
 refine FnOk.intro Tryz.func47 (by decide) J J J J ?_
 refine k2 (A2 (A6 J J (A4 ?_)));refine k1 (k2 (A2 (A3 J J (D7 (F43 s [10] hs) J J J ?_))));rintro _ rfl;refine A6 J J (A4 ?_)
 rw [F60]
 refine k1 (k10 ?_)
 exact B6 (H3 rfl rfl rfl) rfl
end Go.Proofs.YtkahafmcmiiolaaGreatDoor
namespace Go.Proofs.YtkahafmcmiiolaaGreatDoor
open Go Go.AL
set_option maxRecDepth 100000
end Go.Proofs.YtkahafmcmiiolaaGreatDoor
namespace Go.Proofs.YtkahafmcmiiolaaGreatDoor
open Go Go.AL Go.RowKit
set_option maxRecDepth 100000
theorem F82 (s:Str) (c:UInt8):FnOk Tryz.prog 102 [J6 s,J6 [c]] (fun rs=>rs=[F2 (s.count c)]) :=
 K62 (xs:=[.string ⟨s.toArray⟩,.string ⟨#[c]⟩]) ⟨_,rfl,rfl,rfl⟩ rfl fun w=>by simpa [Lib.countByte] using Tryz.strings_Count_one ⟨s.toArray⟩ c w
theorem J57 (s:Str) (c:UInt8):FnOk Tryz.prog 118 [J6 s,J6 [c]] (fun rs=>rs=[F2 (Lib.indexByte s c)]) :=
 K62 (xs:=[.string ⟨s.toArray⟩,.string ⟨#[c]⟩]) ⟨_,rfl,rfl,rfl⟩ rfl fun w=>by simpa using Tryz.strings_Index_one ⟨s.toArray⟩ c w
abbrev D01 (l:List Str):Ob:=.grow 9 Str 1 R5 l
theorem G44 (s:Str) (hs:s.length≤536870912):AL.Met Tryz.prog 104 [(J6 s).s1,(J6 [10]).s1,(F2 1).s1,(F2 (-1)).s1] [] [] [] (fun rs ob'=>rs=[.one (.mut 9)]∧ob'=[(9,D01 (R6 s))]):=by
 have hP:=c5 s []
 have hc:s.count 10≤s.length:=List.count_le_length
 have h10:([10]:Str).length=1:=rfl
 obtain ⟨P,hPe⟩:∃P,P=R6 s:=⟨_,rfl⟩
 have hPl:P.length=s.count 10+1:=by rw [hPe];exact hP
 refine AL.Met.intro Tryz.func104 (by decide) J J J ?_
 refine k2 (A2 (A6 J J (A4 ?_)));refine k1 (k2 (k2 (A2 (A3 J J (A5 (F7 J J) J (A4 ?_))))));refine k1 ?_;refine B1 rfl (fun ht=>?_) (fun ht=>?_)
 ·exact absurd (A0 ht) (by omega)
 refine k5 (k1 (k2 (k2 (A2 (A3 J J (A5 (c9 J J) J (A4 ?_)))))));refine k1 ?_;refine B1 rfl (fun ht=>?_) (fun ht=>?_)
 ·exact absurd (A0 ht) (by simp)
 refine k5 (k1 (k2 (k2 (A2 (A3 J J (F3 J J J (A4 ?_)))))));refine k1 ?_;refine B1 rfl (fun ht=>?_) (fun ht=>?_)
 rotate_left
 ·exact absurd (A1 ht) (by omega)
 skip
 refine A2 (A3 J J (A3 J J (D7 (F82 s 10) J J J ?_)));rintro _ rfl;refine D6 J J J (A6 J J (A4 ?_));refine k1 (k2 (A2 (A3 J J (A3 J J (A5 (I6 J) J (D6 J J J (A5 (F70 J J) J (A6 J J (A4 ?_)))))))));refine k1 (k2 ?_)
 rw [show (if (s.length:Int)+1 < (s.count 10:Int)+1 then (s.length:Int)+1 else (s.count 10:Int)+1)=(P.length:Int) from by split<;>omega]
 refine A2 (A3 J J (D1 (f_makeG 9 Str R5 [] J J (by omega) (by omega) (fun _=>by first | exact ⟨⟨rfl,rfl⟩,trivial⟩ | exact ⟨H8 _ _ _,trivial⟩ | exact ⟨H8 _ _ _,⟨rfl,rfl⟩,H8 _ _ _,trivial⟩) (by first | rfl | (simp [K0,K3,Ob.free,SV.free,S1.free,TC.free]<;>rfl))) J ?_));refine A6 J J (A4 ?_);refine k1 (k2 (A2 (A3 J J (A5 (L7 J J (by omega)) J (A6 J J (A4 ?_))))));refine k1 (k2 (A2 (A6 J J (A4 ?_))));refine k1 (k2 (k3 (D2 (X:=Nat × Str) (fun x=>([(0,Y9 x.2),(1,Y9 [10]),(2,C3 1),(3,C3 ((P.length:Int) - 1)),(9,.s (.one (.mut 9))),(10,C3 x.1)],[(9,D01 (P.take x.1++List.replicate (P.length - x.1) []))])) (fun x=>x.1+1≤P.length∧P.drop x.1=R6 x.2∧x.2.length≤s.length) (fun x=>P.length - x.1) (0,s) ⟨by dsimp only;omega,hPe,Nat.le_refl _⟩ (Sees.of ⟨le1 rfl,le1 rfl,le1 rfl,le1 rfl,le1 rfl,le1 rfl,trivial⟩ ⟨rfl,trivial⟩) ?_)))
 rintro ⟨i,r⟩ ⟨hi,hp,hr⟩
 dsimp only at hi hp hr ⊢
 refine k2 (k2 (A2 (A3 J J (A3 J J (F3 J J J (A4 ?_))))));refine k1 ?_;refine B1 rfl (fun ht=>?_) (fun ht=>?_)
 ·have hlt:i+1 < P.length:=by have:=A0 ht;omega
  have hin:(10:UInt8)∈r:=by
   have h1:=c5 r []
   have h2:(P.drop i).length=r.count 10+1:=by rw [hp];exact h1
   rw [K99] at h2
   exact List.count_pos_iff.1 (by omega)
  rcases j8 10 r with ⟨h1,_⟩ | ⟨a,b,h1,h2,h3⟩
  ·exact absurd hin h1
  obtain ⟨h4,h5⟩:=I83 hp h1 h2
  have hl:r.length=a.length+1+b.length:=by rw [h1];simp;omega
  refine k5 (k1 (k3 (k2 (A2 (A3 J J (A3 J J (D7 (J57 r 10) J J J ?_)))))));rintro _ rfl;refine A6 J J (A4 ?_);refine k1 (k2 (k2 (A2 (A3 J J (F3 J J J (A4 ?_))))));refine k1 ?_
  rw [h3]
  refine B1 rfl (fun ht=>?_) (fun ht=>?_)
  ·exact absurd (A0 ht) (by omega)
  refine k5 (k1 (k2 ?_))
  have hvi:(P.take i++List.replicate (P.length - i) ([]:Str))[((i:Nat):Int).toNat]?=some []:=by
   rw [K84,K95 (by rw [K92];omega),List.getElem?_replicate,if_pos (by rw [K92];omega)]
  refine A2 (A3 J J (A3 J J (A3 J J (A3 J J (A3 J J (D6 J J J (A5 (C15 J J (by omega) (by omega)) J (A5 (H6 J J J (by omega) (by (simp;omega))) J (H1 (v7 ((r.take ((a.length:Int)+1).toNat)) TySz.out J J hvi J J J J (fun _ _ _ h=>o7 h) (by intro j h1 h2;rcases j with _ | _ | _ | _ | _ | _ | _ | j<;>first | rfl | omega)) ?_)))))))));refine A4 ?_;refine k1 (k2 (A2 (A3 J J (A3 J J (A3 J J (A5 (I6 J) J (D6 J J J (A5 (C89 J J (by omega) (by omega)) J (A6 J J (A4 ?_))))))))));refine k1 (A2 (A3 J J (D6 J J J (A6 J J (A4 ?_)))));refine k4 (k1 ?_)
  have e1:r.take (((a.length:Int)+1).toNat)=a++[10]:=by rw [h1,show ((a.length:Int)+1).toNat=a.length+1 by omega,show a++10::b=(a++[10])++b by simp,List.take_left' (by simp)]
  have e2:r.drop (((a.length:Int)+(([10]:Str).length:Int)).toNat)=b:=by rw [h1,h10,show ((a.length:Int)+((1:Nat):Int)).toNat=a.length+1 by omega,show a++10::b=(a++[10])++b by simp,List.drop_left' (by simp)]
  refine ⟨(i+1,b),⟨by dsimp only;omega,h5,by dsimp only;omega⟩,by dsimp only;omega,?_⟩
  rw [e1,e2]
  dsimp only
  rw [←G05 P [] _ i h4]
  exact Sees.of ⟨le1 rfl,le1 rfl,le1 rfl,le1 rfl,le1 rfl,le1 rfl,trivial⟩ ⟨rfl,trivial⟩
 ·have hge:i+1=P.length:=by have:=A1 ht;omega
  have h1:=c5 r []
  have h2:(P.drop i).length=r.count 10+1:=by rw [hp];exact h1
  rw [K99] at h2
  have h3:(10:UInt8)∉r:=List.count_eq_zero.1 (by omega)
  have h4:P[i]?=some r:=by rw [←List.head?_drop,hp];unfold R6;rw [F61 _ _ h3];rfl
  refine k6 (k2 ?_)
  have hvi:(P.take i++List.replicate (P.length - i) ([]:Str))[((i:Nat):Int).toNat]?=some []:=by
   rw [K84,K95 (by rw [K92];omega),List.getElem?_replicate,if_pos (by rw [K92];omega)]
  refine A2 (A3 J J (A3 J J (A3 J J (A5 (H6 J J J (by omega) (by (simp;omega))) J (H1 (v7 (r) TySz.out J J hvi J J J J (fun _ _ _ h=>o7 h) (by intro j h1 h2;rcases j with _ | _ | _ | _ | _ | _ | _ | j<;>first | rfl | omega)) ?_)))));refine A4 ?_;refine k1 (k2 ?_)
  have e:(P.take i++List.replicate (P.length - i) ([]:Str)).set (i:Int).toNat r=P:=by rw [K84,G05 P [] r i h4,hge];simp
  rw [e]
  refine A2 (A3 J J (A3 J J (D6 J J J (D1 (A64 J J J (by omega) (by omega) J) J (A6 J J (A4 ?_))))));refine k1 (k10 ?_)
  rw [show ((i:Int)+1).toNat=P.length by omega,K89,hPe]
  exact E1 (I1 rfl rfl) (by repeat (first | exact A8 | refine A9 rfl ?_ | refine C2 _ ?_)) (ObIn.spec (ob':=[(9,_)]) ⟨rfl,trivial⟩) ⟨rfl,rfl⟩
theorem E75 (s:Str) (hs:s.length≤536870912):AL.Met Tryz.prog 72 [(J6 s).s1,(J6 [10]).s1] [] [] [] (fun rs ob'=>rs=[.one (.mut 9)]∧ob'=[(9,D01 (R6 s))]):=by
 refine AL.Met.intro Tryz.func72 (by decide) J J J ?_
 refine k2 (A2 (A6 J J (A4 ?_)));refine k1 (k2 (A2 (A3 J J (A3 J J (A3 J J (A5 (I6 J) J (B12 (G44 s hs) J J J J ?_)))))));rintro _ _ ⟨rfl,rfl⟩;refine ⟨rfl,?_⟩;refine A6 J J (A4 ?_);refine k1 (k10 ?_)
 exact E1 (I1 rfl rfl) (by repeat (first | exact A8 | refine A9 rfl ?_ | refine C2 _ ?_)) (ObIn.spec (ob':=[(9,_)]) ⟨rfl,trivial⟩) ⟨rfl,rfl⟩
theorem F83 (s:Str) (hs:s.length≤536870912):FnOk Tryz.prog 71 [J6 s] (fun rs=>rs=[F2 (M2 s)]):=by
 have hl:=A99 s
 have hc:s.count 10≤s.length:=List.count_le_length
 refine FnOk.intro Tryz.func71 (by decide) J J J J ?_
 refine k2 (A2 (A6 J J (A4 ?_)));refine k1 (k2 (A2 (A3 J J (D7 (F82 s 10) J J J ?_))));rintro _ rfl;refine A6 J J (A4 ?_);refine R8 ?_
 refine E48 [(0,Y9 s),(3,C3 (F1 s).length)] [] ?_ ?_
 ·refine k2 (A2 (A3 J J (A5 (G25 J J) J (A3 J J (B3 J J J J (fun hg=>by rw [hg];exact B9 J J) ?_)))));refine B3 J J J J (fun hg=>by have hq:=hg;(try simp at hq);rw [hg];exact O6 (J56 s (by omega)) J J) ?_;refine B3 J J J J (fun hg=>by rw [hg];exact Q8 J) ?_;refine K4 J J ?_;refine A4 ?_;refine k1 ?_;refine B1 rfl (fun ht=>?_) (fun ht=>?_)
  ·have h:s≠[]∧ended s=false:=by
    by_cases h1:s=[]
    ·simp [h1] at ht
    ·refine ⟨h1,?_⟩;simpa [h1] using ht
   rw [if_pos h] at hl
   skip
   refine A2 (A3 J J (D6 J J J (A6 J J (A4 ?_))));refine k1 ?_
   rw [hl,Int.natCast_add]
   exact Sees.of ⟨le1 rfl,le1 rfl,trivial⟩ trivial
  ·have h:¬(s≠[]∧ended s=false):=by
    rintro ⟨h1,h2⟩
    simp [h1,h2] at ht
   rw [if_neg h] at hl
   refine k5 (k1 ?_)
   rw [hl]
   exact Sees.of ⟨le1 rfl,le1 rfl,trivial⟩ trivial
 ·refine k2 (k2 (A2 (A3 J J (A5 (I6 J) J (A5 (N4 J J) J (A3 J J (B3 J J J J (fun hg=>by rw [hg];exact B9 J J) ?_)))))));refine B3 J J J J (fun hg=>by rw [hg];exact N4 J J) ?_;refine K4 J J ?_;refine A4 ?_;refine k1 ?_;refine B1 rfl (fun ht=>?_) (fun ht=>?_)
  ·have h:=A0 (or_pick.symm.trans ht)
   refine k2 (A2 (A6 J J (A4 ?_)));refine k1 (k10 (k11 ?_))
   exact B6 (H3 rfl rfl rfl) (by rw [M2,if_pos (by omega)])
  ·have h:=A1 (or_pick.symm.trans ht)
   refine k5 (k1 (k2 (A2 (A6 J J (A4 ?_)))));refine k1 (k10 ?_)
   exact B6 (H3 rfl rfl rfl) (by rw [M2,if_neg (by omega)])
theorem I23 (s:Str) (hs:s.length≤536870912):AL.Met Tryz.prog 42 [(J6 s).s1] [] [] [] (fun rs ob'=>rs=[.one (.mut 9),(F2 (d6 s).2).s1]∧ob'=[(9,D01 (d6 s).1)]):=by
 have hp:F1 s=if (R6 s).getLastD []=[] then (R6 s).dropLast else R6 s:=H75 s []
 have hc:(R6 s).length=s.count 10+1:=c5 s []
 have hcl:s.count 10≤s.length:=List.count_le_length
 refine AL.Met.intro Tryz.func42 (by decide) J J J ?_
 refine k2 (A2 (A6 J J (A6 J J (A4 ?_))));refine k1 (k2 (k2 (A2 (A3 J J (D7 (F83 s hs) J J J ?_)))));rintro _ rfl;refine A6 J J (A4 ?_);refine k1 (k2 (A2 (A3 J J (A5 (R2 J J) J (A4 ?_)))));refine k1 ?_;refine B1 rfl (fun ht=>?_) (fun ht=>?_)
 ·have h:M2 s≠0:=by simpa using ht
  have h1:s.length > 1048576∨(F1 s).length > 4096:=by
   by_cases h1:s.length > 1048576∨(F1 s).length > 4096
   ·exact h1
   ·exact absurd (by rw [M2,if_neg h1]) h
  refine k2 (A2 (A3 J J (D1 (G95 9 _ R5 J) J (A6 J J (A4 ?_)))));refine k1 (k10 (k11 ?_));refine E1 (J04 rfl rfl rfl) (by repeat (first | exact A8 | refine A9 rfl ?_ | refine C2 _ ?_)) (ObIn.spec (ob':=[(9,_)]) ⟨rfl,trivial⟩) ?_
  rw [d6,if_pos h1,M2,if_pos h1]
  exact ⟨rfl,rfl⟩
 ·have h:M2 s=0:=by simpa using ht
  have h1:¬(s.length > 1048576∨(F1 s).length > 4096):=fun h1=>by rw [M2,if_pos h1] at h;omega
  have hv:(R6 s)[(R6 s).length - 1]?=some ((R6 s).getLastD []):=by
   rw [←List.getLast?_eq_getElem?,List.getLast?_eq_some_getLast (fun e=>by rw [e] at hc;simp at hc)]
   rw [List.getLastD_eq_getLast?,List.getLast?_eq_some_getLast (fun e=>by rw [e] at hc;simp at hc)];rfl
  have hi:(((R6 s).length:Int) - 1).toNat=(R6 s).length - 1:=by omega
  refine k5 (k1 (k2 (A2 (A3 J J (B12 (E75 s hs) J J J J ?_)))));rintro _ _ ⟨rfl,rfl⟩;refine ⟨rfl,?_⟩;refine A6 J J (A4 ?_);refine R8 ?_
  refine E48 [(5,.s (.one (.mut 9)))] [(9,D01 (F1 s))] ?_ ?_
  ·refine k2 (A2 (A3 J J (A3 J J (A5 (V5 J J) J (A5 (L7 J J (by omega)) J (A5 (H6 J J J (by omega) (by omega)) J (A5 (A02 J J (by rw [hi];exact hv) J) J ?_)))))));refine A5 (c9 J J) J (A4 ?_);refine k1 ?_;refine B1 rfl (fun ht=>?_) (fun ht=>?_)
   ·have h2:=A0 ht
    skip
    refine A2 (A3 J J (A3 J J (A5 (V5 J J) J (A5 (L7 J J (by omega)) J (D1 (A64 J J J (by omega) (by omega) J) J (A6 J J (A4 ?_)))))));refine k1 ?_
    rw [hp,if_pos h2,List.dropLast_eq_take,←hi]
    exact Sees.of ⟨le1 rfl,trivial⟩ ⟨rfl,trivial⟩
   ·have h2:=A1 ht
    refine k5 (k1 ?_)
    rw [hp,if_neg h2]
    exact Sees.of ⟨le1 rfl,trivial⟩ ⟨rfl,trivial⟩
  ·refine k2 (A2 (A3 J J (A6 J J (A6 J J (A4 ?_)))));refine k1 (k10 ?_);refine E1 (J04 rfl rfl rfl) (by repeat (first | exact A8 | refine A9 rfl ?_ | refine C2 _ ?_)) (ObIn.spec (ob':=[(9,_)]) ⟨rfl,trivial⟩) ?_
   rw [d6,if_neg h1]
   exact ⟨rfl,rfl⟩
theorem F84 (s:Str) (hs:s.length≤536870912):FnOk Tryz.prog 42 [J6 s] (fun rs=>rs=[D74 (d6 s).1,F2 (d6 s).2]) :=
 K79 (I23 s hs) fun rs ob' hm=>by
  obtain ⟨rfl,rfl⟩:=hm
  exact ⟨9,Str,1,R5,(d6 s).1,_,[D74 (d6 s).1,F2 (d6 s).2],rfl,rfl,rfl,rfl⟩
end Go.Proofs.YtkahafmcmiiolaaGreatDoor
namespace Go.Proofs.YtkahafmcmiiolaaGreatDoor
open Go Go.RowKit Go.AL
attribute [local go_sem] Oper.semAt_some
set_option maxRecDepth 100000
set_option maxHeartbeats 2000000
theorem C47:∀(a r cur:Str),47∉a→L3 cur (a++47::r)=(cur++a)::L3 [] r
 | [],r,cur,_=>by simp [L3]
 | x::a,r,cur,h=>by
  have hx:x≠47:=fun e=>h (by simp [e])
  rw [L05,L3,if_neg hx,C47 a r _ (fun e=>h (by simp [e])),K96];rfl
theorem C48:∀(a cur:Str),47∉a→L3 cur a=[cur++a]
 | [],cur,_=>by simp [L3]
 | x::a,cur,h=>by
  have hx:x≠47:=fun e=>h (by simp [e])
  rw [L3,if_neg hx,C48 a _ (fun e=>h (by simp [e])),K96];rfl
theorem a6 {W:World} {B:Nat} {v:Value} {t:TypeId} (h:W.heap[B]?=some (.cells #[v] t (0,0))):W.cell? ⟨B,0,none⟩=some v∧W.frozen? ⟨B,0,none⟩=false:=by
 constructor<;>simp [World.cell?,World.frozen?,h]
structure RInv (rec:LoopState→Option Code→Loop) (n0:Nat) (w0:World) (l D b2 bs bp bv:Nat) (rest:Str) (W:World):Prop where
 s:W.heap[bs]?=some (.cells #[.string ⟨rest.toArray⟩] 9 (0,0))
 p:W.heap[bp]?=some (.cells #[.string ⟨#[47]⟩] 9 (0,0))
 v:W.heap[bv]?=some (.cells #[.int .i64 0] 3 (0,0))
 r:W.heap[b2]?=some (.cells #[.int .i64 0] 27 (0,0))
 l:W.heap[l]?=some (.loop (rec .ready none))
 d:W.heap[D]?=some (.deferred (some []))
 b:Below n0 w0 W
structure RFin (rec:LoopState→Option Code→Loop) (n0:Nat) (w0:World) (l D b2:Nat) (W:World):Prop where
 r:W.heap[b2]?=some (.cells #[.int .i64 210] 27 (0,0))
 l:W.heap[l]?=some (.loop (rec .done (some .ret)))
 d:W.heap[D]?=some (.deferred (some []))
 b:Below n0 w0 W
def leftIn (bs:Nat) (W:World):Nat:=match W.cell? ⟨bs,0,none⟩ with | some (.string s)=>s.size | _=>0
theorem v8 {W:World} {B:Nat} {v v':Value} {t:TypeId} (h:W.heap[B]?=some (.cells #[v] t (0,0))):(W.setCell ⟨B,0,none⟩ v').heap[B]?=some (.cells #[v'] t (0,0)):=by
 obtain ⟨hlt,hk'⟩:=Array.getElem?_eq_some_iff.1 h
 show (W.heap.modify B _)[B]?=_
 rw [Array.getElem?_eq_getElem (by rw [Array.size_modify];exact hlt),Array.getElem_modify_self,hk']
 rfl
theorem RInv.step {rec:LoopState→Option Code→Loop} {n0:Nat} {w0:World} {l D b2 bs bp bv:Nat} {rest:Str} {W:World} (h:RInv rec n0 w0 l D b2 bs bp bv rest W) (hne:bs≠bp∧bs≠bv∧bs≠b2∧bs≠l∧bs≠D∧n0≤bs) (r:Str) :
  RInv rec n0 w0 l D b2 bs bp bv r (W.setCell ⟨bs,0,none⟩ (.string ⟨r.toArray⟩)):=by
 obtain ⟨h1,h2,h3,h4,h5,h6⟩:=hne
 exact ⟨v8 h.s,(Below.heap_setCell W _ _ _ (Ne.symm h1)).trans h.p,(Below.heap_setCell W _ _ _ (Ne.symm h2)).trans h.v,(Below.heap_setCell W _ _ _ (Ne.symm h3)).trans h.r,(Below.heap_setCell W _ _ _ (Ne.symm h4)).trans h.l,(Below.heap_setCell W _ _ _ (Ne.symm h5)).trans h.d,h.b.setCell (p:=⟨bs,0,none⟩) h6 _⟩
theorem H22 {rec:LoopState→Option Code→Loop} {n0:Nat} {w0:World} {l D b2 bs bp bv:Nat} (hne:bs≠bp∧bs≠bv∧bs≠b2∧bs≠l∧bs≠D∧n0≤bs)
  (hIdx:∀(s:Str) (w:World),Calls Tryz.prog 118 #[.string ⟨s.toArray⟩,.string ⟨#[47]⟩] w (fun e w'=>e=.returned (.int .i64 (Lib.indexByte s 47))∧w'=w))
  (hY:∀rest x W,RInv rec n0 w0 l D b2 bs bp bv rest W→YieldAt Fence.wide 3 Tryz.prog l #[.string ⟨x.toArray⟩] W (fun e W'=>(P8 x=true∧e=.returned (.bool true)∧RInv rec n0 w0 l D b2 bs bp bv rest W')∨(P8 x=false∧e=.returned (.bool false)∧RFin rec n0 w0 l D b2 W')))
  (p:Str) (hp:p.length≤1073741824) (W:World) (hI:RInv rec n0 w0 l D b2 bs bp bv p W) :
  CallsIn Fence.wide 4 Tryz.prog 194 #[.func (.yield l) #[] #[],.pointer (some ⟨bp,0,none⟩),.pointer (some ⟨bs,0,none⟩),.pointer (some ⟨bv,0,none⟩)] W (fun e W'=>(∃v,e=.returned v) ∧
   (((L3 [] p).all P8=true∧∃rest,RInv rec n0 w0 l D b2 bs bp bv rest W')∨((L3 [] p).all P8=false∧RFin rec n0 w0 l D b2 W'))):=by
 refine callsIn_of_wp Tryz.func194 rfl trivial ?_ rfl
 simp only [Tryz.ntmps194,List.size_toArray,K87,K90,Nat.reduceAdd,Nat.reduceSub,Array.replicate_succ,Array.replicate_zero,List.push_toArray,List.append_toArray,L17,L05]
 have hcp:=a6 hI.p
 gi_wp2
 gi_loopw [7] (fun v wr=>∃rest:Str,rest.length≤p.length∧(L3 [] p).all P8=(L3 [] rest).all P8∧RInv rec n0 w0 l D b2 bs bp bv rest wr) (fun v wr=>leftIn bs wr)
 case atStart=>exact ⟨p,Nat.le_refl _,rfl,hI⟩
 case round =>
  obtain ⟨rest,hl,hall,hR⟩:=hrel
  obtain ⟨hs1,hs2⟩:=a6 hR.s
  obtain ⟨hp1,hp2⟩:=a6 hR.p
  obtain ⟨hv1,hv2⟩:=a6 hR.v
  rcases j8 47 rest with ⟨h1,h2⟩ | ⟨x,r,h1,h2,h3⟩
  ·rw [C48 _ _ h1] at hall
   obtain ⟨fn,tmps,assign,body,hy,hRd⟩:=hY rest rest wr hR
   gi_wp2_with (refine ⟨trivial,?_⟩;gi_at_call 118;refine (callsIn_wide.2 (hIdx rest _)).mono ?_;rintro e w' ⟨rfl,rfl⟩;rw [h2])
   refine hRd.mono ?_
   rintro e W' (⟨h5,rfl,h6⟩ | ⟨h5,rfl,h6⟩)
   ·gi_wp2
    go_end0
    exact ⟨⟨_,rfl⟩,.inl ⟨by simp [hall,h5],rest,h6⟩⟩
   ·gi_wp2
    go_end0
    exact ⟨⟨_,rfl⟩,.inr ⟨by simp [hall,h5],h6⟩⟩
  ·subst h1
   rw [C47 _ _ _ h2,List.all_cons] at hall
   have hxl:x.length < (x++47::r).length:=by simp
   have hex:(⟨(x++47::r).toArray⟩:ByteArray).extract 0 x.length=⟨x.toArray⟩:=by
    apply ByteArray.ext;rw [ByteArray.data_extract];simp
   have hex2:(⟨(x++47::r).toArray⟩:ByteArray).extract (x.length+1) (x.length+(r.length+1))=⟨r.toArray⟩:=by
    apply ByteArray.ext;rw [ByteArray.data_extract];simp;exact L09 (by omega)
   obtain ⟨fn,tmps,assign,body,hy,hRd⟩:=hY _ x wr hR
   gi_wp2_with (refine ⟨trivial,?_⟩;gi_at_call 118;refine (callsIn_wide.2 (hIdx _ _)).mono ?_;rintro e w' ⟨rfl,rfl⟩;rw [h3])
   refine hRd.mono ?_
   rintro e W' (⟨h5,rfl,h6⟩ | ⟨h5,rfl,h6⟩)
   ·obtain ⟨hs3,hs4⟩:=a6 h6.s
    obtain ⟨hp3,hp4⟩:=a6 h6.p
    gi_wp2
    try rw [hex2]
    have h7:=h6.step hne r
    refine ⟨⟨r,by simp at hl;omega,by simp [hall,h5],h7⟩,?_⟩
    unfold leftIn
    rw [(a6 h7.s).1,hs1]
    show r.toArray.size < (x++47::r).toArray.size
    simp
    omega
   ·gi_wp2
    refine bodyPost_ret (results_none J _ _ _) J ?_
    exact ⟨⟨_,rfl⟩,.inr ⟨by simp [hall,h5],h6⟩⟩
def chkPost (b2:Nat) (x:Str) (W:World):Exit→Act→World→Prop
 | .normal,_,W'=>P8 x=true∧W'=W
 | .ret,_,W'=>P8 x=false∧W'=W.setCell ⟨b2,0,none⟩ (.int .i64 210)
 | _,_,_=>False
theorem H23 {ps:Array Tmp} {assign body:Code} {Q:Exit→Act→World→Prop} {a:Act} {w:World} {g:Operand} {b2 bs bp bv:Nat} {n0:Nat} {w0:World} {p:Str} (hp:p.length≤1073741824)
  (hne:bs≠bp∧bs≠bv∧bs≠b2∧n0≤bs∧n0≤b2) (hlt:bs < w.heap.size∧b2 < w.heap.size∧n0≤w.heap.size) (hps:ps.size=1)
  (hIdx:∀(s:Str) (w:World),Calls Tryz.prog 118 #[.string ⟨s.toArray⟩,.string ⟨#[47]⟩] w (fun e w'=>e=.returned (.int .i64 (Lib.indexByte s 47))∧w'=w))
  (hg:a.eval g=.func (.func 194) #[] #[.pointer (some ⟨bp,0,none⟩),.pointer (some ⟨bs,0,none⟩),.pointer (some ⟨bv,0,none⟩)])
  (hs:w.heap[bs]?=some (.cells #[.string ⟨p.toArray⟩] 9 (0,0))) (hsp:w.heap[bp]?=some (.cells #[.string ⟨#[47]⟩] 9 (0,0))) (hsv:w.heap[bv]?=some (.cells #[.int .i64 0] 3 (0,0))) (hr:w.heap[b2]?=some (.cells #[.int .i64 0] 27 (0,0))) (hb:Below n0 w0 w)
  (a₁:Str→Act)
  (hassign:∀(l:Nat) (x:Str) (W:World) (K:Act→World→Prop),K (a₁ x) W →
   assign.wpIn (Fence.wide.inRound l) 3 Tryz.prog (Exit.then K (fun _ _ _=>False)) { tmps:=(ps.zip #[Value.string ⟨x.toArray⟩]).foldl (fun t (p,v)=>t.setIfInBounds p v) a.tmps,defers:=[] } W)
  (hbody:∀(l:Nat) (x:Str) (W:World),W.heap[b2]?=some (.cells #[.int .i64 0] 27 (0,0))→body.wpIn (Fence.wide.inRound l) 3 Tryz.prog (chkPost b2 x W) (a₁ x) W)
  (hdone:∀(D:Nat) (W:World),w.heap.size≤D→(L3 [] p).all P8=true→W.heap[b2]?=some (.cells #[.int .i64 0] 27 (0,0))→W.heap[D]?=some (.deferred (some []))→Below n0 w0 W→Q .normal { a with defers:={ target:=.collected D,args:=#[] }::a.defers } W)
  (hstop:∀(D:Nat) (W:World),w.heap.size≤D→(L3 [] p).all P8=false→W.heap[b2]?=some (.cells #[.int .i64 210] 27 (0,0))→W.heap[D]?=some (.deferred (some []))→Below n0 w0 W→Code.ret.wpIn Fence.wide 5 Tryz.prog Q { a with defers:={ target:=.collected D,args:=#[] }::a.defers } W) :
  (Code.rangeFunc g ps assign body).wpIn Fence.wide 5 Tryz.prog Q a w:=by
 refine wpIn_rangeFunc ?_
 intro fn hfn
 obtain ⟨rec,hrec⟩:∃rec:LoopState→Option Code→Loop,rec=fun st pe=>{ state:=st,pending:=pe,fn,tmps:=a.tmps,params:=ps,assign,body,defers:=w.heap.size }:=⟨_,rfl⟩
 obtain ⟨W1,hW1⟩:∃W1,(w.alloc (.deferred (some []))).alloc (.loop (rec .ready none))=W1:=⟨_,rfl⟩
 have old:∀k o,w.heap[k]?=some o→W1.heap[k]?=some o:=fun k o h=>by
  have hlt:=(Array.getElem?_eq_some_iff.1 h).1
  rw [←hW1]
  exact (Below.heap_alloc _ _ _ (by rw [World.size_alloc];omega)).trans ((Below.heap_alloc _ _ _ hlt).trans h)
 have hL1:W1.heap[w.heap.size+1]?=some (.loop (rec .ready none)):=by
  rw [←hW1];have:=World.alloc_heap_new (w.alloc (.deferred (some []))) (.loop (rec .ready none));rwa [World.size_alloc] at this
 have hK1:W1.heap[w.heap.size]?=some (.deferred (some [])):=by
  rw [←hW1];exact (Below.heap_alloc _ _ _ (by simp)).trans (World.alloc_heap_new w _)
 have hb1:Below n0 w0 W1:=by
  rw [←hW1];exact hb.trans (((Below.refl n0 w).alloc hlt.2.2 _).alloc (by simp;omega) _)
 refine ⟨w.heap.size+1,[{ target:=.collected w.heap.size,args:=#[] }],W1,{ target:=.fn (.func 194) #[.pointer (some ⟨bp,0,none⟩),.pointer (some ⟨bs,0,none⟩),.pointer (some ⟨bv,0,none⟩)],args:=#[.func (.yield (w.heap.size+1)) #[] #[]] },W1,194,
  #[.func (.yield (w.heap.size+1)) #[] #[],.pointer (some ⟨bp,0,none⟩),.pointer (some ⟨bs,0,none⟩),.pointer (some ⟨bv,0,none⟩)],W1,?_,?_,?_,?_,fun _=>by omega,?_⟩
 ·rw [←hW1,hrec];exact run_enterLoop_outer _ _ _ _ _
 ·simp only [resolve,hg]
  simp [go_sem]
 ·intro f' hf';trivial
 ·simp [invoke,go_sem]
 ·have hY:∀rest x W,RInv rec n0 w0 (w.heap.size+1) w.heap.size b2 bs bp bv rest W→YieldAt Fence.wide 3 Tryz.prog (w.heap.size+1) #[.string ⟨x.toArray⟩] W (fun e W'=>(P8 x=true∧e=.returned (.bool true)∧RInv rec n0 w0 (w.heap.size+1) w.heap.size b2 bs bp bv rest W')∨(P8 x=false∧e=.returned (.bool false)∧RFin rec n0 w0 (w.heap.size+1) w.heap.size b2 W')):=by
   intro rest x W hI
   have hy:=run_yield (P:=Tryz.prog) (args:=#[Value.string ⟨x.toArray⟩]) hI.l (by rw [hrec];exact hps.symm)
   rw [hrec] at hy
   refine ⟨fn,_,assign,body,hy,roundIn_of_wpIn hfn (hassign _ x W _ ⟨_,run_beginRound hI.l (by rw [hrec]),?_⟩)⟩
   have hltl:w.heap.size+1 < W.heap.size:=(Array.getElem?_eq_some_iff.1 hI.l).1
   obtain ⟨W2,hW2⟩:∃W2,W.putObj (w.heap.size+1) (.loop { rec .ready none with state:=.busy })=W2:=⟨_,rfl⟩
   rw [hW2]
   have oth:∀k,k≠w.heap.size+1→W2.heap[k]?=W.heap[k]?:=fun k hk=>by rw [←hW2];exact World.putObj_heap_other hk
   have hl2:W2.heap[w.heap.size+1]?=some (.loop { rec .ready none with state:=.busy }):=by rw [←hW2];exact World.putObj_heap_same hltl
   have hbB:∀(o:Obj) (X:World),Below n0 w0 X→w.heap.size+1 < X.heap.size→Below n0 w0 (X.putObj (w.heap.size+1) o):=fun o X hX hXs=>hX.grown (grownBy_putObj' X _ o) (by have:=hX.size;omega) (fun k e=>by cases e;omega)
   have hb2:Below n0 w0 W2:=by rw [←hW2];exact hbB _ _ hI.b hltl
   refine wpIn_mono (hbody _ x W2 ((oth _ (by omega)).trans hI.r)) ?_
   rintro e a3 W3 hp
   cases e with
   | normal =>
    obtain ⟨hok,rfl⟩:=hp
    refine ⟨_,_,run_endRound none hl2,.inl ⟨hok,rfl,?_⟩⟩
    have fin:∀k,k≠w.heap.size+1→(W3.putObj (w.heap.size+1) (.loop { rec .ready none with state:=.ready,pending:=none })).heap[k]?=W.heap[k]?:=fun k hk=>(World.putObj_heap_other hk).trans (oth k hk)
    have hsz:w.heap.size+1 < W3.heap.size:=(Array.getElem?_eq_some_iff.1 hl2).1
    have hbs:=(Array.getElem?_eq_some_iff.1 hs).1
    have hbp:=(Array.getElem?_eq_some_iff.1 hsp).1
    have hbv:=(Array.getElem?_eq_some_iff.1 hsv).1
    refine ⟨(fin _ (by omega)).trans hI.s,(fin _ (by omega)).trans hI.p,(fin _ (by omega)).trans hI.v,(fin _ (by omega)).trans hI.r,?_,(fin _ (by omega)).trans hI.d,hbB _ _ hb2 hsz⟩
    refine (World.putObj_heap_same hsz).trans ?_
    rw [hrec];rfl
   | ret =>
    obtain ⟨hok,rfl⟩:=hp
    have hl3:(W2.setCell ⟨b2,0,none⟩ (.int .i64 210)).heap[w.heap.size+1]?=some (.loop { rec .ready none with state:=.busy }):=(Below.heap_setCell W2 _ _ _ (by show w.heap.size+1≠b2;omega)).trans hl2
    have hsz:w.heap.size+1 < (W2.setCell ⟨b2,0,none⟩ (.int .i64 210)).heap.size:=(Array.getElem?_eq_some_iff.1 hl3).1
    refine ⟨_,_,run_endRound (some .ret) hl3,.inr ⟨hok,rfl,?_⟩⟩
    refine ⟨(World.putObj_heap_other (by omega)).trans (v8 ((oth _ (by omega)).trans hI.r)),?_,?_,hbB _ _ (hb2.setCell (p:=⟨b2,0,none⟩) hne.2.2.2.2 _) hsz⟩
    ·refine (World.putObj_heap_same hsz).trans ?_
     rw [hrec];rfl
    ·exact (World.putObj_heap_other (by omega)).trans ((Below.heap_setCell W2 _ _ _ (by show w.heap.size≠b2;omega)).trans ((oth _ (by omega)).trans hI.d))
   | _=>exact hp.elim
  refine (H22 ⟨hne.1,hne.2.1,hne.2.2.1,by omega,by omega,hne.2.2.2.1⟩ hIdx hY p hp W1 ⟨old _ _ hs,old _ _ hsp,old _ _ hsv,old _ _ hr,hL1,hK1,hb1⟩).mono ?_
  have hbE:∀(o:Obj) (X:World),Below n0 w0 X→w.heap.size+1 < X.heap.size→Below n0 w0 (X.putObj (w.heap.size+1) o):=fun o X hX hXs=>hX.grown (grownBy_putObj' X _ o) (by have:=hX.size;omega) (fun k e=>by cases e;omega)
  rintro e W2 ⟨⟨v,rfl⟩,(⟨hall,rest,hI⟩ | ⟨hall,hI⟩)⟩
  ·have hsz:w.heap.size+1 < W2.heap.size:=(Array.getElem?_eq_some_iff.1 hI.l).1
   refine ⟨none,_,by have:=run_endLoop (P:=Tryz.prog) hI.l (by rw [hrec];simp);rw [hrec] at this;exact this,?_⟩
   exact hdone _ _ (Nat.le_refl _) hall ((World.putObj_heap_other (by omega)).trans hI.r) ((World.putObj_heap_other (by omega)).trans hI.d) (hbE _ _ hI.b hsz)
  ·have hsz:w.heap.size+1 < W2.heap.size:=(Array.getElem?_eq_some_iff.1 hI.l).1
   refine ⟨some .ret,_,by have:=run_endLoop (P:=Tryz.prog) hI.l (by rw [hrec];simp);rw [hrec] at this;exact this,?_⟩
   exact hstop _ _ (Nat.le_refl _) hall ((World.putObj_heap_other (by omega)).trans hI.r) ((World.putObj_heap_other (by omega)).trans hI.d) (hbE _ _ hI.b hsz)
theorem H24 (w:World) (s p:ByteArray):CallsIn Fence.wide 3 Tryz.prog 179 #[.string s,.string p,.int .i64 0] w fun e w' =>
  e=.returned (.func (.func 194) #[] #[.pointer (some ⟨w.heap.size+1,0,none⟩),.pointer (some ⟨w.heap.size,0,none⟩),.pointer (some ⟨w.heap.size+1+1,0,none⟩)]) ∧
  w'=((w.alloc (.cells #[.string s] 9)).alloc (.cells #[.string p] 9)).alloc (.cells #[.int .i64 0] 3):=by
 have hmf:∀(fn:Fn) (first cap:Array Value) (w:World),(Instr.makeFunc fn first cap).run Tryz.prog w=.ok (.func fn first cap) w:=fun _ _ _ _=>rfl
 refine callsIn_of_wp Tryz.func179 rfl trivial ?_ rfl
 simp only [Tryz.ntmps179,List.size_toArray,K87,K90,Nat.reduceAdd,Nat.reduceSub,Array.replicate_succ,Array.replicate_zero,List.push_toArray,List.append_toArray,L17,L05]
 gi_wp2
 go_ret
 exact ⟨rfl,rfl⟩
theorem H25 (w:World) (s p:ByteArray):CallsIn Fence.wide 4 Tryz.prog 154 #[.string s,.string p] w fun e w' =>
  e=.returned (.func (.func 194) #[] #[.pointer (some ⟨w.heap.size+1,0,none⟩),.pointer (some ⟨w.heap.size,0,none⟩),.pointer (some ⟨w.heap.size+1+1,0,none⟩)]) ∧
  w'=((w.alloc (.cells #[.string s] 9)).alloc (.cells #[.string p] 9)).alloc (.cells #[.int .i64 0] 3):=by
 refine callsIn_of_wp Tryz.func154 rfl trivial ?_ rfl
 simp only [Tryz.ntmps154,List.size_toArray,K87,K90,Nat.reduceAdd,Nat.reduceSub,Array.replicate_succ,Array.replicate_zero,List.push_toArray,List.append_toArray,L17,L05]
 gi_wp2_with (refine ⟨trivial,?_⟩;gi_at_call 179;refine (H24 _ _ _).mono ?_;rintro e w' ⟨rfl,rfl⟩)
 go_ret
 exact ⟨rfl,rfl⟩
theorem D02 {tmps:Array Value} {b:Nat} {v:Value} {W:World} (ht:tmps[2]?.getD undef=.pointer (some ⟨b,0,none⟩)) (hc:W.heap[b]?=some (.cells #[v] 27 (0,0))):(results Tryz.f133 tmps).run Tryz.prog W=.ok v W:=by
 have h1:=(a6 hc).1
 simp [results,Tryz.results133,go_sem,h1,ht]
theorem G45 (p:Str) (hp:p.length≤1073741824)
  (hIdx:∀(s:Str) (w:World),Calls Tryz.prog 118 #[.string ⟨s.toArray⟩,.string ⟨#[47]⟩] w (fun e w'=>e=.returned (.int .i64 (Lib.indexByte s 47))∧w'=w))
  (hCon:∀(s:Str) (w:World),Calls Tryz.prog 153 #[.string ⟨s.toArray⟩,.string ⟨#[0]⟩] w (fun e w'=>e=.returned (.bool (decide (0≤Lib.indexByte s 0)))∧w'=w)) (w:World) :
  CallsIn Fence.wide 5 Tryz.prog 133 #[.string ⟨p.toArray⟩] w (fun e w'=>e=.returned (.int .i64 (if p.length > 200∨0≤Lib.indexByte p 0 then 210 else if (L3 [] p).all P8=true then 0 else 210))∧Below w.heap.size w w'):=by
 refine callsIn_of_wp_marks Tryz.func133 rfl trivial ?_ rfl
 simp only [Tryz.ntmps133,List.size_toArray,K87,K90,Nat.reduceAdd,Nat.reduceSub,Array.replicate_succ,Array.replicate_zero,List.push_toArray,List.append_toArray,L17,L05]
 have hnew:=a6 (World.alloc_heap_new w (.cells #[.int .i64 0] 27))
 have hB:Below w.heap.size w (w.alloc (.cells #[.int .i64 0] 27)):=(Below.refl _ w).alloc (Nat.le_refl _) _
 by_cases h1:200 < p.length
 ·rw [if_pos (.inl h1)]
  gi_wp2_with (refine ⟨trivial,?_⟩)
  exact ⟨_,D02 rfl (World.alloc_heap_new w _),rfl,(Below.refl _ w).alloc (Nat.le_refl _) _⟩
 by_cases h2:0≤Lib.indexByte p 0
 ·rw [if_pos (.inr h2)]
  gi_wp2_with (refine ⟨trivial,?_⟩;gi_at_call 153;refine (callsIn_wide.2 (hCon p _)).mono ?_;rintro e w' ⟨rfl,rfl⟩)
  exact ⟨_,D02 rfl (World.alloc_heap_new w _),rfl,(Below.refl _ w).alloc (Nat.le_refl _) _⟩
 ·rw [if_neg (by omega)]
  obtain ⟨r,hr0⟩:∃r:Int,(if (L3 [] p).all P8=true then 0 else 210:Int)=r:=⟨_,rfl⟩
  rw [hr0]
  gi_wp2_with (first | (refine ⟨trivial,?_⟩;gi_at_call 153;refine (callsIn_wide.2 (hCon p _)).mono ?_;rintro e w' ⟨rfl,rfl⟩) | (refine ⟨trivial,?_⟩;gi_at_call 154;refine (H25 _ _ _).mono ?_;rintro e w' ⟨rfl,rfl⟩))
  obtain ⟨W0,hW0⟩:∃W0,(((w.alloc (.cells #[.int .i64 0] 27)).alloc (.cells #[.string ⟨p.toArray⟩] 9)).alloc (.cells #[.string ⟨#[47]⟩] 9)).alloc (.cells #[.int .i64 0] 3)=W0:=⟨_,rfl⟩
  have hsz:W0.heap.size=w.heap.size+4:=by rw [←hW0];simp
  have g0:W0.heap[w.heap.size]?=some (.cells #[.int .i64 0] 27 (0,0)):=by
   rw [←hW0]
   refine (Below.heap_alloc _ _ _ (by simp;omega)).trans ((Below.heap_alloc _ _ _ (by simp;omega)).trans ((Below.heap_alloc _ _ _ (by simp)).trans (World.alloc_heap_new w _)))
  have g1:W0.heap[w.heap.size+1]?=some (.cells #[.string ⟨p.toArray⟩] 9 (0,0)):=by
   rw [←hW0]
   refine (Below.heap_alloc _ _ _ (by simp)).trans ((Below.heap_alloc _ _ _ (by simp)).trans ?_)
   have:=World.alloc_heap_new (w.alloc (.cells #[.int .i64 0] 27)) (.cells #[.string ⟨p.toArray⟩] 9)
   rwa [World.size_alloc] at this
  have g2:W0.heap[w.heap.size+1+1]?=some (.cells #[.string ⟨#[47]⟩] 9 (0,0)):=by
   rw [←hW0]
   refine (Below.heap_alloc _ _ _ (by simp)).trans ?_
   have:=World.alloc_heap_new ((w.alloc (.cells #[.int .i64 0] 27)).alloc (.cells #[.string ⟨p.toArray⟩] 9)) (.cells #[.string ⟨#[47]⟩] 9)
   simp only [World.size_alloc] at this
   exact this
  have g3:W0.heap[w.heap.size+1+1+1]?=some (.cells #[.int .i64 0] 3 (0,0)):=by
   rw [←hW0]
   have:=World.alloc_heap_new (((w.alloc (.cells #[.int .i64 0] 27)).alloc (.cells #[.string ⟨p.toArray⟩] 9)).alloc (.cells #[.string ⟨#[47]⟩] 9)) (.cells #[.int .i64 0] 3)
   simp only [World.size_alloc] at this
   exact this
  have hb0:Below w.heap.size w W0:=by
   rw [←hW0]
   exact (((hB.alloc (by simp) _).alloc (by simp;omega) _).alloc (by simp;omega) _)
  rw [hW0]
  refine H23 (b2:=w.heap.size) (bs:=w.heap.size+1) (bp:=w.heap.size+1+1) (bv:=w.heap.size+1+1+1) (n0:=w.heap.size) (w0:=w) (p:=p) hp (by omega) (by omega) rfl hIdx rfl g1 g2 g3 g0 hb0 (fun x=>{ tmps:=#[.string ⟨p.toArray⟩,undef,.pointer (some ⟨w.heap.size,0,none⟩),.string ⟨x.toArray⟩,.string ⟨p.toArray⟩,.int .i64 p.length,.bool (decide (200 < (p.length:Int))),.bool (decide (200 < (p.length:Int))),.string ⟨p.toArray⟩,.bool (decide (0≤Lib.indexByte p 0)),.bool (decide (200 < (p.length:Int))||decide (0≤Lib.indexByte p 0)),.string ⟨p.toArray⟩,.func (.func 194) #[] #[.pointer (some ⟨w.heap.size+1+1,0,none⟩),.pointer (some ⟨w.heap.size+1,0,none⟩),.pointer (some ⟨w.heap.size+1+1+1,0,none⟩)],.string ⟨x.toArray⟩,undef,undef,undef,undef,undef,undef,undef,undef,undef,undef],defers:=[] }) ?assign ?body ?done ?stop
  case assign =>
   intro l x W K hK
   gi_wp2
   exact hK
  case body =>
   intro l x W hr
   obtain ⟨hc1,hc2⟩:=a6 hr
   by_cases e1:x=[]
   ·subst e1
    gi_wp2
    exact ⟨rfl,rfl⟩
   by_cases e2:x=[46]
   ·subst e2
    gi_wp2
    exact ⟨rfl,rfl⟩
   by_cases e3:x=[46,46]
   ·subst e3
    gi_wp2
    exact ⟨rfl,rfl⟩
   have f1:x.isEmpty=false:=by cases x with | nil=>exact absurd rfl e1 | cons _ _=>rfl
   have f2:(x == [46])=false:=by simpa using e2
   have f3:(x == [46,46])=false:=by simpa using e3
   have hok:P8 x=true:=decide_eq_true ⟨e1,e2,e3⟩
   clear e1 e2 e3
   gi_wp2
   all_goals exact ⟨hok,rfl⟩
  case done =>
   intro D W hD hall hr hK hb
   obtain ⟨hc1,hc2⟩:=a6 hr
   rw [if_pos hall] at hr0
   subst hr0
   clear hall
   gi_wp2
   have hK2:(W.setCell ⟨w.heap.size,0,none⟩ (.int .i64 0)).heap[D]?=some (.deferred (some [])):=(Below.heap_setCell W _ _ _ (by show D≠w.heap.size;omega)).trans hK
   refine ⟨by simp,.inl ⟨_,_,rfl,run_takeDeferred hK2,?_⟩⟩
   refine ⟨_,D02 rfl ((World.putObj_heap_other (by omega)).trans (v8 hr)),rfl,?_⟩
   have hb3:=hb.setCell (p:=⟨w.heap.size,0,none⟩) (Nat.le_refl _) (.int .i64 0)
   exact hb3.grown (grownBy_putObj' _ _ _) (by have:=hb3.size;omega) (fun k e=>by cases e;omega)
  case stop =>
   intro D W hD hall hr hK hb
   rw [hall,if_neg (by decide)] at hr0
   subst hr0
   clear hall
   gi_wp2
   refine ⟨by simp,.inl ⟨_,_,rfl,run_takeDeferred hK,?_⟩⟩
   refine ⟨_,D02 rfl ((World.putObj_heap_other (by omega)).trans hr),rfl,?_⟩
   exact hb.grown (grownBy_putObj' W _ _) (by have:=hb.size;omega) (fun k e=>by cases e;omega)
theorem F44 (p:Str) (hp:p.length≤1073741824):FnOk Tryz.prog 133 [J6 p] (fun rs=>rs=[F2 (N2 p)]) :=
 K67 (xs:=[.string ⟨p.toArray⟩]) ⟨_,rfl,rfl,rfl⟩ rfl fun w hg=>by
  have h:=callsIn_wide.1 (G45 p hp (fun s w=>by simpa using Tryz.strings_Index_one ⟨s.toArray⟩ 47 w) (fun s w=>by simpa using Tryz.strings_Contains_one ⟨s.toArray⟩ 0 w) w)
  refine h.mono ?_
  rintro e w' ⟨rfl,hb⟩
  refine ⟨?_,hb⟩
  rw [G67]
  have hc:p.contains 0=true↔0≤Lib.indexByte p 0:=by rw [C59,List.contains_iff_mem]
  simp only [hc]
set_option maxHeartbeats 1000000
structure FewF (l:List File):Prop where
 len:l.length≤1073741824
 path:∀f∈l,f.Path.length≤1073741824
 blob:∀f∈l,f.Blob.length≤16777216
theorem I24 (f:File) (hp:f.Path.length≤1073741824):FnOk Tryz.prog 132 [J23 f] (fun rs=>rs=[H9 (decide (N2 f.Path≠0))]):=by
 refine FnOk.intro Tryz.func132 (by decide) J J J J ?_
 refine k2 (A2 (D1 (i6 1 J J J) J (A6 J J (A4 ?_))));refine k1 (k2 (A2 (A5 (A7 J) J (G7 J J J J (D7 (F44 f.Path hp) J J J ?_)))));rintro _ rfl;refine A5 (R2 J J) J (A6 J J (A4 ?_));refine k1 (k10 ?_)
 exact B6 (H3 rfl rfl rfl) rfl
theorem I25 (f:File) (hp:f.Blob.length≤16777216):FnOk Tryz.prog 135 [J23 f] (fun rs=>rs=[H9 (decide (M2 f.Blob≠0))]):=by
 refine FnOk.intro Tryz.func135 (by decide) J J J J ?_
 refine k2 (A2 (D1 (i6 1 J J J) J (A6 J J (A4 ?_))));refine k1 (k2 (A2 (A5 (A7 J) J (G7 J J J J (D7 (F83 f.Blob (by omega)) J J J ?_)))));rintro _ rfl;refine A5 (R2 J J) J (A6 J J (A4 ?_));refine k1 (k10 ?_)
 exact B6 (H3 rfl rfl rfl) rfl
theorem C69 (l:List File) (h:FewF l):FnOk Tryz.prog 98 [U9 l] (fun rs=>rs=[F2 (F8 l)]):=by
 have hl:=h.len
 refine FnOk.intro Tryz.func98 (by decide) J J J J ?_
 refine k2 (A2 (A6 J J (A4 ?_)));refine k1 (k2 (k3 (k2 (A2 (A3 J J (E5 J J (A5 (N4 J J) J (A6 J J (A4 ?_)))))))));refine k1 ?_;refine B1 rfl (fun ht=>?_) (fun ht=>?_)
 ·have h1:(200:Int) < l.length:=A0 ht
  refine k2 (A2 (A6 J J (A4 ?_)));refine k1 (k10 (k12 (k11 ?_)))
  exact B6 (rs:=[F2 1]) (H3 rfl rfl rfl) (by unfold F8;rw [if_pos (by omega)])
 have h1:¬(200:Int) < l.length:=A1 ht
 refine k2 (A2 (A3 J J (D7 (B65 132 (fun f=>decide (N2 f.Path≠0)) l hl (fun f hf=>I24 f (h.path f hf))) J J J ?_)));rintro _ rfl;refine A6 J J (A4 ?_);refine k1 ?_;refine B1 rfl (fun ht=>?_) (fun ht=>?_)
 ·refine k2 (A2 (A6 J J (A4 ?_)));refine k1 (k10 (k12 (k11 ?_)))
  exact B6 (rs:=[F2 210]) (H3 rfl rfl rfl) (by unfold F8;rw [if_neg (by omega),if_pos ht])
 have h2:=ht
 refine k2 (A2 (A3 J J (D7 (H19 l hl h.path) J J J ?_)));rintro _ rfl;refine A5 (Q8 J) J (A6 J J (A4 ?_));refine k1 ?_;refine B1 rfl (fun ht=>?_) (fun ht=>?_)
 ·refine k2 (A2 (A6 J J (A4 ?_)));refine k1 (k10 (k12 (k11 ?_)))
  exact B6 (rs:=[F2 211]) (H3 rfl rfl rfl) (by unfold F8;rw [if_neg (by omega),if_neg (by rw [h2];decide),if_pos (by simpa using ht)])
 have h3:N9 l=true:=by simpa using ht
 refine k2 (A2 (A3 J J (D7 (B65 135 (fun f=>decide (M2 f.Blob≠0)) l hl (fun f hf=>I25 f (h.blob f hf))) J J J ?_)));rintro _ rfl;refine A6 J J (A4 ?_);refine k1 ?_;refine B1 rfl (fun ht=>?_) (fun ht=>?_)
 ·refine k2 (A2 (A6 J J (A4 ?_)));refine k1 (k10 (k12 (k11 ?_)))
  exact B6 (rs:=[F2 1]) (H3 rfl rfl rfl) (by unfold F8;rw [if_neg (by omega),if_neg (by rw [h2];decide),if_neg (by rw [h3];decide),if_pos ht])
 ·refine k5 (k2 (A2 (A6 J J (A4 ?_))));refine k1 (k10 ?_)
  exact B6 (rs:=[F2 0]) (H3 rfl rfl rfl) (by unfold F8;rw [if_neg (by omega),if_neg (by rw [h2];decide),if_neg (by rw [h3];decide),if_neg (by rw [ht];decide)])
theorem K24 (a b:List File) (ha:FewF a) (hb:FewF b):FnOk Tryz.prog 119 [U9 a,U9 b] (fun rs=>rs=[F2 (if F8 a≠0 then F8 a else F8 b)]):=by
 refine FnOk.intro Tryz.func119 (by decide) J J J J ?_
 refine k2 (A2 (A6 J J (A4 ?_)));refine k1 (k2 (k2 (A2 (A3 J J (D7 (C69 a ha) J J J ?_)))));rintro _ rfl;refine A6 J J (A4 ?_);refine k1 (k2 (A2 (A3 J J (A5 (R2 J J) J (A4 ?_)))));refine k1 ?_;refine B1 rfl (fun ht=>?_) (fun ht=>?_)
 ·have h1:F8 a≠0:=A0 ht
  refine k2 (A2 (A3 J J (A6 J J (A4 ?_))));refine k1 (k10 (k11 ?_))
  exact B6 (rs:=[F2 (F8 a)]) (H3 rfl rfl rfl) (by rw [if_pos h1])
 ·have h1:¬F8 a≠0:=A1 ht
  refine k5 (k1 (k2 (A2 (A3 J J (D7 (C69 b hb) J J J ?_)))));rintro _ rfl;refine A6 J J (A4 ?_);refine k1 (k10 ?_)
  exact B6 (rs:=[F2 (F8 b)]) (H3 rfl rfl rfl) (by rw [if_neg h1])
theorem H26 (l:List File) (p:Str) (hl:l.length≤1073741824):FnOk Tryz.prog 55 [U9 l,J6 p] (fun rs=>rs=[J6 ((I5 l p).getD []),H9 (I5 l p).isSome]):=by
 refine FnOk.intro Tryz.func55 (by decide) J J J J ?_
 refine k2 (A2 (A6 J J (A6 J J (A4 ?_))));refine k1 (k2 (k2 (A2 (A3 J J (E5 J J (A3 J J (A4 ?_)))))));refine k1 (k3 (D2 (X:=Nat) (fun i=>([(1,Y9 p),(8,D3 File 2 S7 l),(9,C3 l.length),(10,C3 i)],[])) (fun i=>i≤l.length∧I5 l p=I5 (l.drop i) p) (fun i=>l.length - i) 0 ⟨Nat.zero_le _,rfl⟩ (Sees.of ⟨le1 rfl,le1 rfl,le1 rfl,le1 rfl,trivial⟩ trivial) ?_))
 rintro i ⟨hi,hf⟩
 dsimp only at hi hf ⊢
 refine k2 (A2 (F3 J J J (A4 ?_)));refine k1 (k2 ?_);refine B1 rfl (fun ht=>?_) (fun ht=>?_)
 rotate_left
 ·have h1:i=l.length:=by have h1:=A1 ht;(try dsimp only at h1);omega
  rw [L00 (by omega)] at hf
  rw [hf]
  refine k6 (k2 (A2 (A6 J J (A6 J J (A4 ?_)))));refine k1 (k10 ?_)
  exact B6 (rs:=[J6 [],H9 false]) (Z6 rfl rfl rfl rfl rfl) rfl
 have hlt:i < l.length:=by have h1:=A0 ht;(try dsimp only at h1);omega
 obtain ⟨f,hfe⟩:∃f,f=l[i]:=⟨_,rfl⟩
 have hv:l[i]?=some f:=by rw [hfe];simp [hlt]
 rw [K91 hlt,←hfe] at hf
 have hfs:I5 (f::l.drop (i+1)) p=if f.Path=p then some f.Blob else I5 (l.drop (i+1)) p:=rfl
 rw [hfs] at hf
 refine k5 (k1 (k2 (k3 (k2 (A2 (A5 (B2 J (.pure _ _ _ _) J (by omega) hv) J (A5 (E2 J J) J (D1 (I4 7 J) J (H1 (C1 TySz.out J J J J J J) (A4 ?_))))))))));refine k1 (k2 (A2 (A5 (A7 J) J (G7 J J J J (A3 J J (A5 (c9 J J) J (A4 ?_)))))));refine k1 ?_;refine B1 rfl (fun ht=>?_) (fun ht=>?_)
 ·have h1:f.Path=p:=A0 ht
  rw [if_pos h1] at hf
  rw [hf]
  refine k2 (A2 (A5 (A7 J) J (G7 J J J J (A6 J J (A6 J J (A4 ?_))))));refine k1 (k10 (k12 (k11 (k11 (k12 (k11 ?_))))))
  exact B6 (rs:=[J6 f.Blob,H9 true]) (Z6 rfl rfl rfl rfl rfl) rfl
 ·have h1:¬f.Path=p:=A1 ht
  rw [if_neg h1] at hf
  refine k5 (k4 (k1 (A2 (D6 J J J (A3 J J (A4 ?_))))));refine k1 ?_
  exact ⟨i+1,⟨hlt,hf⟩,by omega,(Sees.of ⟨le1 rfl,le1 rfl,le1 rfl,le1 rfl,trivial⟩ trivial)⟩
end Go.Proofs.YtkahafmcmiiolaaGreatDoor
