/- Walks of the program's functions. -/
import Derived.Test.YtgppobpengmbkaaGreatDoorTy
import Derived.Test.YtgppobpengmbkaaGreatDoorFs
import Derived.Test.YtgppobpengmbkaaGreatDoorSh
import Derived.Lib.AppendIntMem
import Derived.RangeFuncBound
import Derived.RangeFuncOwn
import Derived.OwnWalkIn
import Derived.TacticsInMore
import Derived.LoopNIn
import Derived.LoopIn
set_option linter.unusedSimpArgs false
namespace Go.Proofs.YtgppobpengmbkaaGreatDoor
open Go Go.AL
set_option maxRecDepth 100000
theorem G68 (p:Int):0≤IntKind.u64.wrap p:=by simp [IntKind.wrap,IntKind.signed,IntKind.bits];omega
theorem F87 (b:Str) (hb:b.length≤536870912):FnOk Tryz.prog 43 [M3 b] (fun rs=>rs=[C26 (K3 b)]):=by
 refine FnOk.intro Tryz.func43 (by decide) V V V V ?_
 refine k2 (A2 (A6 V V (A4 ?_)));refine k1 (k2 (A2 (C9 (Q4 3 _ Q0 V) V (A4 ?_))));refine k1 (k2 (A2 (A6 V V (A4 ?_))));refine k1 (k2 (k2 (A2 (A6 V V (A4 ?_)))));refine k1 (k3 ?_);refine C5 (X:=Nat × Nat × List Str) (fun x=>([(0,T7 b),(3,.s (.one (.buf 3 Str 1 Q0 x.2.2))),(4,C0 x.2.1),(5,C0 x.1)],[(3,.spare x.2.2.length 1 9)]))
  (fun x=>x.1≤b.length∧x.2.1≤x.1∧x.2.2.length≤x.1∧(x.1=b.length→x.2.1=x.1)∧x.2.2++J8 ((b.drop x.2.1).take (x.1 - x.2.1)) (b.drop x.1)=K3 b) (fun x=>b.length - x.1) (0,0,[]) (by simp [K3]) ?_ ?_
 ·exact I90 ⟨⟨_,rfl,.same _⟩,⟨_,rfl,.same _⟩,⟨_,rfl,.same _⟩,⟨_,rfl,.same _⟩,trivial⟩ ⟨rfl,trivial⟩
 ·rintro ⟨i,from',out⟩ ⟨hi,hf,ho,he,hp⟩
  dsimp only at hi hf ho he hp ⊢
  refine k2 (k2 (A2 (A3 V V (A3 V V (A5 (J3 V) V (E8 V V V (A4 ?_)))))));refine k1 ?_;refine B0 rfl (fun ht=>?_) (fun ht=>?_)
  ·have hlt:i < b.length:=by simpa using ht
   have hv:b[i]?=some b[i]:=by simp [hlt]
   refine k5 (k1 (k2 (k3 (k2 (A2 (A3 V V (A3 V V (A5 (j1 V V (by omega) hv) V (A5 (F7 V V) V (A3 V V (B1 V V V V (fun hg=>by rw [hg];exact B7 V V) ?_)))))))))));refine B1 V V V V (fun hg=>by have hq:=hg;(try simp at hq);rw [hg];exact Z9 V V (by omega)) ?_;refine B1 V V V V (fun hg=>by rw [hg];exact B7 V V) ?_;refine B1 V V V V (fun hg=>by rw [hg];exact J3 V) ?_;refine B1 V V V V (fun hg=>by rw [hg];exact F7 V V) ?_;refine I6 V V ?_;refine A4 ?_;refine k1 ?_;refine B0 rfl (fun ht2=>?_) (fun ht2=>?_)
   ·refine k2 (A2 (A3 V V (A3 V V (A3 V V (A3 V V (D2 V V V (A5 (D55 V V V (by omega) (by omega) (by omega)) V (A5 (C3 (c:=Q0) (ys:=[_]) (D4 V V V V F9) V V V) V (C9 (I9 V V V (.pure _ _ _ _) (by simp;omega) V) V (A6 V V (A4 ?_)))))))))));refine k1 (A2 (A3 V V (D2 V V V (A6 V V (A4 ?_)))));refine k4 (k1 (A2 (A3 V V (D2 V V V (A6 V V (A4 ?_))))));refine k1 ?_;refine ⟨(i+1,i+1,_),⟨?_,?_,?_,?_,?_⟩,?_,I90 ⟨⟨_,rfl,.same _⟩,⟨_,rfl,.same _⟩,⟨_,rfl,.same _⟩,⟨_,rfl,.same _⟩,trivial⟩ ⟨rfl,trivial⟩⟩
    all_goals dsimp only
    ·omega
    ·omega
    ·simp;omega
    ·omega
    ·have hc:b[i]=10∨i+1=b.length:=by
      simp only [u8_lf] at ht2
      by_cases h:b[i]=10
      ·exact .inl h
      ·simp [h] at ht2;exact .inr (by omega)
     rw [H20,J17,J61,List.take_zero,←E87 b from' i hf hlt,J28,←hp,J24 hlt,B91]
     rcases hc with h | h
     ·rw [if_pos h];rfl
     ·have hd:b.drop (i+1)=[]:=J31 (by omega)
      rw [hd]
      split
      ·rfl
      ·rw [show J8 ([]:Str) []=[] from rfl,F44 _ (by simp)];simp
    ·omega
   ·refine k5 (k4 (k1 (A2 (A3 V V (D2 V V V (A6 V V (A4 ?_)))))));refine k1 ?_;refine ⟨(i+1,from',out),⟨?_,?_,?_,?_,?_⟩,?_,I90 ⟨⟨_,rfl,.same _⟩,⟨_,rfl,.same _⟩,⟨_,rfl,.same _⟩,⟨_,rfl,.same _⟩,trivial⟩ ⟨rfl,trivial⟩⟩
    all_goals dsimp only
    ·omega
    ·omega
    ·omega
    ·intro h
     simp [show (i:Int)+1=(b.length:Int) by omega] at ht2
    ·have hc:b[i]≠10:=fun h=>by simp [h] at ht2
     rw [←E87 b from' i hf hlt,←hp,J24 hlt,B91,if_neg hc]
    ·omega
  ·refine k6 (k2 (A2 (A3 V V (A6 V V (A4 ?_)))));refine k1 (k10 (B6 (G7 V V V) ?_))
   have hi':i=b.length:=by simp at ht;omega
   subst hi'
   have:=he rfl
   subst this
   rw [J61,List.take_zero,J31 (Nat.le_refl _)] at hp
   rw [←hp];simp [J8]
theorem I53 (b:Str) (hb:b.length≤1099511627776):FnOk Tryz.prog 68 [M3 b] (fun rs=>rs=[F2 (Q6 b)]):=by
 refine FnOk.intro Tryz.func68 (by decide) V V V V ?_
 refine k2 (A2 (A6 V V (A4 ?_)));refine k1 (k2 (k2 (A2 (A3 V V (A5 (J3 V) V (A5 (M5 V V) V (A3 V V (B1 V V V V (fun hg=>by rw [hg];exact B7 V V) ?_))))))));refine B1 V V V V (fun hg=>by have hq:=hg;(try simp at hq);rw [hg];exact N4 (F87 b (by omega)) V V) ?_;refine B1 V V V V (fun hg=>by rw [hg];exact X7 V (.pure _ _ _ _)) ?_;refine B1 V V V V (fun hg=>by rw [hg];exact M5 V V) ?_;refine I6 V V ?_;refine A4 ?_;refine k1 ?_;refine B0 rfl (fun ht=>?_) (fun ht=>?_)
 ·have h:=A0 (or_pick.symm.trans ht)
  refine k2 (A2 (A6 V V (A4 ?_)));refine k1 (k10 (k11 ?_))
  exact B6 (G7 rfl rfl rfl) (by rw [Q6,if_pos (by omega)])
 ·have h:=A1 (or_pick.symm.trans ht)
  refine k5 (k1 (k2 (A2 (A6 V V (A4 ?_)))));refine k1 (k10 ?_)
  exact B6 (G7 rfl rfl rfl) (by rw [Q6,if_neg (by omega)])
theorem C79 {p cur:Str} {i:Nat} (h:i < p.length):A50 cur (p.drop i)=if p[i]=0 then false else if p[i]=47 then O4 cur&&A50 [] (p.drop (i+1)) else A50 (cur++[p[i]]) (p.drop (i+1)):=by
 rw [J24 h];rfl
theorem sub_one {p:Str} {i:Nat} (h:i < p.length):(p.drop i).take (i+1 - i)=[p[i]]:=by
 rw [J24 h,show i+1 - i=1 by omega];rfl
set_option maxHeartbeats 1000000
theorem E40 (p:Str) (hp:p.length≤1073741824):FnOk Tryz.prog 66 [M3 p] (fun rs=>rs=[F2 (L4 p)]):=by
 refine FnOk.intro Tryz.func66 (by decide) V V V V ?_
 refine k2 (A2 (A6 V V (A4 ?_)));refine k1 (k2 (k2 (A2 (A3 V V (A5 (J3 V) V (E8 V V V (A3 V V (B1 V V V V (fun hg=>by rw [hg];exact B7 V V) ?_))))))));refine B1 V V V V (fun hg=>by rw [hg];exact J3 V) ?_;refine B1 V V V V (fun hg=>by rw [hg];exact M5 V V) ?_;refine I6 V V ?_;refine A4 ?_;refine k1 ?_;refine B0 rfl (fun ht=>?_) (fun ht=>?_)
 ·have h:=A0 (or_pick.symm.trans ht)
  refine k2 (A2 (A6 V V (A4 ?_)));refine k1 (k10 (k11 ?_))
  exact B6 (rs:=[F2 210]) (G7 rfl rfl rfl) (by unfold L4;rw [if_pos (by omega)])
 have h:=A1 (or_pick.symm.trans ht)
 have hb:[F2 210]=[F2 (L4 p)]∨A50 [] p=true:=by
  cases hc:A50 [] p
  ·left;unfold L4;rw [if_pos (.inr (.inr hc))]
  ·exact .inr rfl
 have hg:A50 [] p=true→[F2 0]=[F2 (L4 p)]:=fun hc=>by unfold L4;rw [if_neg (by rw [hc];rintro (h1 | h1 | h1)<;>first | omega | cases h1)]
 have hbad:A50 [] p=false→[F2 210]=[F2 (L4 p)]:=fun hc=>by unfold L4;rw [if_pos (.inr (.inr hc))]
 refine k5 (k1 (k2 (A2 (A6 V V (A4 ?_)))));refine k1 (k2 (k2 (A2 (A6 V V (A4 ?_)))));refine k1 (k3 (C5 (X:=Nat × Str) (fun x=>([(0,T7 p),(3,T7 x.2),(4,C0 x.1)],[])) (fun x=>x.2.length≤x.1∧((x.1≤p.length∧A50 x.2 (p.drop x.1)=A50 [] p)∨(x.1=p.length+1∧A50 [] p=true))) (fun x=>p.length+1 - x.1) (0,[]) ⟨Nat.zero_le _,.inl ⟨Nat.zero_le _,rfl⟩⟩ (I90 ⟨le1 rfl,le1 rfl,le1 rfl,trivial⟩ trivial) ?_))
 rintro ⟨i,cur⟩ ⟨hcl,hi⟩
 dsimp only at hcl hi ⊢
 refine k2 (k2 (A2 (A3 V V (A3 V V (A5 (J3 V) V (A5 (B03 V V) V (A4 ?_)))))));refine k1 ?_;refine B0 rfl (fun ht=>?_) (fun ht=>?_)
 rotate_left
 ·have h1:¬(i:Int)≤p.length:=A1 ht
  refine k6 (k2 (A2 (A6 V V (A4 ?_))));refine k1 (k10 ?_)
  exact B6 (rs:=[F2 0]) (G7 rfl rfl rfl) (hg (by rcases hi with hi | hi<;>first | exact absurd hi.1 (by omega) | exact hi.2))
 have hle:i≤p.length:=by have h1:(i:Int)≤p.length:=A0 ht;omega
 obtain ⟨_,hcp⟩:i≤p.length∧A50 cur (p.drop i)=A50 [] p:=by rcases hi with hi | hi<;>first | exact hi | exact absurd hi.1 (by omega)
 have hv:(i:Int) < p.length→p[((i:Nat):Int).toNat]?=some (p.getD i 0):=fun h1=>by
  rw [J17,J21,J15 (by omega)];rfl
 have hg0:∀h1:i < p.length,p.getD i 0=p[i]:=fun h1=>by rw [J21,J15 h1];rfl
 have hz:∀c:UInt8,((c.toNat:Int)=0)↔c=0:=fun c=>by
  constructor
  ·intro h; exact UInt8.toNat_inj.1 (by have:c.toNat=0:=by omega
                                        simpa using this)
  ·rintro rfl;rfl
 have hs:∀c:UInt8,((c.toNat:Int)=47)↔c=47:=fun c=>by
  constructor
  ·intro h; exact UInt8.toNat_inj.1 (by have:c.toNat=47:=by omega
                                        simpa using this)
  ·rintro rfl;rfl
 refine k5 (k1 (k2 (k3 (k2 (k2 (A2 (A3 V V (A3 V V (A5 (J3 V) V (E8 V V V (A3 V V (B1 V V V V (fun hg=>by rw [hg];exact B7 V V) ?_))))))))))));refine B1 V V V V (fun hg=>by rw [hg];exact B7 V V) ?_;refine B1 V V V V (fun hg=>by have hq:=hg;(try simp at hq);rw [hg];exact j1 V V (by omega) (hv (by omega))) ?_;refine B1 V V V V (fun hg=>by rw [hg];exact F7 V V) ?_;refine I6 V V ?_;refine A4 ?_;refine k1 ?_;refine B0 rfl (fun ht=>?_) (fun ht=>?_)
 ·have h1:=A0 (and_pick.symm.trans ht)
  refine k2 (A2 (A6 V V (A4 ?_)));refine k1 (k10 (k11 (k12 (k11 (k11 (k12 (k11 ?_)))))));refine B6 (rs:=[F2 210]) (G7 rfl rfl rfl) (hbad ?_)
  have h2:i < p.length:=by omega
  rw [←hcp,C79 h2,if_pos (by rw [←hg0 h2,←hz];exact h1.2)]
 have hn0:=A1 (and_pick.symm.trans ht)
 refine k5 (k1 (k2 (k2 (A2 (A3 V V (A3 V V (A5 (J3 V) V (E8 V V V (A3 V V (B1 V V V V (fun hg=>by rw [hg];exact B7 V V) ?_))))))))));refine B1 V V V V (fun hg=>by rw [hg];exact B7 V V) ?_;refine B1 V V V V (fun hg=>by have hq:=hg;(try simp at hq);rw [hg];exact j1 V V (by omega) (hv (by omega))) ?_;refine B1 V V V V (fun hg=>by rw [hg];exact Q8 V V) ?_;refine I6 V V ?_;refine A4 ?_;refine k1 ?_;refine B0 rfl (fun ht=>?_) (fun ht=>?_)
 ·have h1:=A0 (and_pick.symm.trans ht)
  have h2:i < p.length:=by omega
  have h3:p[i]≠0:=fun e=>hn0 ⟨h1.1,by rw [hz,hg0 h2];exact e⟩
  have h4:p[i]≠47:=fun e=>h1.2 (by rw [hs,hg0 h2];exact e)
  rw [C79 h2,if_neg h3,if_neg h4] at hcp
  refine k2 (A2 (A3 V V (A3 V V (A3 V V (A3 V V (D2 V V V (A5 (D55 V V V (by omega) (by omega) (by omega)) V (A5 (A75 V V (by simp;omega)) V (A6 V V (A4 ?_))))))))));refine k1 (k6 (k7 (k8 V (k1 (A2 (A3 V V (D2 V V V (A6 V V (A4 ?_)))))))));refine k1 ?_;refine ⟨(i+1,cur++[p[i]]),⟨by simp;omega,.inl ⟨h2,hcp⟩⟩,by dsimp only;omega,?_⟩
  rw [←sub_one h2]
  exact (I90 ⟨le1 rfl,le1 rfl,le1 rfl,trivial⟩ trivial)
 have hn1:=A1 (and_pick.symm.trans ht)
 have hend:A50 [] p=(O4 cur&&(decide (i=p.length)||A50 [] (p.drop (i+1)))):=by
  rw [←hcp]
  by_cases h2:i < p.length
  ·have h3:p[i]≠0:=fun e=>hn0 ⟨by omega,by rw [hz,hg0 h2];exact e⟩
   have h4:p[i]=47:=Classical.byContradiction fun e=>hn1 ⟨by omega,fun h=>e (by rw [←hg0 h2];exact (hs _).1 h)⟩
   rw [C79 h2,if_neg h3,if_pos h4]
   have:¬i=p.length:=by omega
   simp [this]
  ·have:i=p.length:=by omega
   rw [J31 (by omega)]
   simp [A50,this]
 refine k5 (k1 (k2 (k2 (A2 (A3 V V (A5 (j7 V V) V (A3 V V (B1 V V V V (fun hg=>by rw [hg];exact B7 V V) ?_))))))));refine B1 V V V V (fun hg=>by rw [hg];exact j7 V V) ?_;refine I6 V V ?_;refine A3 V V (B1 V V V V (fun hg=>by rw [hg];exact B7 V V) ?_);refine B1 V V V V (fun hg=>by rw [hg];exact j7 V V) ?_;refine I6 V V ?_;refine A4 ?_;refine k1 ?_;refine B0 rfl (fun ht=>?_) (fun ht=>?_)
 ·simp only [or_pick] at ht
  have h1:=A0 ht
  refine k2 (A2 (A6 V V (A4 ?_)));refine k1 (k10 (k11 (k12 (k11 (k11 (k12 (k11 ?_)))))));refine B6 (rs:=[F2 210]) (G7 rfl rfl rfl) (hbad ?_)
  rw [hend]
  have:O4 cur=false:=by unfold O4;rw [decide_eq_false_iff_not];rintro ⟨a,b,c⟩;rcases h1 with (h1 | h1) | h1<;>contradiction
  rw [this];rfl
 simp only [or_pick] at ht
 have h1:=A1 ht
 have hok:O4 cur=true:=by unfold O4;rw [decide_eq_true_eq];exact ⟨fun e=>h1 (.inl (.inl e)),fun e=>h1 (.inl (.inr e)),fun e=>h1 (.inr e)⟩
 rw [hok,Bool.true_and] at hend
 refine k5 (k1 (A2 (A6 V V (A4 ?_))));refine k4 (k1 (A2 (A3 V V (D2 V V V (A6 V V (A4 ?_))))));refine k1 ?_;refine ⟨(i+1,[]),⟨by simp,?_⟩,by dsimp only;omega,(I90 ⟨le1 rfl,le1 rfl,le1 rfl,trivial⟩ trivial)⟩
 dsimp only
 by_cases h2:i=p.length
 ·exact .inr ⟨by omega,by rw [hend];simp [h2]⟩
 ·left
  refine ⟨by omega,?_⟩
  rw [hend];simp [h2]
theorem H88 (a b:Str) (ha:a.length≤1073741824) (_hb:b.length≤1073741824):FnOk Tryz.prog 67 [M3 a,M3 b] (fun rs=>rs=[H5 (above a b)]):=by
 have hv:(a.length:Int) < b.length→b[((a.length:Nat):Int).toNat]?=some (b.getD a.length 0):=fun h1=>by
  rw [J17,J21,J15 (by omega)];rfl
 refine FnOk.intro Tryz.func67 (by decide) V V V V ?_
 refine k2 (A2 (A6 V V (A4 ?_)));refine k1 (k2 (A2 (A3 V V (A5 (J3 V) V (A3 V V (A5 (J3 V) V (A5 (M5 V V) V (A3 V V (B1 V V V V (fun hg=>by rw [hg];exact B7 V V) ?_)))))))));refine B1 V V V V (fun hg=>by rw [hg];exact B7 V V) ?_;refine B1 V V V V (fun hg=>by rw [hg];exact J3 V) ?_;refine B1 V V V V (fun hg=>by have hq:=hg;(try simp at hq);rw [hg];exact D42 V V (by omega) (by omega)) ?_;refine B1 V V V V (fun hg=>by rw [hg];exact B7 V V) ?_;refine B1 V V V V (fun hg=>by rw [hg];exact j7 V V) ?_;refine I6 V V ?_;refine A3 V V (B1 V V V V (fun hg=>by rw [hg];exact B7 V V) ?_);refine B1 V V V V (fun hg=>by rw [hg];exact B7 V V) ?_;refine B1 V V V V (fun hg=>by rw [hg];exact J3 V) ?_;refine B1 V V V V (fun hg=>by have hq:=hg;(try simp at hq);rw [hg];exact j1 V V (by omega) (hv (by omega))) ?_;refine B1 V V V V (fun hg=>by rw [hg];exact F7 V V) ?_;refine I6 V V ?_;refine A6 V V (A4 ?_);refine k1 (k10 (B6 (G7 V V V) ?_))
 refine congrArg (fun x=>[H5 x]) ?_
 rw [n6,n6,J17]
 unfold above
 by_cases h:a.length < b.length
 ·have hg:b[a.length]?=some (b.getD a.length 0):=by rw [J21,J15 h];rfl
  rw [hg,decide_eq_true (show (a.length:Int) < b.length by omega),Bool.true_and]
  have h47:(((b.getD a.length 0).toNat:Int)=47)↔b.getD a.length 0=47:=⟨fun h=>UInt8.toNat_inj.1 (by
   have:(b.getD a.length 0).toNat=47:=by omega
   simpa using this),fun h=>by rw [h];rfl⟩
  rw [←Bool.decide_and,decide_eq_decide,h47]
  simp only [gt_iff_lt,h,true_and,Option.some.injEq]
 ·rw [decide_eq_false (show ¬(a.length:Int) < b.length by omega)]
  simp [h]
theorem F88 (l:List File) (p:Str) (hl:l.length≤1073741824):FnOk Tryz.prog 11 [T9 l,M3 p] (fun rs=>rs=[M3 ((H8 l p).getD []),H5 (H8 l p).isSome]):=by
 refine FnOk.intro Tryz.func11 (by decide) V V V V ?_
 refine k2 (A2 (A6 V V (A6 V V (A4 ?_))));refine k1 (k2 (k2 (A2 (A6 V V (A4 ?_)))));refine k1 (k3 (C5 (X:=Nat) (fun i=>([(0,C6 File 2 R9 l),(1,T7 p),(6,C0 i)],[])) (fun i=>i≤l.length∧H8 l p=H8 (l.drop i) p) (fun i=>l.length - i) 0 ⟨Nat.zero_le _,rfl⟩ (I90 ⟨le1 rfl,le1 rfl,le1 rfl,trivial⟩ trivial) ?_))
 rintro i ⟨hi,hf⟩
 dsimp only at hi hf ⊢
 refine k2 (k2 (A2 (A3 V V (A3 V V (E0 V V (E8 V V V (A4 ?_)))))));refine k1 ?_;refine B0 rfl (fun ht=>?_) (fun ht=>?_)
 rotate_left
 ·have h1:i=l.length:=by have h1:=A1 ht;(try dsimp only at h1);omega
  rw [J31 (by omega)] at hf
  rw [hf]
  refine k6 (k2 (A2 (A6 V V (A6 V V (A4 ?_)))));refine k1 (k10 ?_)
  exact B6 (rs:=[M3 [],H5 false]) (X8 rfl rfl rfl rfl rfl) rfl
 have hlt:i < l.length:=by have h1:=A0 ht;(try dsimp only at h1);omega
 obtain ⟨f,hfe⟩:∃f,f=l[i]:=⟨_,rfl⟩
 have hv:l[i]?=some f:=by rw [hfe];simp [hlt]
 rw [J24 hlt,←hfe] at hf
 have hfs:H8 (f::l.drop (i+1)) p=if f.Path=p then some f.Blob else H8 (l.drop (i+1)) p:=rfl
 rw [hfs] at hf
 refine k5 (k1 (k2 (k3 (k2 (A2 (A3 V V (A3 V V (A5 (A9 V (.pure _ _ _ _) V (by omega) hv) V (A5 (B8 V) V (A5 (A8 V V) V (A3 V V (A5 (j7 V V) V (A4 ?_)))))))))))));refine k1 ?_;refine B0 rfl (fun ht=>?_) (fun ht=>?_)
 ·have h1:f.Path=p:=A0 ht
  rw [if_pos h1] at hf
  rw [hf]
  refine k2 (A2 (A3 V V (A3 V V (A5 (A9 V (.pure _ _ _ _) V (by omega) hv) V (A5 (B8 V) V (A5 (A8 V V) V (A6 V V (A6 V V (A4 ?_)))))))));refine k1 (k10 (k12 (k11 (k11 (k12 (k11 ?_))))))
  exact B6 (rs:=[M3 f.Blob,H5 true]) (X8 rfl rfl rfl rfl rfl) rfl
 ·have h1:¬f.Path=p:=A1 ht
  rw [if_neg h1] at hf
  refine k5 (k4 (k1 (A2 (A3 V V (D2 V V V (A6 V V (A4 ?_)))))));refine k1 ?_
  exact ⟨i+1,⟨hlt,hf⟩,by omega,(I90 ⟨le1 rfl,le1 rfl,le1 rfl,trivial⟩ trivial)⟩
set_option maxHeartbeats 1000000
theorem F22 (f:FuncId) (pr:File→Bool) (l:List File) (hl:l.length≤1073741824) (hf:∀x∈l,FnOk Tryz.prog f [H58 x] (fun rs=>rs=[H5 (pr x)])) :
  FnOk Tryz.prog 148 [T9 l,.one (.v (.func (.func f) #[] #[]))] (fun rs=>∃i:Int,rs=[F2 i]∧decide (0≤i)=l.any pr):=by
 refine FnOk.intro Tryz.func148 (by decide) V V V V ?_
 refine k2 (A2 (A6 V V (A4 ?_)));refine k1 (k2 (k2 (A2 (A3 V V (E0 V V (A3 V V (A4 ?_)))))));refine k1 (k3 (C5 (X:=Nat) (fun i=>([(0,C6 File 2 R9 l),(1,I2 (.func (.func f) #[] #[])),(7,C0 l.length),(8,C0 i)],[])) (fun i=>i≤l.length∧(l.take i).any pr=false) (fun i=>l.length - i) 0 ⟨Nat.zero_le _,rfl⟩ (I90 ⟨le1 rfl,le1 rfl,le1 rfl,le1 rfl,trivial⟩ trivial) ?_))
 rintro i ⟨hi,hn⟩
 dsimp only at hi hn ⊢
 refine k2 (A2 (E8 V V V (A4 ?_)));refine k1 (k2 ?_);refine B0 rfl (fun ht=>?_) (fun ht=>?_)
 rotate_left
 ·have h1:i=l.length:=by have h1:=A1 ht;(try dsimp only at h1);omega
  rw [h1,J23] at hn
  refine k6 (k2 (A2 (A6 V V (A4 ?_))));refine k1 (k10 ?_)
  exact B6 (rs:=[F2 (-1)]) (G7 rfl rfl rfl) ⟨-1,rfl,by rw [hn];rfl⟩
 have hlt:i < l.length:=by have h1:=A0 ht;(try dsimp only at h1);omega
 obtain ⟨x,hx⟩:∃x,x=l[i]:=⟨_,rfl⟩
 have hv:l[i]?=some x:=by rw [hx];simp [hlt]
 have hfx:=hf x (by rw [hx];exact J18 hlt)
 refine k5 (k1 (k2 (k3 (k2 (A2 (A3 V V (A6 V V (A4 ?_))))))));refine k1 (k2 (A2 (A3 V V (A3 V V (A3 V V (A5 (A9 V (.pure _ _ _ _) V (by omega) hv) V (A5 (D7 V V) V (A5 (F21 (hfx) V V V) V (A4 ?_)))))))));refine k1 ?_;refine B0 rfl (fun ht=>?_) (fun ht=>?_)
 ·refine k2 (A2 (A3 V V (A6 V V (A4 ?_))));refine k1 (k10 (k12 (k11 (k11 (k12 (k11 ?_))))));refine B6 (rs:=[F2 i]) (G7 rfl rfl rfl) ⟨i,rfl,?_⟩
  rw [List.any_eq_true.2 ⟨x,by rw [hx];exact J18 hlt,ht⟩]
  exact decide_eq_true (by omega)
 ·refine k5 (k4 (k1 (A2 (D2 V V V (A3 V V (A4 ?_))))));refine k1 ?_;refine ⟨i+1,⟨hlt,?_⟩,by omega,(I90 ⟨le1 rfl,le1 rfl,le1 rfl,le1 rfl,trivial⟩ trivial)⟩
  rw [List.take_add_one,hv,Option.toList_some,J60,hn,Bool.false_or,List.any_cons,List.any_nil,Bool.or_false]
  exact ht
theorem B06 (f:FuncId) (pr:File→Bool) (l:List File) (hl:l.length≤1073741824) (hf:∀x∈l,FnOk Tryz.prog f [H58 x] (fun rs=>rs=[H5 (pr x)])) :
  FnOk Tryz.prog 127 [T9 l,.one (.v (.func (.func f) #[] #[]))] (fun rs=>rs=[H5 (l.any pr)]):=by
 refine FnOk.intro Tryz.func127 (by decide) V V V V ?_
 refine k2 (A2 (A6 V V (A4 ?_)));refine k1 (k2 (A2 (A3 V V (A3 V V (D3 (F22 f pr l hl hf) V V V ?_)))));rintro _ ⟨i,rfl,hi⟩;refine A5 (W5 V V) V (A6 V V (A4 ?_));refine k1 (k10 ?_)
 exact B6 (G7 rfl rfl rfl) (by rw [←hi])
theorem D83 (f:FuncId) (pr:Commit→Bool) (l:List Commit) (hl:l.length≤1073741824) (hf:∀x∈l,FnOk Tryz.prog f [C45 x] (fun rs=>rs=[H5 (pr x)])) :
  FnOk Tryz.prog 126 [I7 l,.one (.v (.func (.func f) #[] #[]))] (fun rs=>∃i:Int,rs=[F2 i]∧decide (0≤i)=l.any pr):=by
 refine FnOk.intro Tryz.func126 (by decide) V V V V ?_
 refine k2 (A2 (A6 V V (A4 ?_)));refine k1 (k2 (k2 (A2 (A3 V V (E0 V V (A3 V V (A4 ?_)))))));refine k1 (k3 (C5 (X:=Nat) (fun i=>([(0,C6 Commit 3 G1 l),(1,I2 (.func (.func f) #[] #[])),(7,C0 l.length),(8,C0 i)],[])) (fun i=>i≤l.length∧(l.take i).any pr=false) (fun i=>l.length - i) 0 ⟨Nat.zero_le _,rfl⟩ (I90 ⟨le1 rfl,le1 rfl,le1 rfl,le1 rfl,trivial⟩ trivial) ?_))
 rintro i ⟨hi,hn⟩
 dsimp only at hi hn ⊢
 refine k2 (A2 (E8 V V V (A4 ?_)));refine k1 (k2 ?_);refine B0 rfl (fun ht=>?_) (fun ht=>?_)
 rotate_left
 ·have h1:i=l.length:=by have h1:=A1 ht;(try dsimp only at h1);omega
  rw [h1,J23] at hn
  refine k6 (k2 (A2 (A6 V V (A4 ?_))));refine k1 (k10 ?_)
  exact B6 (rs:=[F2 (-1)]) (G7 rfl rfl rfl) ⟨-1,rfl,by rw [hn];rfl⟩
 have hlt:i < l.length:=by have h1:=A0 ht;(try dsimp only at h1);omega
 obtain ⟨x,hx⟩:∃x,x=l[i]:=⟨_,rfl⟩
 have hv:l[i]?=some x:=by rw [hx];simp [hlt]
 have hfx:=hf x (by rw [hx];exact J18 hlt)
 refine k5 (k1 (k2 (k3 (k2 (A2 (A3 V V (A6 V V (A4 ?_))))))));refine k1 (k2 (A2 (A3 V V (A3 V V (A3 V V (A5 (A9 V (.pure _ _ _ _) V (by omega) hv) V (A5 (D7 V V) V (A5 (F21 (hfx) V V V) V (A4 ?_)))))))));refine k1 ?_;refine B0 rfl (fun ht=>?_) (fun ht=>?_)
 ·refine k2 (A2 (A3 V V (A6 V V (A4 ?_))));refine k1 (k10 (k12 (k11 (k11 (k12 (k11 ?_))))));refine B6 (rs:=[F2 i]) (G7 rfl rfl rfl) ⟨i,rfl,?_⟩
  rw [List.any_eq_true.2 ⟨x,by rw [hx];exact J18 hlt,ht⟩]
  exact decide_eq_true (by omega)
 ·refine k5 (k4 (k1 (A2 (D2 V V V (A3 V V (A4 ?_))))));refine k1 ?_;refine ⟨i+1,⟨hlt,?_⟩,by omega,(I90 ⟨le1 rfl,le1 rfl,le1 rfl,le1 rfl,trivial⟩ trivial)⟩
  rw [List.take_add_one,hv,Option.toList_some,J60,hn,Bool.false_or,List.any_cons,List.any_nil,Bool.or_false]
  exact ht
theorem A26 (f:FuncId) (pr:Commit→Bool) (l:List Commit) (hl:l.length≤1073741824) (hf:∀x∈l,FnOk Tryz.prog f [C45 x] (fun rs=>rs=[H5 (pr x)])) :
  FnOk Tryz.prog 89 [I7 l,.one (.v (.func (.func f) #[] #[]))] (fun rs=>rs=[H5 (l.any pr)]):=by
 refine FnOk.intro Tryz.func89 (by decide) V V V V ?_
 refine k2 (A2 (A6 V V (A4 ?_)));refine k1 (k2 (A2 (A3 V V (A3 V V (D3 (D83 f pr l hl hf) V V V ?_)))));rintro _ ⟨i,rfl,hi⟩;refine A5 (W5 V V) V (A6 V V (A4 ?_));refine k1 (k10 ?_)
 exact B6 (G7 rfl rfl rfl) (by rw [←hi])
set_option maxHeartbeats 1000000
structure FewG (g:Graph):Prop where
 len:g.length≤1000
 pars:∀c∈g,c.Parents.length≤1048576
theorem H51 (l:List Int) (n:Int) (hl:l.length≤1073741824):FnOk Tryz.prog 38 [I5 l,F2 n] (fun rs=>rs=[H5 (decide (n∈l))]):=by
 refine FnOk.intro Tryz.func38 (by decide) V V V V ?_
 refine k2 (A2 (A6 V V (A4 ?_)));refine k1 (k2 (k2 (A2 (A6 V V (A4 ?_)))));refine k1 (k3 (C5 (X:=Nat) (fun i=>([(0,C6 Int 1 E3 l),(1,C0 n),(5,C0 i)],[])) (fun i=>i≤l.length∧n∉l.take i) (fun i=>l.length - i) 0 ⟨Nat.zero_le _,by simp⟩ (I90 ⟨le1 rfl,le1 rfl,le1 rfl,trivial⟩ trivial) ?_))
 rintro i ⟨hi,hf⟩
 dsimp only at hi hf ⊢
 refine k2 (k2 (A2 (A3 V V (A3 V V (E0 V V (E8 V V V (A4 ?_)))))));refine k1 ?_;refine B0 rfl (fun ht=>?_) (fun ht=>?_)
 rotate_left
 ·have h1:i=l.length:=by have h1:=A1 ht;(try dsimp only at h1);omega
  rw [h1,J23] at hf
  refine k6 (k2 (A2 (A6 V V (A4 ?_))));refine k1 (k10 ?_)
  exact B6 (rs:=[H5 false]) (G7 rfl rfl rfl) (by rw [decide_eq_false hf])
 have hlt:i < l.length:=by have h1:=A0 ht;(try dsimp only at h1);omega
 have hv:l[i]?=some l[i]:=by simp [hlt]
 refine k5 (k1 (k2 (k3 (k2 (A2 (A3 V V (A3 V V (A5 (A9 V (.pure _ _ _ _) V (by omega) hv) V (A5 (A8 V V) V (A3 V V (A5 (F7 V V) V (A4 ?_))))))))))));refine k1 ?_;refine B0 rfl (fun ht=>?_) (fun ht=>?_)
 ·have h1:l[i]=n:=A0 ht
  refine k2 (A2 (A6 V V (A4 ?_)));refine k1 (k10 (k12 (k11 (k11 (k12 (k11 ?_))))))
  exact B6 (rs:=[H5 true]) (G7 rfl rfl rfl) (by rw [decide_eq_true (h1 ▸ J18 hlt)])
 ·have h1:¬l[i]=n:=A1 ht
  refine k5 (k4 (k1 (A2 (A3 V V (D2 V V V (A6 V V (A4 ?_)))))));refine k1 ?_;refine ⟨i+1,⟨hlt,?_⟩,by omega,(I90 ⟨le1 rfl,le1 rfl,le1 rfl,trivial⟩ trivial)⟩
  rw [List.take_add_one,J15 hlt,Option.toList_some,J39,List.mem_singleton]
  rintro (h | h)
  ·exact hf h
  ·exact h1 h.symm
theorem D06 (ps:List Int) (l:List Bool) (i:Nat) (h:i < ps.length):U0 (ps.take (i+1)) l=(U0 (ps.take i) l).set ps[i].toNat true:=by
 unfold U0
 rw [List.take_add_one,J15 h,Option.toList_some,J59];rfl
theorem A68 {l:List Bool} {c:Nat} (h:c < l.length):l[c]?=some (K0 l c):=by
 unfold K0;rw [J15 h];rfl
theorem D84 {ps:List Int} {l:List Bool} {c i:Nat} (h:K0 l c=true):K0 (U0 (ps.take i) l) c=true:=(C88 _ _).2 c h
def C06 (g:Graph) (l:List Bool) (c:Nat):List Bool:=(List.range c).foldl (Z7 g) l
theorem F89 (g:Graph) (l:List Bool) (c:Nat):C06 g l (c+1)=Z7 g (C06 g l c) c:=by unfold C06;rw [J63,J59];rfl
theorem G69 (g:Graph) (l:List Bool) (c:Nat):(C06 g l c).length=l.length:=C87 g _ l
theorem D85 (g:Graph):∀(k:Nat) (l:List Bool),V2 g (k+1) l=B43 g (V2 g k l)
 | 0,_=>rfl
 | k+1,l=>by rw [V2,D85 g k];rfl
theorem E74 (g:Graph) (from':List Int) (hg:g.length≤1000) (hp:∀c∈g,c.Parents.length≤1048576) (hr:related g=true) (hf:∀f∈from',0≤f∧f < g.length) (hfl:from'.length≤1048576) :
  FnOk Tryz.prog 24 [I7 g,I5 from'] (fun rs=>rs=[F61 (M9 g from')]):=by
 have hpl:∀c,(D9 g c).length≤1048576:=fun c=>by
  by_cases hc:c < g.length
  ·rw [S0 hc];exact hp _ (J18 hc)
  ·rw [A71 hc];exact Nat.zero_le _
 refine FnOk.intro Tryz.func24 (by decide) V V V V ?_
 refine k2 (A2 (A6 V V (A4 ?_)));refine k1 (k2 (A2 (A3 V V (E0 V V (C9 (c8 753 Bool v6 false V V (by omega) (by omega) (fun _=>by first | exact ⟨⟨rfl,rfl⟩,trivial⟩ | exact ⟨G9 _ _ _,trivial⟩ | exact ⟨G9 _ _ _,⟨rfl,rfl⟩,G9 _ _ _,trivial⟩) (by first | rfl | (simp [K2,J2,Ob.free,SV.free,S1.free,TC.free]<;>rfl))) V ?_)))));refine A6 V V (A4 ?_);refine k1 (k2 (k2 (A2 (A6 V V (A4 ?_)))));refine k1 (k3 ?_)
 rw [J17]
 obtain ⟨z,hz⟩:∃z,z=List.replicate g.length false:=⟨_,rfl⟩
 have hzl:z.length=g.length:=by rw [hz];simp
 rw [←hz]
 refine C5 (X:=Nat) (fun i=>([(0,C6 Commit 3 G1 g),(1,C6 Int 1 E3 from'),(5,.s (.one (.mut 753))),(6,C0 i)],[(753,.arr Bool 1 v6 (U0 (from'.take i) z))])) (fun i=>i≤from'.length) (fun i=>from'.length - i) 0 (Nat.zero_le _) (I90 ⟨le1 rfl,le1 rfl,le1 rfl,le1 rfl,trivial⟩ ⟨rfl,trivial⟩) ?_
 intro i hi
 dsimp only at hi ⊢
 have hsl:=U1 (from'.take i) z
 refine k2 (k2 (A2 (A3 V V (A3 V V (E0 V V (E8 V V V (A4 ?_)))))));refine k1 ?_;refine B0 rfl (fun ht=>?_) (fun ht=>?_)
 ·have hlt:i < from'.length:=by have h1:=A0 ht;(try dsimp only at h1);omega
  have hv:from'[i]?=some from'[i]:=by simp [hlt]
  have hfr:=hf _ (J18 hlt)
  have hs:=D06 from' z i hlt
  obtain ⟨f,hfe⟩:∃f,f=from'[i]:=⟨_,rfl⟩
  rw [←hfe] at hv hfr hs
  refine k5 (k1 (k2 (k3 (A2 (A3 V V (A3 V V (A3 V V (A5 (A9 V (.pure _ _ _ _) V (by omega) hv) V (A5 (A8 V V) V (A5 (F1 V V V (by omega) (by (rw [hsl];omega))) V ?_))))))))));refine G8 (I1 TySz.out V V (by (rw [hsl];omega)) V V) ?_;refine A4 ?_;refine k4 (k1 (A2 (A3 V V (D2 V V V (A6 V V (A4 ?_))))));refine k1 ?_;refine ⟨i+1,by omega,by omega,?_⟩
  rw [hs]
  exact (I90 ⟨le1 rfl,le1 rfl,le1 rfl,le1 rfl,trivial⟩ ⟨rfl,trivial⟩)
 have hie:i=from'.length:=by have h1:=A1 ht;(try dsimp only at h1);omega
 rw [hie,J23]
 obtain ⟨z1,hz1⟩:∃z1,z1=U0 from' z:=⟨_,rfl⟩
 have hz1l:z1.length=g.length:=by rw [hz1,U1,hzl]
 have hres:M9 g from'=V2 g g.length z1:=by rw [hz1,hz];rfl
 rw [←hz1,hres]
 refine k6 (k2 (k2 (A2 (A6 V V (A4 ?_)))));refine k1 (k3 (C5 (X:=Nat) (fun k=>([(0,C6 Commit 3 G1 g),(5,.s (.one (.mut 753))),(7,C0 k)],[(753,.arr Bool 1 v6 (V2 g k z1))])) (fun k=>k≤g.length) (fun k=>g.length - k) 0 (Nat.zero_le _) (I90 ⟨le1 rfl,le1 rfl,le1 rfl,trivial⟩ ⟨rfl,trivial⟩) ?_))
 intro k hk
 dsimp only at hk ⊢
 refine k2 (k2 (A2 (A3 V V (A3 V V (E0 V V (E8 V V V (A4 ?_)))))));refine k1 ?_;refine B0 rfl (fun ht=>?_) (fun ht=>?_)
 rotate_left
 ·have hke:k=g.length:=by have h1:=A1 ht;(try dsimp only at h1);omega
  rw [hke]
  refine D8 (Sees.freeze (k:=753) V) ?_
  refine k6 (k2 (A2 (A3 V V (A6 V V (A4 ?_)))));refine k1 (k10 ?_)
  exact B6 (rs:=[F61 (V2 g g.length z1)]) (G7 rfl rfl rfl) rfl
 have hklt:k < g.length:=by have h1:=A0 ht;(try dsimp only at h1);omega
 have hnext:V2 g (k+1) z1=C06 g (V2 g k z1) g.length:=D85 g k z1
 obtain ⟨y,hy⟩:∃y,y=V2 g k z1:=⟨_,rfl⟩
 have hyl:y.length=g.length:=by rw [hy,B69,hz1l]
 rw [←hy] at hnext ⊢
 refine k5 (k1 (k2 (k3 (k2 (A2 (A6 V V (A4 ?_)))))));refine k1 (k3 (C5 (X:=Nat) (fun c=>([(0,C6 Commit 3 G1 g),(5,.s (.one (.mut 753))),(7,C0 k),(8,C0 c)],[(753,.arr Bool 1 v6 (C06 g y c))])) (fun c=>c≤g.length) (fun c=>g.length - c) 0 (Nat.zero_le _) (I90 ⟨le1 rfl,le1 rfl,le1 rfl,le1 rfl,trivial⟩ ⟨rfl,trivial⟩) ?_))
 intro c hc
 dsimp only at hc ⊢
 refine k2 (k2 (A2 (A3 V V (A3 V V (E0 V V (E8 V V V (A4 ?_)))))));refine k1 ?_;refine B0 rfl (fun ht=>?_) (fun ht=>?_)
 rotate_left
 ·have hce:c=g.length:=by have h1:=A1 ht;(try dsimp only at h1);omega
  rw [hce,←hnext]
  refine k6 (k7 (k7 (k8 V (k4 (k1 (A2 (A3 V V (D2 V V V (A6 V V (A4 ?_))))))))));refine k1 ?_
  exact ⟨k+1,by omega,by omega,(I90 ⟨le1 rfl,le1 rfl,le1 rfl,trivial⟩ ⟨rfl,trivial⟩)⟩
 have hclt:c < g.length:=by have h1:=A0 ht;(try dsimp only at h1);omega
 have hsuc:=F89 g y c
 obtain ⟨x,hx⟩:∃x,x=C06 g y c:=⟨_,rfl⟩
 have hxl:x.length=g.length:=by rw [hx,G69,hyl]
 rw [←hx] at hsuc ⊢
 obtain ⟨cm,hcm⟩:∃cm,cm=g[c]:=⟨_,rfl⟩
 have hvc:g[c]?=some cm:=by rw [hcm];simp [hclt]
 have hps:D9 g c=cm.Parents:=by rw [S0 hclt,hcm]
 have hpr:=(J0 hr c).1
 have hpc:=hpl c
 rw [hps] at hpr hpc
 refine k5 (k1 (k2 (k3 (k2 (A2 (A6 V V (A4 ?_)))))));refine k1 (k3 (C5 (X:=Nat) (fun p=>([(0,C6 Commit 3 G1 g),(5,.s (.one (.mut 753))),(7,C0 k),(8,C0 c),(9,C0 p)],[(753,.arr Bool 1 v6 (if K0 x c=true then U0 (cm.Parents.take p) x else x))])) (fun p=>p≤cm.Parents.length∧(K0 x c=false→p=0)) (fun p=>cm.Parents.length - p) 0 ⟨Nat.zero_le _,fun _=>rfl⟩ (by split<;>exact (I90 ⟨le1 rfl,le1 rfl,le1 rfl,le1 rfl,le1 rfl,trivial⟩ ⟨rfl,trivial⟩)) ?_))
 rintro p ⟨hp1,hp2⟩
 dsimp only at hp1 hp2 ⊢
 obtain ⟨u,hu⟩:∃u,u=(if K0 x c=true then U0 (cm.Parents.take p) x else x):=⟨_,rfl⟩
 have hul:u.length=g.length:=by rw [hu];split;rw [U1,hxl];exact hxl
 have huo:K0 u c=K0 x c:=by
  rw [hu]
  cases ho:K0 x c
  ·simp [ho]
  ·simp only [if_true];exact D84 ho
 have hvo:u[((c:Nat):Int).toNat]?=some (K0 x c):=by rw [J17,A68 (by omega),huo]
 rw [←hu]
 refine k2 (k2 (A2 (A3 V V (A3 V V (A3 V V (A5 (A9 V (.pure _ _ _ _) V (by omega) hvc) V (A5 (B8 V) V (A5 (A8 V V) V (E0 V V (E8 V V V (A3 V V (B1 V V V V (fun hg=>by rw [hg];exact B7 V V) ?_))))))))))));refine B1 V V V V (fun hg=>by rw [hg];exact B7 V V) ?_;refine B1 V V V V (fun hg=>by have hq:=hg;(try simp at hq);rw [hg];exact F1 V V V (by omega) (by (rw [hul];omega))) ?_;refine B1 V V V V (fun hg=>by rw [hg];exact M1 V V hvo V) ?_;refine I6 V V ?_;refine A4 ?_;refine k1 ?_;refine B0 rfl (fun ht=>?_) (fun ht=>?_)
 ·rw [n6,J16,decide_eq_true_eq] at ht
  have hplt:p < cm.Parents.length:=by omega
  have hvp:cm.Parents[p]?=some cm.Parents[p]:=by simp [hplt]
  have hpb:=hpr _ (J18 hplt)
  have hs:=D06 cm.Parents x p hplt
  rw [hu,if_pos ht.2] at hul
  rw [hu,if_pos ht.2]
  obtain ⟨q,hq⟩:∃q,q=cm.Parents[p]:=⟨_,rfl⟩
  rw [←hq] at hvp hpb hs
  refine k5 (k1 (k2 (k3 (A2 (A3 V V (A3 V V (A3 V V (A5 (A9 V (.pure _ _ _ _) V (by omega) hvc) V (A5 (B8 V) V (A5 (A8 V V) V (A3 V V (A5 (A9 V (.pure _ _ _ _) V (by omega) hvp) V (A5 (A8 V V) V (A5 (F1 V V V (by omega) (by (rw [hul];omega))) V ?_))))))))))))));refine G8 (I1 TySz.out V V (by (rw [hul];omega)) V V) ?_;refine A4 ?_;refine k4 (k1 (A2 (A3 V V (D2 V V V (A6 V V (A4 ?_))))));refine k1 ?_;refine ⟨p+1,⟨by omega,fun e=>by rw [ht.2] at e;cases e⟩,by omega,?_⟩
  rw [if_pos ht.2,hs]
  exact (I90 ⟨le1 rfl,le1 rfl,le1 rfl,le1 rfl,le1 rfl,trivial⟩ ⟨rfl,trivial⟩)
 ·rw [n6,Bool.and_eq_false_iff,decide_eq_false_iff_not] at ht
  have hst:u=Z7 g x c:=by
   rw [hu]
   unfold Z7
   rw [hps]
   cases ho:K0 x c
   ·rfl
   ·have:p=cm.Parents.length:=by
     rcases ht with h1 | h1
     ·omega
     ·rw [ho] at h1;cases h1
    rw [this,J23]
  rw [hst,←hsuc]
  refine k6 (k7 (k7 (k8 V (k4 (k1 (A2 (A3 V V (D2 V V V (A6 V V (A4 ?_))))))))));refine k1 ?_
  exact ⟨c+1,by omega,by omega,(I90 ⟨le1 rfl,le1 rfl,le1 rfl,le1 rfl,trivial⟩ ⟨rfl,trivial⟩)⟩
def l5 (g:Graph) (c:Int) (k:Nat):List Int:=((List.range k).filter fun i=>decide (c∈D9 g i)).map fun i:Nat=>(i:Int)
theorem F90 (g:Graph) (c:Int) (k:Nat):l5 g c (k+1)=if c∈D9 g k then l5 g c k++[(k:Int)] else l5 g c k:=by
 unfold l5
 rw [J63,J67,J42]
 by_cases h:c∈D9 g k<;>simp [h]
theorem D86 (g:Graph) (c:Int) (k:Nat):(l5 g c k).length≤k:=by
 unfold l5
 rw [J38]
 have:=List.length_filter_le (fun i=>decide (c∈D9 g i)) (List.range k)
 rwa [J46] at this
theorem I54 (g:Graph) (c:Int) (hg:g.length≤1000) (hp:∀c∈g,c.Parents.length≤1048576) :
  FnOk Tryz.prog 40 [I7 g,F2 c] (fun rs=>rs=[I5 (l5 g c g.length)]):=by
 refine FnOk.intro Tryz.func40 (by decide) V V V V ?_
 refine k2 (A2 (A6 V V (A4 ?_)));refine k1 (k2 (A2 (C9 (Q4 5 _ E3 V) V (A4 ?_))));refine k1 (k2 (k2 (A2 (A6 V V (A4 ?_)))));refine k1 (k3 (C5 (X:=Nat) (fun k=>([(0,C6 Commit 3 G1 g),(1,C0 c),(5,.s (.one (.buf 5 Int 1 E3 (l5 g c k)))),(6,C0 k)],[(5,.spare (l5 g c k).length 1 3)])) (fun k=>k≤g.length) (fun k=>g.length - k) 0 (Nat.zero_le _) (I90 ⟨le1 rfl,le1 rfl,le1 rfl,le1 rfl,trivial⟩ ⟨rfl,trivial⟩) ?_))
 intro k hk
 dsimp only at hk ⊢
 have hkl:=D86 g c k
 refine k2 (k2 (A2 (A3 V V (A3 V V (E0 V V (E8 V V V (A4 ?_)))))));refine k1 ?_;refine B0 rfl (fun ht=>?_) (fun ht=>?_)
 rotate_left
 ·have hke:k=g.length:=by have h1:=A1 ht;(try dsimp only at h1);omega
  rw [hke]
  refine k6 (k2 (A2 (A3 V V (A6 V V (A4 ?_)))));refine k1 (k10 ?_)
  exact B6 (rs:=[I5 (l5 g c g.length)]) (G7 rfl rfl rfl) rfl
 have hlt:k < g.length:=by have h1:=A0 ht;(try dsimp only at h1);omega
 obtain ⟨cm,hcm⟩:∃cm,cm=g[k]:=⟨_,rfl⟩
 have hv:g[k]?=some cm:=by rw [hcm];simp [hlt]
 have hps:D9 g k=cm.Parents:=by rw [S0 hlt,hcm]
 have hpc:=hp cm (by rw [hcm];exact J18 hlt)
 have hs:=F90 g c k
 rw [hps] at hs
 refine k5 (k1 (k2 (k3 (k2 (A2 (A3 V V (A3 V V (A5 (A9 V (.pure _ _ _ _) V (by omega) hv) V (A5 (B8 V) V (A5 (A8 V V) V (A3 V V (D3 (H51 cm.Parents c (by omega)) V V V ?_))))))))))));rintro _ rfl;refine A4 ?_;refine k1 ?_;refine B0 rfl (fun ht=>?_) (fun ht=>?_)
 ·have h1:=A0 ht
  rw [if_pos h1] at hs
  skip
  refine A2 (A3 V V (A3 V V (A5 (C3 (c:=E3) (ys:=[(k:Int)]) (D4 V V V V F9) V V V) V (C9 (I9 V V V (.pure _ _ _ _) (by (simp only [J19,J22];omega)) V) V (A6 V V (A4 ?_))))));refine k4 (k1 (A2 (A3 V V (D2 V V V (A6 V V (A4 ?_))))));refine k1 ?_;refine ⟨k+1,by omega,by omega,?_⟩
  rw [hs]
  exact (I90 ⟨le1 rfl,le1 rfl,le1 rfl,le1 rfl,trivial⟩ ⟨rfl,trivial⟩)
 ·have h1:=A1 ht
  rw [if_neg h1] at hs
  refine k5 (k4 (k1 (A2 (A3 V V (D2 V V V (A6 V V (A4 ?_)))))));refine k1 ?_;refine ⟨k+1,by omega,by omega,?_⟩
  rw [hs]
  exact (I90 ⟨le1 rfl,le1 rfl,le1 rfl,le1 rfl,trivial⟩ ⟨rfl,trivial⟩)
set_option maxHeartbeats 1000000
theorem H89 (l:List Int) (n:Int) (hl:l.length≤1073741824):FnOk Tryz.prog 147 [I5 l,F2 n] (fun rs=>∃i:Int,rs=[F2 i]∧decide (0≤i)=decide (n∈l)):=by
 refine FnOk.intro Tryz.func147 (by decide) V V V V ?_
 refine k2 (A2 (A6 V V (A4 ?_)));refine k1 (k2 (k2 (A2 (A3 V V (E0 V V (A3 V V (A4 ?_)))))));refine k1 (k3 (C5 (X:=Nat) (fun i=>([(0,C6 Int 1 E3 l),(1,C0 n),(7,C0 l.length),(8,C0 i)],[])) (fun i=>i≤l.length∧n∉l.take i) (fun i=>l.length - i) 0 ⟨Nat.zero_le _,by simp⟩ (I90 ⟨le1 rfl,le1 rfl,le1 rfl,le1 rfl,trivial⟩ trivial) ?_))
 rintro i ⟨hi,hf⟩
 dsimp only at hi hf ⊢
 refine k2 (A2 (E8 V V V (A4 ?_)));refine k1 (k2 ?_);refine B0 rfl (fun ht=>?_) (fun ht=>?_)
 rotate_left
 ·have h1:i=l.length:=by have h1:=A1 ht;(try dsimp only at h1);omega
  rw [h1,J23] at hf
  refine k6 (k2 (A2 (A6 V V (A4 ?_))));refine k1 (k10 ?_)
  exact B6 (rs:=[F2 (-1)]) (G7 rfl rfl rfl) ⟨-1,rfl,by rw [decide_eq_false hf];rfl⟩
 have hlt:i < l.length:=by have h1:=A0 ht;(try dsimp only at h1);omega
 have hv:l[i]?=some l[i]:=by simp [hlt]
 refine k5 (k1 (k2 (k3 (k2 (A2 (A3 V V (A6 V V (A4 ?_))))))));refine k1 (k2 (A2 (A3 V V (A3 V V (A3 V V (A5 (A9 V (.pure _ _ _ _) V (by omega) hv) V (A5 (A8 V V) V (A5 (F7 V V) V (A4 ?_)))))))));refine k1 ?_;refine B0 rfl (fun ht=>?_) (fun ht=>?_)
 ·have h1:n=l[i]:=A0 ht
  refine k2 (A2 (A3 V V (A6 V V (A4 ?_))));refine k1 (k10 (k12 (k11 (k11 (k12 (k11 ?_))))));refine B6 (rs:=[F2 i]) (G7 rfl rfl rfl) ⟨i,rfl,?_⟩
  rw [decide_eq_true (show n∈l from h1 ▸ J18 hlt)]
  exact decide_eq_true (by omega)
 ·have h1:¬n=l[i]:=A1 ht
  refine k5 (k4 (k1 (A2 (D2 V V V (A3 V V (A4 ?_))))));refine k1 ?_;refine ⟨i+1,⟨hlt,?_⟩,by omega,(I90 ⟨le1 rfl,le1 rfl,le1 rfl,le1 rfl,trivial⟩ trivial)⟩
  rw [List.take_add_one,J15 hlt,Option.toList_some,J39,List.mem_singleton]
  rintro (h | h)
  ·exact hf h
  ·exact h1 h
theorem F23 (l:List Int) (n:Int) (hl:l.length≤1073741824):FnOk Tryz.prog 125 [I5 l,F2 n] (fun rs=>rs=[H5 (decide (n∈l))]):=by
 refine FnOk.intro Tryz.func125 (by decide) V V V V ?_
 refine k2 (A2 (A6 V V (A4 ?_)));refine k1 (k2 (A2 (A3 V V (A3 V V (D3 (H89 l n hl) V V V ?_)))));rintro _ ⟨i,rfl,hi⟩;refine A5 (W5 V V) V (A6 V V (A4 ?_));refine k1 (k10 ?_)
 exact B6 (G7 rfl rfl rfl) (by rw [←hi])
theorem F24 (c:Commit) (hc:c.Parents.length≤1073741824):FnOk Tryz.prog 124 [C45 c] (fun rs=>rs=[H5 (decide (c.Parents.length > 32))]):=by
 refine FnOk.intro Tryz.func124 (by decide) V V V V ?_
 refine k2 (A2 (C9 (x4 1 V V V) V (A6 V V (A4 ?_))));refine k1 (k2 (A2 (A5 (A7 V) V (G4 V V V V (E0 V V (A5 (M5 V V) V (A6 V V (A4 ?_))))))));refine k1 (k10 ?_)
 exact B6 (G7 rfl rfl rfl) (congrArg (fun b=>[H5 b]) (decide_eq_decide.2 ⟨fun h=>by omega,fun h=>by omega⟩))
theorem F91 (g:Graph) (hf:FewG g) (hgl:g.length≤1073741824):FnOk Tryz.prog 86 [I7 g] (fun rs=>rs=[H5 (U8 g)]):=by
 refine FnOk.intro Tryz.func86 (by decide) V V V V ?_
 refine k2 (A2 (A6 V V (A4 ?_)));refine k1 (k2 (A2 (A3 V V (E0 V V (A5 (B03 V V) V (A3 V V (B1 V V V V (fun hg=>by rw [hg];exact B7 V V) ?_)))))));refine B1 V V V V (fun hg=>by have hq:=hg;(try simp at hq);rw [hg];exact N4 (A26 124 (fun c=>decide (c.Parents.length > 32)) g hgl (fun c hc=>F24 c (by have:=hf.pars c hc;omega))) V V) ?_;refine B1 V V V V (fun hg=>by rw [hg];exact U2 V) ?_;refine I6 V V ?_;refine A6 V V (A4 ?_);refine k1 (k10 (B6 (G7 V V V) ?_))
 unfold U8
 rw [n6,show decide ((g.length:Int)≤300)=decide (g.length≤300) from decide_eq_decide.2 (by omega)]
theorem G70 (c:Commit):FnOk Tryz.prog 90 [C45 c] (fun rs=>rs=[H5 (decide (c.Date < 0∨c.Date > 2147483647))]):=by
 refine FnOk.intro Tryz.func90 (by decide) V V V V ?_
 refine k2 (A2 (C9 (x4 1 V V V) V (A6 V V (A4 ?_))));refine k1 (k2 (A2 (A5 (A7 V) V (G4 V V V V (E8 V V V (A3 V V (B1 V V V V (fun hg=>by rw [hg];exact A7 V) ?_)))))));refine B1 V V V V (fun hg=>by rw [hg];exact C4 V V V) ?_;refine B1 V V V V (fun hg=>by rw [hg];exact M5 V V) ?_;refine I6 V V ?_;refine A6 V V (A4 ?_);refine k1 (k10 (B6 (G7 V V V) ?_))
 rw [or_pick]
theorem dis_ok (g:Graph) (c:Int):FnOk Tryz.prog 57 [I7 g,F2 c] (fun rs=>rs=[H5 (decide (T6 g c))]):=by
 refine FnOk.intro Tryz.func57 (by decide) V V V V ?_
 refine k2 (A2 (A6 V V (A4 ?_)));refine k1 (k2 (A2 (A3 V V (A5 (W5 V V) V (A3 V V (B1 V V V V (fun hg=>by rw [hg];exact B7 V V) ?_))))));refine B1 V V V V (fun hg=>by rw [hg];exact B7 V V) ?_;refine B1 V V V V (fun hg=>by rw [hg];exact X7 V (.pure _ _ _ _)) ?_;refine B1 V V V V (fun hg=>by rw [hg];exact A60 V V) ?_;refine I6 V V ?_;refine A6 V V (A4 ?_);refine k1 (k10 (B6 (G7 V V V) ?_))
 rw [and_pick]
 rfl
theorem F92 (g:Graph) (hf:FewG g) (hg:g.length≤1073741824):FnOk Tryz.prog 87 [I7 g] (fun rs=>rs=[H5 (related g)]):=by
 refine FnOk.intro Tryz.func87 (by decide) V V V V ?_
 refine k2 (A2 (A6 V V (A4 ?_)));refine k1 (k2 (k2 (A2 (A3 V V (E0 V V (A3 V V (A4 ?_)))))));refine k1 (k3 (C5 (X:=Nat) (fun i=>([(0,C6 Commit 3 G1 g),(7,C6 Commit 3 G1 g),(8,C0 g.length),(9,C0 i)],[])) (fun i=>i≤g.length∧((g.take i).all fun c=>x7 g.length [] c.Parents)=true) (fun i=>g.length - i) 0 ⟨Nat.zero_le _,rfl⟩ (I90 ⟨le1 rfl,le1 rfl,le1 rfl,le1 rfl,trivial⟩ trivial) ?_))
 rintro i ⟨hi,ha⟩
 dsimp only at hi ha ⊢
 refine k2 (A2 (E8 V V V (A4 ?_)));refine k1 (k2 ?_);refine B0 rfl (fun ht=>?_) (fun ht=>?_)
 rotate_left
 ·have h1:i=g.length:=by have h1:=A1 ht;(try dsimp only at h1);omega
  rw [h1,J23] at ha
  refine k6 (k2 (A2 (A6 V V (A4 ?_))));refine k1 (k10 ?_)
  exact B6 (rs:=[H5 true]) (G7 rfl rfl rfl) (by unfold related;rw [ha])
 have hlt:i < g.length:=by have h1:=A0 ht;(try dsimp only at h1);omega
 obtain ⟨c,hc⟩:∃c,c=g[i]:=⟨_,rfl⟩
 have hv:g[i]?=some c:=by rw [hc];simp [hlt]
 have hpl:=hf.pars c (by rw [hc];exact J18 hlt)
 have hbad:x7 g.length [] c.Parents=false→[H5 false]=[H5 (related g)]:=fun h=>by
  have:related g=false:=by
   unfold related
   rw [List.all_eq_false]
   exact ⟨c,by rw [hc];exact J18 hlt,by rw [h];decide⟩
  rw [this]
 refine k5 (k1 (k2 (k3 (k2 (A2 (A5 (A9 V (.pure _ _ _ _) V (by omega) hv) V (A5 (D7 V V) V (C9 (J4 4 V) V (G8 (C1 TySz.out V V V V V V) (A4 ?_))))))))));refine k1 (k2 (A2 (A5 (A7 V) V (G4 V V V V (E0 V V (A3 V V (A4 ?_)))))));refine k1 (k3 (C5 (X:=Nat) (fun k=>([(0,C6 Commit 3 G1 g),(4,.s (.one (.ref 4 0))),(7,C6 Commit 3 G1 g),(8,C0 g.length),(9,C0 i),(14,C6 Int 1 E3 c.Parents),(15,C0 c.Parents.length),(16,C0 k)],[(4,.box (C45 c).s1.cells)])) (fun k=>k≤c.Parents.length∧x7 g.length [] c.Parents=x7 g.length (c.Parents.take k) (c.Parents.drop k)) (fun k=>c.Parents.length - k) 0 ⟨Nat.zero_le _,rfl⟩ (I90 ⟨le1 rfl,le1 rfl,le1 rfl,le1 rfl,le1 rfl,le1 rfl,le1 rfl,le1 rfl,trivial⟩ ⟨rfl,trivial⟩) ?_))
 rintro k ⟨hk,hr⟩
 dsimp only at hk hr ⊢
 refine k2 (A2 (E8 V V V (A4 ?_)));refine k1 (k2 ?_);refine B0 rfl (fun ht=>?_) (fun ht=>?_)
 rotate_left
 ·have h1:k=c.Parents.length:=by have h1:=A1 ht;(try dsimp only at h1);omega
  rw [h1,List.drop_length] at hr
  refine k6 (k7 (k7 (k8 V (k4 (k1 (A2 (D2 V V V (A3 V V (A4 ?_)))))))));refine k1 ?_;refine ⟨i+1,⟨hlt,?_⟩,by omega,(I90 ⟨le1 rfl,le1 rfl,le1 rfl,le1 rfl,trivial⟩ trivial)⟩
  rw [List.take_add_one,hv,Option.toList_some,J58,ha,Bool.true_and,List.all_cons,List.all_nil,Bool.and_true,hr]
  rfl
 have hklt:k < c.Parents.length:=by have h1:=A0 ht;(try dsimp only at h1);omega
 have hvp:c.Parents[k]?=some c.Parents[k]:=by simp [hklt]
 rw [J24 hklt] at hr
 obtain ⟨p,hp⟩:∃p,p=c.Parents[k]:=⟨_,rfl⟩
 rw [←hp] at hvp hr
 have htk:c.Parents.take (k+1)=c.Parents.take k++[p]:=by rw [List.take_add_one,hvp,Option.toList_some]
 rw [x7,←htk] at hr
 refine k5 (k1 (k2 (k3 (k2 (A2 (A3 V V (A5 (A9 V (.pure _ _ _ _) V (by omega) hvp) V (A5 (A8 V V) V (A6 V V (A6 V V (A4 ?_)))))))))));refine k1 (k2 (A2 (A3 V V (E8 V V V (A3 V V (B1 V V V V (fun hg=>by rw [hg];exact B7 V V) ?_))))));refine B1 V V V V (fun hg=>by rw [hg];exact B7 V V) ?_;refine B1 V V V V (fun hg=>by rw [hg];exact X7 V (.pure _ _ _ _)) ?_;refine B1 V V V V (fun hg=>by rw [hg];exact W5 V V) ?_;refine I6 V V ?_;refine A3 V V (B1 V V V V (fun hg=>by rw [hg];exact A7 V) ?_);refine B1 V V V V (fun hg=>by rw [hg];exact C4 V V V) ?_;refine B1 V V V V (fun hg=>by rw [hg];exact B7 V V) ?_;refine B1 V V V V (fun hg=>by have hq:=hg;(try simp at hq);rw [hg];exact B56 V (.pure _ _ _ _) V (by omega) (by omega)) ?_;refine B1 V V V V (fun hg=>by rw [hg];exact B7 V V) ?_;refine B1 V V V V (fun hg=>by have hq:=hg;(try simp at hq);rw [hg];exact N4 (F23 (c.Parents.take ((k:Nat):Int).toNat) p (by rw [J25];omega)) V V) ?_;refine I6 V V ?_;refine A4 ?_;refine k1 ?_
 rw [J17,F46,F46]
 refine B0 rfl (fun ht=>?_) (fun ht=>?_)
 ·rw [J35,J35,decide_eq_true_eq,decide_eq_true_eq,decide_eq_true_eq] at ht
  have h1:decide (0≤p∧p < (g.length:Int)∧p∉c.Parents.take k)=false:=by
   rw [decide_eq_false_iff_not]
   rintro ⟨a1,a2,a3⟩
   rcases ht with (h | h) | h
   ·omega
   ·omega
   ·exact a3 h
  rw [h1,Bool.false_and] at hr
  refine k2 (A2 (A6 V V (A4 ?_)));refine k1 (k10 (k12 (k11 (k11 (k12 (k12 (k11 (k11 (k12 (k11 ?_))))))))))
  exact B6 (rs:=[H5 false]) (G7 rfl rfl rfl) (hbad hr)
 ·rw [J45,J45,decide_eq_false_iff_not,decide_eq_false_iff_not,decide_eq_false_iff_not] at ht
  have h1:decide (0≤p∧p < (g.length:Int)∧p∉c.Parents.take k)=true:=decide_eq_true ⟨by omega,by omega,ht.2⟩
  rw [h1,Bool.true_and] at hr
  refine k5 (k4 (k1 (A2 (D2 V V V (A3 V V (A4 ?_))))));refine k1 ?_
  exact ⟨k+1,⟨hklt,hr⟩,by omega,(I90 ⟨le1 rfl,le1 rfl,le1 rfl,le1 rfl,le1 rfl,le1 rfl,le1 rfl,le1 rfl,trivial⟩ ⟨rfl,trivial⟩)⟩
theorem F25 (ps l:List Int) (k:Nat) (h:k < ps.length):V8 (ps.take (k+1)) l=bump (V8 (ps.take k) l) ps[k]:=by
 unfold V8
 rw [List.take_add_one,J15 h,Option.toList_some,J59];rfl
theorem C07 {l:List Int} {p:Int} (h:0≤p∧p < l.length):l[p.toNat]?=some (atG l p.toNat):=by
 unfold atG;rw [J15 (by omega)];rfl
theorem G71 {ps:List Int} {l:List Int} {p:Nat} (hr:∀p∈ps,0≤p∧p < l.length) (hn:ps.Nodup):atG l p≤atG (V8 ps l) p∧atG (V8 ps l) p≤atG l p+1:=by
 rw [C16 (n:=0) hr hn];split<;>omega
theorem F93 {g:Graph} (hr:related g=true) {i p:Nat} (hi:i≤g.length) (hp:p < g.length):0≤atG (O1 g i) p∧atG (O1 g i) p≤i:=by
 rw [B46 hr p hp i hi]
 have:=List.countP_le_length (p:=fun c=>decide ((p:Int)∈D9 g c)) (l:=List.range i)
 rw [J46] at this
 omega
theorem G72 (g:Graph) (hf:FewG g) (hr:related g=true):FnOk Tryz.prog 88 [I7 g] (fun rs=>∃ch out,rs=[I5 out]∧KInv g out.length 0 ch out):=by
 have hg:=hf.len
 refine FnOk.intro Tryz.func88 (by decide) V V V V ?_
 refine k2 (A2 (A6 V V (A4 ?_)));refine k1 (k2 (A2 (A3 V V (E0 V V (C9 (c8 753 Int E3 0 V V (by omega) (by omega) (fun _=>by first | exact ⟨⟨rfl,rfl⟩,trivial⟩ | exact ⟨G9 _ _ _,trivial⟩ | exact ⟨G9 _ _ _,⟨rfl,rfl⟩,G9 _ _ _,trivial⟩) (by first | rfl | (simp [K2,J2,Ob.free,SV.free,S1.free,TC.free]<;>rfl))) V ?_)))));refine A6 V V (A4 ?_);refine k1 (k2 (k2 (A2 (A3 V V (E0 V V (A3 V V (A4 ?_)))))));refine k1 (k3 ?_)
 rw [J17]
 refine C5 (X:=Nat) (fun i=>([(0,C6 Commit 3 G1 g),(3,.s (.one (.mut 753))),(17,C6 Commit 3 G1 g),(18,C0 g.length),(19,C0 i)],[(753,.arr Int 1 E3 (O1 g i))])) (fun i=>i≤g.length) (fun i=>g.length - i) 0 (Nat.zero_le _) (I90 ⟨le1 rfl,le1 rfl,le1 rfl,le1 rfl,le1 rfl,trivial⟩ ⟨rfl,trivial⟩) ?_
 intro i hi
 dsimp only at hi ⊢
 refine k2 (A2 (E8 V V V (A4 ?_)));refine k1 (k2 ?_);refine B0 rfl (fun ht=>?_) (fun ht=>?_)
 ·have hlt:i < g.length:=by have h1:=A0 ht;(try dsimp only at h1);omega
  obtain ⟨c,hc⟩:∃c,c=g[i]:=⟨_,rfl⟩
  have hv:g[i]?=some c:=by rw [hc];simp [hlt]
  have hps:D9 g i=c.Parents:=by rw [S0 hlt,hc]
  have hpr:=J0 hr i
  have hpl:=hf.pars c (by rw [hc];exact J18 hlt)
  have hs:=B95 hlt
  rw [hps] at hpr hs
  have hcl:=y8 g i
  have hhi:=fun p (hp:p < g.length)=>F93 hr (i:=i) (p:=p) (by omega) hp
  obtain ⟨z,hz⟩:∃z,z=O1 g i:=⟨_,rfl⟩
  rw [←hz] at hs hcl hhi ⊢
  refine k5 (k1 (k2 (k3 (k2 (A2 (A5 (A9 V (.pure _ _ _ _) V (by omega) hv) V (A5 (D7 V V) V (C9 (J4 5 V) V (G8 (C1 TySz.out V V V V V V) (A4 ?_))))))))));refine k1 (k2 (A2 (A5 (A7 V) V (G4 V V V V (E0 V V (A3 V V (A4 ?_)))))));refine k1 (k3 (C5 (X:=Nat) (fun k=>([(0,C6 Commit 3 G1 g),(3,.s (.one (.mut 753))),(17,C6 Commit 3 G1 g),(18,C0 g.length),(19,C0 i),(24,C6 Int 1 E3 c.Parents),(25,C0 c.Parents.length),(26,C0 k)],[(753,.arr Int 1 E3 (V8 (c.Parents.take k) z))])) (fun k=>k≤c.Parents.length) (fun k=>c.Parents.length - k) 0 (Nat.zero_le _) (I90 ⟨le1 rfl,le1 rfl,le1 rfl,le1 rfl,le1 rfl,le1 rfl,le1 rfl,le1 rfl,trivial⟩ ⟨rfl,trivial⟩) ?_))
  intro k hk
  dsimp only at hk ⊢
  have hbl:=B45 (c.Parents.take k) z
  refine k2 (A2 (E8 V V V (A4 ?_)));refine k1 (k2 ?_);refine B0 rfl (fun ht=>?_) (fun ht=>?_)
  rotate_left
  ·have h1:k=c.Parents.length:=by have h1:=A1 ht;(try dsimp only at h1);omega
   rw [h1,J23,←hs]
   refine k6 (k7 (k7 (k8 V (k4 (k1 (A2 (D2 V V V (A3 V V (A4 ?_)))))))));refine k1 ?_
   exact ⟨i+1,hlt,by omega,(I90 ⟨le1 rfl,le1 rfl,le1 rfl,le1 rfl,le1 rfl,trivial⟩ ⟨rfl,trivial⟩)⟩
  have hklt:k < c.Parents.length:=by have h1:=A0 ht;(try dsimp only at h1);omega
  have hvp:c.Parents[k]?=some c.Parents[k]:=by simp [hklt]
  have hpb:=hpr.1 _ (J18 hklt)
  have hsn:=F25 c.Parents z k hklt
  obtain ⟨p,hp⟩:∃p,p=c.Parents[k]:=⟨_,rfl⟩
  rw [←hp] at hvp hpb hsn
  have hb:=G71 (ps:=c.Parents.take k) (l:=z) (p:=p.toNat) (fun q hq=>by rw [hcl];exact hpr.1 q (List.mem_of_mem_take hq)) (hpr.2.sublist (List.take_sublist _ _))
  have hh:=hhi p.toNat (by omega)
  have hva:=C07 (l:=V8 (c.Parents.take k) z) (p:=p) (by rw [hbl,hcl];exact hpb)
  refine k5 (k1 (k2 (k3 (k2 (A2 (A5 (A9 V (.pure _ _ _ _) V (by omega) hvp) V (A5 (A8 V V) V (A6 V V (A4 ?_)))))))));refine k1 (A2 (A3 V V (A3 V V (A5 (F1 V V V (by omega) (by (rw [hbl];omega))) V ?_))));refine A5 (M1 V V hva V) V (D2 V V V (A5 (F1 V V V (by omega) (by (rw [hbl];omega))) V ?_));refine G8 (I1 TySz.out V V (by (rw [hbl];omega)) V V) ?_;refine A4 ?_;refine k4 (k1 (A2 (D2 V V V (A3 V V (A4 ?_)))));refine k1 ?_;refine ⟨k+1,by omega,by omega,?_⟩
  rw [hsn]
  exact (I90 ⟨le1 rfl,le1 rfl,le1 rfl,le1 rfl,le1 rfl,le1 rfl,le1 rfl,le1 rfl,trivial⟩ ⟨rfl,trivial⟩)
 have hie:i=g.length:=by have h1:=A1 ht;(try dsimp only at h1);omega
 rw [hie]
 have hst:=KInv.start hr
 obtain ⟨z,hz⟩:∃z,z=O1 g g.length:=⟨_,rfl⟩
 have hzl:z.length=g.length:=by rw [hz];exact y8 g _
 rw [←hz] at hst ⊢
 refine k6 (k2 (A2 (C9 (Q4 8 _ E3 V) V (A4 ?_))));refine k1 (k2 (k2 (A2 (A3 V V (A5 (C69 V V) V (A3 V V (A4 ?_)))))));refine k1 (k3 (C5 (X:=Nat) (fun i=>([(0,C6 Commit 3 G1 g),(3,.s (.one (.mut 753))),(8,.s (.one (.buf 8 Int 1 E3 (T3 z i)))),(38,.s (.one (.mut 753))),(39,C0 g.length),(40,C0 i)],[(8,.spare (T3 z i).length 1 3),(753,.arr Int 1 E3 z)])) (fun i=>i≤g.length) (fun i=>g.length - i) 0 (Nat.zero_le _) (by rw [←hzl];exact (I90 ⟨le1 rfl,le1 rfl,le1 rfl,le1 rfl,le1 rfl,le1 rfl,trivial⟩ ⟨rfl,rfl,trivial⟩)) ?_))
 intro i hi
 dsimp only at hi ⊢
 have hzu:=G35 z i
 have hsu:=F48 z i
 refine k2 (A2 (E8 V V V (A4 ?_)));refine k1 (k2 ?_);refine B0 rfl (fun ht=>?_) (fun ht=>?_)
 ·have hlt:i < g.length:=by have h1:=A0 ht;(try dsimp only at h1);omega
  have hva:=C07 (l:=z) (p:=(i:Int)) (by omega)
  rw [J17] at hva
  refine k5 (k1 (k2 (k3 (k2 (A2 (A3 V V (A5 (F1 V V V (by omega) (by (rw [hzl];omega))) V ?_)))))));refine A5 (M1 V V hva V) V (A6 V V (A6 V V (A4 ?_)));refine k1 (k2 (A2 (A3 V V (A5 (F7 V V) V (A4 ?_)))));refine k1 ?_;refine B0 rfl (fun ht=>?_) (fun ht=>?_)
  ·have h1:atG z i=0:=A0 ht
   rw [if_pos h1] at hsu
   skip
   refine A2 (A3 V V (A3 V V (A5 (C3 (c:=E3) (ys:=[(i:Int)]) (D4 V V V V F9) V V V) V (C9 (I9 V V V (.pure _ _ _ _) (by (simp only [J19,J22];omega)) V) V (A6 V V (A4 ?_))))));refine k4 (k1 (A2 (D2 V V V (A3 V V (A4 ?_)))));refine k1 ?_;refine ⟨i+1,by omega,by omega,?_⟩
   rw [hsu]
   exact (I90 ⟨le1 rfl,le1 rfl,le1 rfl,le1 rfl,le1 rfl,le1 rfl,trivial⟩ ⟨rfl,rfl,trivial⟩)
  ·have h1:¬atG z i=0:=A1 ht
   rw [if_neg h1] at hsu
   refine k5 (k4 (k1 (A2 (D2 V V V (A3 V V (A4 ?_))))));refine k1 ?_;refine ⟨i+1,by omega,by omega,?_⟩
   rw [hsu]
   exact (I90 ⟨le1 rfl,le1 rfl,le1 rfl,le1 rfl,le1 rfl,le1 rfl,trivial⟩ ⟨rfl,rfl,trivial⟩)
 have hie:i=g.length:=by have h1:=A1 ht;(try dsimp only at h1);omega
 rw [hie]
 refine k6 (k2 (k2 (A2 (A6 V V (A4 ?_)))));refine k1 (k3 (C5 (X:=Nat × List Int × List Int) (fun x=>([(0,C6 Commit 3 G1 g),(3,.s (.one (.mut 753))),(8,.s (.one (.buf 8 Int 1 E3 x.2.2))),(11,C0 x.1)],[(8,.spare x.2.2.length 1 3),(753,.arr Int 1 E3 x.2.1)])) (fun x=>x.1≤x.2.2.length∧KInv g x.1 0 x.2.1 x.2.2) (fun x=>g.length - x.1) (0,z,T3 z g.length) ⟨Nat.zero_le _,hst⟩ (I90 ⟨le1 rfl,le1 rfl,le1 rfl,le1 rfl,trivial⟩ ⟨rfl,rfl,trivial⟩) ?_))
 rintro ⟨k,ch,out⟩ ⟨hk,hK⟩
 dsimp only at hk hK ⊢
 have hol:=hK.le
 refine k2 (k2 (A2 (A3 V V (A3 V V (A5 (X7 V (.buf _ _ _ _ _)) V (E8 V V V (A4 ?_)))))));refine k1 ?_;refine B0 rfl (fun ht=>?_) (fun ht=>?_)
 rotate_left
 ·have h1:k=out.length:=by have h1:=A1 ht;(try dsimp only at h1);omega
  rw [h1] at hK
  refine k6 (k2 (A2 (A3 V V (A6 V V (A4 ?_)))));refine k1 (k10 ?_)
  exact B6 (rs:=[I5 out]) (G7 rfl rfl rfl) ⟨ch,out,rfl,hK⟩
 have hklt:k < out.length:=by have h1:=A0 ht;(try dsimp only at h1);omega
 have hcr:=hK.rng _ (J18 hklt)
 obtain ⟨cn,hcn⟩:∃cn:Nat,out[k]=(cn:Int):=⟨out[k].toNat,by omega⟩
 have hvo:out[k]?=some (cn:Int):=by rw [J15 hklt,hcn]
 have hcl:cn < g.length:=by omega
 obtain ⟨c,hc⟩:∃c,c=g[cn]:=⟨_,rfl⟩
 have hvc:g[((cn:Nat):Int).toNat]?=some c:=by rw [hc];simp [hcl]
 have hps:D9 g cn=c.Parents:=by rw [S0 hcl,hc]
 have hpl:=hf.pars c (by rw [hc];exact J18 hcl)
 refine k5 (k1 (k2 (k3 (k2 (A2 (A3 V V (A3 V V (A3 V V (A5 (A9 V (.buf _ _ _ _ _) V (by omega) hvo) V (A5 (A8 V V) V (A5 (A9 V (.pure _ _ _ _) V (by omega) hvc) V (A5 (B8 V) V (A5 (A8 V V) V (E0 V V (A3 V V (A4 ?_))))))))))))))));refine k1 (k3 (C5 (X:=Nat × List Int × List Int) (fun x=>([(0,C6 Commit 3 G1 g),(3,.s (.one (.mut 753))),(8,.s (.one (.buf 8 Int 1 E3 x.2.2))),(11,C0 k),(65,C6 Int 1 E3 c.Parents),(66,C0 c.Parents.length),(67,C0 x.1)],[(8,.spare x.2.2.length 1 3),(753,.arr Int 1 E3 x.2.1)])) (fun x=>x.1≤c.Parents.length∧k < x.2.2.length∧x.2.2[k]?=some (cn:Int)∧KInv g k x.1 x.2.1 x.2.2) (fun x=>c.Parents.length - x.1) (0,ch,out) ⟨Nat.zero_le _,hklt,hvo,hK⟩ (I90 ⟨le1 rfl,le1 rfl,le1 rfl,le1 rfl,le1 rfl,le1 rfl,le1 rfl,trivial⟩ ⟨rfl,rfl,trivial⟩) ?_))
 rintro ⟨i,ch',out'⟩ ⟨hi,hkl,hvo',hK'⟩
 dsimp only at hi hkl hvo' hK' ⊢
 have hol':=hK'.le
 have hchl:=hK'.len
 have hcn':out'[k]=(cn:Int):=by rw [J15 hkl] at hvo';exact Option.some.inj hvo'
 refine k2 (A2 (E8 V V V (A4 ?_)));refine k1 (k2 ?_);refine B0 rfl (fun ht=>?_) (fun ht=>?_)
 rotate_left
 ·have h1:i=c.Parents.length:=by have h1:=A1 ht;(try dsimp only at h1);omega
  rw [h1,←hps] at hK'
  have hN:=hK'.next hkl hcn'
  refine k6 (k7 (k7 (k8 V (k4 (k1 (A2 (A3 V V (D2 V V V (A6 V V (A4 ?_))))))))));refine k1 ?_
  exact ⟨(k+1,ch',out'),⟨by dsimp only;omega,hN⟩,by dsimp only;omega,(I90 ⟨le1 rfl,le1 rfl,le1 rfl,le1 rfl,trivial⟩ ⟨rfl,rfl,trivial⟩)⟩
 have hilt:i < c.Parents.length:=by have h1:=A0 ht;(try dsimp only at h1);omega
 have hvp:c.Parents[i]?=some c.Parents[i]:=by simp [hilt]
 have hpb:=(J0 hr cn).1 c.Parents[i] (by rw [hps];exact J18 hilt)
 obtain ⟨p,hp⟩:∃p:Nat,c.Parents[i]=(p:Int):=⟨c.Parents[i].toNat,by omega⟩
 rw [hp] at hvp
 obtain ⟨s1,s2,s3,s4⟩:=hK'.step hr hkl hcn' (i:=i) (p:=p) (by rw [hps];exact hilt) (by simp only [hps];exact hp)
 have hva:=C07 (l:=ch') (p:=(p:Int)) (by omega)
 have hva2:(V3 ch' p)[((p:Nat):Int).toNat]?=some (atG ch' p - 1):=by
  unfold V3
  rw [J17,List.getElem?_set_self (by omega)]
 have hdl:(V3 ch' p).length=g.length:=by unfold V3;rw [J41,hchl]
 have hset:ch'.set ((p:Nat):Int).toNat (atG ch' ((p:Nat):Int).toNat - 1)=V3 ch' p:=rfl
 refine k5 (k1 (k2 (k3 (k2 (A2 (A5 (A9 V (.pure _ _ _ _) V (by omega) hvp) V (A5 (A8 V V) V (A6 V V (A4 ?_)))))))));refine k1 (k2 (A2 (A3 V V (A3 V V (A5 (F1 V V V (by omega) (by (rw [hchl];omega))) V ?_)))));refine A5 (M1 V V hva V) V (A5 (K8 V V (by (rw [J17];omega))) V ?_);refine A5 (F1 V V V (by omega) (by (rw [hchl];omega))) V ?_;refine G8 (I1 TySz.out V V (by (rw [hchl];omega)) V V) ?_;refine A4 ?_
 rw [hset]
 refine k1 (k2 (A2 (A3 V V (A3 V V (A5 (F1 V V V (by omega) (by (rw [hdl];omega))) V ?_)))));refine A5 (M1 V V hva2 V) V (A5 (F7 V V) V (A4 ?_));refine k1 ?_;refine B0 rfl (fun ht=>?_) (fun ht=>?_)
 ·have h1:atG ch' p - 1=0:=A0 ht
  rw [if_pos h1] at s4
  skip
  refine A2 (A3 V V (A3 V V (A5 (C3 (c:=E3) (ys:=[(p:Int)]) (D4 V V V V F9) V V V) V (C9 (I9 V V V (.pure _ _ _ _) (by (simp only [J19,J22];omega)) V) V (A6 V V (A4 ?_))))));refine k4 (k1 (A2 (D2 V V V (A3 V V (A4 ?_)))));refine k1 ?_
  exact ⟨(i+1,V3 ch' p,out'++[(p:Int)]),⟨hilt,by dsimp only;rw [J20];omega,by dsimp only;rw [J27 hkl];exact hvo',s4⟩,by dsimp only;omega,(I90 ⟨le1 rfl,le1 rfl,le1 rfl,le1 rfl,le1 rfl,le1 rfl,le1 rfl,trivial⟩ ⟨rfl,rfl,trivial⟩)⟩
 ·have h1:¬atG ch' p - 1=0:=A1 ht
  rw [if_neg h1] at s4
  refine k5 (k4 (k1 (A2 (D2 V V V (A3 V V (A4 ?_))))));refine k1 ?_
  exact ⟨(i+1,V3 ch' p,out'),⟨hilt,hkl,hvo',s4⟩,by dsimp only;omega,(I90 ⟨le1 rfl,le1 rfl,le1 rfl,le1 rfl,le1 rfl,le1 rfl,le1 rfl,trivial⟩ ⟨rfl,rfl,trivial⟩)⟩
set_option maxHeartbeats 1000000
abbrev E41 (s:Str):Cell:=.v (.string ⟨s.toArray⟩)
def S7 (l:List File):List (Str × Cell):=l.foldl (fun m f=>X2 m f.Path (E41 f.Blob)) []
theorem H52 (a b:Str) (c:Cell):∀kvs:List (Str × Cell),L8 (X2 kvs a c) b=if a=b then some c else L8 kvs b
 | []=>by
  unfold X2 L8
  split
  ·rfl
  ·rfl
 | (k,x)::r=>by
  unfold X2
  split
  ·rename_i e;subst e
   unfold L8
   split
   ·rfl
   ·rfl
  ·rename_i e
   rw [L8,H52 a b c r]
   by_cases h1:k=b
   ·subst h1;rw [if_pos rfl,if_neg (fun h=>e h.symm)];simp [L8]
   ·rw [if_neg h1]
    by_cases h2:a=b
    ·rw [if_pos h2,if_pos h2]
    ·rw [if_neg h2,if_neg h2,L8,if_neg h1]
theorem C33 (l:List File) (i:Nat) (h:i < l.length):S7 (l.take (i+1))=X2 (S7 (l.take i)) l[i].Path (E41 l[i].Blob):=by
 unfold S7
 rw [List.take_add_one,J15 h,Option.toList_some,J59];rfl
theorem D87 (p:Str):∀(l:List File) (m:List (Str × Cell)),L8 (l.foldl (fun m f=>X2 m f.Path (E41 f.Blob)) m) p=((H8 l.reverse p).map E41).or (L8 m p)
 | [],m=>by simp [H8]
 | f::r,m=>by
  rw [J43,D87 p r,H52,List.reverse_cons]
  have key:∀(l:List File),H8 (l++[f]) p=(H8 l p).or (if f.Path=p then some f.Blob else none):=by
   intro l
   induction l with
   | nil=>simp [H8]
   | cons g l ih =>
    rw [J37,H8,H8]
    split
    ·rfl
    ·exact ih
  rw [key]
  cases H8 r.reverse p with
  | some x=>rfl
  | none=>by_cases h:f.Path=p<;>simp [h]
theorem F26 (l:List File) (p:Str):(L8 (S7 l) p).isSome=decide (p∈l.map (·.Path)):=by
 unfold S7
 rw [D87]
 have:L8 ([]:List (Str × Cell)) p=none:=rfl
 rw [this,Option.or_none,Option.isSome_map]
 cases h:H8 l.reverse p with
 | none =>
  have:=findF_none.1 h
  rw [List.map_reverse,List.mem_reverse] at this
  simp only [Option.isSome_none,this,decide_false]
 | some x =>
  obtain ⟨f,hf,he,_⟩:=A12 h
  have:p∈l.map (·.Path):=by rw [←he];exact List.mem_map_of_mem (List.mem_reverse.1 hf)
  simp only [Option.isSome_some,this,decide_true]
theorem H90 {l m:List File} {p:Str} (hl:ascend l=true) (hm:∀f,f∈m↔f∈l) (_hu:∀f∈l,∀g∈l,f.Path=g.Path→f=g):H8 m p=H8 l p:=by
 cases h:H8 m p with
 | none =>
  symm
  rw [findF_none] at h ⊢
  intro hp
  obtain ⟨f,hf,e⟩:=List.mem_map.1 hp
  exact h (List.mem_map.2 ⟨f,(hm f).2 hf,e⟩)
 | some x =>
  obtain ⟨f,hf,e1,e2⟩:=A12 h
  rw [←e1,u0 hl f ((hm f).1 hf),e2]
theorem C34 {l:List File} (hl:ascend l=true) (p:Str):L8 (S7 l) p=(H8 l p).map E41:=by
 unfold S7
 rw [D87]
 have:L8 ([]:List (Str × Cell)) p=none:=rfl
 rw [this,Option.or_none]
 congr 1
 refine H90 hl (fun f=>List.mem_reverse) fun f hf g hg e=>?_
 have h1:=u0 hl f hf
 have h2:=u0 hl g hg
 rw [e,h2] at h1
 cases f;cases g
 simp only [File.mk.injEq]
 exact ⟨e,(Option.some.inj h1).symm⟩
theorem D88 (l:List File) (hl:l.length≤1073741824):AL.Met Tryz.prog 120 [.one (.p (.list File 2 R9 l))] [] [] [] (fun rs ob'=>rs=[.one (.mut 800)]∧ob'=[(800,.map Str l4 (S7 l))]):=by
 refine AL.Met.intro Tryz.func120 (by decide) V V V ?_
 refine k2 (A2 (A6 V V (A4 ?_)));refine k1 (k2 (A2 (C9 (C75 800 Str l4 V) V (A6 V V (A4 ?_)))));refine k1 (k2 (k2 (A2 (A3 V V (E0 V V (A3 V V (A4 ?_)))))));refine k1 (k3 (C5 (X:=Nat) (fun i=>([(3,.s (.one (.mut 800))),(7,C6 File 2 R9 l),(8,C0 l.length),(9,C0 i)],[(800,.map Str l4 (S7 (l.take i)))])) (fun i=>i≤l.length) (fun i=>l.length - i) 0 (Nat.zero_le _) (I90 ⟨le1 rfl,le1 rfl,le1 rfl,le1 rfl,trivial⟩ ⟨rfl,trivial⟩) ?_))
 intro i hi
 dsimp only at hi ⊢
 refine k2 (A2 (E8 V V V (A4 ?_)));refine k1 (k2 ?_);refine B0 rfl (fun ht=>?_) (fun ht=>?_)
 ·have hlt:i < l.length:=by have h1:=A0 ht;(try dsimp only at h1);omega
  have hs:=C33 l i hlt
  obtain ⟨f,hf⟩:∃f,f=l[i]:=⟨_,rfl⟩
  have hv:l[i]?=some f:=by rw [hf];simp [hlt]
  rw [←hf] at hs
  refine k5 (k1 (k2 (k3 (k2 (A2 (A5 (A9 V (.pure _ _ _ _) V (by omega) hv) V (A5 (D7 V V) V (C9 (J4 5 V) V (G8 (C1 TySz.out V V V V V V) (A4 ?_))))))))));refine k1 (A2 (A3 V V (A5 (A7 V) V (G4 V V V V (A5 (A7 V) V (G4 V V V V (G8 (F84 (f.Path) V V V V V s8 s9) (A4 ?_))))))));refine k4 (k1 (A2 (D2 V V V (A3 V V (A4 ?_)))));refine k1 ?_;refine ⟨i+1,by omega,by omega,?_⟩
  rw [hs]
  exact (I90 ⟨le1 rfl,le1 rfl,le1 rfl,le1 rfl,trivial⟩ ⟨rfl,trivial⟩)
 ·have hie:i=l.length:=by have h1:=A1 ht;(try dsimp only at h1);omega
  rw [hie,J23]
  refine k6 (k2 (A2 (A3 V V (A6 V V (A4 ?_)))));refine k1 (k10 ?_)
  exact G5 (K4 rfl rfl) (by repeat (first | exact B2 | refine B3 rfl ?_ | refine D1 _ ?_)) (fun _ _ h=>h) ⟨rfl,rfl⟩
theorem F94 (l:List File) (hl:l.length≤1073741824):AL.Met Tryz.prog 120 [.one (.p (.list File 2 R9 l))] [] [] [] (fun rs ob'=>rs=[.one (.mut 801)]∧ob'=[(801,.map Str l4 (S7 l))]):=by
 refine AL.Met.intro Tryz.func120 (by decide) V V V ?_
 refine k2 (A2 (A6 V V (A4 ?_)));refine k1 (k2 (A2 (C9 (C75 801 Str l4 V) V (A6 V V (A4 ?_)))));refine k1 (k2 (k2 (A2 (A3 V V (E0 V V (A3 V V (A4 ?_)))))));refine k1 (k3 (C5 (X:=Nat) (fun i=>([(3,.s (.one (.mut 801))),(7,C6 File 2 R9 l),(8,C0 l.length),(9,C0 i)],[(801,.map Str l4 (S7 (l.take i)))])) (fun i=>i≤l.length) (fun i=>l.length - i) 0 (Nat.zero_le _) (I90 ⟨le1 rfl,le1 rfl,le1 rfl,le1 rfl,trivial⟩ ⟨rfl,trivial⟩) ?_))
 intro i hi
 dsimp only at hi ⊢
 refine k2 (A2 (E8 V V V (A4 ?_)));refine k1 (k2 ?_);refine B0 rfl (fun ht=>?_) (fun ht=>?_)
 ·have hlt:i < l.length:=by have h1:=A0 ht;(try dsimp only at h1);omega
  have hs:=C33 l i hlt
  obtain ⟨f,hf⟩:∃f,f=l[i]:=⟨_,rfl⟩
  have hv:l[i]?=some f:=by rw [hf];simp [hlt]
  rw [←hf] at hs
  refine k5 (k1 (k2 (k3 (k2 (A2 (A5 (A9 V (.pure _ _ _ _) V (by omega) hv) V (A5 (D7 V V) V (C9 (J4 5 V) V (G8 (C1 TySz.out V V V V V V) (A4 ?_))))))))));refine k1 (A2 (A3 V V (A5 (A7 V) V (G4 V V V V (A5 (A7 V) V (G4 V V V V (G8 (F84 (f.Path) V V V V V s8 s9) (A4 ?_))))))));refine k4 (k1 (A2 (D2 V V V (A3 V V (A4 ?_)))));refine k1 ?_;refine ⟨i+1,by omega,by omega,?_⟩
  rw [hs]
  exact (I90 ⟨le1 rfl,le1 rfl,le1 rfl,le1 rfl,trivial⟩ ⟨rfl,trivial⟩)
 ·have hie:i=l.length:=by have h1:=A1 ht;(try dsimp only at h1);omega
  rw [hie,J23]
  refine k6 (k2 (A2 (A3 V V (A6 V V (A4 ?_)))));refine k1 (k10 ?_)
  exact G5 (K4 rfl rfl) (by repeat (first | exact B2 | refine B3 rfl ?_ | refine D1 _ ?_)) (fun _ _ h=>h) ⟨rfl,rfl⟩
theorem F95 {gf:Fr} {ob:Obs} (p:Str) (kvs:List (Str × Cell)) (hp:p.length≤1073741824) (h0:B9 ob 800=some (.map Str l4 kvs)) (_hc:∀kv∈kvs,∃v,kv.2=.v v) (ps:List Str) (hps:∀q,(L8 kvs q).isSome=decide (q∈ps)) :
  AL.Met Tryz.prog 151 [.one (.p (.v (.string ⟨p.toArray⟩))),.one (.mut 800)] gf ob [] (fun rs ob'=>rs=[.one (.p (.v (.bool (Q1 p ps))))]∧ob'=ob):=by
 have h47:∀c:UInt8,((c.toNat:Int)=47)↔c=47:=fun c=>by
  constructor
  ·intro h; exact UInt8.toNat_inj.1 (by have:c.toNat=47:=by omega
                                        simpa using this)
  ·rintro rfl;rfl
 refine AL.Met.introH Tryz.func151 (by decide) rfl rfl rfl (fun hH=>?_)
 refine k2 (A2 (A6 V V (A4 ?_)));refine k1 (k2 (k2 (A2 (A3 V V (A5 (J3 V) V (A3 V V (A4 ?_)))))));refine k1 (k3 ?_);refine C5 (X:=Nat) (fun i=>([(0,T7 p),(1,.s (.one (.mut 800))),(9,C0 p.length),(10,C0 i)]++gf,ob)) (fun i=>i≤p.length∧∀j,j < i→(decide (p.take j∈ps)&&decide (p[j]?=some 47))=false) (fun i=>p.length - i) 0 ⟨Nat.zero_le _,fun j h=>by omega⟩ (I91 ⟨le1 rfl,le1 rfl,le1 rfl,le1 rfl,trivial⟩ hH (by repeat (first | exact B2 | refine B3 rfl ?_)) (fun _ _ h=>h)) ?_
 rintro i ⟨hi,hn⟩
 dsimp only at hi hn ⊢
 refine k2 (A2 (E8 V V V (A4 ?_)));refine k1 (k2 ?_);refine B0 rfl (fun ht=>?_) (fun ht=>?_)
 rotate_left
 ·have hie:i=p.length:=by have h1:=A1 ht;(try dsimp only at h1);omega
  have hno:Q1 p ps=false:=by
   unfold Q1
   rw [List.any_eq_false]
   intro j hj
   rw [hn j (by rw [hie];exact List.mem_range.1 hj)];simp
  refine k6 (k2 (A2 (A6 V V (A4 ?_))));refine k1 (k10 ?_)
  exact G5 (K4 rfl rfl) (by repeat (first | exact B2 | refine B3 rfl ?_ | refine D1 _ ?_)) (fun _ _ h=>h) ⟨by rw [hno],rfl⟩
 have hlt:i < p.length:=by have h1:=A0 ht;(try dsimp only at h1);omega
 have hv:p[((i:Nat):Int).toNat]?=some p[i]:=by simp [hlt]
 have hpi:p[i]?=some p[i]:=by simp [hlt]
 have hq:=hps (p.take ((i:Nat):Int).toNat)
 obtain ⟨r,hr⟩:∃r,r=L8 kvs (p.take ((i:Nat):Int).toNat):=⟨_,rfl⟩
 rw [←hr,J17] at hq
 refine k5 (k1 (k2 (k3 (k2 (A2 (A3 V V (A6 V V (A4 ?_))))))));refine k1 (k2 (A2 (A3 V V (A3 V V (A3 V V (A5 (D42 V V (by omega) (by omega)) V (A5 (B23 ((p.take ((i:Nat):Int).toNat)) (r:=r) V h0 V s8 s9 (hr.symm)) V (A3 V V (H6 V V V (H6 V V V (A6 V V (A6 V V (A4 ?_)))))))))))));refine k1 (k2 (A2 (A3 V V (A3 V V (B1 V V V V (fun hg=>by rw [hg];exact B7 V V) ?_)))));refine B1 V V V V (fun hg=>by rw [hg];exact B7 V V) ?_;refine B1 V V V V (fun hg=>by have hq:=hg;(try simp at hq);rw [hg];exact j1 V V (by omega) hv) ?_;refine B1 V V V V (fun hg=>by rw [hg];exact F7 V V) ?_;refine I6 V V ?_;refine A4 ?_;refine k1 ?_;refine B0 rfl (fun ht=>?_) (fun ht=>?_)
 ·rw [n6,J16,decide_eq_true_eq] at ht
  have hyes:Q1 p ps=true:=by
   unfold Q1
   rw [List.any_eq_true]
   exact ⟨i,List.mem_range.2 hlt,by rw [←hq,ht.1,hpi,(h47 _).1 ht.2];rfl⟩
  refine k2 (A2 (A6 V V (A4 ?_)));refine k1 (k10 (k12 (k11 (k11 (k12 (k11 ?_))))))
  exact G5 (K4 rfl rfl) (by repeat (first | exact B2 | refine B3 rfl ?_ | refine D1 _ ?_)) (fun _ _ h=>h) ⟨by rw [hyes],rfl⟩
 ·rw [n6] at ht
  refine k5 (k4 (k1 (A2 (D2 V V V (A3 V V (A4 ?_))))));refine k1 ?_;refine ⟨i+1,⟨hlt,fun j hj=>?_⟩,by omega,I91 ⟨le1 rfl,le1 rfl,le1 rfl,le1 rfl,trivial⟩ hH (by repeat (first | exact B2 | refine B3 rfl ?_)) (fun _ _ h=>h)⟩
  by_cases e:j=i
  ·subst e
   rw [←hq,hpi]
   cases hrs:r.isSome
   ·rfl
   ·rw [hrs,Bool.true_and,decide_eq_false_iff_not] at ht
    have:¬p[j]=47:=fun h=>ht ((h47 _).2 h)
    simp [this]
  ·exact hn j (by omega)
theorem H91 (l:List File):∀kv∈S7 l,∃v,kv.2=.v v:=by
 have key:∀(l:List File) (m:List (Str × Cell)),(∀kv∈m,∃v,kv.2=.v v)→∀kv∈l.foldl (fun m f=>X2 m f.Path (E41 f.Blob)) m,∃v,kv.2=.v v:=by
  intro l
  induction l with
  | nil=>exact fun m h=>h
  | cons f r ih =>
   intro m h
   refine ih _ ?_
   clear ih
   induction m with
   | nil=>intro kv hkv;change kv∈X2 [] f.Path (E41 f.Blob) at hkv;rw [X2,List.mem_singleton] at hkv;rw [hkv];exact ⟨_,rfl⟩
   | cons x m ihm =>
    obtain ⟨k,c⟩:=x
    intro kv hkv
    change kv∈X2 ((k,c)::m) f.Path (E41 f.Blob) at hkv
    rw [X2] at hkv
    split at hkv
    ·rcases List.mem_cons.1 hkv with rfl | hkv
     ·exact ⟨_,rfl⟩
     ·exact h kv (by simp [hkv])
    ·rcases List.mem_cons.1 hkv with rfl | hkv
     ·exact h _ (by simp)
     ·exact ihm (fun kv hk=>h kv (by simp [hk])) kv hkv
 exact key l [] fun _ h=>by cases h
theorem D07:∀(l:List File) (i:Nat),i+1 < l.length→(ascend (l.take (i+2))=(ascend (l.take (i+1))&&ltS (l.getD i ⟨[],[]⟩).Path (l.getD (i+1) ⟨[],[]⟩).Path))
 | [],i,h=>by simp at h
 | [_],i,h=>by simp at h
 | f::g::r,0,_=>by simp [ascend]
 | f::g::r,i+1,h=>by
  have ih:ascend (g::r.take (i+1))=(ascend (g::r.take i)&&ltS ((g::r).getD i ⟨[],[]⟩).Path ((g::r).getD (i+1) ⟨[],[]⟩).Path):=D07 (g::r) i (by simpa using h)
  show ascend (f::g::r.take (i+1))=(ascend (f::g::r.take i)&&ltS ((g::r).getD i ⟨[],[]⟩).Path ((g::r).getD (i+1) ⟨[],[]⟩).Path)
  rw [ascend,ascend,ih,Bool.and_assoc]
theorem F27 (l:List File):ascend (l.take 1)=true:=by
 cases l with
 | nil=>rfl
 | cons f r=>rfl
theorem F96 (l:List File) (hl:l.length≤1073741824) (hp:∀f∈l,f.Path.length≤1073741824):FnOk Tryz.prog 130 [T9 l] (fun rs=>rs=[H5 (M2 l)]):=by
 rw [←H21]
 have hbv:=H91 l
 have hbs:=F26 l
 refine FnOk.intro Tryz.func130 (by decide) V V V V ?_
 refine k2 (A2 (A6 V V (A4 ?_)));refine k1 (k2 (A2 (A3 V V (B26 (D88 l hl) V V V V ?_))));rintro _ _ ⟨rfl,rfl⟩;refine ⟨rfl,?_⟩;refine A6 V V (A4 ?_);refine k1 (k2 (k2 (A2 (A3 V V (E0 V V (A3 V V (A4 ?_)))))));refine k1 (k3 (C5 (X:=Nat) (fun i=>([(0,C6 File 2 R9 l),(3,.s (.one (.mut 800))),(8,C6 File 2 R9 l),(9,C0 l.length),(10,C0 i)],[(800,.map Str l4 (S7 l))])) (fun i=>i≤l.length∧ascend (l.take i)=true∧((l.take i).all fun f=>!Q1 f.Path (l.map (·.Path)))=true) (fun i=>l.length - i) 0 ⟨Nat.zero_le _,rfl,rfl⟩ (I90 ⟨le1 rfl,le1 rfl,le1 rfl,le1 rfl,le1 rfl,trivial⟩ ⟨rfl,trivial⟩) ?_))
 rintro i ⟨hi,ha,hn⟩
 dsimp only at hi ha hn ⊢
 refine k2 (A2 (E8 V V V (A4 ?_)));refine k1 (k2 ?_);refine B0 rfl (fun ht=>?_) (fun ht=>?_)
 rotate_left
 ·have hie:i=l.length:=by have h1:=A1 ht;(try dsimp only at h1);omega
  rw [hie,J23] at ha hn
  refine k6 (k2 (A2 (A6 V V (A4 ?_))));refine k1 (k10 ?_)
  exact B6 (rs:=[H5 true]) (G7 rfl rfl rfl) (by unfold t8;rw [ha,hn];rfl)
 have hlt:i < l.length:=by have h1:=A0 ht;(try dsimp only at h1);omega
 obtain ⟨f,hf⟩:∃f,f=l[i]:=⟨_,rfl⟩
 have hv:l[i]?=some f:=by rw [hf];simp [hlt]
 have hfp:=hp f (by rw [hf];exact J18 hlt)
 obtain ⟨g,hg⟩:∃g,g=l.getD (i - 1) ⟨[],[]⟩:=⟨_,rfl⟩
 have hvg:0 < i→l[((i:Int) - 1).toNat]?=some g:=fun h0=>by
  rw [hg,show ((i:Int) - 1).toNat=i - 1 by omega,J21,J15 (by omega)];rfl
 have hnext:ascend (l.take (i+1))=if 0 < i then ltS g.Path f.Path else true:=by
  cases i with
  | zero=>rw [if_neg (by omega)];exact F27 l
  | succ i =>
   rw [if_pos (by omega),D07 l i hlt,ha,Bool.true_and,hg]
   rw [show l.getD (i+1) ⟨[],[]⟩=f by rw [J21,hv];rfl]
   rfl
 have hbad:((0 < i∧ltS g.Path f.Path=false)∨Q1 f.Path (l.map (·.Path))=true)→[H5 false]=[H5 (t8 l)]:=by
  rintro (⟨h0,h⟩ | h)
  ·have : ascend l=false:=by
    cases h2:ascend l
    ·rfl
    ·exfalso
     rw [if_pos h0,h] at hnext
     have key:∀(l:List File) (k:Nat),ascend l=true→ascend (l.take k)=true:=by
      intro l
      induction l with
      | nil=>intro k h;simpa using h
      | cons x r ih =>
       intro k h
       cases k with
       | zero=>rfl
       | succ k =>
        have h3:=ih k (A29 h)
        rw [List.take_succ_cons]
        cases hk:r.take k with
        | nil=>rfl
        | cons y t =>
         unfold ascend
         rw [J16]
         refine ⟨j5 h y (List.mem_of_mem_take (by rw [hk];simp)),by rw [←hk];exact h3⟩
     rw [key l (i+1) h2] at hnext;cases hnext
   unfold t8;rw [this];rfl
  ·have:(l.all fun f=>!Q1 f.Path (l.map (·.Path)))=false:=by
    rw [List.all_eq_false]
    exact ⟨f,by rw [hf];exact J18 hlt,by rw [h];simp⟩
   unfold t8;rw [this,Bool.and_false]
 have hgood:(0 < i→ltS g.Path f.Path=true)→Q1 f.Path (l.map (·.Path))=false→ascend (l.take (i+1))=true∧((l.take (i+1)).all fun f=>!Q1 f.Path (l.map (·.Path)))=true:=by
  intro h1 h2
  refine ⟨?_,?_⟩
  ·rw [hnext];split
   ·rename_i h0;exact h1 h0
   ·rfl
  ·rw [List.take_add_one,hv,Option.toList_some,J58,hn,Bool.true_and,List.all_cons,List.all_nil,h2];rfl
 refine k5 (k1 (k2 (k3 (k2 (A2 (A3 V V (A5 (A9 V (.pure _ _ _ _) V (by omega) hv) V (A5 (D7 V V) V (C9 (J4 5 V) V (A6 V V (G8 (C1 TySz.out V V V V V V) (A4 ?_))))))))))));refine k1 (k2 ?_)
 cases hQ:(if decide ((0:Int) < (i:Int))=true then !Op.bytesLess g.Path f.Path else false)
 ·have h1:0 < i→ltS g.Path f.Path=true:=fun h0=>by
   rw [if_pos (decide_eq_true (by omega)),Bool.not_eq_false'] at hQ;exact hQ
  refine D77 17 (by kernel_rfl) (by kernel_rfl) V (E5 V V (B5 (M5 V V) V V (E5 V V (E7 V V (fun hg=>by rw [hg];exact B7 V V) V V ?_))));refine E7 V V (fun hg=>by rw [hg];exact B7 V V) V V ?_;refine E7 V V (fun hg=>by have hq:=hg;(try simp at hq);rw [hg];exact K8 V V (by omega)) V V ?_;refine E7 V V (fun hg=>by have hq:=hg;(try simp at hq);rw [hg];exact A9 V (.pure _ _ _ _) V (by omega) (hvg (by omega))) V V ?_;refine E7 V V (fun hg=>by rw [hg];exact B8 V) V V ?_;refine E7 V V (fun hg=>by rw [hg];exact A8 V V) V V ?_;refine E7 V V (fun hg=>by rw [hg];exact A7 V) V V ?_;refine E7 V V (fun hg=>by rw [hg];exact C4 V V V) V V ?_;refine E7 V V (fun hg=>by rw [hg];exact F20 V V) V V ?_;refine B5 (K7 V (fun h=>by first | rfl | (rw [h];rfl)) (fun h=>by first | rfl | (rw [h];rfl))) V V ?_;refine E5 V V (d_go V V hQ V (B5 (A7 V) V V (d_go V V hQ V (B5 (C4 V V V) V V (d_go V V hQ V (E5 V V (P0 ?_)))))));refine H85 V V hQ (F74 (F95 f.Path (S7 l) hfp V hbv (l.map (·.Path)) hbs) V V V ?_);rintro _ _ ⟨rfl,rfl⟩;refine ⟨_,rfl,?_⟩;refine B5 (K7 V (fun h=>by first | rfl | (rw [h];rfl)) (fun h=>by first | rfl | (rw [h];rfl))) V V ?_;refine P0 ?_;refine k1 ?_
  rw [hQ]
  refine B0 rfl (fun ht=>?_) (fun ht=>?_)
  ·have h2:Q1 f.Path (l.map (·.Path))=true:=by simpa using ht
   refine k2 (A2 (A6 V V (A4 ?_)));refine k1 (k10 (k12 (k11 (k11 (k12 (k11 ?_))))))
   exact B6 (rs:=[H5 false]) (G7 rfl rfl rfl) (hbad (.inr h2))
  ·have h2:Q1 f.Path (l.map (·.Path))=false:=by simpa using ht
   obtain ⟨h3,h4⟩:=hgood h1 h2
   refine k5 (k4 (k1 (A2 (D2 V V V (A3 V V (A4 ?_))))));refine k1 ?_
   exact ⟨i+1,⟨hlt,h3,h4⟩,by omega,(I90 ⟨le1 rfl,le1 rfl,le1 rfl,le1 rfl,le1 rfl,trivial⟩ ⟨rfl,trivial⟩)⟩
 ·have h0:0 < i:=by
   apply Classical.byContradiction
   intro h0;rw [if_neg (by rw [decide_eq_true_eq];omega)] at hQ;cases hQ
  have h1:ltS g.Path f.Path=false:=by
   rw [if_pos (decide_eq_true (by omega)),Bool.not_eq_true'] at hQ;exact hQ
  refine E6 (by kernel_rfl) (by kernel_rfl) (E5 V V (B5 (M5 V V) V V (E5 V V (E7 V V (fun hg=>by rw [hg];exact B7 V V) V V ?_))));refine E7 V V (fun hg=>by rw [hg];exact B7 V V) V V ?_;refine E7 V V (fun hg=>by have hq:=hg;(try simp at hq);rw [hg];exact K8 V V (by omega)) V V ?_;refine E7 V V (fun hg=>by have hq:=hg;(try simp at hq);rw [hg];exact A9 V (.pure _ _ _ _) V (by omega) (hvg (by omega))) V V ?_;refine E7 V V (fun hg=>by rw [hg];exact B8 V) V V ?_;refine E7 V V (fun hg=>by rw [hg];exact A8 V V) V V ?_;refine E7 V V (fun hg=>by rw [hg];exact A7 V) V V ?_;refine E7 V V (fun hg=>by rw [hg];exact C4 V V V) V V ?_;refine E7 V V (fun hg=>by rw [hg];exact F20 V V) V V ?_;refine B5 (K7 V (fun h=>by first | rfl | (rw [h];rfl)) (fun h=>by first | rfl | (rw [h];rfl))) V V ?_;refine E5 V V (D61 V V (by rw [hQ];decide) V V ?_);refine D61 V V (by rw [hQ];decide) V V ?_;refine D61 V V (by rw [hQ];decide) V V ?_;refine D61 V V (by rw [hQ];decide) V V ?_;refine B5 (Y1 V (hQ) V) V V (P0 ?_);refine k1 ?_;refine B0 rfl (fun ht=>?_) (fun ht=>?_)
  ·refine k2 (A2 (A6 V V (A4 ?_)));refine k1 (k10 (k12 (k11 (k11 (k12 (k11 ?_))))))
   exact B6 (rs:=[H5 false]) (G7 rfl rfl rfl) (hbad (.inl ⟨h0,h1⟩))
  ·cases ht
end Go.Proofs.YtgppobpengmbkaaGreatDoor
namespace Go.Proofs.YtgppobpengmbkaaGreatDoor
open Go Go.AL
set_option maxRecDepth 100000
theorem u64_in {n:Int} (h:0≤n∧n < 18446744073709551616):IntKind.u64.wrap n=n:=by simp [IntKind.wrap,IntKind.signed,IntKind.bits];omega
def Y2 (a n:Int):Int:=IntKind.u64.wrap a % n
theorem a8 (a:Int) {n:Int} (h:1≤n):0≤Y2 a n∧Y2 a n < n:=⟨Int.emod_nonneg _ (by omega),Int.emod_lt_of_pos _ (by omega)⟩
theorem B28 (a n:Int) (hn:1≤n) (hn':n≤9223372036854775807):FnOk Tryz.prog 6 [F2 a,F2 n] (fun rs=>rs=[F2 (Y2 a n)]):=by
 refine FnOk.intro Tryz.func6 (by decide) V V V V ?_
 refine k2 (A2 (A6 V V (A4 ?_)));refine k1 (k2 ?_)
 have h1:IntKind.u64.wrap n=n:=u64_in (by omega)
 refine A2 (A3 V V (A5 (X0 V) V (A3 V V (A5 (X0 V) V (A5 (A59 V V (by (rw [h1];omega))) V ?_)))));refine A5 (X0 V) V (A6 V V (A4 ?_));refine k1 (k10 (B6 (G7 V V V) ?_))
 have h2:=G68 a
 have h3:(IntKind.u64.wrap a).tmod n=IntKind.u64.wrap a % n:=Int.tmod_eq_emod_of_nonneg h2
 have h4:=a8 a hn
 unfold Y2 at *
 rw [h1,h3,F71 ⟨by omega,by omega⟩]
def xor64 (a b:Int):Int:=IntKind.u64.wrap ((BitVec.ofInt IntKind.u64.bits a ^^^ BitVec.ofInt IntKind.u64.bits b).toNat:Int)
def shr64 (a n:Int):Int:=a.fdiv (2 ^ (min n.toNat IntKind.u64.bits))
def at0 (k:Int):Int:=IntKind.u64.wrap (IntKind.u64.wrap (k+1)*11400714819323198485)
def at1 (raw:List Int) (k:Int):Int:=if 0 < raw.length then xor64 (at0 k) (IntKind.u64.wrap (raw.getD (k.tmod raw.length).toNat 0)) else at0 k
def at2 (x:Int):Int:=IntKind.u64.wrap (xor64 x (shr64 x 31)*13787848793156543929)
def Y3 (raw:List Int) (k:Int):Int:=IntKind.i64.wrap (shr64 (xor64 (at2 (at1 raw k)) (shr64 (at2 (at1 raw k)) 29)) 1)
theorem A10 (raw:List Int) (k:Int) (h0:0≤k) (h1:k≤1099511627776):FnOk Tryz.prog 13 [I5 raw,F2 k] (fun rs=>rs=[F2 (Y3 raw k)]):=by
 refine FnOk.intro Tryz.func13 (by decide) V V V V ?_
 refine c_bound (t:=0) rfl (.pure _ _ _ _) fun hlen=>?_
 refine k2 (A2 (A6 V V (A4 ?_)));refine k1 (k2 (A2 (A3 V V (D2 V V V (A5 (X0 V) V (A5 (F07 V V) V (A6 V V (A4 ?_))))))));refine R0 ?_
 refine D62 [(0,C6 Int 1 E3 raw),(1,C0 k),(5,I2 (.int .u64 (at1 raw k)))] [] ?_ ?_
 ·refine k2 (A2 (A3 V V (E0 V V (A5 (M5 V V) V (A4 ?_)))));refine k1 ?_;refine B0 rfl (fun ht=>?_) (fun ht=>?_)
  ·have hpos:0 < raw.length:=by have:=A0 ht;omega
   have hm0:0≤k.tmod raw.length:=Int.tmod_nonneg _ h0
   have hm1:k.tmod raw.length < raw.length:=Int.tmod_lt_of_pos _ (by omega)
   have hv:raw[(k.tmod raw.length).toNat]?=some (raw.getD (k.tmod raw.length).toNat 0):=by
    rw [J21,J15 (by omega)];rfl
   skip
   refine A2 (A3 V V (A3 V V (A3 V V (A3 V V (E0 V V (A5 (A59 V V (by omega)) V (A5 (A9 V (.pure _ _ _ _) V (by omega) hv) V (A5 (A8 V V) V (A5 (X0 V) V (A5 (C68 V V V (fun _=>rfl)) V (A6 V V (A4 ?_))))))))))));refine k1 ?_
   rw [at1,if_pos hpos]
   exact I90 ⟨le1 rfl,le1 rfl,le1 rfl,trivial⟩ trivial
  ·have hpos:¬0 < raw.length:=by have:=A1 ht;omega
   refine k5 (k1 ?_)
   rw [at1,if_neg hpos]
   exact I90 ⟨le1 rfl,le1 rfl,le1 rfl,trivial⟩ trivial
 ·refine k2 (A2 (A3 V V (A3 V V (A5 (F69 V V (by omega)) V (A5 (C68 V V V (fun _=>rfl)) V (A5 (F07 V V) V (A6 V V (A4 ?_))))))));refine k1 (k2 (A2 (A3 V V (A3 V V (A5 (F69 V V (by omega)) V (A5 (C68 V V V (fun _=>rfl)) V (A5 (F69 V V (by omega)) V (A5 (X0 V) V (A6 V V (A4 ?_))))))))));refine k1 (k10 ?_)
  exact B6 (G7 rfl rfl rfl) rfl
def lineTab:List Str:=[[97],[98],[99],[97,98],[98,97],[],[97,97],[98,32,97],[120,43,121],[92]]
def o7 (k:Int):Str:=lineTab.getD (Y2 k 10).toNat []
theorem F97:∀s∈lineTab,s.length≤3:=by decide
theorem A82 (k:Int):(o7 k).length≤3:=by
 unfold o7
 rw [J21]
 cases h:lineTab[(Y2 k 10).toNat]? with
 | none=>simp
 | some s=>exact F97 s (J32 h)
theorem F98 (k:Int):FnOk Tryz.prog 42 [F2 k] (fun rs=>rs=[M3 (o7 k)]):=by
 refine FnOk.intro Tryz.func42 (by decide) V V V V ?_
 refine k2 (A2 (A6 V V (A4 ?_)));refine k1 (k2 ?_)
 have hm:=a8 k (n:=10) (by decide)
 have hv:lineTab[(Y2 k 10).toNat]?=some (o7 k):=by
  unfold o7
  rw [J21,J15 (show (Y2 k 10).toNat < lineTab.length by simp [lineTab];omega)];rfl
 refine A2 (A5 (C3 (c:=Q0) (ys:=lineTab) (D4 V V V V (D4 V V V V (D4 V V V V (D4 V V V V (D4 V V V V (D4 V V V V (D4 V V V V (D4 V V V V (D4 V V V V (D4 V V V V F9)))))))))) V V V) V (A3 V V (D3 (B28 k 10 (by decide) (by decide)) V V V ?_)));rintro _ rfl;refine A5 (A9 V (.pure _ _ _ _) V (by omega) hv) V (A5 (A8 V V) V (A6 V V (A4 ?_)));refine k1 (k10 ?_)
 exact B6 (G7 rfl rfl rfl) rfl
def j4 (raw:List Int) (from':Int) (kinds:Int) (m:Nat):Str:=((List.range m).map fun (i:Nat)=>o7 (Y2 (Y3 raw (from'+1+(i:Int))) kinds)++[10]).flatten
def C08 (raw:List Int) (from' n kinds:Int):Str :=
 let s:=j4 raw from' kinds (Y2 (Y3 raw from') (n+1)).toNat
 if ((Y3 raw (from'+90)).tmod 4=0∧(1:Int) < s.length)∧((s.getD (s.length - 2) 0).toNat:Int)≠10 then s.take (s.length - 1) else s
theorem B29 (raw:List Int) (from' kinds:Int) (m:Nat):j4 raw from' kinds (m+1)=j4 raw from' kinds m++o7 (Y2 (Y3 raw (from'+1+(m:Int))) kinds)++[10]:=by
 unfold j4;rw [J63,J42,J51];simp
theorem B86 (raw:List Int) (from' kinds:Int) (m:Nat):(j4 raw from' kinds m).length≤4*m:=by
 induction m with
 | zero=>simp [j4]
 | succ m ih=>have:=A82 (Y2 (Y3 raw (from'+1+(m:Int))) kinds);rw [B29];simp only [J20,J19,J22];omega
theorem blob_ok (raw:List Int) (from' n kinds:Int) (h0:0≤from'∧from'≤1073741824) (h1:0≤n∧n≤1048576) (h2:1≤kinds∧kinds≤1048576) :
  FnOk Tryz.prog 27 [I5 raw,F2 from',F2 n,F2 kinds] (fun rs=>rs=[M3 (C08 raw from' n kinds)]):=by
 obtain ⟨m,hm⟩:∃m:Nat,Y2 (Y3 raw from') (n+1)=m:=⟨(Y2 (Y3 raw from') (n+1)).toNat,by have:=a8 (Y3 raw from') (n:=n+1) (by omega);omega⟩
 have hmi:=a8 (Y3 raw from') (n:=n+1) (by omega)
 have hml:m≤1048576:=by omega
 refine FnOk.intro Tryz.func27 (by decide) V V V V ?_
 refine k2 (A2 (A6 V V (A4 ?_)));refine k1 (k2 (A2 (A3 V V (A3 V V (D3 (A10 raw from' (by omega) (by omega)) V V V ?_)))));rintro _ rfl;refine A3 V V (D2 V V V (D3 (B28 _ (n+1) (by omega) (by omega)) V V V ?_));rintro _ rfl;refine A6 V V (A4 ?_);refine k1 (k2 ?_)
 rw [hm]
 refine A2 (A6 V V (A4 ?_));refine k1 (k2 (k2 (A2 (A6 V V (A4 ?_)))));refine k1 (k3 (C5 (X:=Nat) (fun i=>([(0,C6 Int 1 E3 raw),(1,C0 from'),(2,C0 m),(3,C0 kinds),(9,T7 (j4 raw from' kinds i)),(10,C0 i)],[])) (fun i=>i≤m) (fun i=>m - i) 0 (Nat.zero_le _) (I90 ⟨le1 rfl,le1 rfl,le1 rfl,le1 rfl,le1 rfl,le1 rfl,trivial⟩ trivial) ?_))
 intro i hi
 dsimp only at hi ⊢
 have hbl:=B86 raw from' kinds i
 refine k2 (k2 (A2 (A3 V V (A3 V V (E8 V V V (A4 ?_))))));refine k1 ?_;refine B0 rfl (fun ht=>?_) (fun ht=>?_)
 ·have hlt:i < m:=by have:=A0 ht;omega
  have hll:=A82 (Y2 (Y3 raw (from'+1+(i:Int))) kinds)
  refine k5 (k1 (k2 (k3 (A2 (A3 V V (A3 V V (A3 V V (D2 V V V (A3 V V (D2 V V V (D3 (A10 raw _ (by omega) (by omega)) V V V ?_)))))))))));rintro _ rfl;refine A3 V V (D3 (B28 _ kinds (by omega) (by omega)) V V V ?_);rintro _ rfl;refine D3 (F98 _) V V V ?_;rintro _ rfl;refine A5 (A75 V V (by omega)) V (A5 (A75 V V (by (simp only [J20,J19,J22];omega))) V (A6 V V (A4 ?_)));refine k4 (k1 (A2 (A3 V V (D2 V V V (A6 V V (A4 ?_))))));refine k1 ?_;refine ⟨i+1,by omega,by omega,?_⟩
  rw [B29]
  exact I90 ⟨le1 rfl,le1 rfl,le1 rfl,le1 rfl,le1 rfl,le1 rfl,trivial⟩ trivial
 ·have hi':i=m:=by have:=A1 ht;omega
  subst hi'
  obtain ⟨s,hs⟩:∃s,s=j4 raw from' kinds i:=⟨_,rfl⟩
  have hv:(1:Int) < s.length→s[((s.length:Int) - 2).toNat]?=some (s.getD (s.length - 2) 0):=fun h=>by
   rw [show ((s.length:Int) - 2).toNat=s.length - 2 by omega,J21,J15 (by omega)];rfl
  have hbo:C08 raw from' n kinds=if ((Y3 raw (from'+90)).tmod 4=0∧(1:Int) < s.length)∧((s.getD (s.length - 2) 0).toNat:Int)≠10 then s.take (s.length - 1) else s:=by
   simp only [C08,hm,J17,←hs]
  rw [←hs] at hbl
  refine k6 (k2 (k2 ?_))
  rw [←hs]
  refine A2 (A3 V V (A3 V V (D2 V V V (D3 (A10 raw _ (by omega) (by omega)) V V V ?_))));rintro _ rfl;refine A5 (A59 V V (by omega)) V (A5 (F7 V V) V (A3 V V (B1 V V V V (fun hg=>by rw [hg];exact B7 V V) ?_)));refine B1 V V V V (fun hg=>by rw [hg];exact J3 V) ?_;refine B1 V V V V (fun hg=>by rw [hg];exact M5 V V) ?_;refine I6 V V ?_;refine A3 V V (B1 V V V V (fun hg=>by rw [hg];exact B7 V V) ?_);refine B1 V V V V (fun hg=>by rw [hg];exact B7 V V) ?_;refine B1 V V V V (fun hg=>by rw [hg];exact J3 V) ?_;refine B1 V V V V (fun hg=>by have hq:=hg;(try simp at hq);rw [hg];exact K8 V V (by omega)) ?_;refine B1 V V V V (fun hg=>by have hq:=hg;(try simp at hq);rw [hg];exact j1 V V (by omega) (hv (by omega))) ?_;refine B1 V V V V (fun hg=>by rw [hg];exact Q8 V V) ?_;refine I6 V V ?_;refine A4 ?_;refine k1 ?_;refine B0 rfl (fun ht=>?_) (fun ht=>?_)
  ·simp only [and_pick] at ht
   have h:=A0 ht
   skip
   refine A2 (A3 V V (A3 V V (A5 (J3 V) V (A5 (K8 V V (by omega)) V (A5 (D42 V V (by omega) (by omega)) V (A6 V V (A4 ?_)))))));refine k1 (k2 (A2 (A3 V V (A6 V V (A4 ?_)))));refine k1 (k10 ?_)
   exact B6 (G7 rfl rfl rfl) (by rw [hbo,if_pos h,show ((s.length:Int) - 1).toNat=s.length - 1 by omega])
  ·simp only [and_pick] at ht
   have h:=A1 ht
   refine k5 (k1 (k2 (A2 (A3 V V (A6 V V (A4 ?_))))));refine k1 (k10 ?_)
   exact B6 (G7 rfl rfl rfl) (by rw [hbo,if_neg h])
theorem G73 (raw:List Int) (from' n kinds:Int) (h1:0≤n):((C08 raw from' n kinds).length:Int)≤4*n:=by
 have h:=a8 (Y3 raw from') (n:=n+1) (by omega)
 have h2:=B86 raw from' kinds (Y2 (Y3 raw from') (n+1)).toNat
 unfold C08
 simp only
 split
 ·simp only [J25];omega
 ·omega
def l6 (raw:List Int) (from':Int) (i:Nat) (s:Str):List Str→Str
 | []=>s
 | x::r=>if (Y3 raw (from'+(i:Int))).tmod 6=0 then l6 raw from' (i+1) s r
  else if (Y3 raw (from'+(i:Int))).tmod 6=1 then l6 raw from' (i+1) (s++o7 (Y3 raw (from'+40+(i:Int)))++[10]++x) r
  else l6 raw from' (i+1) (s++x) r
def A83 (blob:Str) (raw:List Int) (from':Int):Str:=l6 raw from' 0 [] (K3 blob)
theorem A84 (raw:List Int) (from':Int):∀(l:List Str) (i:Nat) (s:Str),(l6 raw from' i s l).length≤s.length+l.flatten.length+4*l.length
 | [],i,s=>by simp [l6]
 | x::r,i,s=>by
  have h1:=A84 raw from' r (i+1) s
  have h2:=A84 raw from' r (i+1) (s++o7 (Y3 raw (from'+40+(i:Int)))++[10]++x)
  have h3:=A84 raw from' r (i+1) (s++x)
  have h4:=A82 (Y3 raw (from'+40+(i:Int)))
  simp only [J20,J19,J22,J57] at *
  unfold l6
  split
  ·omega
  ·split<;>omega
theorem C80 (s cur:Str):(J8 cur s).flatten=cur++s:=by
 induction s generalizing cur with
 | nil=>unfold J8;split<;>simp [*]
 | cons c r ih=>unfold J8;split<;>simp [ih]
theorem w8 (s:Str):(K3 s).flatten=s:=C80 s []
theorem near_ok (blob:Str) (raw:List Int) (from':Int) (hb:blob.length≤16777216) (h0:0≤from'∧from'≤1073741824) :
  FnOk Tryz.prog 28 [M3 blob,I5 raw,F2 from'] (fun rs=>rs=[M3 (A83 blob raw from')]):=by
 have hll:=B41 blob
 have hlf:=w8 blob
 have hlf':(K3 blob).flatten.length=blob.length:=by rw [hlf]
 refine FnOk.intro Tryz.func28 (by decide) V V V V ?_
 refine k2 (A2 (A6 V V (A4 ?_)));refine k1 (k2 (A2 (A3 V V (D3 (F87 blob (by omega)) V V V ?_))));rintro _ rfl;refine A6 V V (A4 ?_);refine k1 (k2 ?_)
 obtain ⟨l,hl⟩:∃l,l=K3 blob:=⟨_,rfl⟩
 have hno:A83 blob raw from'=l6 raw from' 0 [] l:=by rw [A83,hl]
 rw [←hl] at hll hlf' ⊢
 refine A2 (A6 V V (A4 ?_));refine k1 (k2 (k2 (A2 (A6 V V (A4 ?_)))));refine k1 (k3 (C5 (X:=Nat × Str) (fun x=>([(1,C6 Int 1 E3 raw),(2,C0 from'),(7,C6 Str 1 Q0 l),(8,T7 x.2),(9,C0 x.1)],[])) (fun x=>x.1≤l.length∧x.2.length≤(l.take x.1).flatten.length+4*x.1∧l6 raw from' x.1 x.2 (l.drop x.1)=l6 raw from' 0 [] l) (fun x=>l.length - x.1) (0,[]) (by simp) (I90 ⟨le1 rfl,le1 rfl,le1 rfl,le1 rfl,le1 rfl,trivial⟩ trivial) ?_))
 rintro ⟨i,s⟩ ⟨hi,hs,hp⟩
 dsimp only at hi hs hp ⊢
 have hle:=B10 l i
 refine k2 (k2 (A2 (A3 V V (A3 V V (E0 V V (E8 V V V (A4 ?_)))))));refine k1 ?_;refine B0 rfl (fun ht=>?_) (fun ht=>?_)
 ·have hlt:i < l.length:=by have:=A0 ht;omega
  have hv:l[i]?=some l[i]:=by simp [hlt]
  have hle2:=B10 l (i+1)
  have hst:=A28 l i hlt
  rw [hst,J20] at hle2
  rw [J24 hlt,l6] at hp
  refine k5 (k1 (k2 (k3 (k2 (k2 (A2 (A3 V V (A3 V V (A3 V V (D2 V V V (D3 (A10 raw _ (by omega) (by omega)) V V V ?_)))))))))));rintro _ rfl;refine A5 (A59 V V (by omega)) V (A4 ?_);refine k1 (k3 (k2 (A2 (A5 (F7 V V) V (A6 V V (A4 ?_))))));refine k1 ?_;refine B0 rfl (fun ht=>?_) (fun ht=>?_)
  ·rw [if_pos (A0 ht)] at hp
   refine k6 (k9 V (k7 (k8 V (k1 (A2 (A3 V V (D2 V V V (A6 V V (A4 ?_)))))))));refine k1 ?_
   exact ⟨(i+1,s),⟨by dsimp only;omega,by dsimp only;rw [hst,J20];omega,hp⟩,by dsimp only;omega,I90 ⟨le1 rfl,le1 rfl,le1 rfl,le1 rfl,le1 rfl,trivial⟩ trivial⟩
  ·rw [if_neg (A1 ht)] at hp
   refine k2 (A2 (A5 (F7 V V) V (A6 V V (A4 ?_))));refine k1 ?_;refine B0 rfl (fun ht=>?_) (fun ht=>?_)
   ·rw [if_pos (A0 ht)] at hp
    have h4:=A82 (Y3 raw (from'+40+(i:Int)))
    skip
    refine A2 (A3 V V (A3 V V (A3 V V (D2 V V V (A3 V V (D2 V V V (D3 (A10 raw _ (by omega) (by omega)) V V V ?_)))))));rintro _ rfl;refine D3 (F98 _) V V V ?_;rintro _ rfl;refine A5 (A75 V V (by omega)) V (A5 (A75 V V (by (simp only [J20,J19,J22];omega))) V (A6 V V (A4 ?_)));refine k4 (k1 (A2 (A3 V V (A3 V V (A3 V V (A5 (A9 V (.pure _ _ _ _) V (by omega) hv) V (A5 (A8 V V) V (A5 (A75 V V (by (simp only [J20,J19,J22];omega))) V (A6 V V (A4 ?_))))))))));refine k4 (k1 (A2 (A3 V V (D2 V V V (A6 V V (A4 ?_))))));refine k1 ?_
    exact ⟨(i+1,s++o7 (Y3 raw (from'+40+(i:Int)))++[10]++l[i]),⟨by dsimp only;omega,by dsimp only;rw [hst];simp only [J20,J19,J22];omega,hp⟩,by dsimp only;omega,I90 ⟨le1 rfl,le1 rfl,le1 rfl,le1 rfl,le1 rfl,trivial⟩ trivial⟩
   ·rw [if_neg (A1 ht)] at hp
    refine k5 (k4 (k1 (A2 (A3 V V (A3 V V (A3 V V (A5 (A9 V (.pure _ _ _ _) V (by omega) hv) V (A5 (A8 V V) V (A5 (A75 V V (by omega)) V (A6 V V (A4 ?_)))))))))));refine k4 (k1 (A2 (A3 V V (D2 V V V (A6 V V (A4 ?_))))));refine k1 ?_
    exact ⟨(i+1,s++l[i]),⟨by dsimp only;omega,by dsimp only;rw [hst,J20,J20];omega,hp⟩,by dsimp only;omega,I90 ⟨le1 rfl,le1 rfl,le1 rfl,le1 rfl,le1 rfl,trivial⟩ trivial⟩
 ·have hi':i=l.length:=by have:=A1 ht;omega
  rw [hi',J31 (Nat.le_refl _)] at hp
  refine k6 (k2 (A2 (A3 V V (A6 V V (A4 ?_)))));refine k1 (k10 ?_)
  exact B6 (G7 rfl rfl rfl) (by rw [hno,←hp];rfl)
end Go.Proofs.YtgppobpengmbkaaGreatDoor
namespace Go.Proofs.YtgppobpengmbkaaGreatDoor
open Go Go.AL
set_option maxRecDepth 100000
theorem E75 (s:Str):(ByteArray.mk s.toArray).size=s.length:=by simp [ByteArray.size]
theorem F28 (s p:Str) (hs:s.length≤1099511627776):FnOk Tryz.prog 139 [M3 s,M3 p] (fun rs=>rs=[H5 (Lib.hasSuffix s p)]) :=
 I95 (xs:=[.string ⟨s.toArray⟩,.string ⟨p.toArray⟩]) ⟨_,rfl,rfl,rfl⟩ rfl fun w=>by simpa using Tryz.strings_HasSuffix ⟨s.toArray⟩ ⟨p.toArray⟩ w (by rw [E75];omega)
theorem E42 (s p:Str) (hs:s.length≤1099511627776):FnOk Tryz.prog 84 [M3 s,M3 p] (fun rs=>rs=[M3 (Lib.trimSuffix s p)]) :=
 I95 (xs:=[.string ⟨s.toArray⟩,.string ⟨p.toArray⟩]) ⟨_,rfl,rfl,rfl⟩ rfl fun w=>by simpa using Tryz.strings_TrimSuffix ⟨s.toArray⟩ ⟨p.toArray⟩ w (by rw [E75];omega)
theorem F29 (s:Str) (c:UInt8):FnOk Tryz.prog 175 [M3 s,.one (.v (.int .u8 c.toNat))] (fun rs=>rs=[F2 (Lib.indexByte s c)]) :=
 I95 (xs:=[.string ⟨s.toArray⟩,.int .u8 c.toNat]) ⟨_,rfl,rfl,rfl⟩ rfl fun w=>by simpa using Tryz.strings_IndexByte ⟨s.toArray⟩ c.toNat w
theorem H92 (s:Str) (hs:s.length≤1099511627776):FnOk Tryz.prog 104 [M3 s] (fun rs=>rs=[H5 (ended s)]):=by
 refine FnOk.intro Tryz.func104 (by decide) V V V V ?_
 refine k2 (A2 (A6 V V (A4 ?_)));refine k1 (k2 (A2 (A3 V V (D3 (F28 s [10] hs) V V V ?_))));rintro _ rfl;refine A6 V V (A4 ?_)
 rw [C51]
 refine k1 (k10 ?_)
 exact B6 (G7 rfl rfl rfl) rfl
theorem I55 (s:Str) (hs:s.length≤1099511627776):FnOk Tryz.prog 51 [M3 s] (fun rs=>rs=[M3 (F52 s)]):=by
 refine FnOk.intro Tryz.func51 (by decide) V V V V ?_
 refine k2 (A2 (A6 V V (A4 ?_)));refine k1 (k2 (A2 (A3 V V (D3 (E42 s [10] hs) V V V ?_))));rintro _ rfl;refine A6 V V (A4 ?_)
 rw [E57]
 refine k1 (k10 ?_)
 exact B6 (G7 rfl rfl rfl) rfl
end Go.Proofs.YtgppobpengmbkaaGreatDoor
namespace Go.Proofs.YtgppobpengmbkaaGreatDoor
open Go Go.AL
set_option maxRecDepth 100000
end Go.Proofs.YtgppobpengmbkaaGreatDoor
namespace Go.Proofs.YtgppobpengmbkaaGreatDoor
open Go Go.AL Go.RowKit
set_option maxRecDepth 100000
theorem E76 (s:Str) (c:UInt8):FnOk Tryz.prog 103 [M3 s,M3 [c]] (fun rs=>rs=[F2 (s.count c)]) :=
 I95 (xs:=[.string ⟨s.toArray⟩,.string ⟨#[c]⟩]) ⟨_,rfl,rfl,rfl⟩ rfl fun w=>by simpa [Lib.countByte] using Tryz.strings_Count_one ⟨s.toArray⟩ c w
theorem H93 (s:Str) (c:UInt8):FnOk Tryz.prog 95 [M3 s,M3 [c]] (fun rs=>rs=[F2 (Lib.indexByte s c)]) :=
 I95 (xs:=[.string ⟨s.toArray⟩,.string ⟨#[c]⟩]) ⟨_,rfl,rfl,rfl⟩ rfl fun w=>by simpa using Tryz.strings_Index_one ⟨s.toArray⟩ c w
theorem F99 (s:Str) (hs:s.length≤536870912):FnOk Tryz.prog 105 [M3 s,M3 [10],F2 1,F2 (-1)] (fun rs=>rs=[C26 (Q7 s)]):=by
 have hP:=Y8 s []
 have hc:s.count 10≤s.length:=List.count_le_length
 have h10:([10]:Str).length=1:=rfl
 obtain ⟨P,hPe⟩:∃P,P=Q7 s:=⟨_,rfl⟩
 have hPl:P.length=s.count 10+1:=by rw [hPe];exact hP
 refine FnOk.intro Tryz.func105 (by decide) V V V V ?_
 refine k2 (A2 (A6 V V (A4 ?_)));refine k1 (k2 (k2 (A2 (A3 V V (A5 (F7 V V) V (A4 ?_))))));refine k1 ?_;refine B0 rfl (fun ht=>?_) (fun ht=>?_)
 ·exact absurd (A0 ht) (by omega)
 refine k5 (k1 (k2 (k2 (A2 (A3 V V (A5 (j7 V V) V (A4 ?_)))))));refine k1 ?_;refine B0 rfl (fun ht=>?_) (fun ht=>?_)
 ·exact absurd (A0 ht) (by simp)
 refine k5 (k1 (k2 (k2 (A2 (A3 V V (E8 V V V (A4 ?_)))))));refine k1 ?_;refine B0 rfl (fun ht=>?_) (fun ht=>?_)
 rotate_left
 ·exact absurd (A1 ht) (by omega)
 skip
 refine A2 (A3 V V (A3 V V (D3 (E76 s 10) V V V ?_)));rintro _ rfl;refine D2 V V V (A6 V V (A4 ?_));refine k1 (k2 (A2 (A3 V V (A3 V V (A5 (J3 V) V (D2 V V V (A5 (H43 V V) V (A6 V V (A4 ?_)))))))));refine k1 (k2 ?_)
 rw [show (if (s.length:Int)+1 < (s.count 10:Int)+1 then (s.length:Int)+1 else (s.count 10:Int)+1)=(P.length:Int) from by split<;>omega]
 refine A2 (A3 V V (C9 (c8 9 Str Q0 [] V V (by omega) (by omega) (fun _=>by first | exact ⟨⟨rfl,rfl⟩,trivial⟩ | exact ⟨G9 _ _ _,trivial⟩ | exact ⟨G9 _ _ _,⟨rfl,rfl⟩,G9 _ _ _,trivial⟩) (by first | rfl | (simp [K2,J2,Ob.free,SV.free,S1.free,TC.free]<;>rfl))) V ?_));refine A6 V V (A4 ?_);refine k1 (k2 (A2 (A3 V V (A5 (K8 V V (by omega)) V (A6 V V (A4 ?_))))));refine k1 (k2 (A2 (A6 V V (A4 ?_))));refine k1 (k2 (k3 (C5 (X:=Nat × Str) (fun x=>([(0,T7 x.2),(1,T7 [10]),(2,C0 1),(3,C0 ((P.length:Int) - 1)),(9,.s (.one (.mut 9))),(10,C0 x.1)],[(9,.arr Str 1 Q0 (P.take x.1++List.replicate (P.length - x.1) []))])) (fun x=>x.1+1≤P.length∧P.drop x.1=Q7 x.2∧x.2.length≤s.length) (fun x=>P.length - x.1) (0,s) ⟨by dsimp only;omega,hPe,Nat.le_refl _⟩ (I90 ⟨le1 rfl,le1 rfl,le1 rfl,le1 rfl,le1 rfl,le1 rfl,trivial⟩ ⟨rfl,trivial⟩) ?_)))
 rintro ⟨i,r⟩ ⟨hi,hp,hr⟩
 dsimp only at hi hp hr ⊢
 refine k2 (k2 (A2 (A3 V V (A3 V V (E8 V V V (A4 ?_))))));refine k1 ?_;refine B0 rfl (fun ht=>?_) (fun ht=>?_)
 ·have hlt:i+1 < P.length:=by have:=A0 ht;omega
  have hin:(10:UInt8)∈r:=by
   have h1:=Y8 r []
   have h2:(P.drop i).length=r.count 10+1:=by rw [hp];exact h1
   rw [J29] at h2
   exact List.count_pos_iff.1 (by omega)
  rcases d5 10 r with ⟨h1,_⟩ | ⟨a,b,h1,h2,h3⟩
  ·exact absurd hin h1
  obtain ⟨h4,h5⟩:=H26 hp h1 h2
  have hl:r.length=a.length+1+b.length:=by rw [h1];simp;omega
  refine k5 (k1 (k3 (k2 (A2 (A3 V V (A3 V V (D3 (H93 r 10) V V V ?_)))))));rintro _ rfl;refine A6 V V (A4 ?_);refine k1 (k2 (k2 (A2 (A3 V V (E8 V V V (A4 ?_))))));refine k1 ?_
  rw [h3]
  refine B0 rfl (fun ht=>?_) (fun ht=>?_)
  ·exact absurd (A0 ht) (by omega)
  refine k5 (k1 (k2 (A2 (A3 V V (A3 V V (A3 V V (A3 V V (A3 V V (D2 V V V (A5 (D42 V V (by omega) (by omega)) V (A5 (F1 V V V (by omega) (by (simp;omega))) V (G8 (I1 TySz.out V V (by simp;omega) V V) (A4 ?_)))))))))))));refine k1 (k2 (A2 (A3 V V (A3 V V (A3 V V (A5 (J3 V) V (D2 V V V (A5 (H42 V V (by omega) (by omega)) V (A6 V V (A4 ?_))))))))));refine k1 (A2 (A3 V V (D2 V V V (A6 V V (A4 ?_)))));refine k4 (k1 ?_)
  have e1:r.take (((a.length:Int)+1).toNat)=a++[10]:=by rw [h1,show ((a.length:Int)+1).toNat=a.length+1 by omega,show a++10::b=(a++[10])++b by simp,List.take_left' (by simp)]
  have e2:r.drop (((a.length:Int)+(([10]:Str).length:Int)).toNat)=b:=by rw [h1,h10,show ((a.length:Int)+((1:Nat):Int)).toNat=a.length+1 by omega,show a++10::b=(a++[10])++b by simp,List.drop_left' (by simp)]
  refine ⟨(i+1,b),⟨by dsimp only;omega,h5,by dsimp only;omega⟩,by dsimp only;omega,?_⟩
  rw [e1,e2]
  dsimp only
  rw [←E95 P [] _ i h4]
  exact I90 ⟨le1 rfl,le1 rfl,le1 rfl,le1 rfl,le1 rfl,le1 rfl,trivial⟩ ⟨rfl,trivial⟩
 ·have hge:i+1=P.length:=by have:=A1 ht;omega
  have h1:=Y8 r []
  have h2:(P.drop i).length=r.count 10+1:=by rw [hp];exact h1
  rw [J29] at h2
  have h3:(10:UInt8)∉r:=List.count_eq_zero.1 (by omega)
  have h4:P[i]?=some r:=by rw [←List.head?_drop,hp];unfold Q7;rw [E59 _ _ h3];rfl
  refine k6 (k2 (A2 (A3 V V (A3 V V (A3 V V (A5 (F1 V V V (by omega) (by (simp;omega))) V (G8 (I1 TySz.out V V (by simp;omega) V V) (A4 ?_))))))));refine k1 (k2 ?_)
  have e:(P.take i++List.replicate (P.length - i) ([]:Str)).set (i:Int).toNat r=P:=by rw [J17,E95 P [] r i h4,hge];simp
  rw [e]
  refine D8 (Sees.freeze (k:=9) V) ?_
  refine A2 (A3 V V (A3 V V (D2 V V V (A5 (B56 V (.pure _ _ _ _) V (by omega) (by omega)) V (A6 V V (A4 ?_))))));refine k1 (k10 ?_)
  exact B6 (G7 rfl rfl rfl) (by rw [show ((i:Int)+1).toNat=P.length by omega,J23,hPe])
theorem E43 (s:Str) (hs:s.length≤536870912):FnOk Tryz.prog 76 [M3 s,M3 [10]] (fun rs=>rs=[C26 (Q7 s)]):=by
 refine FnOk.intro Tryz.func76 (by decide) V V V V ?_
 refine k2 (A2 (A6 V V (A4 ?_)));refine k1 (k2 (A2 (A3 V V (A3 V V (A3 V V (A5 (J3 V) V (D3 (F99 s hs) V V V ?_)))))));rintro _ rfl;refine A6 V V (A4 ?_);refine k1 (k10 ?_)
 exact B6 (G7 rfl rfl rfl) rfl
theorem E77 (s:Str) (hs:s.length≤536870912):FnOk Tryz.prog 75 [M3 s] (fun rs=>rs=[F2 (Q6 s)]):=by
 have hl:=A53 s
 have hc:s.count 10≤s.length:=List.count_le_length
 refine FnOk.intro Tryz.func75 (by decide) V V V V ?_
 refine k2 (A2 (A6 V V (A4 ?_)));refine k1 (k2 (A2 (A3 V V (D3 (E76 s 10) V V V ?_))));rintro _ rfl;refine A6 V V (A4 ?_);refine R0 ?_
 refine D62 [(0,T7 s),(3,C0 (K3 s).length)] [] ?_ ?_
 ·refine k2 (A2 (A3 V V (A5 (F08 V V) V (A3 V V (B1 V V V V (fun hg=>by rw [hg];exact B7 V V) ?_)))));refine B1 V V V V (fun hg=>by have hq:=hg;(try simp at hq);rw [hg];exact N4 (H92 s (by omega)) V V) ?_;refine B1 V V V V (fun hg=>by rw [hg];exact U2 V) ?_;refine I6 V V ?_;refine A4 ?_;refine k1 ?_;refine B0 rfl (fun ht=>?_) (fun ht=>?_)
  ·have h:s≠[]∧ended s=false:=by
    by_cases h1:s=[]
    ·simp [h1] at ht
    ·refine ⟨h1,?_⟩;simpa [h1] using ht
   rw [if_pos h] at hl
   skip
   refine A2 (A3 V V (D2 V V V (A6 V V (A4 ?_))));refine k1 ?_
   rw [hl,Int.natCast_add]
   exact I90 ⟨le1 rfl,le1 rfl,trivial⟩ trivial
  ·have h:¬(s≠[]∧ended s=false):=by
    rintro ⟨h1,h2⟩
    simp [h1,h2] at ht
   rw [if_neg h] at hl
   refine k5 (k1 ?_)
   rw [hl]
   exact I90 ⟨le1 rfl,le1 rfl,trivial⟩ trivial
 ·refine k2 (k2 (A2 (A3 V V (A5 (J3 V) V (A5 (M5 V V) V (A3 V V (B1 V V V V (fun hg=>by rw [hg];exact B7 V V) ?_)))))));refine B1 V V V V (fun hg=>by rw [hg];exact M5 V V) ?_;refine I6 V V ?_;refine A4 ?_;refine k1 ?_;refine B0 rfl (fun ht=>?_) (fun ht=>?_)
  ·have h:=A0 (or_pick.symm.trans ht)
   refine k2 (A2 (A6 V V (A4 ?_)));refine k1 (k10 (k11 ?_))
   exact B6 (G7 rfl rfl rfl) (by rw [Q6,if_pos (by omega)])
  ·have h:=A1 (or_pick.symm.trans ht)
   refine k5 (k1 (k2 (A2 (A6 V V (A4 ?_)))));refine k1 (k10 ?_)
   exact B6 (G7 rfl rfl rfl) (by rw [Q6,if_neg (by omega)])
theorem E78 (s:Str) (hs:s.length≤536870912):FnOk Tryz.prog 46 [M3 s] (fun rs=>rs=[C26 (B72 s).1,F2 (B72 s).2]):=by
 have hp:K3 s=if (Q7 s).getLastD []=[] then (Q7 s).dropLast else Q7 s:=G37 s []
 have hc:(Q7 s).length=s.count 10+1:=Y8 s []
 have hcl:s.count 10≤s.length:=List.count_le_length
 refine FnOk.intro Tryz.func46 (by decide) V V V V ?_
 refine k2 (A2 (A6 V V (A6 V V (A4 ?_))));refine k1 (k2 (k2 (A2 (A3 V V (D3 (E77 s hs) V V V ?_)))));rintro _ rfl;refine A6 V V (A4 ?_);refine k1 (k2 (A2 (A3 V V (A5 (Q8 V V) V (A4 ?_)))));refine k1 ?_;refine B0 rfl (fun ht=>?_) (fun ht=>?_)
 ·have h:Q6 s≠0:=by simpa using ht
  have h1:s.length > 1048576∨(K3 s).length > 4096:=by
   by_cases h1:s.length > 1048576∨(K3 s).length > 4096
   ·exact h1
   ·exact absurd (by rw [Q6,if_neg h1]) h
  refine k2 (A2 (A3 V V (A5 (I0 _ 1 Q0) V (A6 V V (A4 ?_)))));refine k1 (k10 (k11 ?_))
  exact B6 (X8 rfl rfl rfl rfl rfl) (by rw [B72,if_pos h1,Q6,if_pos h1])
 ·have h:Q6 s=0:=by simpa using ht
  have h1:¬(s.length > 1048576∨(K3 s).length > 4096):=fun h1=>by rw [Q6,if_pos h1] at h;omega
  have hv:(Q7 s)[(Q7 s).length - 1]?=some ((Q7 s).getLastD []):=by
   rw [←List.getLast?_eq_getElem?,List.getLast?_eq_some_getLast (fun e=>by rw [e] at hc;simp at hc)]
   rw [List.getLastD_eq_getLast?,List.getLast?_eq_some_getLast (fun e=>by rw [e] at hc;simp at hc)];rfl
  have hi:(((Q7 s).length:Int) - 1).toNat=(Q7 s).length - 1:=by omega
  refine k5 (k1 (k2 (A2 (A3 V V (D3 (E43 s hs) V V V ?_)))));rintro _ rfl;refine A6 V V (A4 ?_);refine R0 ?_
  refine D62 [(5,C6 Str 1 Q0 (K3 s))] [] ?_ ?_
  ·refine k2 (A2 (A3 V V (A3 V V (E0 V V (A5 (K8 V V (by omega)) V (A5 (A9 V (.pure _ _ _ _) V (by omega) (by rw [hi];exact hv)) V ?_))))));refine A5 (A8 V V) V (A5 (j7 V V) V (A4 ?_));refine k1 ?_;refine B0 rfl (fun ht=>?_) (fun ht=>?_)
   ·have h2:=A0 ht
    skip
    refine A2 (A3 V V (A3 V V (E0 V V (A5 (K8 V V (by omega)) V (A5 (B56 V (.pure _ _ _ _) V (by omega) (by omega)) V (A6 V V (A4 ?_)))))));refine k1 ?_
    rw [hp,if_pos h2,List.dropLast_eq_take,←hi]
    exact I90 ⟨le1 rfl,trivial⟩ trivial
   ·have h2:=A1 ht
    refine k5 (k1 ?_)
    rw [hp,if_neg h2]
    exact I90 ⟨le1 rfl,trivial⟩ trivial
  ·refine k2 (A2 (A3 V V (A6 V V (A6 V V (A4 ?_)))));refine k1 (k10 ?_)
   exact B6 (X8 rfl rfl rfl rfl rfl) (by rw [B72,if_neg h1])
end Go.Proofs.YtgppobpengmbkaaGreatDoor
namespace Go.Proofs.YtgppobpengmbkaaGreatDoor
open Go Go.RowKit Go.AL
attribute [local go_sem] Oper.semAt_some
set_option maxRecDepth 100000
set_option maxHeartbeats 2000000
theorem B87:∀(a r cur:Str),47∉a→J9 cur (a++47::r)=(cur++a)::J9 [] r
 | [],r,cur,_=>by simp [J9]
 | x::a,r,cur,h=>by
  have hx:x≠47:=fun e=>h (by simp [e])
  rw [J37,J9,if_neg hx,B87 a r _ (fun e=>h (by simp [e])),J28];rfl
theorem B88:∀(a cur:Str),47∉a→J9 cur a=[cur++a]
 | [],cur,_=>by simp [J9]
 | x::a,cur,h=>by
  have hx:x≠47:=fun e=>h (by simp [e])
  rw [J9,if_neg hx,B88 a _ (fun e=>h (by simp [e])),J28];rfl
theorem Y4 {W:World} {B:Nat} {v:Value} {t:TypeId} (h:W.heap[B]?=some (.cells #[v] t (0,0))):W.cell? ⟨B,0,none⟩=some v∧W.frozen? ⟨B,0,none⟩=false:=by
 constructor<;>simp [World.cell?,World.frozen?,h]
structure RInv (rec:LoopState→Option Code→Loop) (n0:Nat) (w0:World) (l D b2 bs bp bv:Nat) (rest:Str) (W:World):Prop where
 s:W.heap[bs]?=some (.cells #[.string ⟨rest.toArray⟩] 9 (0,0))
 p:W.heap[bp]?=some (.cells #[.string ⟨#[47]⟩] 9 (0,0))
 v:W.heap[bv]?=some (.cells #[.int .i64 0] 3 (0,0))
 r:W.heap[b2]?=some (.cells #[.int .i64 0] 28 (0,0))
 l:W.heap[l]?=some (.loop (rec .ready none))
 d:W.heap[D]?=some (.deferred (some []))
 b:Below n0 w0 W
structure RFin (rec:LoopState→Option Code→Loop) (n0:Nat) (w0:World) (l D b2:Nat) (W:World):Prop where
 r:W.heap[b2]?=some (.cells #[.int .i64 210] 28 (0,0))
 l:W.heap[l]?=some (.loop (rec .done (some .ret)))
 d:W.heap[D]?=some (.deferred (some []))
 b:Below n0 w0 W
def leftIn (bs:Nat) (W:World):Nat:=match W.cell? ⟨bs,0,none⟩ with | some (.string s)=>s.size | _=>0
theorem o8 {W:World} {B:Nat} {v v':Value} {t:TypeId} (h:W.heap[B]?=some (.cells #[v] t (0,0))):(W.setCell ⟨B,0,none⟩ v').heap[B]?=some (.cells #[v'] t (0,0)):=by
 obtain ⟨hlt,hk'⟩:=Array.getElem?_eq_some_iff.1 h
 show (W.heap.modify B _)[B]?=_
 rw [Array.getElem?_eq_getElem (by rw [Array.size_modify];exact hlt),Array.getElem_modify_self,hk']
 rfl
theorem RInv.step {rec:LoopState→Option Code→Loop} {n0:Nat} {w0:World} {l D b2 bs bp bv:Nat} {rest:Str} {W:World} (h:RInv rec n0 w0 l D b2 bs bp bv rest W) (hne:bs≠bp∧bs≠bv∧bs≠b2∧bs≠l∧bs≠D∧n0≤bs) (r:Str) :
  RInv rec n0 w0 l D b2 bs bp bv r (W.setCell ⟨bs,0,none⟩ (.string ⟨r.toArray⟩)):=by
 obtain ⟨h1,h2,h3,h4,h5,h6⟩:=hne
 exact ⟨o8 h.s,(Below.heap_setCell W _ _ _ (Ne.symm h1)).trans h.p,(Below.heap_setCell W _ _ _ (Ne.symm h2)).trans h.v,(Below.heap_setCell W _ _ _ (Ne.symm h3)).trans h.r,(Below.heap_setCell W _ _ _ (Ne.symm h4)).trans h.l,(Below.heap_setCell W _ _ _ (Ne.symm h5)).trans h.d,h.b.setCell (p:=⟨bs,0,none⟩) h6 _⟩
theorem G00 {rec:LoopState→Option Code→Loop} {n0:Nat} {w0:World} {l D b2 bs bp bv:Nat} (hne:bs≠bp∧bs≠bv∧bs≠b2∧bs≠l∧bs≠D∧n0≤bs)
  (hIdx:∀(s:Str) (w:World),Calls Tryz.prog 95 #[.string ⟨s.toArray⟩,.string ⟨#[47]⟩] w (fun e w'=>e=.returned (.int .i64 (Lib.indexByte s 47))∧w'=w))
  (hY:∀rest x W,RInv rec n0 w0 l D b2 bs bp bv rest W→YieldAt Fence.wide 3 Tryz.prog l #[.string ⟨x.toArray⟩] W (fun e W'=>(O4 x=true∧e=.returned (.bool true)∧RInv rec n0 w0 l D b2 bs bp bv rest W')∨(O4 x=false∧e=.returned (.bool false)∧RFin rec n0 w0 l D b2 W')))
  (p:Str) (hp:p.length≤1073741824) (W:World) (hI:RInv rec n0 w0 l D b2 bs bp bv p W) :
  CallsIn Fence.wide 4 Tryz.prog 188 #[.func (.yield l) #[] #[],.pointer (some ⟨bp,0,none⟩),.pointer (some ⟨bs,0,none⟩),.pointer (some ⟨bv,0,none⟩)] W (fun e W'=>(∃v,e=.returned v) ∧
   (((J9 [] p).all O4=true∧∃rest,RInv rec n0 w0 l D b2 bs bp bv rest W')∨((J9 [] p).all O4=false∧RFin rec n0 w0 l D b2 W'))):=by
 refine callsIn_of_wp Tryz.func188 rfl trivial ?_ rfl
 simp only [Tryz.ntmps188,List.size_toArray,J19,J22,Nat.reduceAdd,Nat.reduceSub,Array.replicate_succ,Array.replicate_zero,List.push_toArray,List.append_toArray,J54,J37]
 have hcp:=Y4 hI.p
 gi_wp2
 gi_loopw [7] (fun v wr=>∃rest:Str,rest.length≤p.length∧(J9 [] p).all O4=(J9 [] rest).all O4∧RInv rec n0 w0 l D b2 bs bp bv rest wr) (fun v wr=>leftIn bs wr)
 case atStart=>exact ⟨p,Nat.le_refl _,rfl,hI⟩
 case round =>
  obtain ⟨rest,hl,hall,hR⟩:=hrel
  obtain ⟨hs1,hs2⟩:=Y4 hR.s
  obtain ⟨hp1,hp2⟩:=Y4 hR.p
  obtain ⟨hv1,hv2⟩:=Y4 hR.v
  rcases d5 47 rest with ⟨h1,h2⟩ | ⟨x,r,h1,h2,h3⟩
  ·rw [B88 _ _ h1] at hall
   obtain ⟨fn,tmps,assign,body,hy,hRd⟩:=hY rest rest wr hR
   gi_wp2_with (refine ⟨trivial,?_⟩;gi_at_call 95;refine (callsIn_wide.2 (hIdx rest _)).mono ?_;rintro e w' ⟨rfl,rfl⟩;rw [h2])
   refine hRd.mono ?_
   rintro e W' (⟨h5,rfl,h6⟩ | ⟨h5,rfl,h6⟩)
   ·gi_wp2
    go_end0
    exact ⟨⟨_,rfl⟩,.inl ⟨by simp [hall,h5],rest,h6⟩⟩
   ·gi_wp2
    go_end0
    exact ⟨⟨_,rfl⟩,.inr ⟨by simp [hall,h5],h6⟩⟩
  ·subst h1
   rw [B87 _ _ _ h2,List.all_cons] at hall
   have hxl:x.length < (x++47::r).length:=by simp
   have hex:(⟨(x++47::r).toArray⟩:ByteArray).extract 0 x.length=⟨x.toArray⟩:=by
    apply ByteArray.ext;rw [ByteArray.data_extract];simp
   have hex2:(⟨(x++47::r).toArray⟩:ByteArray).extract (x.length+1) (x.length+(r.length+1))=⟨r.toArray⟩:=by
    apply ByteArray.ext;rw [ByteArray.data_extract];simp;exact J40 (by omega)
   obtain ⟨fn,tmps,assign,body,hy,hRd⟩:=hY _ x wr hR
   gi_wp2_with (refine ⟨trivial,?_⟩;gi_at_call 95;refine (callsIn_wide.2 (hIdx _ _)).mono ?_;rintro e w' ⟨rfl,rfl⟩;rw [h3])
   refine hRd.mono ?_
   rintro e W' (⟨h5,rfl,h6⟩ | ⟨h5,rfl,h6⟩)
   ·obtain ⟨hs3,hs4⟩:=Y4 h6.s
    obtain ⟨hp3,hp4⟩:=Y4 h6.p
    gi_wp2
    try rw [hex2]
    have h7:=h6.step hne r
    refine ⟨⟨r,by simp at hl;omega,by simp [hall,h5],h7⟩,?_⟩
    unfold leftIn
    rw [(Y4 h7.s).1,hs1]
    show r.toArray.size < (x++47::r).toArray.size
    simp
    omega
   ·gi_wp2
    refine bodyPost_ret (results_none V _ _ _) V ?_
    exact ⟨⟨_,rfl⟩,.inr ⟨by simp [hall,h5],h6⟩⟩
def chkPost (b2:Nat) (x:Str) (W:World):Exit→Act→World→Prop
 | .normal,_,W'=>O4 x=true∧W'=W
 | .ret,_,W'=>O4 x=false∧W'=W.setCell ⟨b2,0,none⟩ (.int .i64 210)
 | _,_,_=>False
theorem G01 {ps:Array Tmp} {assign body:Code} {Q:Exit→Act→World→Prop} {a:Act} {w:World} {g:Operand} {b2 bs bp bv:Nat} {n0:Nat} {w0:World} {p:Str} (hp:p.length≤1073741824)
  (hne:bs≠bp∧bs≠bv∧bs≠b2∧n0≤bs∧n0≤b2) (hlt:bs < w.heap.size∧b2 < w.heap.size∧n0≤w.heap.size) (hps:ps.size=1)
  (hIdx:∀(s:Str) (w:World),Calls Tryz.prog 95 #[.string ⟨s.toArray⟩,.string ⟨#[47]⟩] w (fun e w'=>e=.returned (.int .i64 (Lib.indexByte s 47))∧w'=w))
  (hg:a.eval g=.func (.func 188) #[] #[.pointer (some ⟨bp,0,none⟩),.pointer (some ⟨bs,0,none⟩),.pointer (some ⟨bv,0,none⟩)])
  (hs:w.heap[bs]?=some (.cells #[.string ⟨p.toArray⟩] 9 (0,0))) (hsp:w.heap[bp]?=some (.cells #[.string ⟨#[47]⟩] 9 (0,0))) (hsv:w.heap[bv]?=some (.cells #[.int .i64 0] 3 (0,0))) (hr:w.heap[b2]?=some (.cells #[.int .i64 0] 28 (0,0))) (hb:Below n0 w0 w)
  (a₁:Str→Act)
  (hassign:∀(l:Nat) (x:Str) (W:World) (K:Act→World→Prop),K (a₁ x) W →
   assign.wpIn (Fence.wide.inRound l) 3 Tryz.prog (Exit.then K (fun _ _ _=>False)) { tmps:=(ps.zip #[Value.string ⟨x.toArray⟩]).foldl (fun t (p,v)=>t.setIfInBounds p v) a.tmps,defers:=[] } W)
  (hbody:∀(l:Nat) (x:Str) (W:World),W.heap[b2]?=some (.cells #[.int .i64 0] 28 (0,0))→body.wpIn (Fence.wide.inRound l) 3 Tryz.prog (chkPost b2 x W) (a₁ x) W)
  (hdone:∀(D:Nat) (W:World),w.heap.size≤D→(J9 [] p).all O4=true→W.heap[b2]?=some (.cells #[.int .i64 0] 28 (0,0))→W.heap[D]?=some (.deferred (some []))→Below n0 w0 W→Q .normal { a with defers:={ target:=.collected D,args:=#[] }::a.defers } W)
  (hstop:∀(D:Nat) (W:World),w.heap.size≤D→(J9 [] p).all O4=false→W.heap[b2]?=some (.cells #[.int .i64 210] 28 (0,0))→W.heap[D]?=some (.deferred (some []))→Below n0 w0 W→Code.ret.wpIn Fence.wide 5 Tryz.prog Q { a with defers:={ target:=.collected D,args:=#[] }::a.defers } W) :
  (Code.rangeFunc g ps assign body).wpIn Fence.wide 5 Tryz.prog Q a w:=by
 refine wpIn_rangeFunc ?_
 intro fn hfn
 obtain ⟨rec,hrec⟩:∃rec:LoopState→Option Code→Loop,rec=fun st pe=>{ state:=st,pending:=pe,fn,tmps:=a.tmps,params:=ps,assign,body,defers:=w.heap.size }:=⟨_,rfl⟩
 obtain ⟨W1,hW1⟩:∃W1,(w.alloc (.deferred (some []))).alloc (.loop (rec .ready none))=W1:=⟨_,rfl⟩
 have old:∀k o,w.heap[k]?=some o→W1.heap[k]?=some o:=fun k o h=>by
  have hlt:=(Array.getElem?_eq_some_iff.1 h).1
  rw [←hW1]
  exact (Below.heap_alloc _ _ _ (by rw [World.size_alloc];omega)).trans ((Below.heap_alloc _ _ _ hlt).trans h)
 have hL1:W1.heap[w.heap.size+1]?=some (.loop (rec .ready none)):=by
  rw [←hW1];have:=World.alloc_heap_new (w.alloc (.deferred (some []))) (.loop (rec .ready none));rwa [World.size_alloc] at this
 have hK1:W1.heap[w.heap.size]?=some (.deferred (some [])):=by
  rw [←hW1];exact (Below.heap_alloc _ _ _ (by simp)).trans (World.alloc_heap_new w _)
 have hb1:Below n0 w0 W1:=by
  rw [←hW1];exact hb.trans (((Below.refl n0 w).alloc hlt.2.2 _).alloc (by simp;omega) _)
 refine ⟨w.heap.size+1,[{ target:=.collected w.heap.size,args:=#[] }],W1,{ target:=.fn (.func 188) #[.pointer (some ⟨bp,0,none⟩),.pointer (some ⟨bs,0,none⟩),.pointer (some ⟨bv,0,none⟩)],args:=#[.func (.yield (w.heap.size+1)) #[] #[]] },W1,188,
  #[.func (.yield (w.heap.size+1)) #[] #[],.pointer (some ⟨bp,0,none⟩),.pointer (some ⟨bs,0,none⟩),.pointer (some ⟨bv,0,none⟩)],W1,?_,?_,?_,?_,fun _=>by omega,?_⟩
 ·rw [←hW1,hrec];exact run_enterLoop_outer _ _ _ _ _
 ·simp only [resolve,hg]
  simp [go_sem]
 ·intro f' hf';trivial
 ·simp [invoke,go_sem]
 ·have hY:∀rest x W,RInv rec n0 w0 (w.heap.size+1) w.heap.size b2 bs bp bv rest W→YieldAt Fence.wide 3 Tryz.prog (w.heap.size+1) #[.string ⟨x.toArray⟩] W (fun e W'=>(O4 x=true∧e=.returned (.bool true)∧RInv rec n0 w0 (w.heap.size+1) w.heap.size b2 bs bp bv rest W')∨(O4 x=false∧e=.returned (.bool false)∧RFin rec n0 w0 (w.heap.size+1) w.heap.size b2 W')):=by
   intro rest x W hI
   have hy:=run_yield (P:=Tryz.prog) (args:=#[Value.string ⟨x.toArray⟩]) hI.l (by rw [hrec];exact hps.symm)
   rw [hrec] at hy
   refine ⟨fn,_,assign,body,hy,roundIn_of_wpIn hfn (hassign _ x W _ ⟨_,run_beginRound hI.l (by rw [hrec]),?_⟩)⟩
   have hltl:w.heap.size+1 < W.heap.size:=(Array.getElem?_eq_some_iff.1 hI.l).1
   obtain ⟨W2,hW2⟩:∃W2,W.putObj (w.heap.size+1) (.loop { rec .ready none with state:=.busy })=W2:=⟨_,rfl⟩
   rw [hW2]
   have oth:∀k,k≠w.heap.size+1→W2.heap[k]?=W.heap[k]?:=fun k hk=>by rw [←hW2];exact World.putObj_heap_other hk
   have hl2:W2.heap[w.heap.size+1]?=some (.loop { rec .ready none with state:=.busy }):=by rw [←hW2];exact World.putObj_heap_same hltl
   have hbB:∀(o:Obj) (X:World),Below n0 w0 X→w.heap.size+1 < X.heap.size→Below n0 w0 (X.putObj (w.heap.size+1) o):=fun o X hX hXs=>hX.grown (grownBy_putObj' X _ o) (by have:=hX.size;omega) (fun k e=>by cases e;omega)
   have hb2:Below n0 w0 W2:=by rw [←hW2];exact hbB _ _ hI.b hltl
   refine wpIn_mono (hbody _ x W2 ((oth _ (by omega)).trans hI.r)) ?_
   rintro e a3 W3 hp
   cases e with
   | normal =>
    obtain ⟨hok,rfl⟩:=hp
    refine ⟨_,_,run_endRound none hl2,.inl ⟨hok,rfl,?_⟩⟩
    have fin:∀k,k≠w.heap.size+1→(W3.putObj (w.heap.size+1) (.loop { rec .ready none with state:=.ready,pending:=none })).heap[k]?=W.heap[k]?:=fun k hk=>(World.putObj_heap_other hk).trans (oth k hk)
    have hsz:w.heap.size+1 < W3.heap.size:=(Array.getElem?_eq_some_iff.1 hl2).1
    have hbs:=(Array.getElem?_eq_some_iff.1 hs).1
    have hbp:=(Array.getElem?_eq_some_iff.1 hsp).1
    have hbv:=(Array.getElem?_eq_some_iff.1 hsv).1
    refine ⟨(fin _ (by omega)).trans hI.s,(fin _ (by omega)).trans hI.p,(fin _ (by omega)).trans hI.v,(fin _ (by omega)).trans hI.r,?_,(fin _ (by omega)).trans hI.d,hbB _ _ hb2 hsz⟩
    refine (World.putObj_heap_same hsz).trans ?_
    rw [hrec];rfl
   | ret =>
    obtain ⟨hok,rfl⟩:=hp
    have hl3:(W2.setCell ⟨b2,0,none⟩ (.int .i64 210)).heap[w.heap.size+1]?=some (.loop { rec .ready none with state:=.busy }):=(Below.heap_setCell W2 _ _ _ (by show w.heap.size+1≠b2;omega)).trans hl2
    have hsz:w.heap.size+1 < (W2.setCell ⟨b2,0,none⟩ (.int .i64 210)).heap.size:=(Array.getElem?_eq_some_iff.1 hl3).1
    refine ⟨_,_,run_endRound (some .ret) hl3,.inr ⟨hok,rfl,?_⟩⟩
    refine ⟨(World.putObj_heap_other (by omega)).trans (o8 ((oth _ (by omega)).trans hI.r)),?_,?_,hbB _ _ (hb2.setCell (p:=⟨b2,0,none⟩) hne.2.2.2.2 _) hsz⟩
    ·refine (World.putObj_heap_same hsz).trans ?_
     rw [hrec];rfl
    ·exact (World.putObj_heap_other (by omega)).trans ((Below.heap_setCell W2 _ _ _ (by show w.heap.size≠b2;omega)).trans ((oth _ (by omega)).trans hI.d))
   | _=>exact hp.elim
  refine (G00 ⟨hne.1,hne.2.1,hne.2.2.1,by omega,by omega,hne.2.2.2.1⟩ hIdx hY p hp W1 ⟨old _ _ hs,old _ _ hsp,old _ _ hsv,old _ _ hr,hL1,hK1,hb1⟩).mono ?_
  have hbE:∀(o:Obj) (X:World),Below n0 w0 X→w.heap.size+1 < X.heap.size→Below n0 w0 (X.putObj (w.heap.size+1) o):=fun o X hX hXs=>hX.grown (grownBy_putObj' X _ o) (by have:=hX.size;omega) (fun k e=>by cases e;omega)
  rintro e W2 ⟨⟨v,rfl⟩,(⟨hall,rest,hI⟩ | ⟨hall,hI⟩)⟩
  ·have hsz:w.heap.size+1 < W2.heap.size:=(Array.getElem?_eq_some_iff.1 hI.l).1
   refine ⟨none,_,by have:=run_endLoop (P:=Tryz.prog) hI.l (by rw [hrec];simp);rw [hrec] at this;exact this,?_⟩
   exact hdone _ _ (Nat.le_refl _) hall ((World.putObj_heap_other (by omega)).trans hI.r) ((World.putObj_heap_other (by omega)).trans hI.d) (hbE _ _ hI.b hsz)
  ·have hsz:w.heap.size+1 < W2.heap.size:=(Array.getElem?_eq_some_iff.1 hI.l).1
   refine ⟨some .ret,_,by have:=run_endLoop (P:=Tryz.prog) hI.l (by rw [hrec];simp);rw [hrec] at this;exact this,?_⟩
   exact hstop _ _ (Nat.le_refl _) hall ((World.putObj_heap_other (by omega)).trans hI.r) ((World.putObj_heap_other (by omega)).trans hI.d) (hbE _ _ hI.b hsz)
theorem G02 (w:World) (s p:ByteArray):CallsIn Fence.wide 3 Tryz.prog 172 #[.string s,.string p,.int .i64 0] w fun e w' =>
  e=.returned (.func (.func 188) #[] #[.pointer (some ⟨w.heap.size+1,0,none⟩),.pointer (some ⟨w.heap.size,0,none⟩),.pointer (some ⟨w.heap.size+1+1,0,none⟩)]) ∧
  w'=((w.alloc (.cells #[.string s] 9)).alloc (.cells #[.string p] 9)).alloc (.cells #[.int .i64 0] 3):=by
 have hmf:∀(fn:Fn) (first cap:Array Value) (w:World),(Instr.makeFunc fn first cap).run Tryz.prog w=.ok (.func fn first cap) w:=fun _ _ _ _=>rfl
 refine callsIn_of_wp Tryz.func172 rfl trivial ?_ rfl
 simp only [Tryz.ntmps172,List.size_toArray,J19,J22,Nat.reduceAdd,Nat.reduceSub,Array.replicate_succ,Array.replicate_zero,List.push_toArray,List.append_toArray,J54,J37]
 gi_wp2
 go_ret
 exact ⟨rfl,rfl⟩
theorem G03 (w:World) (s p:ByteArray):CallsIn Fence.wide 4 Tryz.prog 150 #[.string s,.string p] w fun e w' =>
  e=.returned (.func (.func 188) #[] #[.pointer (some ⟨w.heap.size+1,0,none⟩),.pointer (some ⟨w.heap.size,0,none⟩),.pointer (some ⟨w.heap.size+1+1,0,none⟩)]) ∧
  w'=((w.alloc (.cells #[.string s] 9)).alloc (.cells #[.string p] 9)).alloc (.cells #[.int .i64 0] 3):=by
 refine callsIn_of_wp Tryz.func150 rfl trivial ?_ rfl
 simp only [Tryz.ntmps150,List.size_toArray,J19,J22,Nat.reduceAdd,Nat.reduceSub,Array.replicate_succ,Array.replicate_zero,List.push_toArray,List.append_toArray,J54,J37]
 gi_wp2_with (refine ⟨trivial,?_⟩;gi_at_call 172;refine (G02 _ _ _).mono ?_;rintro e w' ⟨rfl,rfl⟩)
 go_ret
 exact ⟨rfl,rfl⟩
theorem C35 {tmps:Array Value} {b:Nat} {v:Value} {W:World} (ht:tmps[2]?.getD undef=.pointer (some ⟨b,0,none⟩)) (hc:W.heap[b]?=some (.cells #[v] 28 (0,0))):(results Tryz.f129 tmps).run Tryz.prog W=.ok v W:=by
 have h1:=(Y4 hc).1
 simp [results,Tryz.results129,go_sem,h1,ht]
theorem F30 (p:Str) (hp:p.length≤1073741824)
  (hIdx:∀(s:Str) (w:World),Calls Tryz.prog 95 #[.string ⟨s.toArray⟩,.string ⟨#[47]⟩] w (fun e w'=>e=.returned (.int .i64 (Lib.indexByte s 47))∧w'=w))
  (hCon:∀(s:Str) (w:World),Calls Tryz.prog 149 #[.string ⟨s.toArray⟩,.string ⟨#[0]⟩] w (fun e w'=>e=.returned (.bool (decide (0≤Lib.indexByte s 0)))∧w'=w)) (w:World) :
  CallsIn Fence.wide 5 Tryz.prog 129 #[.string ⟨p.toArray⟩] w (fun e w'=>e=.returned (.int .i64 (if p.length > 200∨0≤Lib.indexByte p 0 then 210 else if (J9 [] p).all O4=true then 0 else 210))∧Below w.heap.size w w'):=by
 refine callsIn_of_wp_marks Tryz.func129 rfl trivial ?_ rfl
 simp only [Tryz.ntmps129,List.size_toArray,J19,J22,Nat.reduceAdd,Nat.reduceSub,Array.replicate_succ,Array.replicate_zero,List.push_toArray,List.append_toArray,J54,J37]
 have hnew:=Y4 (World.alloc_heap_new w (.cells #[.int .i64 0] 28))
 have hB:Below w.heap.size w (w.alloc (.cells #[.int .i64 0] 28)):=(Below.refl _ w).alloc (Nat.le_refl _) _
 by_cases h1:200 < p.length
 ·rw [if_pos (.inl h1)]
  gi_wp2_with (refine ⟨trivial,?_⟩)
  exact ⟨_,C35 rfl (World.alloc_heap_new w _),rfl,(Below.refl _ w).alloc (Nat.le_refl _) _⟩
 by_cases h2:0≤Lib.indexByte p 0
 ·rw [if_pos (.inr h2)]
  gi_wp2_with (refine ⟨trivial,?_⟩;gi_at_call 149;refine (callsIn_wide.2 (hCon p _)).mono ?_;rintro e w' ⟨rfl,rfl⟩)
  exact ⟨_,C35 rfl (World.alloc_heap_new w _),rfl,(Below.refl _ w).alloc (Nat.le_refl _) _⟩
 ·rw [if_neg (by omega)]
  obtain ⟨r,hr0⟩:∃r:Int,(if (J9 [] p).all O4=true then 0 else 210:Int)=r:=⟨_,rfl⟩
  rw [hr0]
  gi_wp2_with (first | (refine ⟨trivial,?_⟩;gi_at_call 149;refine (callsIn_wide.2 (hCon p _)).mono ?_;rintro e w' ⟨rfl,rfl⟩) | (refine ⟨trivial,?_⟩;gi_at_call 150;refine (G03 _ _ _).mono ?_;rintro e w' ⟨rfl,rfl⟩))
  obtain ⟨W0,hW0⟩:∃W0,(((w.alloc (.cells #[.int .i64 0] 28)).alloc (.cells #[.string ⟨p.toArray⟩] 9)).alloc (.cells #[.string ⟨#[47]⟩] 9)).alloc (.cells #[.int .i64 0] 3)=W0:=⟨_,rfl⟩
  have hsz:W0.heap.size=w.heap.size+4:=by rw [←hW0];simp
  have g0:W0.heap[w.heap.size]?=some (.cells #[.int .i64 0] 28 (0,0)):=by
   rw [←hW0]
   refine (Below.heap_alloc _ _ _ (by simp;omega)).trans ((Below.heap_alloc _ _ _ (by simp;omega)).trans ((Below.heap_alloc _ _ _ (by simp)).trans (World.alloc_heap_new w _)))
  have g1:W0.heap[w.heap.size+1]?=some (.cells #[.string ⟨p.toArray⟩] 9 (0,0)):=by
   rw [←hW0]
   refine (Below.heap_alloc _ _ _ (by simp)).trans ((Below.heap_alloc _ _ _ (by simp)).trans ?_)
   have:=World.alloc_heap_new (w.alloc (.cells #[.int .i64 0] 28)) (.cells #[.string ⟨p.toArray⟩] 9)
   rwa [World.size_alloc] at this
  have g2:W0.heap[w.heap.size+1+1]?=some (.cells #[.string ⟨#[47]⟩] 9 (0,0)):=by
   rw [←hW0]
   refine (Below.heap_alloc _ _ _ (by simp)).trans ?_
   have:=World.alloc_heap_new ((w.alloc (.cells #[.int .i64 0] 28)).alloc (.cells #[.string ⟨p.toArray⟩] 9)) (.cells #[.string ⟨#[47]⟩] 9)
   simp only [World.size_alloc] at this
   exact this
  have g3:W0.heap[w.heap.size+1+1+1]?=some (.cells #[.int .i64 0] 3 (0,0)):=by
   rw [←hW0]
   have:=World.alloc_heap_new (((w.alloc (.cells #[.int .i64 0] 28)).alloc (.cells #[.string ⟨p.toArray⟩] 9)).alloc (.cells #[.string ⟨#[47]⟩] 9)) (.cells #[.int .i64 0] 3)
   simp only [World.size_alloc] at this
   exact this
  have hb0:Below w.heap.size w W0:=by
   rw [←hW0]
   exact (((hB.alloc (by simp) _).alloc (by simp;omega) _).alloc (by simp;omega) _)
  rw [hW0]
  refine G01 (b2:=w.heap.size) (bs:=w.heap.size+1) (bp:=w.heap.size+1+1) (bv:=w.heap.size+1+1+1) (n0:=w.heap.size) (w0:=w) (p:=p) hp (by omega) (by omega) rfl hIdx rfl g1 g2 g3 g0 hb0 (fun x=>{ tmps:=#[.string ⟨p.toArray⟩,undef,.pointer (some ⟨w.heap.size,0,none⟩),.string ⟨x.toArray⟩,.string ⟨p.toArray⟩,.int .i64 p.length,.bool (decide (200 < (p.length:Int))),.bool (decide (200 < (p.length:Int))),.string ⟨p.toArray⟩,.bool (decide (0≤Lib.indexByte p 0)),.bool (decide (200 < (p.length:Int))||decide (0≤Lib.indexByte p 0)),.string ⟨p.toArray⟩,.func (.func 188) #[] #[.pointer (some ⟨w.heap.size+1+1,0,none⟩),.pointer (some ⟨w.heap.size+1,0,none⟩),.pointer (some ⟨w.heap.size+1+1+1,0,none⟩)],.string ⟨x.toArray⟩,undef,undef,undef,undef,undef,undef,undef,undef,undef,undef],defers:=[] }) ?assign ?body ?done ?stop
  case assign =>
   intro l x W K hK
   gi_wp2
   exact hK
  case body =>
   intro l x W hr
   obtain ⟨hc1,hc2⟩:=Y4 hr
   by_cases e1:x=[]
   ·subst e1
    gi_wp2
    exact ⟨rfl,rfl⟩
   by_cases e2:x=[46]
   ·subst e2
    gi_wp2
    exact ⟨rfl,rfl⟩
   by_cases e3:x=[46,46]
   ·subst e3
    gi_wp2
    exact ⟨rfl,rfl⟩
   have f1:x.isEmpty=false:=by cases x with | nil=>exact absurd rfl e1 | cons _ _=>rfl
   have f2:(x == [46])=false:=by simpa using e2
   have f3:(x == [46,46])=false:=by simpa using e3
   have hok:O4 x=true:=decide_eq_true ⟨e1,e2,e3⟩
   clear e1 e2 e3
   gi_wp2
   all_goals exact ⟨hok,rfl⟩
  case done =>
   intro D W hD hall hr hK hb
   obtain ⟨hc1,hc2⟩:=Y4 hr
   rw [if_pos hall] at hr0
   subst hr0
   clear hall
   gi_wp2
   have hK2:(W.setCell ⟨w.heap.size,0,none⟩ (.int .i64 0)).heap[D]?=some (.deferred (some [])):=(Below.heap_setCell W _ _ _ (by show D≠w.heap.size;omega)).trans hK
   refine ⟨by simp,.inl ⟨_,_,rfl,run_takeDeferred hK2,?_⟩⟩
   refine ⟨_,C35 rfl ((World.putObj_heap_other (by omega)).trans (o8 hr)),rfl,?_⟩
   have hb3:=hb.setCell (p:=⟨w.heap.size,0,none⟩) (Nat.le_refl _) (.int .i64 0)
   exact hb3.grown (grownBy_putObj' _ _ _) (by have:=hb3.size;omega) (fun k e=>by cases e;omega)
  case stop =>
   intro D W hD hall hr hK hb
   rw [hall,if_neg (by decide)] at hr0
   subst hr0
   clear hall
   gi_wp2
   refine ⟨by simp,.inl ⟨_,_,rfl,run_takeDeferred hK,?_⟩⟩
   refine ⟨_,C35 rfl ((World.putObj_heap_other (by omega)).trans hr),rfl,?_⟩
   exact hb.grown (grownBy_putObj' W _ _) (by have:=hb.size;omega) (fun k e=>by cases e;omega)
theorem E44 (p:Str) (hp:p.length≤1073741824):FnOk Tryz.prog 129 [M3 p] (fun rs=>rs=[F2 (L4 p)]) :=
 J03 (xs:=[.string ⟨p.toArray⟩]) ⟨_,rfl,rfl,rfl⟩ rfl fun w hg=>by
  have h:=callsIn_wide.1 (F30 p hp (fun s w=>by simpa using Tryz.strings_Index_one ⟨s.toArray⟩ 47 w) (fun s w=>by simpa using Tryz.strings_Contains_one ⟨s.toArray⟩ 0 w) w)
  refine h.mono ?_
  rintro e w' ⟨rfl,hb⟩
  refine ⟨?_,hb⟩
  rw [F47]
  have hc:p.contains 0=true↔0≤Lib.indexByte p 0:=by rw [E58,List.contains_iff_mem]
  simp only [hc]
set_option maxHeartbeats 1000000
structure FewF (l:List File):Prop where
 len:l.length≤1073741824
 path:∀f∈l,f.Path.length≤1073741824
 blob:∀f∈l,f.Blob.length≤16777216
theorem G74 (f:File) (hp:f.Path.length≤1073741824):FnOk Tryz.prog 128 [H58 f] (fun rs=>rs=[H5 (decide (L4 f.Path≠0))]):=by
 refine FnOk.intro Tryz.func128 (by decide) V V V V ?_
 refine k2 (A2 (C9 (x4 1 V V V) V (A6 V V (A4 ?_))));refine k1 (k2 (A2 (A5 (A7 V) V (G4 V V V V (D3 (E44 f.Path hp) V V V ?_)))));rintro _ rfl;refine A5 (Q8 V V) V (A6 V V (A4 ?_));refine k1 (k10 ?_)
 exact B6 (G7 rfl rfl rfl) rfl
theorem G75 (f:File) (hp:f.Blob.length≤16777216):FnOk Tryz.prog 131 [H58 f] (fun rs=>rs=[H5 (decide (Q6 f.Blob≠0))]):=by
 refine FnOk.intro Tryz.func131 (by decide) V V V V ?_
 refine k2 (A2 (C9 (x4 1 V V V) V (A6 V V (A4 ?_))));refine k1 (k2 (A2 (A5 (A7 V) V (G4 V V V V (D3 (E77 f.Blob (by omega)) V V V ?_)))));rintro _ rfl;refine A5 (Q8 V V) V (A6 V V (A4 ?_));refine k1 (k10 ?_)
 exact B6 (G7 rfl rfl rfl) rfl
theorem C09 (l:List File) (h:FewF l):FnOk Tryz.prog 91 [T9 l] (fun rs=>rs=[F2 (F5 l)]):=by
 have hl:=h.len
 refine FnOk.intro Tryz.func91 (by decide) V V V V ?_
 refine k2 (A2 (A6 V V (A4 ?_)));refine k1 (k2 (k3 (k2 (A2 (A3 V V (E0 V V (A5 (M5 V V) V (A6 V V (A4 ?_)))))))));refine k1 ?_;refine B0 rfl (fun ht=>?_) (fun ht=>?_)
 ·have h1:(200:Int) < l.length:=A0 ht
  refine k2 (A2 (A6 V V (A4 ?_)));refine k1 (k10 (k12 (k11 ?_)))
  exact B6 (rs:=[F2 1]) (G7 rfl rfl rfl) (by unfold F5;rw [if_pos (by omega)])
 have h1:¬(200:Int) < l.length:=A1 ht
 refine k2 (A2 (A3 V V (D3 (B06 128 (fun f=>decide (L4 f.Path≠0)) l hl (fun f hf=>G74 f (h.path f hf))) V V V ?_)));rintro _ rfl;refine A6 V V (A4 ?_);refine k1 ?_;refine B0 rfl (fun ht=>?_) (fun ht=>?_)
 ·refine k2 (A2 (A6 V V (A4 ?_)));refine k1 (k10 (k12 (k11 ?_)))
  exact B6 (rs:=[F2 210]) (G7 rfl rfl rfl) (by unfold F5;rw [if_neg (by omega),if_pos ht])
 have h2:=ht
 refine k2 (A2 (A3 V V (D3 (F96 l hl h.path) V V V ?_)));rintro _ rfl;refine A5 (U2 V) V (A6 V V (A4 ?_));refine k1 ?_;refine B0 rfl (fun ht=>?_) (fun ht=>?_)
 ·refine k2 (A2 (A6 V V (A4 ?_)));refine k1 (k10 (k12 (k11 ?_)))
  exact B6 (rs:=[F2 211]) (G7 rfl rfl rfl) (by unfold F5;rw [if_neg (by omega),if_neg (by rw [h2];decide),if_pos (by simpa using ht)])
 have h3:M2 l=true:=by simpa using ht
 refine k2 (A2 (A3 V V (D3 (B06 131 (fun f=>decide (Q6 f.Blob≠0)) l hl (fun f hf=>G75 f (h.blob f hf))) V V V ?_)));rintro _ rfl;refine A6 V V (A4 ?_);refine k1 ?_;refine B0 rfl (fun ht=>?_) (fun ht=>?_)
 ·refine k2 (A2 (A6 V V (A4 ?_)));refine k1 (k10 (k12 (k11 ?_)))
  exact B6 (rs:=[F2 1]) (G7 rfl rfl rfl) (by unfold F5;rw [if_neg (by omega),if_neg (by rw [h2];decide),if_neg (by rw [h3];decide),if_pos ht])
 ·refine k5 (k2 (A2 (A6 V V (A4 ?_))));refine k1 (k10 ?_)
  exact B6 (rs:=[F2 0]) (G7 rfl rfl rfl) (by unfold F5;rw [if_neg (by omega),if_neg (by rw [h2];decide),if_neg (by rw [h3];decide),if_neg (by rw [ht];decide)])
theorem I56 (a b:List File) (ha:FewF a) (hb:FewF b):FnOk Tryz.prog 119 [T9 a,T9 b] (fun rs=>rs=[F2 (if F5 a≠0 then F5 a else F5 b)]):=by
 refine FnOk.intro Tryz.func119 (by decide) V V V V ?_
 refine k2 (A2 (A6 V V (A4 ?_)));refine k1 (k2 (k2 (A2 (A3 V V (D3 (C09 a ha) V V V ?_)))));rintro _ rfl;refine A6 V V (A4 ?_);refine k1 (k2 (A2 (A3 V V (A5 (Q8 V V) V (A4 ?_)))));refine k1 ?_;refine B0 rfl (fun ht=>?_) (fun ht=>?_)
 ·have h1:F5 a≠0:=A0 ht
  refine k2 (A2 (A3 V V (A6 V V (A4 ?_))));refine k1 (k10 (k11 ?_))
  exact B6 (rs:=[F2 (F5 a)]) (G7 rfl rfl rfl) (by rw [if_pos h1])
 ·have h1:¬F5 a≠0:=A1 ht
  refine k5 (k1 (k2 (A2 (A3 V V (D3 (C09 b hb) V V V ?_)))));rintro _ rfl;refine A6 V V (A4 ?_);refine k1 (k10 ?_)
  exact B6 (rs:=[F2 (F5 b)]) (G7 rfl rfl rfl) (by rw [if_neg h1])
theorem G04 (l:List File) (p:Str) (hl:l.length≤1073741824):FnOk Tryz.prog 55 [T9 l,M3 p] (fun rs=>rs=[M3 ((H8 l p).getD []),H5 (H8 l p).isSome]):=by
 refine FnOk.intro Tryz.func55 (by decide) V V V V ?_
 refine k2 (A2 (A6 V V (A6 V V (A4 ?_))));refine k1 (k2 (k2 (A2 (A3 V V (E0 V V (A3 V V (A4 ?_)))))));refine k1 (k3 (C5 (X:=Nat) (fun i=>([(1,T7 p),(8,C6 File 2 R9 l),(9,C0 l.length),(10,C0 i)],[])) (fun i=>i≤l.length∧H8 l p=H8 (l.drop i) p) (fun i=>l.length - i) 0 ⟨Nat.zero_le _,rfl⟩ (I90 ⟨le1 rfl,le1 rfl,le1 rfl,le1 rfl,trivial⟩ trivial) ?_))
 rintro i ⟨hi,hf⟩
 dsimp only at hi hf ⊢
 refine k2 (A2 (E8 V V V (A4 ?_)));refine k1 (k2 ?_);refine B0 rfl (fun ht=>?_) (fun ht=>?_)
 rotate_left
 ·have h1:i=l.length:=by have h1:=A1 ht;(try dsimp only at h1);omega
  rw [J31 (by omega)] at hf
  rw [hf]
  refine k6 (k2 (A2 (A6 V V (A6 V V (A4 ?_)))));refine k1 (k10 ?_)
  exact B6 (rs:=[M3 [],H5 false]) (X8 rfl rfl rfl rfl rfl) rfl
 have hlt:i < l.length:=by have h1:=A0 ht;(try dsimp only at h1);omega
 obtain ⟨f,hfe⟩:∃f,f=l[i]:=⟨_,rfl⟩
 have hv:l[i]?=some f:=by rw [hfe];simp [hlt]
 rw [J24 hlt,←hfe] at hf
 have hfs:H8 (f::l.drop (i+1)) p=if f.Path=p then some f.Blob else H8 (l.drop (i+1)) p:=rfl
 rw [hfs] at hf
 refine k5 (k1 (k2 (k3 (k2 (A2 (A5 (A9 V (.pure _ _ _ _) V (by omega) hv) V (A5 (D7 V V) V (C9 (J4 7 V) V (G8 (C1 TySz.out V V V V V V) (A4 ?_))))))))));refine k1 (k2 (A2 (A5 (A7 V) V (G4 V V V V (A3 V V (A5 (j7 V V) V (A4 ?_)))))));refine k1 ?_;refine B0 rfl (fun ht=>?_) (fun ht=>?_)
 ·have h1:f.Path=p:=A0 ht
  rw [if_pos h1] at hf
  rw [hf]
  refine k2 (A2 (A5 (A7 V) V (G4 V V V V (A6 V V (A6 V V (A4 ?_))))));refine k1 (k10 (k12 (k11 (k11 (k12 (k11 ?_))))))
  exact B6 (rs:=[M3 f.Blob,H5 true]) (X8 rfl rfl rfl rfl rfl) rfl
 ·have h1:¬f.Path=p:=A1 ht
  rw [if_neg h1] at hf
  refine k5 (k4 (k1 (A2 (D2 V V V (A3 V V (A4 ?_))))));refine k1 ?_
  exact ⟨i+1,⟨hlt,hf⟩,by omega,(I90 ⟨le1 rfl,le1 rfl,le1 rfl,le1 rfl,trivial⟩ trivial)⟩
end Go.Proofs.YtgppobpengmbkaaGreatDoor
