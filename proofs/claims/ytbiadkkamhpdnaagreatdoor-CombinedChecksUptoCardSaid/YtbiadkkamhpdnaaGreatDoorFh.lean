/- Walks of the program's functions. -/
import Derived.Test.YtbiadkkamhpdnaaGreatDoorFg
import Derived.Test.YtbiadkkamhpdnaaGreatDoorFs
import Derived.Test.YtbiadkkamhpdnaaGreatDoorFd
import Derived.Test.YtbiadkkamhpdnaaGreatDoorFb
import Derived.Test.YtbiadkkamhpdnaaGreatDoorFa
import Derived.Test.YtbiadkkamhpdnaaGreatDoorFe
import Derived.Test.YtbiadkkamhpdnaaGreatDoorFc
set_option linter.unusedSimpArgs false
namespace Go.Proofs.YtbiadkkamhpdnaaGreatDoor
open Go Go.AL
set_option maxRecDepth 100000
theorem B60:∀(ls:List (List Int)) (acc:List Merged) (p B:Nat),(∀x∈ls,x.length≤B)→acc.length+ls.length*B≤4096→(H8 acc p ls).2=0
 | [],acc,p,B,_,_=>rfl
 | x::r,acc,p,B,h,hb=>by
  have hx:=h x (by simp)
  rw [K08,K32,Nat.one_mul] at hb
  have hj:=A66 acc x p
  unfold H8
  rw [if_neg (by omega)]
  exact B60 r _ _ B (fun y hy=>h y (by simp [hy])) (by omega)
theorem F73 (p:Nat) (h:p≤32):IntKind.u32.wrap (1*2 ^ (min (p:Int).toNat IntKind.u32.bits))=H0 p:=by
 unfold H0;rw [A86 (n:=(p:Int)) (by omega)]
set_option maxHeartbeats 1000000
theorem G36 (ls:List (List Int)) (B:Nat) (hpos:0 < ls.length) (hn:ls.length≤32) (hB:∀x∈ls,x.length≤B) (hb:ls.length*B≤4096):FnOk Tryz.prog 176 [pIntss ls] (fun rs=>rs=[pMerged (E6 ls).1,H3 0]):=by
 obtain ⟨W,hW⟩:∃W,W=(E6 ls).1:=⟨_,rfl⟩
 have hW2:W=(H8 [] 0 ls).1:=by rw [hW];unfold E6;rw [if_neg (by omega)]
 rw [←hW]
 have h0:∀x,ls[(0:Int).toNat]?=some x→x.length≤4096:=fun x hx=>by
  have h1:=hB x (K27 hx)
  have h2:0 < ls.length:=List.length_pos_of_mem (K27 hx)
  have h3:1*B≤ls.length*B:=K21 _ h2
  omega
 have hx0:0 < ls.length→∃x,ls[(0:Int).toNat]?=some x∧x.length≤4096:=fun h=>⟨ls[0],K07 h,h0 _ (K07 h)⟩
 refine FnOk.intro Tryz.func176 (by decide) Z Z Z Z ?_
 refine k2 (A3 (A7 Z Z (A7 Z Z (A5 ?_))));refine k1 (k2 (k2 ?_))
 obtain ⟨x0,hv0,hxl⟩:=hx0 hpos
 refine A3 (A4 Z Z (E7 Z Z (A6 (N5 Z Z) Z (A4 Z Z (B2 Z Z Z Z (fun hg=>by rw [hg];exact B7 Z Z) ?_)))));refine B2 Z Z Z Z (fun hg=>by rw [hg];exact V3 Z (.pure _ _ _ _)) ?_;refine B2 Z Z Z Z (fun hg=>by rw [hg];exact N5 Z Z) ?_;refine B2 Z Z Z Z (fun hg=>by rw [hg];exact B7 Z Z) ?_;refine I0 Z Z Z (.gd (.val _)) Z (fun hg=>by obtain ⟨hg1,hg2⟩:=N7 hg;(try rw [hg1]);(try rw [hg2]);exact B7 Z Z) ?_;refine I0 Z Z Z (.gd (.val _)) Z (fun hg=>by have hq:=hg;(try simp at hq);obtain ⟨hg1,hg2⟩:=N7 hg;(try rw [hg1]);(try rw [hg2]);exact B0 Z (.pure _ _ _ _) Z (by omega) hv0) ?_;refine I0 Z Z Z (.gd (.val _)) Z (fun hg=>by obtain ⟨hg1,hg2⟩:=N7 hg;(try rw [hg1]);(try rw [hg2]);exact B1 Z Z) ?_;refine I0 Z Z Z (.gd (.val _)) Z (fun hg=>by obtain ⟨hg1,hg2⟩:=N7 hg;(try rw [hg1]);(try rw [hg2]);exact V3 Z (.pure _ _ _ _)) ?_;refine I0 Z Z Z (.gd (.val _)) Z (fun hg=>by obtain ⟨hg1,hg2⟩:=N7 hg;(try rw [hg1]);(try rw [hg2]);exact N5 Z Z) ?_;refine B2 Z Z Z Z (fun hg=>by rw [hg];exact F6 Z (fun h=>by first | rfl | (rw [h];rfl)) (fun h=>by first | rfl | (rw [h];rfl))) ?_;refine J4 Z Z ?_;refine A5 ?_;refine k1 ?_;refine B3 rfl (fun ht=>?_) (fun ht=>?_)
 ·exfalso
  have q1:¬((ls.length:Int) > 32):=by omega
  have q2:¬((x0.length:Int) > 4096):=by omega
  simp [q1,q2] at ht
 refine M9 [(0,C3 (List Int) 1 intsC ls)] [] (J69 ⟨le1 rfl,trivial⟩ trivial) ?_
 refine k5 (k1 (k2 (A3 (A6 (M8 _ 2 mergedC) Z (A5 ?_)))));refine k1 (k2 (k2 (A3 (A4 Z Z (E7 Z Z (A4 Z Z (A5 ?_)))))));refine k1 (k3 (D6 (X:=Nat × List Merged) (fun x=>([(4,C3 Merged 2 mergedC x.2),(23,C3 (List Int) 1 intsC ls),(24,B9 ls.length),(25,B9 x.1)],[])) (fun x=>x.1≤ls.length∧x.2.length≤x.1*B∧W=(H8 x.2 x.1 (ls.drop x.1)).1) (fun x=>ls.length - x.1) (0,[]) ⟨Nat.zero_le _,(by simp),hW2⟩ (J69 ⟨le1 rfl,le1 rfl,le1 rfl,le1 rfl,trivial⟩ trivial) ?_))
 rintro ⟨p,acc⟩ ⟨hp,hal,hw⟩
 dsimp only at hp hal hw ⊢
 have hpB:p*B≤ls.length*B:=K21 _ hp
 refine k2 (A3 (E4 Z Z Z (A5 ?_)));refine k1 (k2 ?_);refine B3 rfl (fun ht=>?_) (fun ht=>?_)
 rotate_left
 ·have hpl:p=ls.length:=by have:=A1 ht;omega
  rw [hpl,K15 (Nat.le_refl _)] at hw
  have hw:W=acc:=hw
  refine k6 (k2 (A3 (A4 Z Z (A7 Z Z (A7 Z Z (A5 ?_))))));refine k1 (k10 ?_)
  exact B6 (s6 rfl rfl rfl rfl rfl) (by rw [hw])
 have hlt:p < ls.length:=by have:=A0 ht;omega
 have hv:ls[p]?=some ls[p]:=by simp [hlt]
 have hx:=hB _ (K17 hlt)
 rw [K13 hlt,H8] at hw
 obtain ⟨x,hxd⟩:∃x,x=ls[p]:=⟨_,rfl⟩
 rw [←hxd] at hv hx hw
 have h1B:1*B≤ls.length*B:=K21 _ hpos
 rw [if_neg (by omega)] at hw
 have hjs:=A66 acc x p
 have hM:=I94 acc x (H0 p) (by omega) (by omega)
 have hres:D37 acc x (H0 p)=R8 acc x p:=rfl
 rw [hres] at hM
 refine k5 (k1 (k2 (k3 (k2 (A3 (A4 Z Z (A6 (B0 Z (.pure _ _ _ _) Z (by omega) hv) Z (A6 (B1 Z Z) Z (A7 Z Z (A7 Z Z (A5 ?_)))))))))));refine k1 (k2 (A3 (A7 Z Z (A5 ?_))));refine k1 (k2 (A3 (A4 Z Z (A4 Z Z (A4 Z Z (A6 (E20 Z Z (by (show (0:Int)≤(p:Int);omega))) Z ?_))))));rw [F73 p (by omega)];refine C4 hM Z Z Z ?_;rintro _ rfl;refine A4 Z Z (H9 Z Z Z (H9 Z Z Z (A7 Z Z (A7 Z Z (A5 ?_)))));refine k1 (k2 (A3 (A4 Z Z (A6 (O9 Z Z) Z (A5 ?_)))));refine k1 ?_;refine B3 rfl (fun ht=>?_) (fun ht=>?_)
 ·cases ht
 refine k5 (k4 (k1 (A3 (C6 Z Z Z (A4 Z Z (A5 ?_))))));refine k1 ?_
 exact ⟨(p+1,R8 acc x p),⟨by dsimp only;omega,by dsimp only;rw [K32];omega,hw⟩,by dsimp only;omega,J69 ⟨le1 rfl,le1 rfl,le1 rfl,le1 rfl,trivial⟩ trivial⟩
theorem E63 (files:List (List Str)) (hn:files.length≤1048576) (hl:files.flatten.length≤536870911):FnOk Tryz.prog 109 [pStrss files] (fun rs=>rs=[x4 (E5 files)]):=by
 refine FnOk.intro Tryz.func109 (by decide) Z Z Z Z ?_
 refine k2 (A3 (A7 Z Z (A5 ?_)));refine k1 (k2 (A3 (A4 Z Z (C4 (F69 files hn hl) Z Z Z ?_))));rintro _ rfl;refine A4 Z Z (H9 Z Z Z (H9 Z Z Z (A7 Z Z (A7 Z Z (A5 ?_)))));refine k1 (k2 (A3 (A4 Z Z (A7 Z Z (A5 ?_)))));refine k1 (k10 ?_)
 exact B6 (G6 rfl rfl rfl) rfl
abbrev V6 (m:Nat):List TC:=L7 intsC m 0 (fun _=>([]:List (List Int)))
abbrev l9 (names:List Str) (lines:List Int) (n:Nat):Ob:=.box [.p (.list Str 1 M5 names),.p (.list Int 1 F7 lines),.mut 731,.mut 732,.p (.v (.int .i64 n)),.p (.v (.slice none 0 0))]
abbrev A14:Ob:=.box [.p (.v (.int .i64 0)),.p (.v (.slice none 0 0))]
abbrev B91 (names:List Str) (lines ms:List Int) (g:Nat→List (List Int)) (n m:Nat):Obs :=
 (4,A14)::(730,l9 names lines n)::(731,.arr Int 1 m9 ms)::(732,.growT 138 m 1 (V6 m))::J8 intsC g (List.range m)
theorem B92 {m k:Nat} (hk:k < 1000):(V6 m).all (TC.free k)=true:=by
 rw [List.all_eq_true]
 intro t ht
 obtain ⟨r,_,rfl⟩:=List.mem_map.1 ht
 rw [if_neg (by omega)]
 simp [TC.free,K2 (show r+1000≠k by omega)]
theorem H81 {names:List Str} {lines ms:List Int} {g:Nat→List (List Int)} {n m:Nat}:I7 708 (B91 names lines ms g n m)=true:=by
 have h1:=B10 (k:=708) (by omega) (List.range m) (fun r _=>by omega) (c:=intsC) (g:=g)
 have h2:=B92 (m:=m) (k:=708) (by omega)
 simp only [I7,Ob.free,h1,h2]
 rfl
theorem obs_top {i:Nat} {x y:Ob} {rest:Obs}:∀k o,C7 ((i,x)::rest) k=some o→C7 ((i,x)::(i,y)::rest) k=some o:=by
 intro k o h
 by_cases hk:i=k
 ·subst hk;rw [D8] at h ⊢;exact h
 ·rw [B4 hk] at h;rw [B4 hk,B4 hk];exact h
abbrev chBox (a b c d:Int):Ob:=.box [.p (.v (.int .i64 a)),.p (.v (.int .i64 b)),.p (.v (.int .i64 c)),.p (.v (.int .i64 d))]
set_option maxHeartbeats 1000000
theorem J44 {gf:Fr} (names:List Str) (lines file ms:List Int) (g:Nat→List (List Int)) (n p:Nat) (hl:lines.length≤4096) (hf:file.length≤4096) (hms:ms.length=lines.length) (hp:p < 32) (hpn:p < n) (hg:∀k,(g k).length=n) :
  AL.Met Tryz.prog 110 [.one (.ref 730 0),.one (.p (.v (.int .i64 p))),.one (.p (.list Int 1 F7 file))] gf (B91 names lines ms g n (lines.length+1)) [708]
   (fun rs ob'=>rs=[.one (.p (.v (.int .i64 0)))]∧ob'=B91 names lines ((L3 file lines).foldl (Q7 p) ms) ((L3 file lines).foldl (L1 p file) g) n (lines.length+1)):=by
 have hS:=E53 file lines hf hl
 have hwb:=B30 file lines
 have hml:=A02 (F9 0 0 file lines) 0 0 file.length lines.length
 have hwl:=W9 0 0 file lines
 obtain ⟨cs,hcs⟩:∃cs,cs=L3 file lines:=⟨_,rfl⟩
 have hcsl:cs.length≤4097:=by rw [hcs];unfold L3 i7;omega
 rw [←hcs] at hS hwb ⊢
 refine AL.Met.introH Tryz.func110 (by decide) rfl rfl rfl (fun hH=>?_)
 refine k2 (A3 (A7 Z Z (A5 ?_)));refine k1 (k2 (A3 (A4 Z Z (A4 Z Z (A6 (D9 Z) Z (A6 (A8 Z) Z (E1 Z Z Z Z (C4 (hS) Z Z Z ?_))))))));rintro _ rfl;refine A4 Z Z (H9 Z Z Z (H9 Z Z Z (A7 Z Z (A7 Z Z (A5 ?_)))));refine k1 (k2 (k2 (A3 (A4 Z Z (A6 (O9 Z Z) Z (A5 ?_))))));refine k1 ?_;refine B3 rfl (fun ht=>?_) (fun ht=>?_)
 ·cases ht
 refine k5 (k1 (k2 (k2 (A3 (A4 Z Z (E7 Z Z (A4 Z Z (A5 ?_))))))));refine k1 (k3 ?_);refine G5 (J92 [708] (l:=[(0,.s (.one (.ref 730 0))),(1,B9 p),(2,C3 Int 1 F7 file),(24,C3 Change 4 changeC cs),(25,B9 cs.length),(26,B9 0)]) (ob':=B91 names lines ms g n (lines.length+1)) ⟨le1 rfl,le1 rfl,le1 rfl,le1 rfl,le1 rfl,le1 rfl,trivial⟩ hH (by repeat (first | exact I9 | refine J0 rfl ?_)) (fun _ _ h=>h)) ?_
 refine D6 (X:=Nat) (fun i=>([(0,.s (.one (.ref 730 0))),(1,B9 p),(2,C3 Int 1 F7 file),(24,C3 Change 4 changeC cs),(25,B9 cs.length),(26,B9 i)]++F1 [708] gf,B91 names lines ((cs.take i).foldl (Q7 p) ms) ((cs.take i).foldl (L1 p file) g) n (lines.length+1))) (fun i=>i≤cs.length) (fun i=>cs.length - i) 0 (Nat.zero_le _) (J91 fun _ _ h=>h) ?_
 intro i hi
 dsimp only at hi ⊢
 refine k2 (A3 (E4 Z Z Z (A5 ?_)));refine k1 (k2 ?_);refine B3 rfl (fun ht=>?_) (fun ht=>?_)
 rotate_left
 ·have hil:i=cs.length:=by have:=A1 ht;omega
  rw [hil,K28]
  refine k6 (k2 (A3 (A7 Z Z (A5 ?_))));refine k1 (k10 ?_)
  exact l8 (C81 rfl rfl) (by repeat (first | exact I9 | refine J0 rfl ?_)) (fun _ _ h=>h) ⟨rfl,rfl⟩
 have hlt:i < cs.length:=by have:=A0 ht;omega
 have hv:cs[i]?=some cs[i]:=by simp [hlt]
 have hcb:=hwb _ (K17 hlt)
 have hst1:(cs.take (i+1)).foldl (Q7 p) ms=Q7 p ((cs.take i).foldl (Q7 p) ms) cs[i]:=by rw [K16 hlt,K43];rfl
 have hst2:(cs.take (i+1)).foldl (L1 p file) g=L1 p file ((cs.take i).foldl (L1 p file) g) cs[i]:=by rw [K16 hlt,K43];rfl
 have hmi:((cs.take i).foldl (Q7 p) ms).length=lines.length:=by
  have key:∀(q:List Change) (ms:List Int),(q.foldl (Q7 p) ms).length=ms.length:=by
   intro q
   induction q with
   | nil=>intro ms;rfl
   | cons c r ih=>intro ms;rw [K37,ih,A04]
  rw [key,hms]
 have hgi:∀k,((cs.take i).foldl (L1 p file) g k).length=n:=by
  have key:∀(q:List Change) (g:Nat→List (List Int)),(∀k,(g k).length=n)→∀k,(q.foldl (L1 p file) g k).length=n:=by
   intro q
   induction q with
   | nil=>intro g h;exact h
   | cons c r ih =>
    intro g h
    refine ih _ (fun k=>?_)
    unfold L1
    split
    ·rw [K47];exact h k
    ·exact h k
  exact key _ _ hg
 obtain ⟨m1,hm1⟩:∃m1,m1=(cs.take i).foldl (Q7 p) ms:=⟨_,rfl⟩
 obtain ⟨g1,hg1⟩:∃g1,g1=(cs.take i).foldl (L1 p file) g:=⟨_,rfl⟩
 obtain ⟨c,hc⟩:∃c,c=cs[i]:=⟨_,rfl⟩
 rw [←hm1] at hst1 hmi ⊢
 rw [←hg1] at hst2 hgi ⊢
 rw [←hc] at hv hcb hst1 hst2
 obtain ⟨co,col,cn,cnl⟩:=c
 dsimp only at hcb
 obtain ⟨A,rfl⟩:∃A:Nat,co=A:=⟨co.toNat,by omega⟩
 obtain ⟨B,rfl⟩:∃B:Nat,col=B:=⟨col.toNat,by omega⟩
 obtain ⟨C,rfl⟩:∃C:Nat,cn=C:=⟨cn.toNat,by omega⟩
 obtain ⟨D,rfl⟩:∃D:Nat,cnl=D:=⟨cnl.toNat,by omega⟩
 have hfree:∀ms',I7 708 (B91 names lines ms' g1 n (lines.length+1))=true:=fun ms'=>H81
 obtain ⟨hf1,hf2,_⟩:=S9 (hfree m1)
 refine k5 (k1 (k2 (k3 (k2 (A3 (A6 (B0 Z (.pure _ _ _ _) Z (by omega) hv) Z (A6 (G3 Z Z) Z (C1 (G08 708 hf2 (by decide)) Z (F8 (B8 TySz.out Z Z Z Z Z Z) (A5 ?_))))))))))
 rw [hf1]
 refine M9 ([(0,.s (.one (.ref 730 0))),(1,B9 p),(2,C3 Int 1 F7 file),(10,.s (.one (.ref 708 0))),(24,C3 Change 4 changeC cs),(25,B9 cs.length),(26,B9 i)]++F1 [708] gf) ((708,chBox A B C D)::B91 names lines m1 g1 n (lines.length+1)) (J71 ⟨le1 rfl,le1 rfl,le1 rfl,le1 rfl,le1 rfl,le1 rfl,le1 rfl,trivial⟩ (Q2 hH) (by repeat (first | exact I9 | refine J0 rfl ?_ | refine B15 _ rfl ?_)) obs_top) ?_
 refine k2 (k2 (A3 (A6 (A8 Z) Z (E1 Z Z Z Z (A7 Z Z (A5 ?_))))));refine k1 (k3 ?_);refine D6 (X:=Nat) (fun t=>([(0,.s (.one (.ref 730 0))),(1,B9 p),(2,C3 Int 1 F7 file),(10,.s (.one (.ref 708 0))),(11,B9 ((C+t:Nat):Int)),(24,C3 Change 4 changeC cs),(25,B9 cs.length),(26,B9 i)]++F1 [708] gf,(708,chBox A B C D)::B91 names lines (Q7 p m1 ⟨A,B,C,t⟩) g1 n (lines.length+1))) (fun t=>t≤D) (fun t=>D - t) 0 (Nat.zero_le _) ?_ ?_
 ·dsimp only
  rw [show ((0:Nat):Int)=0 from rfl,H39]
  exact J71 ⟨le1 rfl,le1 rfl,le1 rfl,le1 rfl,le1 rfl,le1 rfl,le1 rfl,le1 rfl,trivial⟩ (Q2 hH) (by repeat (first | exact I9 | refine J0 rfl ?_)) (fun _ _ h=>h)
 intro t ht1
 dsimp only at ht1 ⊢
 have hsl:=A04 p m1 ⟨A,B,C,t⟩
 refine k2 (k2 (A3 (A4 Z Z (A6 (A8 Z) Z (E1 Z Z Z Z (A6 (A8 Z) Z (E1 Z Z Z Z (C6 Z Z Z (E4 Z Z Z (A5 ?_))))))))));refine k1 ?_;refine B3 rfl (fun ht=>?_) (fun ht=>?_)
 ·have hltD:t < D:=by have:=A0 ht;omega
  obtain ⟨q1,q2⟩:=H40 p m1 A B C t (by omega)
  have hv2:(Q7 p m1 ⟨A,B,C,t⟩)[((C+t:Nat):Int).toNat]?=some (m1.getD (C+t) 0):=by rw [K12];exact q1
  refine k5 (k1 (k2 (k3 (C9 (by kernel_rfl) (by kernel_rfl) (C8 Z Z (A9 (D9 Z) Z Z (A9 (A8 Z) Z Z (A9 (B5 Z Z Z) Z Z (C8 Z Z (A9 (E3 Z Z Z (by omega) (by (rw [hsl];omega))) Z Z ?_))))))))));refine A9 (O1 Z Z hv2 Z) Z Z (C8 Z Z (A9 (E20 Z Z (by (show (0:Int)≤(p:Int);omega))) Z Z ?_));refine A9 (X9 Z Z Z (fun _=>rfl)) Z Z (A9 (E3 Z Z Z (by omega) (by (rw [hsl];omega))) Z Z ?_);refine s7 (I2 TySz.out Z Z (by (rw [hsl];omega)) Z Z) Z ?_;refine L6 ?_
  rw [F73 p (by omega)]
  refine k4 (k1 (A3 (A4 Z Z (C6 Z Z Z (A7 Z Z (A5 ?_))))));refine k1 ?_;refine ⟨t+1,by omega,by omega,?_⟩
  rw [←q2]
  refine J71 ⟨le1 rfl,le1 rfl,le1 rfl,le1 rfl,leE rfl (by rw [show ((C+(t+1):Nat):Int)=((C+t:Nat):Int)+1 by omega]),le1 rfl,le1 rfl,le1 rfl,trivial⟩ (Q2 hH) (by repeat (first | exact I9 | refine tail_drop rfl ?_ | refine J0 rfl ?_ | refine B15 _ rfl ?_)) ?_
  exact C18 (L:=[(708,_),(4,_),(730,_),(731,_),(732,_)]) ⟨rfl,rfl,rfl,rfl,rfl,trivial⟩ (by repeat (first | exact B79 | refine B80 rfl ?_))
 have htD:t=D:=by have:=A1 ht;omega
 subst htD
 rw [←hst1]
 have hC:C < lines.length+1:=by omega
 have hrow:(V6 (lines.length+1))[C]?=some (.mut (C+1000)):=G69 hC (Nat.zero_le _)
 have hgl:(V6 (lines.length+1)).length=lines.length+1:=E24
 obtain ⟨m2,hm2⟩:∃m2,m2=(cs.take (i+1)).foldl (Q7 p) ms:=⟨_,rfl⟩
 rw [←hm2]
 have hob:C7 ((708,chBox A B C t)::B91 names lines m2 g1 n (lines.length+1)) (C+1000)=some (.arr (List Int) 1 intsC (g1 C)):=by
  rw [B4 (by omega),B4 (by omega),B4 (by omega),B4 (by omega),B4 (by omega)]
  exact z8 (List.mem_range.2 hC)
 have hgC:=hgi C
 have eAB:((A:Int)+B).toNat - (A:Int).toNat=B:=by omega
 have hnew:(g1 C).set p ((file.drop A).take B)=(cs.take (i+1)).foldl (L1 p file) g C:=by
  rw [hst2,L1,if_pos (by simp)]
  dsimp only
  rw [eAB,K12]
 have hsame:∀q,q≠C→(cs.take (i+1)).foldl (L1 p file) g q=g1 q:=by
  intro q hq
  rw [hst2,L1,if_neg (by simpa using hq)]
 refine k6 (k7 (k7 (k8 Z (k1 (C9 (by kernel_rfl) (by kernel_rfl) (C8 Z Z (A9 (D9 Z) Z Z (A9 (A8 Z) Z Z (A9 (B5 Z Z Z) Z Z (A9 (A8 Z) Z Z (A9 (B5 Z Z Z) Z Z (A9 (E46 Z Z Z (by omega) (by (first | omega | (rw [K12];omega)))) Z Z (A9 (I70 Z Z (by simpa using hrow)) Z Z (C8 Z Z (C8 Z Z (A9 (A8 Z) Z Z (A9 (B5 Z Z Z) Z Z (A9 (A8 Z) Z Z (A9 (B5 Z Z Z) Z Z (A9 (A8 Z) Z Z (A9 (B5 Z Z Z) Z Z (A9 (V2 Z Z (by omega)) Z Z (A9 (S0 Z (.pure _ _ _ _) Z Z (by omega) (by omega) (by omega)) Z Z ?_)))))))))))))))))))))));refine A9 (E3 Z hob Z (by omega) (by (first | omega | (rw [hgC];omega)))) Z Z (s7 (I2 TySz.out Z hob (by (first | omega | (rw [K12,hgC];omega))) Z Z) Z (L6 ?_))
 rw [eAB,K12,K12,hnew]
 refine k4 (k1 (A3 (C6 Z Z Z (A4 Z Z (A5 ?_)))));refine k1 ?_;refine ⟨i+1,by omega,by omega,?_⟩
 refine J71 ⟨le1 rfl,le1 rfl,le1 rfl,le1 rfl,le1 rfl,le1 rfl,trivial⟩ (Q2 hH) (by repeat (first | exact I9 | refine tail_drop rfl ?_ | refine J0 rfl ?_ | refine B15 _ rfl ?_)) ?_
 rw [←hm2]
 obtain ⟨g2,hg2⟩:∃g2,g2=(cs.take (i+1)).foldl (L1 p file) g:=⟨_,rfl⟩
 rw [←hg2] at hsame ⊢
 intro k o hk
 have h1:=G68 (c:=intsC) (g:=g1) (g':=g2) (pre:=[(4,A14),(730,l9 names lines n),(731,.arr Int 1 m9 m2),(732,.growT 138 (lines.length+1) 1 (V6 (lines.length+1)))]) rfl (List.mem_range.2 hC) hsame k o hk
 by_cases hkC:C+1000=k
 ·subst hkC;rw [D8] at h1 ⊢;exact h1
 ·rw [B4 hkC] at h1 ⊢
  by_cases h7:708=k
  ·subst h7
   have:C7 ([(4,A14),(730,l9 names lines n),(731,.arr Int 1 m9 m2),(732,.growT 138 (lines.length+1) 1 (V6 (lines.length+1)))]++J8 intsC g1 (List.range (lines.length+1))) 708=none:=by
    rw [K4 rfl];exact J30 (by omega)
   rw [this] at h1;cases h1
  ·rw [B4 h7];exact h1
abbrev A46 (names:List Str) (lines ms:List Int) (gs:List (List (List Int))) (n:Nat) (rows:List Row):Obs :=
 [(4,A14),(730,.box [.p (.list Str 1 M5 names),.p (.list Int 1 F7 lines),.p (.list Int 1 m9 ms),.p (.list (List (List Int)) 1 intssC gs),.p (.v (.int .i64 n)),.buf 733 Row 3 rowC rows]),(733,.spare rows.length 3 69)]
set_option maxHeartbeats 1000000
theorem H82 {gf:Fr} (names file:List Str) (lines ms:List Int) (g:Nat→List (List Int)) (n B:Nat) (hl:file.length≤4096) (hll:lines.length=file.length) (hms:ms.length=file.length) (hn:1≤n∧n≤32) (hB:n*B≤4096)
  (hg:∀k,(g k).length=n∧∀x∈g k,x.length≤B∧∀v∈x,0≤v∧v < (names.length:Int)) (hnm:∀k,k < file.length→0≤lines.getD k 0∧names[(lines.getD k 0).toNat]?=some (file.getD k [])) :
  AL.Met Tryz.prog 111 [.one (.ref 730 0)] gf (A46 names lines ms ((List.range (file.length+1)).map g) n []) [708,733]
   (fun rs ob'=>rs=[.one (.p (.v (.int .i64 0)))]∧ob'=A46 names lines ms ((List.range (file.length+1)).map g) n (V7 names file (ms,g) (file.length+1))):=by
 obtain ⟨gs,hgs⟩:∃gs,gs=(List.range (file.length+1)).map g:=⟨_,rfl⟩
 have hgl:gs.length=file.length+1:=by rw [hgs];simp
 obtain ⟨R,hR⟩:∃R:Nat→List Row,R=fun k=>V7 names file (ms,g) k:=⟨_,rfl⟩
 obtain ⟨F,hF⟩:∃F:Merged→Row,F=fun m=>⟨true,m.Parents,names.getD m.Line.toNat []⟩:=⟨_,rfl⟩
 have hcs:∀k,(E6 (g k)).1.length≤4096∧∀m∈(E6 (g k)).1,(0≤m.Parents∧m.Parents < 4294967296)∧0≤m.Line∧m.Line < (names.length:Int):=fun k=>by
  have h3:=A03 (fun v=>0≤v∧v < (names.length:Int)) B (g k) (hg k).2
  rw [(hg k).1] at h3
  exact ⟨by omega,h3.2⟩
 have hR1:∀k,R (k+1)=R k++((E6 (g k)).1.map F++(if k < file.length then [⟨false,ms.getD k 0,file.getD k []⟩] else [])):=fun k=>by
  rw [hR];dsimp only;rw [q9,S3,hF]
 have hRl:∀k,(R k).length≤k*4097:=fun k=>by
  induction k with
  | zero=>rw [hR];simp [V7]
  | succ k ih=>rw [hR1];have:=(hcs k).1;simp only [K06,K30];split<;>simp<;>omega
 have hRn:V7 names file (ms,g) (file.length+1)=R (file.length+1):=by rw [hR]
 rw [hRn,←hgs]
 have hR0:R 0=[]:=by rw [hR];rfl
 refine AL.Met.introH Tryz.func111 (by decide) rfl rfl rfl (fun hH=>?_)
 refine k2 (A3 (A7 Z Z (A5 ?_)));refine k1 (k2 (k2 (A3 (A4 Z Z (A6 (D9 Z) Z (A6 (A8 Z) Z (E1 Z Z Z Z (E7 Z Z (A4 Z Z (A5 ?_))))))))));refine k1 (k3 ?_);refine G5 (J92 [708,733] (l:=[(0,.s (.one (.ref 730 0))),(12,C3 (List (List Int)) 1 intssC gs),(13,B9 gs.length),(14,B9 0)]) (ob':=A46 names lines ms gs n []) ⟨le1 rfl,le1 rfl,le1 rfl,le1 rfl,trivial⟩ hH (by repeat (first | exact I9 | refine J0 rfl ?_)) (fun _ _ h=>h)) ?_
 refine D6 (X:=Nat) (fun k=>([(0,.s (.one (.ref 730 0))),(12,C3 (List (List Int)) 1 intssC gs),(13,B9 gs.length),(14,B9 k)]++F1 [708,733] gf,A46 names lines ms gs n (R k))) (fun k=>k≤file.length+1) (fun k=>file.length+1 - k) 0 (Nat.zero_le _) (by rw [hR0];exact J91 fun _ _ h=>h) ?_
 intro k hk
 dsimp only at hk ⊢
 have hRk:=hRl k
 refine k2 (A3 (E4 Z Z Z (A5 ?_)));refine k1 (k2 ?_);refine B3 rfl (fun ht=>?_) (fun ht=>?_)
 rotate_left
 ·have hkl:k=file.length+1:=by have:=A1 ht;omega
  rw [hkl]
  refine k6 (k2 (A3 (A7 Z Z (A5 ?_))));refine k1 (k10 ?_)
  exact l8 (C81 rfl rfl) (by repeat (first | exact I9 | refine J0 rfl ?_)) (fun _ _ h=>h) ⟨rfl,rfl⟩
 have hlt:k < file.length+1:=by have:=A0 ht;omega
 have hgv:gs[k]?=some (g k):=by rw [hgs,K34,K41 hlt];rfl
 have hck:=hcs k
 have hgk:=hg k
 have hC:=G36 (g k) B (by omega) (by omega) (fun x hx=>(hgk.2 x hx).1) (by rw [hgk.1];exact hB)
 have hRs:=hR1 k
 obtain ⟨l,hld⟩:∃l,l=(E6 (g k)).1:=⟨_,rfl⟩
 rw [←hld] at hck hC hRs
 refine k5 (k1 (k2 (k3 (k2 (A3 (A4 Z Z (A6 (B0 Z (.pure _ _ _ _) Z (by omega) hgv) Z (A6 (B1 Z Z) Z (A7 Z Z (A7 Z Z (A5 ?_)))))))))));refine k1 (k2 (A3 (A4 Z Z (C4 (hC) Z Z Z ?_))));rintro _ rfl;refine A4 Z Z (H9 Z Z Z (H9 Z Z Z (A7 Z Z (A7 Z Z (A5 ?_)))));refine k1 (k2 (k2 (A3 (A4 Z Z (A6 (O9 Z Z) Z (A5 ?_))))));refine k1 ?_;refine B3 rfl (fun ht=>?_) (fun ht=>?_)
 ·cases ht
 refine k5 (k1 (k2 (k2 (A3 (A4 Z Z (E7 Z Z (A4 Z Z (A5 ?_))))))));refine k1 (k3 ?_);refine D6 (X:=Nat) (fun i=>([(0,.s (.one (.ref 730 0))),(3,B9 k),(12,C3 (List (List Int)) 1 intssC gs),(13,B9 gs.length),(14,B9 k),(27,C3 Merged 2 mergedC l),(28,B9 l.length),(29,B9 i)]++F1 [708,733] gf,A46 names lines ms gs n (R k++(l.take i).map F))) (fun i=>i≤l.length) (fun i=>l.length - i) 0 (Nat.zero_le _) ?_ ?_
 ·dsimp only
  rw [List.take_zero,K38,K29]
  exact J71 ⟨le1 rfl,le1 rfl,le1 rfl,le1 rfl,le1 rfl,le1 rfl,le1 rfl,le1 rfl,trivial⟩ (Q2 hH) (by repeat (first | exact I9 | refine J0 rfl ?_)) (fun _ _ h=>h)
 intro i hi
 dsimp only at hi ⊢
 have hil:(R k++(l.take i).map F).length≤k*4097+4096:=by simp only [K06,K30,K19];omega
 refine k2 (A3 (E4 Z Z Z (A5 ?_)));refine k1 (k2 ?_);refine B3 rfl (fun ht=>?_) (fun ht=>?_)
 ·have hli:i < l.length:=by have:=A0 ht;omega
  have hlv:l[i]?=some l[i]:=by simp [hli]
  have hlb:=hck.2 l[i] (K17 hli)
  have hst:(l.take (i+1)).map F=(l.take i).map F++[F l[i]]:=by rw [K16 hli];simp only [K20,K14,K38]
  obtain ⟨m,hm⟩:∃m,m=l[i]:=⟨_,rfl⟩
  rw [←hm] at hlv hlb hst
  have hnv:names[m.Line.toNat]?=some (names.getD m.Line.toNat []):=by rw [K09,K07 (by omega)];rfl
  have hFi:F m=⟨true,m.Parents,names.getD m.Line.toNat []⟩:=by rw [hF]
  obtain ⟨Q,hQ⟩:∃Q,Q=R k++(l.take i).map F:=⟨_,rfl⟩
  rw [←hQ] at hil ⊢
  refine k5 (k1 (k2 (k3 (k2 (A3 (A6 (B0 Z (.pure _ _ _ _) Z (by omega) hlv) Z (A6 (G3 Z Z) Z (C1 (G08 708 Z (by decide)) Z (F8 (B8 TySz.out Z Z Z Z Z Z) (A5 ?_))))))))));refine k1 ?_;refine M9 ([(0,.s (.one (.ref 730 0))),(3,B9 k),(8,.s (.one (.ref 708 0))),(12,C3 (List (List Int)) 1 intssC gs),(13,B9 gs.length),(14,B9 k),(27,C3 Merged 2 mergedC l),(28,B9 l.length),(29,B9 i)]++F1 [708,733] gf) ((708,.box [.p (.v (.int .i64 m.Line)),.p (.v (.int .u32 m.Parents))])::A46 names lines ms gs n Q) (J71 ⟨le1 rfl,le1 rfl,le1 rfl,le1 rfl,le1 rfl,le1 rfl,le1 rfl,le1 rfl,le1 rfl,trivial⟩ (Q2 hH) (by repeat (first | exact I9 | refine J0 rfl ?_ | refine B15 _ rfl ?_)) (ObIn.spec (ob':=(708,.box [.p (.v (.int .i64 m.Line)),.p (.v (.int .u32 m.Parents))])::A46 names lines ms gs n Q) ⟨rfl,rfl,rfl,rfl,trivial⟩)) ?_
  refine T7 [22,18] [[],[18],[22,18]] [(18,([733],[38])),(22,([],[]))] [(0,[]),(1,[]),(2,[]),(3,[]),(4,[]),(5,[]),(6,[]),(7,[]),(8,[]),(9,[]),(10,[]),(11,[]),(12,[]),(13,[]),(14,[]),(15,[]),(16,[]),(17,[]),(18,[]),(19,[18]),(20,[18]),(21,[18]),(22,[18])] [(0,[18])] (by kernel_rfl) (by kernel_rfl) (E2 Z Z (by kernel_rfl) Z Z (B7 Z Z) (E2 Z Z (by kernel_rfl) Z Z (B7 Z Z) (E2 Z Z (by kernel_rfl) Z Z (D9 Z) (E2 Z Z (by kernel_rfl) Z Z (A8 Z) (E2 Z Z (by kernel_rfl) Z Z (A8 Z) (E2 Z Z (by kernel_rfl) Z Z (B5 Z Z Z) (E2 Z Z (by kernel_rfl) Z Z (A8 Z) (E2 Z Z (by kernel_rfl) Z Z (B5 Z Z Z) (E2 Z Z (by kernel_rfl) Z Z (B7 Z Z) (E2 Z Z (by kernel_rfl) Z Z (D9 Z) (E2 Z Z (by kernel_rfl) Z Z (A8 Z) (E2 Z Z (by kernel_rfl) Z Z (B5 Z Z Z) (E2 Z Z (by kernel_rfl) Z Z (A8 Z) (E2 Z Z (by kernel_rfl) Z Z (B5 Z Z Z) (E2 Z Z (by kernel_rfl) Z Z (B0 Z (.pure _ _ _ _) Z (by omega) hnv) (E2 Z Z (by kernel_rfl) Z Z (B1 Z Z) (E2 Z Z (by kernel_rfl) Z Z (H1 Z) (E2 Z Z (by kernel_rfl) Z Z (D5 (c:=rowC) (ys:=[⟨true,m.Parents,names.getD m.Line.toNat []⟩]) (E0 Z Z Z Z F3) Z Z Z) (X7 Z Z (by kernel_rfl) Z Z (B78 (fun frc hU=>G4 (W8 hU Z) Z (W8 hU Z) (.pure _ _ _ _) (by (simp only [K08,K11];omega)) Z)) Z (E2 Z Z (by kernel_rfl) Z Z (D9 Z) (E2 Z Z (by kernel_rfl) Z Z (A8 Z) (E2 Z Z (by kernel_rfl) Z Z (A8 Z) (X7 Z Z (by kernel_rfl) Z Z (D60 (fun frc hU=>B8 TySz.out (W8 hU Z) Z (W8 hU Z) Z Z Z)) Z ?_)))))))))))))))))))))));refine w_nilG rfl (by kernel_rfl) rfl ?_ ?_
  ·refine G1 Z Z (by kernel_rfl) Z Z (B7 Z Z) ?_;exact C88
  refine k4 (k1 (A3 (C6 Z Z Z (A4 Z Z (A5 ?_)))));refine k1 ?_;refine ⟨i+1,by omega,by omega,?_⟩
  rw [hst,hFi,←K18,←hQ]
  exact J71 ⟨le1 rfl,le1 rfl,le1 rfl,le1 rfl,le1 rfl,le1 rfl,le1 rfl,le1 rfl,trivial⟩ (Q2 hH) (by repeat (first | exact I9 | refine tail_drop rfl ?_ | refine J0 rfl ?_ | refine B15 _ rfl ?_)) (ObIn.spec (ob':=A46 names lines ms gs n (Q++[⟨true,m.Parents,names.getD m.Line.toNat []⟩])) ⟨rfl,rfl,rfl,trivial⟩)
 have hil2:i=l.length:=by have:=A1 ht;omega
 rw [hil2,K28] at hil ⊢
 rw [←K18] at hRs
 obtain ⟨Q,hQ⟩:∃Q,Q=R k++l.map F:=⟨_,rfl⟩
 rw [←hQ] at hil hRs ⊢
 refine k6 (k2 ?_)
 ·skip
  refine A3 (A4 Z Z (A4 Z Z (A6 (D9 Z) Z (A6 (A8 Z) Z (E1 Z Z Z Z (E7 Z Z (E4 Z Z Z (A5 ?_))))))));refine k1 ?_;refine B3 rfl (fun ht=>?_) (fun ht=>?_)
  ·have hkf:k < file.length:=by have:=A0 ht;omega
   rw [if_pos hkf] at hRs
   obtain ⟨q1,q2⟩:=hnm k hkf
   have hmv:ms[((k:Nat):Int).toNat]?=some (ms.getD k 0):=by rw [K12,K09,K07 (by omega)];rfl
   have hlv:lines[((k:Nat):Int).toNat]?=some (lines.getD k 0):=by rw [K12,K09,K07 (by omega)];rfl
   have q3:=(List.getElem?_eq_some_iff.1 q2).1
   skip
   refine M9 ([(0,.s (.one (.ref 730 0))),(3,B9 k),(12,C3 (List (List Int)) 1 intssC gs),(13,B9 gs.length),(14,B9 k)]++F1 [708,733] gf) (A46 names lines ms gs n Q) (J71 ⟨le1 rfl,le1 rfl,le1 rfl,le1 rfl,le1 rfl,trivial⟩ (Q2 hH) (by repeat (first | exact I9 | refine J0 rfl ?_)) (fun _ _ h=>h)) ?_
   refine T7 [32,28] [[],[28],[32,28]] [(28,([733],[68])),(32,([],[]))] [(0,[]),(1,[]),(2,[]),(3,[]),(4,[]),(5,[]),(6,[]),(7,[]),(8,[]),(9,[]),(10,[]),(11,[]),(12,[]),(13,[]),(14,[]),(15,[]),(16,[]),(17,[]),(18,[]),(19,[]),(20,[]),(21,[]),(22,[]),(23,[]),(24,[]),(25,[]),(26,[]),(27,[]),(28,[]),(29,[28]),(30,[28]),(31,[28]),(32,[28])] [(0,[28])] (by kernel_rfl) (by kernel_rfl) (E2 Z Z (by kernel_rfl) Z Z (B7 Z Z) (E2 Z Z (by kernel_rfl) Z Z (B7 Z Z) (E2 Z Z (by kernel_rfl) Z Z (D9 Z) (E2 Z Z (by kernel_rfl) Z Z (A8 Z) (E2 Z Z (by kernel_rfl) Z Z (A8 Z) (E2 Z Z (by kernel_rfl) Z Z (B5 Z Z Z) (E2 Z Z (by kernel_rfl) Z Z (B7 Z Z) (E2 Z Z (by kernel_rfl) Z Z (D9 Z) (E2 Z Z (by kernel_rfl) Z Z (A8 Z) (E2 Z Z (by kernel_rfl) Z Z (B5 Z Z Z) (E2 Z Z (by kernel_rfl) Z Z (B7 Z Z) (E2 Z Z (by kernel_rfl) Z Z (B0 Z (.pure _ _ _ _) Z (by omega) hmv) (E2 Z Z (by kernel_rfl) Z Z (B1 Z Z) (E2 Z Z (by kernel_rfl) Z Z (B7 Z Z) (E2 Z Z (by kernel_rfl) Z Z (D9 Z) (E2 Z Z (by kernel_rfl) Z Z (A8 Z) (E2 Z Z (by kernel_rfl) Z Z (B5 Z Z Z) (E2 Z Z (by kernel_rfl) Z Z (B7 Z Z) (E2 Z Z (by kernel_rfl) Z Z (D9 Z) (E2 Z Z (by kernel_rfl) Z Z (A8 Z) (E2 Z Z (by kernel_rfl) Z Z (B5 Z Z Z) (E2 Z Z (by kernel_rfl) Z Z (B7 Z Z) (E2 Z Z (by kernel_rfl) Z Z (B0 Z (.pure _ _ _ _) Z (by omega) hlv) ?_)))))))))))))))))))))));refine E2 Z Z (by kernel_rfl) Z Z (B1 Z Z) (E2 Z Z (by kernel_rfl) Z Z (B0 Z (.pure _ _ _ _) Z (by omega) q2) (E2 Z Z (by kernel_rfl) Z Z (B1 Z Z) (E2 Z Z (by kernel_rfl) Z Z (H1 Z) (E2 Z Z (by kernel_rfl) Z Z (D5 (c:=rowC) (ys:=[⟨false,ms.getD k 0,file.getD k []⟩]) (E0 Z Z Z Z F3) Z Z Z) (X7 Z Z (by kernel_rfl) Z Z (B78 (fun frc hU=>G4 (W8 hU Z) Z (W8 hU Z) (.pure _ _ _ _) (by (simp only [K08,K11];omega)) Z)) Z (E2 Z Z (by kernel_rfl) Z Z (D9 Z) (E2 Z Z (by kernel_rfl) Z Z (A8 Z) (E2 Z Z (by kernel_rfl) Z Z (A8 Z) (X7 Z Z (by kernel_rfl) Z Z (D60 (fun frc hU=>B8 TySz.out (W8 hU Z) Z (W8 hU Z) Z Z Z)) Z ?_)))))))))
   refine w_nilG rfl (by kernel_rfl) rfl ?_ ?_
   ·refine G1 Z Z (by kernel_rfl) Z Z (B7 Z Z) ?_;exact C88
   refine k4 (k1 (A3 (C6 Z Z Z (A4 Z Z (A5 ?_)))));refine k1 ?_;refine ⟨k+1,by omega,by omega,?_⟩
   rw [hRs]
   exact J71 ⟨le1 rfl,le1 rfl,le1 rfl,le1 rfl,trivial⟩ (Q2 hH) (by repeat (first | exact I9 | refine tail_drop rfl ?_ | refine J0 rfl ?_ | refine B15 _ rfl ?_)) (ObIn.spec (ob':=A46 names lines ms gs n (Q++[⟨false,ms.getD k 0,file.getD k []⟩])) ⟨rfl,rfl,rfl,trivial⟩)
  ·have hkf:¬k < file.length:=by have:=A1 ht;omega
   rw [if_neg hkf,K29] at hRs
   refine k5 (k4 (k1 (A3 (C6 Z Z Z (A4 Z Z (A5 ?_))))));refine k1 ?_;refine ⟨k+1,by omega,by omega,?_⟩
   rw [hRs]
   exact J71 ⟨le1 rfl,le1 rfl,le1 rfl,le1 rfl,trivial⟩ (Q2 hH) (by repeat (first | exact I9 | refine tail_drop rfl ?_ | refine J0 rfl ?_ | refine B15 _ rfl ?_)) (fun _ _ h=>h)
theorem H83 (l:List Str) (s:Str):∀k:Int,0≤k→s∈l→l[(I5 l s k - k).toNat]?=some s:=by
 induction l with
 | nil=>intro k _ h;cases h
 | cons x r ih =>
  intro k h0 h
  by_cases hx:x=s
  ·unfold I5
   rw [if_pos hx,Int.sub_self,hx];rfl
  ·have hm:s∈r:=by rcases List.mem_cons.1 h with rfl | h;exact absurd rfl hx;exact h
   have h1:=ih (k+1) (by omega) hm
   have h2:=B33 r s (k+1) (by omega) hm
   unfold I5
   rw [if_neg hx,show (I5 r s (k+1) - k).toNat=(I5 r s (k+1) - (k+1)).toNat+1 by omega,List.getElem?_cons_succ]
   exact h1
theorem H06 (k:Nat):(V6 k++[TC.mut 734]).map (TC.ren 734 (k+1000))=V6 (k+1):=by
 unfold V6 L7
 rw [K20,K44,K20,K40]
 have h1:(List.range k).map (TC.ren 734 (k+1000) ∘ fun r=>if r < 0 then TC.p (.list (List Int) 1 intsC []) else TC.mut (r+1000))=(List.range k).map fun r=>if r < 0 then TC.p (.list (List Int) 1 intsC []) else TC.mut (r+1000):=by
  refine List.map_congr_left fun r hr=>?_
  show TC.ren 734 (k+1000) (if r < 0 then _ else TC.mut (r+1000))=_
  rw [if_neg (by omega)]
  simp [TC.ren,K2 (show r+1000≠734 by omega)]
 exact congr (congrArg _ h1) (by simp [TC.ren])
abbrev G37 (n:Nat):Nat→List (List Int):=fun _=>List.replicate n []
theorem J45 {k:Nat} (hk:k < 1000) {m:Nat} {g:Nat→List (List Int)}:I7 k (J8 intsC g (List.range m))=true:=B10 (k:=k) (by omega) (List.range m) (fun r _=>by omega) (c:=intsC) (g:=g)
abbrev I40 (names:List Str) (lines ms:List Int) (n k:Nat):Obs:=[(4,A14),(730,l9 names lines n),(731,.arr Int 1 m9 ms),(732,.growT 138 k 1 (V6 k))]
theorem G38 (k:Nat):(V6 k).all (TC.free (k+1000))=true:=by
 rw [List.all_eq_true]
 intro t ht
 obtain ⟨r,hr,rfl⟩:=List.mem_map.1 ht
 have:=List.mem_range.1 hr
 rw [if_neg (by omega)]
 simp [TC.free,K2 (show r+1000≠k+1000 by omega)]
theorem H84 (m:Nat) (g:Nat→List (List Int)):V6 m=L7 intsC m 0 g:=by
 unfold V6 L7
 refine List.map_congr_left fun r _=>?_
 rw [if_neg (by omega),if_neg (by omega)]
theorem H85 (q:Nat) (g:Nat→List (List Int)) (l:List Nat):Obs.forget q (J8 intsC g l)=J8 intsC g l:=by
 unfold Obs.forget J8
 rw [K40]
 exact List.map_congr_left fun r _=>rfl
theorem gap_fgt {K:List Nat} {q:Nat} {g:Nat→List (List Int)} {l:List Nat}:∀j x,W7 K j=false→C7 (J8 intsC g l) j=some x→C7 (Obs.forget q (J8 intsC g l)) j=some x:=fun j x _ h=>by rw [H85];exact h
theorem E64 (q:Nat) (names:List Str) (lines ms:List Int) (n k:Nat) (hq:q < 1000) (h1:4≠q) (h2:730≠q) (h3:731≠q) (h4:732≠q) (g:Nat→List (List Int)):I7 q (I40 names lines ms n k++J8 intsC g (List.range k))=true:=by
 show I7 q ((4,A14)::(730,l9 names lines n)::(731,.arr Int 1 m9 ms)::(732,.growT 138 k 1 (V6 k))::J8 intsC g (List.range k))=true
 simp only [I7,Ob.free,List.all_cons,List.all_nil,TC.free,J45 hq,B92 hq,K2 h1,K2 h2,K2 h3,K2 h4,K2 (Ne.symm h3),K2 (Ne.symm h4)]
 rfl
theorem I95 {P:Program} {nt:Nat} {fr:Fr} {names:List Str} {lines ms:List Int} {n k:Nat} (hk:k≤100000) (hfr:I1 (k+1000) fr=true) :
  Sees P nt fr ([(4,A14),(730,l9 names lines n),(731,.arr Int 1 m9 ms),(732,.growT 138 (k+1) 1 (V6 k++[TC.mut 734])),(734,.arr (List Int) 1 intsC (List.replicate n [])),(735,.tarr 1 1 [.mut 734])]++J8 intsC (G37 n) (List.range k))
   fr (I40 names lines ms n (k+1)++J8 intsC (G37 n) (List.range (k+1))):=by
 refine J85 (j:=734) (k:=k+1000) Z (by simp;omega) (by omega) hfr ?_
 intro i o h
 have b731:=K2 (show 731≠k+1000 by omega)
 have b732:=K2 (show 732≠k+1000 by omega)
 have b734:=K2 (show 734≠k+1000 by omega)
 by_cases e1:i=4
 ·subst e1
  have h:some A14=some o:=h
  cases h
  exact ⟨by omega,A14,by rw [if_neg (by omega)];rfl,rfl,rfl⟩
 by_cases e2:i=730
 ·subst e2
  have h:some (l9 names lines n)=some o:=h
  cases h
  exact ⟨by omega,l9 names lines n,by rw [if_neg (by omega)];rfl,by simp [Ob.free,TC.free,b731,b732],rfl⟩
 by_cases e3:i=731
 ·subst e3
  have h:some (.arr Int 1 m9 ms)=some o:=h
  cases h
  exact ⟨by omega,_,by rw [if_neg (by omega)];rfl,rfl,rfl⟩
 by_cases e4:i=732
 ·subst e4
  have h:some (.growT 138 (k+1) 1 (V6 (k+1)))=some o:=h
  cases h
  refine ⟨by omega,.growT 138 (k+1) 1 (V6 k++[TC.mut 734]),by rw [if_neg (by omega)];rfl,?_,?_⟩
  ·simp only [Ob.free,K58,G38,List.all_cons,List.all_nil,TC.free,b734];rfl
  ·show _=Ob.growT _ _ _ _
   rw [H06]
 have h:C7 ([(4,A14),(730,l9 names lines n),(731,.arr Int 1 m9 ms),(732,.growT 138 (k+1) 1 (V6 (k+1)))]++J8 intsC (G37 n) (List.range (k+1))) i=some o:=h
 have hno:C7 ([(4,A14),(730,l9 names lines n),(731,.arr Int 1 m9 ms),(732,.growT 138 (k+1) 1 (V6 (k+1)))]:Obs) i=none:=by
  rw [B4 (Ne.symm e1),B4 (Ne.symm e2),B4 (Ne.symm e3),B4 (Ne.symm e4)];rfl
 rw [K4 hno] at h
 obtain ⟨r,h1,rfl,rfl⟩:=(j8 _ _ _).1 h
 have h1:=List.mem_range.1 h1
 refine ⟨by omega,.arr (List Int) 1 intsC (List.replicate n []),?_,rfl,rfl⟩
 by_cases er:r=k
 ·subst er;rw [if_pos rfl];rfl
 ·rw [if_neg (by omega),K4 (t6 rfl (by omega))]
  exact z8 (List.mem_range.2 (by omega))
set_option maxHeartbeats 2000000
theorem J46 (result:Str) (parents:List Str) (B:Nat) (hpl:parents.length≤536870912) (hB:32*B≤4096) (h0:(C2 result).length≤B∧result.length≤4096) (h1:∀b∈parents,(C2 b).length≤B∧b.length≤4096) :
  FnOk Tryz.prog 53 [N2 result,x4 parents] (fun rs=>rs=[pTable (F2 result parents).1,H3 (F2 result parents).2]):=by
 refine FnOk.intro Tryz.func53 (by decide) Z Z Z Z ?_
 refine k2 (A3 (C1 (I3 4 Z) Z (A7 Z Z (A5 ?_))));refine k1 (k2 (A3 (A4 Z Z (E7 Z Z (A7 Z Z (A5 ?_))))));refine k1 (k2 (k2 (A3 (A4 Z Z (E4 Z Z Z (A4 Z Z (B2 Z Z Z Z (fun hg=>by rw [hg];exact B7 Z Z) ?_)))))));refine B2 Z Z Z Z (fun hg=>by rw [hg];exact N5 Z Z) ?_;refine J4 Z Z ?_;refine A5 ?_;refine k1 ?_;refine B3 rfl (fun ht=>?_) (fun ht=>?_)
 ·have hc:=A0 (or_pick.symm.trans ht)
  refine k2 (A3 (A6 (H1 Z) Z (F8 (B8 TySz.out Z Z Z Z Z Z) (A7 Z Z (A5 ?_)))));refine k1 (G5 (J70 Row 3 rowC 4 1 Z Z) ?_)
  refine k10 (k11 ?_)
  exact B6 (rs:=[pTable ⟨0,[]⟩,H3 2]) (a7 rfl rfl rfl rfl rfl rfl rfl) (by rw [F2,if_pos (by omega)])
 have hc:=A1 (or_pick.symm.trans ht)
 obtain ⟨n,hn⟩:∃n,n=parents.length:=⟨_,rfl⟩
 have hn1:1≤n∧n≤32:=by omega
 obtain ⟨f0,hf0⟩:∃f0,f0=C2 result:=⟨_,rfl⟩
 obtain ⟨fs,hfs⟩:∃fs,fs=C2 result::parents.map C2:=⟨_,rfl⟩
 have hfsm:fs=(result::parents).map C2:=by rw [hfs];rfl
 have hfl:fs.length=n+1:=by rw [hfs,hn];simp
 have hfB:∀f∈fs,f.length≤B:=by
  intro f hf
  rw [hfs] at hf
  rcases List.mem_cons.1 hf with rfl | hf
  ·exact h0.1
  ·obtain ⟨b,hb,rfl⟩:=List.mem_map.1 hf;exact (h1 b hb).1
 have hflat:fs.flatten.length≤(n+1)*B:=by
  rw [←hfl]
  clear hfsm hfs hfl
  induction fs with
  | nil=>simp
  | cons x r ih =>
   have:=ih fun f hf=>hfB f (List.mem_cons_of_mem _ hf)
   have:=hfB x (by simp)
   rw [K25,K06,K08,K32,Nat.one_mul];omega
 have hnB:n*B≤4096:=Nat.le_trans (K21 _ hn1.2) hB
 have hB1:(n+1)*B≤8192:=by rw [K32,Nat.one_mul];omega
 obtain ⟨names,hnames⟩:∃names,names=E5 fs:=⟨_,rfl⟩
 obtain ⟨ids,hids⟩:∃ids,ids=fs.map (L2 names):=⟨_,rfl⟩
 have hidl:ids.length=n+1:=by rw [hids,K30,hfl]
 obtain ⟨base,hbase⟩:∃base,base=L2 names f0:=⟨_,rfl⟩
 have hb0:base=ids.getD 0 []:=by rw [hids,hfs,hbase,hf0];rfl
 have hbl:base.length=f0.length:=by rw [hbase];simp [L2]
 have hf0B:f0.length≤B:=by rw [hf0];exact h0.1
 have hidB:∀x∈ids,x.length≤B∧∀v∈x,0≤v∧v < (names.length:Int):=by
  intro x hx
  have h2:∀v∈x,0≤v∧v < (names.length:Int):=by rw [hnames];exact H94 fs x (by rw [←hnames,←hids];exact hx)
  rw [hids] at hx
  obtain ⟨f,hf,rfl⟩:=List.mem_map.1 hx
  exact ⟨by rw [L2,K30];exact hfB f hf,h2⟩
 have hv0:ids[(0:Int).toNat]?=some base:=by rw [hb0,K09];show ids[0]?=_;rw [K07 (by omega)];rfl
 have hsame:=fun p hp=>C29 (n:=n) hb0 (fun x hx=>by have:=(hidB x hx).1;omega) (by omega) p hp
 have hok:∀p,LoomOk (fun v=>0≤v∧v < (names.length:Int)) B base.length n (O8 ids base.length n p):=fun p=>A39 hidB p
 have hmk:F2 result parents=(⟨n,V7 names f0 (O8 ids base.length n n) (f0.length+1)⟩,0):=by
  rw [F2,if_neg (by omega)]
  dsimp only
  rw [←hfs,←hnames,←hids,←hf0,←hn,←hbl]
  rw [if_neg]
  rintro ⟨k,hk,hk2⟩
  refine hk2 ?_
  have h3:=(hok n).gaps k
  unfold E6
  rw [if_neg (by omega)]
  exact B60 _ _ _ B (fun x hx=>(h3.2 x hx).1) (by rw [h3.1];simp only [K11];omega)
 rw [hmk]
 refine M9 [(0,X6 result),(1,C3 Str 1 M5 parents),(4,.s (.one (.ref 4 0))),(6,B9 n)] [(4,A14)] (by rw [hn];exact J69 ⟨le1 rfl,le1 rfl,le1 rfl,le1 rfl,trivial⟩ ⟨rfl,trivial⟩) ?_
 refine k5 (k1 (k2 (A3 (C1 (V1 760 _ strsC Z) Z (A5 ?_)))));refine k1 (k2 (k2 ?_))
 obtain ⟨bl,hbld⟩:∃bl,bl=result::parents:=⟨_,rfl⟩
 have hbll:bl.length=n+1:=by rw [hbld,hn];simp
 refine A3 (A4 Z Z (A6 (A12 (c:=M5) (ys:=[result]) (E0 Z Z Z Z F3) Z Z Z) Z (A4 Z Z (A6 (A00 Z Z (.pure _ _ _ _) (by (simp only [K08,K11];omega)) ((by omega))) Z (E7 Z Z (A4 Z Z (A5 ?_)))))));refine k1 (k3 ?_)
 rw [show [result]++parents=bl by rw [hbld];rfl]
 have hblB:∀b∈bl,(C2 b).length≤B∧b.length≤4096:=by
  intro b hb
  rw [hbld] at hb
  rcases List.mem_cons.1 hb with rfl | hb
  ·exact h0
  ·exact h1 b hb
 have hfsb:fs=bl.map C2:=by rw [hfsm,hbld]
 refine D6 (X:=Nat) (fun k=>([(4,.s (.one (.ref 4 0))),(6,B9 n),(7,.s (.one (.buf 760 (List Str) 1 strsC ((bl.take k).map C2)))),(29,C3 Str 1 M5 bl),(30,B9 bl.length),(31,B9 k)],[(4,A14),(760,.spare ((bl.take k).map C2).length 1 60)])) (fun k=>k≤bl.length) (fun k=>bl.length - k) 0 (Nat.zero_le _) (J69 ⟨le1 rfl,le1 rfl,le1 rfl,le1 rfl,le1 rfl,le1 rfl,trivial⟩ ⟨rfl,rfl,trivial⟩) ?_
 intro k hk
 dsimp only at hk ⊢
 have hml:((bl.take k).map C2).length=k:=by rw [K30,K19];omega
 refine k2 (A3 (E4 Z Z Z (A5 ?_)));refine k1 (k2 ?_);refine B3 rfl (fun ht=>?_) (fun ht=>?_)
 ·have hlt:k < bl.length:=by have:=A0 ht;omega
  have hv:bl[k]?=some bl[k]:=by simp [hlt]
  have hbB:=hblB _ (K17 hlt)
  have hst:(bl.take (k+1)).map C2=(bl.take k).map C2++[C2 bl[k]]:=by rw [K16 hlt];simp only [K20,K14,K38]
  obtain ⟨b,hb⟩:∃b,b=bl[k]:=⟨_,rfl⟩
  rw [←hb] at hv hbB hst
  have hsp:=I78 b (by omega)
  rw [F40 hbB.2] at hsp
  dsimp only at hsp
  refine k5 (k1 (k2 (k3 (k2 (A3 (A6 (B0 Z (.pure _ _ _ _) Z (by omega) hv) Z (A6 (B1 Z Z) Z (A7 Z Z (A5 ?_)))))))));refine k1 (k2 (A3 (A4 Z Z (C4 (hsp) Z Z Z ?_))));rintro _ rfl;refine A4 Z Z (H9 Z Z Z (H9 Z Z Z (A7 Z Z (A7 Z Z (A5 ?_)))));refine k1 (k2 (k2 (A3 (A4 Z Z (A6 (O9 Z Z) Z (A5 ?_))))));refine k1 ?_;refine B3 rfl (fun ht=>?_) (fun ht=>?_)
  ·cases ht
  refine k5 (k1 (A3 (A4 Z Z (A4 Z Z (A6 (D5 (c:=strsC) (ys:=[C2 b]) (E0 Z Z Z Z F3) Z Z Z) Z (C1 (G4 Z Z Z (.pure _ _ _ _) (by (rw [hml];simp only [K08,K11];omega)) Z) Z ?_))))));refine A7 Z Z (A5 ?_);refine k4 (k1 (A3 (C6 Z Z Z (A4 Z Z (A5 ?_)))));refine k1 ?_;refine ⟨k+1,by omega,by omega,?_⟩
  rw [hst]
  exact J69 ⟨le1 rfl,le1 rfl,le1 rfl,le1 rfl,le1 rfl,le1 rfl,trivial⟩ ⟨rfl,rfl,trivial⟩
 have hkl:k=bl.length:=by have:=A1 ht;omega
 rw [hkl,K28,←hfsb]
 have hI:=G23 fs (by omega) (by omega)
 have hN:=E63 fs (by omega) (by omega)
 rw [←hnames,←hids] at hI
 rw [←hnames] at hN
 refine k6 (k2 (A3 (A4 Z Z (C4 (hI) Z Z Z ?_))));rintro _ rfl;refine A7 Z Z (A5 ?_);refine G5 (fr':=[(4,.s (.one (.ref 4 0))),(6,B9 n),(7,C3 (List Str) 1 strsC fs),(12,C3 (List Int) 1 intsC ids)]) (ob':=[(4,A14)]) (J69 ⟨le1 rfl,le1 rfl,leL rfl,le1 rfl,trivial⟩ ⟨rfl,trivial⟩) ?_
 refine k2 (T7 [13,9] [[],[9],[13,9]] [(9,([731],[])),(13,([730],[]))] [(0,[]),(1,[]),(2,[]),(3,[]),(4,[]),(5,[]),(6,[]),(7,[]),(8,[]),(9,[]),(10,[]),(11,[]),(12,[9]),(13,[9]),(14,[13,9])] [(0,[9]),(1,[9]),(2,[9]),(3,[9]),(4,[9]),(10,[9]),(11,[9])] (by kernel_rfl) (by kernel_rfl) (E2 Z Z (by kernel_rfl) Z Z (B7 Z Z) (E2 Z Z (by kernel_rfl) Z Z (H2 (hN) Z Z) (E2 Z Z (by kernel_rfl) Z Z (B7 Z Z) (E2 Z Z (by kernel_rfl) Z Z (B0 Z (.pure _ _ _ _) Z (by omega) hv0) (E2 Z Z (by kernel_rfl) Z Z (B1 Z Z) (E2 Z Z (by kernel_rfl) Z Z (B7 Z Z) (E2 Z Z (by kernel_rfl) Z Z (B0 Z (.pure _ _ _ _) Z (by omega) hv0) (E2 Z Z (by kernel_rfl) Z Z (B1 Z Z) (E2 Z Z (by kernel_rfl) Z Z (V3 Z (.pure _ _ _ _)) (X7 Z Z (by kernel_rfl) Z Z (C19 (fun frc hU hk=>Y0 731 Int m9 0 (W8 hU Z) (W8 hU Z) (by omega) (by omega) (fun _=>by first | exact ⟨⟨rfl,rfl⟩,trivial⟩ | exact ⟨P6 _ _ _,trivial⟩) (by rw [hk];rfl))) Z ?_)))))))))));refine E2 Z Z (by kernel_rfl) Z Z (B7 Z Z) (E2 Z Z (by kernel_rfl) Z Z (H1 Z) (E2 Z Z (by kernel_rfl) Z Z (H1 Z) (X7 Z Z (by kernel_rfl) Z Z (C19 (fun frc hU hk=>R4 730 (W8 hU Z) Z (by rw [hk];rfl))) Z ?_)));refine E2 Z Z (by kernel_rfl) Z Z (J6 Z Z) ?_;refine D59 (by kernel_rfl) rfl ?_ ?_
 ·refine G1 Z Z (by kernel_rfl) Z Z (B7 Z Z) (G1 Z Z (by kernel_rfl) Z Z (H2 (hN) Z Z) (G1 Z Z (by kernel_rfl) Z Z (B7 Z Z) (G1 Z Z (by kernel_rfl) Z Z (B0 Z (.pure _ _ _ _) Z (by omega) hv0) (G1 Z Z (by kernel_rfl) Z Z (B1 Z Z) (G1 Z Z (by kernel_rfl) Z Z (B7 Z Z) (G1 Z Z (by kernel_rfl) Z Z (H1 Z) ?_))))));exact C88
 rw [K12]
 refine k1 (k2 (k2 (G5 (J81 732 (List (List Int)) 1 intssC 138 (kb:=730) (o:=3) Z Z Z) ?_)))
 refine G5 (J96 732 Z) ?_
 refine A3 (A4 Z Z (A6 (B0 Z (.pure _ _ _ _) Z (by omega) hv0) Z (A6 (B1 Z Z) Z (E7 Z Z (C6 Z Z Z (A4 Z Z (A5 ?_)))))));refine k1 (k3 (D6 (X:=Nat) (fun k=>([(4,.s (.one (.ref 4 0))),(6,B9 n),(12,C3 (List Int) 1 intsC ids),(13,.s (.one (.ref 730 0))),(69,B9 ((base.length:Int)+1)),(70,B9 k)],I40 names base (List.replicate base.length 0) n k++J8 intsC (G37 n) (List.range k))) (fun k=>k≤base.length+1) (fun k=>base.length+1 - k) 0 (Nat.zero_le _) (J69 ⟨le1 rfl,le1 rfl,le1 rfl,le1 rfl,le1 rfl,le1 rfl,trivial⟩ ⟨rfl,rfl,rfl,rfl,trivial⟩) ?_))
 intro k hk
 dsimp only at hk ⊢
 refine k2 (A3 (E4 Z Z Z (A5 ?_)));refine k1 (k2 ?_);refine B3 rfl (fun ht=>?_) (fun ht=>?_)
 ·have hlt:k < base.length+1:=by have:=A0 ht;omega
  have hfree:=E64 734 names base (List.replicate base.length 0) n k (by omega) (by omega) (by omega) (by omega) (by omega) (G37 n)
  have hfree5:I7 735 ((734,.arr (List Int) 1 intsC (List.replicate n []))::(I40 names base (List.replicate base.length 0) n k++J8 intsC (G37 n) (List.range k)))=true:=by
   have:=E64 735 names base (List.replicate base.length 0) n k (by omega) (by omega) (by omega) (by omega) (by omega) (G37 n)
   rw [I7,this];rfl
  have h732:(V6 k++[TC.mut 734]).map (TC.forget 732)=V6 k++[TC.mut 734]:=s8 (by rw [K58,B92 (by omega)];rfl)
  refine k5 (k1 (k2 (k3 (T7 [11,8,7,6] [[],[6],[7,6],[8,7,6],[11,8,7,6]] [(6,([734],[])),(7,([735],[])),(8,([732],[76])),(11,([],[]))] [(0,[]),(1,[]),(2,[]),(3,[]),(4,[]),(5,[]),(6,[]),(7,[6]),(8,[7,6]),(9,[8,7,6]),(10,[8,7,6]),(11,[8,7,6])] [(0,[6]),(0,[7,6]),(0,[8,7,6]),(1,[6]),(1,[7,6]),(2,[6]),(2,[7,6]),(3,[6]),(3,[7,6]),(4,[6]),(4,[7,6])] (by kernel_rfl) (by kernel_rfl) (E2 Z Z (by kernel_rfl) Z Z (B7 Z Z) (E2 Z Z (by kernel_rfl) Z Z (B7 Z Z) (E2 Z Z (by kernel_rfl) Z Z (D9 Z) (E2 Z Z (by kernel_rfl) Z Z (A8 Z) (E2 Z Z (by kernel_rfl) Z Z (B5 Z Z Z) (E2 Z Z (by kernel_rfl) Z Z (B7 Z Z) (X7 Z Z (by kernel_rfl) Z Z (C19 (fun frc hU hk=>Y0 734 (List Int) intsC [] (W8 hU Z) (W8 hU Z) (by omega) (by omega) (fun _=>by first | exact ⟨⟨rfl,rfl⟩,trivial⟩ | exact ⟨P6 _ _ _,trivial⟩) (by rw [hk];exact hfree))) Z ?_)))))))))));refine X7 Z Z (by kernel_rfl) Z Z (C19 (fun frc hU hk=>E43 735 (W8 hU Z) Z Z Z Z (by rw [hk];exact hfree5))) Z ?_;refine X7 Z Z (by kernel_rfl) Z Z (B78 (fun frc hU=>B14 (W8 hU Z) Z (W8 hU Z) Z (by omega) Z)) Z (E2 Z Z (by kernel_rfl) Z Z (D9 Z) (E2 Z Z (by kernel_rfl) Z Z (A8 Z) (X7 Z Z (by kernel_rfl) Z Z (D60 (fun frc hU=>B8 TySz.out (W8 hU Z) Z (W8 hU Z) Z Z Z)) Z ?_)));refine D59 (by kernel_rfl) rfl ?_ ?_
  ·refine G1 Z Z (by kernel_rfl) Z Z (B7 Z Z) (G1 Z Z (by kernel_rfl) Z Z (B7 Z Z) (G1 Z Z (by kernel_rfl) Z Z (B7 Z Z) (G1 Z Z (by kernel_rfl) Z Z (B7 Z Z) (G1 Z Z (by kernel_rfl) Z Z (B7 Z Z) (G1 Z Z (by kernel_rfl) Z Z (D9 Z) (G1 Z Z (by kernel_rfl) Z Z (D9 Z) (G1 Z Z (by kernel_rfl) Z Z (A8 Z) (G1 Z Z (by kernel_rfl) Z Z (A8 Z) (G1 Z Z (by kernel_rfl) Z Z (B5 Z Z Z) (G1 Z Z (by kernel_rfl) Z Z (B5 Z Z Z) ?_))))))))));exact C88
  refine M9 [(4,.s (.one (.ref 4 0))),(6,B9 n),(12,C3 (List Int) 1 intsC ids),(13,.s (.one (.ref 730 0))),(69,B9 ((base.length:Int)+1)),(70,B9 k)] ([(4,A14),(730,l9 names base n),(731,.arr Int 1 m9 (List.replicate base.length 0)),(732,.growT 138 (k+1) 1 (V6 k++[TC.mut 734])),(734,.arr (List Int) 1 intsC (List.replicate n [])),(735,.tarr 1 1 [.mut 734])]++J8 intsC (G37 n) (List.range k)) (J72 ⟨le1 rfl,le1 rfl,le1 rfl,le1 rfl,le1 rfl,le1 rfl,trivial⟩ (C18 (L:=[(4,_),(730,_),(731,_),(732,_),(734,_),(735,_)]) ⟨rfl,rfl,rfl,congrArg (fun ts=>some (Ob.growT 138 (k+1) 1 ts)) h732,rfl,rfl,trivial⟩ (by repeat (first | exact gap_fgt | refine B80 rfl ?_)))) ?_
  refine G5 (I95 (by omega) (by simp only [I1,SV.free,S1.free,TC.free,K2 (show 4≠k+1000 by omega),K2 (show 730≠k+1000 by omega)];rfl)) ?_
  skip
  refine A3 (C6 Z Z Z (A4 Z Z (A5 ?_)));refine k1 ?_;refine ⟨k+1,by omega,by omega,?_⟩
  exact J72 ⟨le1 rfl,le1 rfl,le1 rfl,le1 rfl,le1 rfl,le1 rfl,trivial⟩ (fun _ _ h=>h)
 have hkb:k=base.length+1:=by have:=A1 ht;omega
 rw [hkb]
 refine M9 [(4,.s (.one (.ref 4 0))),(6,B9 n),(12,C3 (List Int) 1 intsC ids),(13,.s (.one (.ref 730 0)))] (B91 names base (List.replicate base.length 0) (G37 n) n (base.length+1)) (J72 ⟨le1 rfl,le1 rfl,le1 rfl,le1 rfl,trivial⟩ (fun _ _ h=>h)) ?_
 refine k6 (k2 (k2 (A3 (A4 Z Z (A4 Z Z (A5 ?_))))));refine k1 (k3 ?_)
 obtain ⟨s,hs⟩:∃s:Nat→Loom,s=fun p=>z6 ids base.length n p:=⟨_,rfl⟩
 have hsp:∀p,p≤32→s p=O8 ids base.length n p∧(s p).1.length=base.length∧∀k,((s p).2 k).length=n:=fun p hp=>by
  obtain ⟨q1,_,q3⟩:=hsame p hp
  rw [hs]
  dsimp only
  refine ⟨q1,q3,fun k=>?_⟩
  rw [q1]
  exact ((hok p).gaps k).1
 refine D6 (X:=Nat) (fun p=>([(4,.s (.one (.ref 4 0))),(6,B9 n),(12,C3 (List Int) 1 intsC ids),(13,.s (.one (.ref 730 0))),(84,B9 n),(85,B9 p)],B91 names base (s p).1 (s p).2 n (base.length+1))) (fun p=>p≤n) (fun p=>n - p) 0 (Nat.zero_le _) (by rw [hs];exact J72 ⟨le1 rfl,le1 rfl,le1 rfl,le1 rfl,le1 rfl,le1 rfl,trivial⟩ (fun _ _ h=>h)) ?_
 intro p hp
 dsimp only at hp ⊢
 obtain ⟨p1,p2,p3⟩:=hsp p (by omega)
 refine k2 (A3 (E4 Z Z Z (A5 ?_)));refine k1 (k2 ?_);refine B3 rfl (fun ht=>?_) (fun ht=>?_)
 ·have hlt:p < n:=by have:=A0 ht;omega
  have hv1:ids[((p:Int)+1).toNat]?=some (ids.getD (p+1) []):=by rw [show ((p:Int)+1).toNat=p+1 by omega,K09,K07 (by omega)];rfl
  have hfB:=(hidB _ (K27 hv1)).1
  have hst:s (p+1)=A20 ids (s p) p:=by rw [hs];exact C08 ids base.length n p
  obtain ⟨file,hfile⟩:∃f,f=ids.getD (p+1) []:=⟨_,rfl⟩
  have hst2:s (p+1)=((L3 file base).foldl (Q7 p) (s p).1,(L3 file base).foldl (L1 p file) (s p).2):=by rw [hst,hfile,hb0];rfl
  rw [←hfile] at hv1 hfB
  refine k5 (k1 (k2 (k3 (k2 (A3 (A4 Z Z (A7 Z Z (A5 ?_))))))));refine k1 (k2 (A3 (A4 Z Z (A4 Z Z (A4 Z Z (A4 Z Z (C6 Z Z Z (A6 (B0 Z (.pure _ _ _ _) Z (by omega) hv1) Z (A6 (B1 Z Z) Z (B57 (J44 names base file (s p).1 (s p).2 n p (by omega) (by omega) p2 (by omega) hlt p3) Z Z Z ?_))))))))));rintro _ _ ⟨rfl,rfl⟩;refine A7 Z Z (A5 ?_);refine k1 (k2 (A3 (A4 Z Z (A6 (O9 Z Z) Z (A5 ?_)))));refine k1 ?_;refine B3 rfl (fun ht=>?_) (fun ht=>?_)
  ·cases ht
  refine k5 (k4 (k1 (A3 (C6 Z Z Z (A4 Z Z (A5 ?_))))));refine k1 ?_;refine ⟨p+1,by omega,by omega,?_⟩
  rw [hst2]
  exact J72 ⟨le1 rfl,le1 rfl,le1 rfl,le1 rfl,le1 rfl,le1 rfl,trivial⟩ (fun _ _ h=>h)
 have hpn:p=n:=by have:=A1 ht;omega
 subst hpn
 obtain ⟨ms,hms⟩:∃ms,ms=(s p).1:=⟨_,rfl⟩
 obtain ⟨g,hg⟩:∃g,g=(s p).2:=⟨_,rfl⟩
 have hpair:O8 ids base.length p p=(ms,g):=by rw [←p1,hms,hg]
 rw [←hms,←hg]
 rw [←hms] at p2
 have hgk:=fun k=>(hok p).gaps k
 rw [hpair] at hgk ⊢
 dsimp only at hgk
 refine M9 [(4,.s (.one (.ref 4 0))),(6,B9 p),(13,.s (.one (.ref 730 0)))] ([(4,A14),(730,l9 names base p),(731,.arr Int 1 m9 ms)]++((732,.growT 138 (base.length+1) 1 (L7 intsC (base.length+1) 0 g))::J8 intsC g (List.range (base.length+1)))) (by rw [←H84];exact J72 ⟨le1 rfl,le1 rfl,le1 rfl,trivial⟩ (fun _ _ h=>h)) ?_
 refine G5 (J94 (by omega) rfl rfl (fun r _=>?_) (fun r _=>?_)) ?_
 ·simp only [I1,SV.free,S1.free,TC.free,K2 (show 4≠r+1000 by omega),K2 (show 730≠r+1000 by omega)];rfl
 ·simp only [A61,Ob.free,List.all_cons,List.all_nil,TC.free,K2 (show 731≠r+1000 by omega),K2 (show 732≠r+1000 by omega)];rfl
 obtain ⟨gs,hgs⟩:∃gs,gs=(List.range (base.length+1)).map g:=⟨_,rfl⟩
 rw [←hgs]
 refine G5 (Sees.freeze (k:=731) Z) ?_
 refine G5 (Sees.freezeG (k:=732) Z Z) ?_
 refine M9 [(4,.s (.one (.ref 4 0))),(6,B9 p),(13,.s (.one (.ref 730 0)))] [(4,A14),(730,.box [.p (.list Str 1 M5 names),.p (.list Int 1 F7 base),.p (.list Int 1 m9 ms),.p (.list (List (List Int)) 1 intssC gs),.p (.v (.int .i64 p)),.p (.v (.slice none 0 0))])] (J69 ⟨le1 rfl,le1 rfl,le1 rfl,trivial⟩ ⟨rfl,rfl,trivial⟩) ?_
 refine G5 (J76 733 Row 3 rowC 69 (kb:=730) (o:=5) Z Z Z) ?_
 refine M9 [(4,.s (.one (.ref 4 0))),(6,B9 p),(13,.s (.one (.ref 730 0)))] (A46 names base ms gs p []) (J69 ⟨le1 rfl,le1 rfl,le1 rfl,trivial⟩ ⟨rfl,rfl,rfl,trivial⟩) ?_
 have hnm:∀k,k < f0.length→0≤base.getD k 0∧names[(base.getD k 0).toNat]?=some (f0.getD k []):=by
  intro k hk
  have hm:f0[k]∈names:=by rw [hnames];exact B97 fs _ f0 (by rw [hfs,hf0];simp) (K17 hk)
  have e1:base.getD k 0=I5 names f0[k] 0:=by rw [hbase,K09];unfold L2;rw [K34,K07 hk];rfl
  have e2:f0.getD k []=f0[k]:=by rw [K09,K07 hk];rfl
  have e3:=B33 names f0[k] 0 (Int.le_refl _) hm
  have e4:=H83 names f0[k] 0 (Int.le_refl _) hm
  rw [e1,e2]
  rw [Int.sub_zero] at e4
  exact ⟨e3.1,e4⟩
 have hW:=fun gf=>H82 (gf:=gf) names f0 base ms g p B (by omega) hbl (by omega) (by omega) hnB hgk hnm
 rw [hbl] at hgs
 rw [←hgs] at hW
 refine k6 (k2 (k2 (A3 (A4 Z Z (B57 (hW _) Z Z Z ?_)))));rintro _ _ ⟨rfl,rfl⟩;refine A7 Z Z (A5 ?_);refine k1 (k2 (A3 (A4 Z Z (A6 (O9 Z Z) Z (A5 ?_)))));refine k1 ?_;refine B3 rfl (fun ht=>?_) (fun ht=>?_)
 ·cases ht
 refine k5 (k1 (k2 (A3 (A4 Z Z (A6 (D9 Z) Z (A6 (A8 Z) Z (A6 (C5 Z Z Z) Z (F8 (B8 TySz.out Z Z Z Z Z Z) (A7 Z Z (A5 ?_))))))))));refine k1 (k10 ?_)
 exact B6 (rs:=[pTable ⟨p,V7 names f0 (ms,g) (f0.length+1)⟩,H3 0]) (a7 rfl rfl rfl rfl rfl rfl rfl) rfl
abbrev iS (i:Int):S1:=.one (.p (.v (.int .i64 i)))
set_option maxHeartbeats 1000000
theorem H86 (rows:List Row) (n:Nat) (hn:n≤32) (hr:I8 rows) (hl:rows.length≤268435456):FnOk Tryz.prog 149 [pRows rows,H3 n] (fun rs=>rs=[P0 (G9 rows n)]) :=
 K03 (k:=720) rfl (B86 rows n hn hr hl)
theorem H87 {gf:Fr} {ob:Obs} (l:List Int) (hl:0 < l.length∧l.length≤1073741824) (h:C7 ob 720=some (.arr Int 1 F7 l)) :
  AL.Met Tryz.prog 166 [.one (.mut 720)] gf ob [] (fun rs ob'=>rs=[.one (.p (.list Int 1 F7 l))]∧ob'=ob):=by
 refine AL.Met.intro Tryz.func166 (by decide) Z Z Z ?_
 refine k2 (A3 (A7 Z Z (A5 ?_)));refine k1 (k2 (k2 (A3 (A4 Z Z (A6 (F21 Z h) Z (A5 ?_))))));refine k1 ?_;refine B3 rfl (fun ht=>?_) (fun ht=>?_)
 ·cases ht
 refine k5 (k1 (k2 (A3 (A6 (A12 (c:=F7) (ys:=[]) F3 Z Z Z) Z (A4 Z Z (A6 (C93 Z Z h (by (simp;omega)) (hl.1)) Z (A7 Z Z (A5 ?_))))))))
 rw [K39]
 refine k1 (k10 ?_)
 exact l8 (C81 rfl rfl) (by repeat (first | exact I9 | refine J0 rfl ?_ | refine P2 _ ?_)) (fun _ _ h=>h) ⟨rfl,rfl⟩
theorem I96 (l:List Row) (hl:0 < l.length∧l.length≤1073741824):FnOk Tryz.prog 113 [pRows l] (fun rs=>rs=[pRows l]):=by
 refine FnOk.intro Tryz.func113 (by decide) Z Z Z Z ?_
 refine k2 (A3 (A7 Z Z (A5 ?_)));refine k1 (k2 (k2 (A3 (A4 Z Z ?_))));(first | (refine G06 (F55 rfl (.pure _ _ _ _)) rfl ?_) | (refine G06 (F55 rfl (.buf _ _ _ _ _)) rfl ?_));rintro _ ⟨b1,rfl,hnil⟩;refine A5 ?_;refine k1 ?_;refine B3 rfl (fun ht=>?_) (fun ht=>?_)
 ·have:=hnil ht
  rw [this] at hl
  exact absurd hl.1 (by simp)
 refine k5 (k1 (k2 (A3 (A6 (A12 (c:=rowC) (ys:=[]) F3 Z Z Z) Z (A4 Z Z (A6 (A00 Z Z (.pure _ _ _ _) (by (simp;omega)) (hl.1)) Z (A7 Z Z (A5 ?_))))))))
 rw [K39]
 refine k1 (k10 ?_)
 exact B6 (G6 rfl rfl rfl) rfl
theorem H88 (rows:List Row) (n k:Nat) {e t:Nat} (h:e≤t):M2 (rows.take t) n k=M2 (rows.take e) n k+M2 ((rows.drop e).take (t - e)) n k:=by
 have h1:rows.take t=rows.take e++(rows.drop e).take (t - e):=by
  have:=List.take_add (l:=rows) (i:=e) (j:=t - e)
  rwa [show e+(t - e)=t by omega] at this
 unfold M2
 rw [h1]
 unfold K7
 rw [K56,K20,K06,Int.natCast_add]
def B61 (rows:List Row) (n e t i:Nat):List Int:=(List.range (n+1)).map fun k=>if k < i then M2 (rows.take t) n k else M2 (rows.take e) n k
theorem I97 (rows:List Row) (n e t i:Nat):(B61 rows n e t i).length=n+1:=by simp [B61]
theorem H89 (rows:List Row) (n e t:Nat):B61 rows n e t 0=G9 (rows.take e) n:=by
 unfold B61 G9
 exact List.map_congr_left fun k _=>if_neg (by omega)
theorem H90 (rows:List Row) (n e t:Nat):B61 rows n e t (n+1)=G9 (rows.take t) n:=by
 unfold B61 G9
 exact List.map_congr_left fun k hk=>if_pos (by simpa using hk)
theorem I98 (rows:List Row) (n e t i:Nat) (hi:i < n+1):(B61 rows n e t i)[i]?=some (M2 (rows.take e) n i):=by
 unfold B61
 rw [A38 (n+1) i _ hi,if_neg (by omega)]
theorem I99 (rows:List Row) (n e t i:Nat):(B61 rows n e t i).set i (M2 (rows.take t) n i)=B61 rows n e t (i+1):=by
 refine A37 (n+1) i _ _ _ (fun _=>if_pos (by omega)) (fun q _ hq=>?_)
 by_cases h:q < i
 ·rw [if_pos h,if_pos (by omega)]
 ·rw [if_neg h,if_neg (by omega)]
theorem I41 (rows:List Row) (n k:Nat):0≤M2 rows n k∧M2 rows n k≤rows.length:=by
 unfold M2
 have:=A99 rows (T5 n k)
 omega
set_option maxHeartbeats 1000000
theorem E65 {gf:Fr} {ob:Obs} (t:Table) (n e z:Nat) (hn:t.Parents=n) (hn2:n≤32) (hr:I8 t.Rows) (hl:t.Rows.length≤8388608) (h1:e≤z) (h2:z≤t.Rows.length)
  (h5:C7 ob 5=some (.box (pTable t).s1.cells)) (h13:C7 ob 13=some (u6 e)) (h12:C7 ob 12=some (.box [.mut 720])) (h720:C7 ob 720=some (.arr Int 1 F7 (G9 (t.Rows.take e) n))) :
  AL.Met Tryz.prog 165 [iS z,.one (.ref 5 0),.one (.ref 13 0),.one (.ref 12 0)] gf ob []
   (fun rs ob'=>rs=[]∧ob'=(13,u6 z)::(720,.arr Int 1 F7 (G9 (t.Rows.take z) n))::(5,.box (pTable t).s1.cells)::(12,.box [.mut 720])::ob):=by
 obtain ⟨tp,rows⟩:=t
 have hn:tp=(n:Int):=hn
 subst hn
 dsimp only at hr hl h2 h720 ⊢
 have hsl:((rows.drop e).take (z - e)).length=z - e:=by rw [K19,K23];omega
 have hC:=H86 ((rows.drop e).take (z - e)) n hn2 (fun r hm=>hr r (List.mem_of_mem_drop (List.mem_of_mem_take hm))) (by omega)
 obtain ⟨cs,hcs⟩:∃cs,cs=G9 ((rows.drop e).take (z - e)) n:=⟨_,rfl⟩
 have hcl:cs.length=n+1:=by rw [hcs];simp [G9]
 rw [←hcs] at hC
 refine AL.Met.introH Tryz.func165 (by decide) rfl rfl rfl (fun hH=>?_)
 refine k2 (k2 (C9 (by kernel_rfl) (by kernel_rfl) (A9 (A8 Z) Z Z (A9 (B5 Z h5 Z) Z Z (A9 (B5 Z h13 Z) Z Z (C8 Z Z (A9 (S0 Z (.pure _ _ _ _) Z Z (by (first | omega | (dsimp only;omega))) (by (first | omega | (dsimp only;omega))) (by (first | omega | (dsimp only;omega)))) Z Z (A9 (A8 Z) Z Z (A9 (B5 Z h5 Z) Z Z (A9 (H2 (hC) Z Z) Z Z (A9 (V3 Z (.pure _ _ _ _)) Z Z (C8 Z Z (L6 ?_)))))))))))));refine k1 (k3 ?_);refine D6 (X:=Nat) (fun i=>([(0,B9 z),(1,.s (.one (.ref 5 0))),(2,.s (.one (.ref 13 0))),(3,.s (.one (.ref 12 0))),(14,C3 Int 1 F7 cs),(15,B9 cs.length),(16,B9 i)]++gf,(13,u6 e)::(720,.arr Int 1 F7 (B61 rows n e z i))::(5,.box (pTable ⟨n,rows⟩).s1.cells)::(12,.box [.mut 720])::ob)) (fun i=>i≤n+1) (fun i=>n+1 - i) 0 (Nat.zero_le _) ?_ ?_
 ·dsimp only
  rw [H89]
  exact J71 ⟨le1 rfl,le1 rfl,le1 rfl,le1 rfl,le1 rfl,le1 rfl,le1 rfl,trivial⟩ hH (by repeat (first | exact I9 | refine J0 rfl ?_)) (C18 (L:=[(13,_),(720,_),(5,_),(12,_)]) ⟨h13,h720,h5,h12,trivial⟩ B79)
 intro i hi
 dsimp only at hi ⊢
 have hal:=I97 rows n e z i
 refine k2 (A3 (E4 Z Z Z (A5 ?_)));refine k1 (k2 ?_);refine B3 rfl (fun ht=>?_) (fun ht=>?_)
 ·have hlt:i < n+1:=by have:=A0 ht;omega
  have hv:cs[i]?=some (M2 ((rows.drop e).take (z - e)) n i):=by rw [hcs];unfold G9;exact A38 (n+1) i _ hlt
  have hg:=I98 rows n e z i hlt
  have hst:=I99 rows n e z i
  have hsp:=H88 rows n i h1
  have b1:=I41 (rows.take e) n i
  have b2:=I41 ((rows.drop e).take (z - e)) n i
  have hte:(rows.take e).length=e:=by rw [K19];omega
  have hv2:(B61 rows n e z i)[((i:Nat):Int).toNat]?=some (M2 (rows.take e) n i):=by rw [K12];exact hg
  refine k5 (k1 (k2 (k3 (k2 (A3 (A4 Z Z (A6 (B0 Z (.pure _ _ _ _) Z (by omega) hv) Z (A6 (B1 Z Z) Z (A7 Z Z (A7 Z Z (A5 ?_)))))))))));refine k1 (A3 (E1 Z Z Z Z (A4 Z Z (A6 (E3 Z Z Z (by omega) (by (rw [hal];omega))) Z ?_))));refine A6 (O1 Z Z hv2 Z) Z (A4 Z Z (C6 Z Z Z (A6 (E3 Z Z Z (by omega) (by (rw [hal];omega))) Z ?_)));refine F8 (I2 TySz.out Z Z (by (rw [hal];omega)) Z Z) ?_;refine A5 ?_
  rw [K12,←hsp,hst]
  refine k4 (k1 (A3 (C6 Z Z Z (A4 Z Z (A5 ?_)))));refine k1 ?_;refine ⟨i+1,by omega,by omega,?_⟩
  exact J71 ⟨le1 rfl,le1 rfl,le1 rfl,le1 rfl,le1 rfl,le1 rfl,le1 rfl,trivial⟩ hH (by repeat (first | exact I9 | refine J0 rfl ?_)) (C18 (L:=[(13,_),(720,_),(5,_),(12,_)]) ⟨rfl,rfl,rfl,rfl,trivial⟩ (by repeat (first | exact B79 | refine B80 rfl ?_)))
 have hin:i=n+1:=by have:=A1 ht;omega
 rw [hin,H90]
 refine k6 (k7 (k7 (k8 Z (k1 (A3 (A4 Z Z (F8 (B8 TySz.out Z Z Z Z Z Z) (A5 ?_))))))))
 skip
 exact E27 (rets0 rfl) (by repeat (first | exact I9 | refine J0 rfl ?_)) (C18 (L:=[(13,_),(720,_),(5,_),(12,_)]) ⟨rfl,rfl,rfl,rfl,trivial⟩ (by repeat (first | exact B79 | refine B80 rfl ?_))) ⟨rfl,rfl⟩
def E66 (n:Int):Int→List Span→Bool
 | _,[]=>true
 | e,s::r=>if s.From < e∨s.To≤s.From∨n < s.To then false else E66 n s.To r
theorem H07 (sp:List Span) (n:Int) (hl:sp.length≤536870912):FnOk Tryz.prog 164 [pSpans sp,H3 n] (fun rs=>rs=[M3 (E66 n 0 sp)]):=by
 obtain ⟨W,hW⟩:∃W,W=E66 n 0 sp:=⟨_,rfl⟩
 rw [←hW]
 refine FnOk.intro Tryz.func164 (by decide) Z Z Z Z ?_
 refine k2 (A3 (A7 Z Z (A5 ?_)));refine k1 (k2 (A3 (A7 Z Z (A5 ?_))));refine k1 (k2 (k2 (A3 (A4 Z Z (E7 Z Z (A4 Z Z (A5 ?_)))))));refine k1 (k3 (D6 (X:=Nat × Int) (fun x=>([(1,B9 n),(5,B9 x.2),(8,C3 Span 2 spanC sp),(9,B9 sp.length),(10,B9 x.1)],[])) (fun x=>x.1≤sp.length∧W=E66 n x.2 (sp.drop x.1)) (fun x=>sp.length - x.1) (0,0) ⟨Nat.zero_le _,hW⟩ (J69 ⟨le1 rfl,le1 rfl,le1 rfl,le1 rfl,le1 rfl,trivial⟩ trivial) ?_))
 rintro ⟨k,e⟩ ⟨hk,hp⟩
 dsimp only at hk hp ⊢
 refine k2 (A3 (E4 Z Z Z (A5 ?_)));refine k1 (k2 ?_);refine B3 rfl (fun ht=>?_) (fun ht=>?_)
 rotate_left
 ·have hkl:k=sp.length:=by have:=A1 ht;omega
  rw [hkl,K15 (Nat.le_refl _)] at hp
  have hp:W=true:=hp
  refine k6 (k2 (A3 (A7 Z Z (A5 ?_))));refine k1 (k10 ?_)
  exact B6 (G6 rfl rfl rfl) (by rw [hp])
 have hlt:k < sp.length:=by have:=A0 ht;omega
 have hv:sp[k]?=some sp[k]:=by simp [hlt]
 rw [K13 hlt,E66] at hp
 obtain ⟨s,hsd⟩:∃s,s=sp[k]:=⟨_,rfl⟩
 rw [←hsd] at hp hv
 refine k5 (k1 (k2 (k3 (k2 (A3 (A6 (B0 Z (.pure _ _ _ _) Z (by omega) hv) Z (A6 (G3 Z Z) Z (C1 (I3 757 Z) Z (F8 (B8 TySz.out Z Z Z Z Z Z) (A5 ?_))))))))));refine k1 (k2 (k2 (A3 (A6 (A8 Z) Z (E1 Z Z Z Z (A4 Z Z (E4 Z Z Z (A4 Z Z (B2 Z Z Z Z (fun hg=>by rw [hg];exact A8 Z) ?_)))))))));refine B2 Z Z Z Z (fun hg=>by rw [hg];exact B5 Z Z Z) ?_;refine B2 Z Z Z Z (fun hg=>by rw [hg];exact A8 Z) ?_;refine B2 Z Z Z Z (fun hg=>by rw [hg];exact B5 Z Z Z) ?_;refine B2 Z Z Z Z (fun hg=>by rw [hg];exact j6 Z Z) ?_;refine J4 Z Z ?_;refine A4 Z Z (B2 Z Z Z Z (fun hg=>by rw [hg];exact A8 Z) ?_);refine B2 Z Z Z Z (fun hg=>by rw [hg];exact B5 Z Z Z) ?_;refine B2 Z Z Z Z (fun hg=>by rw [hg];exact B7 Z Z) ?_;refine B2 Z Z Z Z (fun hg=>by rw [hg];exact N5 Z Z) ?_;refine J4 Z Z ?_;refine A5 ?_;refine k1 ?_;refine B3 rfl (fun ht=>?_) (fun ht=>?_)
 ·have hc:s.From < e∨s.To≤s.From∨n < s.To:=by
   by_cases q1:s.From < e
   ·exact .inl q1
   ·by_cases q2:s.To≤s.From
    ·exact .inr (.inl q2)
    ·simp [q1,q2] at ht
     exact .inr (.inr ht)
  rw [if_pos hc] at hp
  refine k2 (A3 (A7 Z Z (A5 ?_)));refine k1 (k10 (k11 (k12 (k11 (k11 (k12 (k11 ?_)))))))
  exact B6 (G6 rfl rfl rfl) (by rw [hp])
 have hc:¬(s.From < e∨s.To≤s.From∨n < s.To):=by
  rintro (q | q | q)
  ·simp [q] at ht
  ·simp [q] at ht
  ·simp [q] at ht
 rw [if_neg hc] at hp
 refine k5 (k1 (A3 (A6 (A8 Z) Z (E1 Z Z Z Z (A7 Z Z (A5 ?_))))));refine k4 (k1 (A3 (C6 Z Z Z (A4 Z Z (A5 ?_)))));refine k1 ?_
 exact ⟨(k+1,s.To),⟨hlt,hp⟩,by dsimp only;omega,J69 ⟨le1 rfl,le1 rfl,le1 rfl,le1 rfl,le1 rfl,trivial⟩ trivial⟩
theorem I42 {n:Nat} {rows:List Row}:∀{sp:List Span} {e:Int} {hs:List CHunk},E66 rows.length e sp=false→V5 n rows e hs sp=none
 | [],e,hs,h=>by cases h
 | s::r,e,hs,h=>by
  rw [E66] at h
  rw [V5]
  by_cases hc:s.From < e∨s.To≤s.From∨(rows.length:Int) < s.To
  ·rw [if_pos hc]
  ·rw [if_neg hc] at h ⊢
   exact I42 h
abbrev z59:Ob:=.box [.p (.v (.string ⟨#[]⟩)),.p (.v (.bool false)),.p (.v (.int .i64 0)),.p (.v (.slice none 0 0))]
set_option maxHeartbeats 1000000
theorem pcut_ok (path:Str) (t:Table) (sp:List Span) (d:Bool) (hr:I8 t.Rows) (hW:(t.Rows.map N1).sum≤8388608) (hx:P3 t.Rows≤8388608) (hsp:sp.length≤536870912) :
  FnOk Tryz.prog 98 [N2 path,pTable t,pSpans sp,M3 d] (fun rs=>rs=[O3 (U8 path t sp d).1,H3 (U8 path t sp d).2]):=by
 have hl:=U2 t.Rows
 have hll:t.Rows.length≤8388608:=by omega
 refine FnOk.intro Tryz.func98 (by decide) Z Z Z Z ?_
 refine k2 (A3 (C1 (R4 5 Z Z Z) Z (C1 (I3 8 Z) Z (A7 Z Z (A5 ?_)))));refine k1 (k2 (k2 (A3 (A4 Z Z (C4 (D35 path) Z Z Z ?_)))));rintro _ rfl;refine O6 Z Z (A5 ?_);refine k1 ?_;refine B3 rfl (fun ht=>?_) (fun ht=>?_)
 ·have h:Q0 path=false:=by simpa using ht
  refine k2 (A3 (A6 (H1 Z) Z (F8 (B8 TySz.out Z Z Z Z Z Z) (A7 Z Z (A5 ?_)))));refine k1 (G5 (J70 CHunk 2 H5 8 3 Z Z) ?_)
  refine k10 (k11 ?_)
  exact B6 (rs:=[O3 comb0,H3 120]) (a7 rfl rfl rfl rfl rfl rfl rfl) (by unfold U8;rw [if_pos h])
 have h:Q0 path=true:=by simpa using ht
 refine k5 (k1 (k2 (k2 (A3 (A6 (C5 Z Z Z) Z (C4 (I71 t hr (by omega) (by omega)) Z Z Z ?_))))));rintro _ rfl;refine A7 Z Z (A5 ?_);refine k1 (k2 (A3 (A4 Z Z (A6 (O9 Z Z) Z (A5 ?_)))));refine k1 ?_;refine B3 rfl (fun ht=>?_) (fun ht=>?_)
 ·have h1:=A0 ht
  refine k2 (A3 (A6 (H1 Z) Z (A4 Z Z (F8 (B8 TySz.out Z Z Z Z Z Z) (A7 Z Z (A5 ?_))))));refine k1 (G5 (J70 CHunk 2 H5 8 3 Z Z) ?_)
  refine k10 (k11 ?_)
  exact B6 (rs:=[O3 comb0,H3 (L4 t)]) (a7 rfl rfl rfl rfl rfl rfl rfl) (by unfold U8;rw [if_neg (by rw [h];decide),if_pos h1])
 have h1:=A1 ht
 have h10:L4 t=0:=by omega
 obtain ⟨hn1,hn2⟩:=B87 h10
 obtain ⟨n,hn⟩:∃n:Nat,t.Parents=n:=⟨t.Parents.toNat,by omega⟩
 obtain ⟨tp,rows⟩:=t
 have hn:tp=(n:Int):=hn
 subst hn
 dsimp only at hr hW hx hl hll hn1 hn2
 have hcut:U8 path ⟨n,rows⟩ sp d=match V5 n rows 0 [] sp with
  | none=>(comb0,3)
  | some hs=>if G8 ⟨path,d,(n:Int),hs⟩≠0 then (comb0,G8 ⟨path,d,(n:Int),hs⟩) else (⟨path,d,(n:Int),hs⟩,0):=by
  unfold U8;rw [if_neg (by rw [h];decide),if_neg (by omega)];rfl
 rw [hcut]
 obtain ⟨W,hWd⟩:∃W,W=V5 n rows 0 [] sp:=⟨_,rfl⟩
 have hcs:∀hs,W=some hs→szC hs≤268435456∧∀x∈hs,I8 x.Rows:=fun hs e=>E11 (n:=n) (by omega) hr hW (by rw [←hWd];exact e)
 have hord0:=I42 (n:=n) (rows:=rows) (sp:=sp) (e:=0) (hs:=[])
 rw [←hWd] at hord0 ⊢
 refine k5 (k1 (k2 (k2 (A3 (A4 Z Z (A6 (A8 Z) Z (E1 Z Z Z Z (E7 Z Z (C4 (H07 sp rows.length hsp) Z Z Z ?_)))))))));rintro _ rfl;refine O6 Z Z (A5 ?_);refine k1 ?_;refine B3 rfl (fun ht=>?_) (fun ht=>?_)
 ·have hno:E66 rows.length 0 sp=false:=by simpa using ht
  rw [hord0 hno]
  refine k2 (A3 (A6 (H1 Z) Z (F8 (B8 TySz.out Z Z Z Z Z Z) (A7 Z Z (A5 ?_)))));refine k1 (G5 (J70 CHunk 2 H5 8 3 Z Z) ?_)
  refine k10 (k11 ?_)
  exact B6 (rs:=[O3 comb0,H3 3]) (a7 rfl rfl rfl rfl rfl rfl rfl) rfl
 have hord:E66 rows.length 0 sp=true:=by simpa using ht
 refine k5 (k1 (k2 (A3 (A4 Z Z (A4 Z Z (A6 (A8 Z) Z (E1 Z Z Z Z (A6 (H1 Z) Z (C1 (I3 11 Z) Z (F8 (B8 TySz.out Z Z Z Z Z Z) (A5 ?_)))))))))));refine G5 (J76 754 CHunk 2 H5 59 (kb:=11) (o:=3) Z Z Z) ?_
 refine k2 ?_
 have e0:((n:Int)+1).toNat=n+1:=by omega
 have hz:List.replicate (n+1) (0:Int)=G9 (rows.take 0) n:=by
  refine List.ext_getElem (by simp [G9]) fun q h1 h2=>?_
  simp [G9,M2,K7]
 refine A3 (A6 (A8 Z) Z (E1 Z Z Z Z (C6 Z Z Z (C1 (Y0 720 Int F7 0 Z Z (by omega) (by omega) (fun _=>by first | exact ⟨⟨rfl,rfl⟩,trivial⟩ | exact ⟨P6 _ _ _,trivial⟩) (by first | rfl | (simp [I1,I7,Ob.free,SV.free,S1.free,TC.free]<;>rfl))) Z ?_))));refine C1 (I3 12 Z) Z (F8 (B8 TySz.out Z Z Z Z Z Z) (A5 ?_))
 rw [e0,hz]
 refine k1 (k2 (A3 (C1 (I3 13 Z) Z (F8 (B8 TySz.out Z Z Z Z Z Z) (A5 ?_)))));refine k1 (k2 (A3 (A6 (C51 Z Z) Z (A7 Z Z (A5 ?_)))));refine k1 (k2 (k2 (A3 (A4 Z Z (E7 Z Z (A4 Z Z (A5 ?_)))))));refine k1 (k3 (D6 (X:=Nat × Nat × List CHunk) (fun x=>([(5,.s (.one (.ref 5 0))),(8,.s (.one (.ref 8 0))),(11,.s (.one (.ref 11 0))),(12,.s (.one (.ref 12 0))),(14,.s (.one (.clo 165 [] [(5,0),(13,0),(12,0)]))),(45,C3 Span 2 spanC sp),(46,B9 sp.length),(47,B9 x.1)],[(5,.box (pTable ⟨n,rows⟩).s1.cells),(8,z59),(11,.box [.p (.v (.string ⟨path.toArray⟩)),.p (.v (.bool d)),.p (.v (.int .i64 n)),.buf 754 CHunk 2 H5 x.2.2]),(754,.spare x.2.2.length 2 59),(12,.box [.mut 720]),(13,u6 x.2.1),(720,.arr Int 1 F7 (G9 (rows.take x.2.1) n))])) (fun x=>x.1≤sp.length∧x.2.1≤rows.length∧x.2.2.length≤x.1∧W=V5 n rows x.2.1 x.2.2 (sp.drop x.1)∧E66 rows.length x.2.1 (sp.drop x.1)=true) (fun x=>sp.length - x.1) (0,0,[]) ⟨Nat.zero_le _,Nat.zero_le _,Nat.le_refl _,hWd,hord⟩ (J69 ⟨le1 rfl,le1 rfl,le1 rfl,le1 rfl,le1 rfl,le1 rfl,le1 rfl,le1 rfl,trivial⟩ ⟨rfl,rfl,rfl,rfl,rfl,rfl,rfl,trivial⟩) ?_))
 rintro ⟨k,e,hs⟩ ⟨hk,he,hsl,hp,ho⟩
 dsimp only at hk he hsl hp ho ⊢
 refine k2 (A3 (E4 Z Z Z (A5 ?_)));refine k1 (k2 ?_);refine B3 rfl (fun ht=>?_) (fun ht=>?_)
 rotate_left
 ·have hkl:k=sp.length:=by have:=A1 ht;omega
  rw [hkl,K15 (Nat.le_refl _)] at hp
  have hp:W=some hs:=hp
  obtain ⟨z1,z2⟩:=hcs hs hp
  rw [hp]
  dsimp only
  refine k6 (k2 (k2 (A3 (A6 (C5 Z Z Z) Z (C4 (A36 ⟨path,d,n,hs⟩ z1 z2) Z Z Z ?_)))));rintro _ rfl;refine A7 Z Z (A5 ?_);refine k1 (k2 (A3 (A4 Z Z (A6 (O9 Z Z) Z (A5 ?_)))));refine k1 ?_;refine B3 rfl (fun ht=>?_) (fun ht=>?_)
  ·have h2:=A0 ht
   refine k2 (A3 (A6 (H1 Z) Z (A4 Z Z (F8 (B8 TySz.out Z Z Z Z Z Z) (A7 Z Z (A5 ?_))))));refine k1 (G5 (J70 CHunk 2 H5 8 3 Z Z) ?_)
   refine k10 (k11 ?_)
   exact B6 (rs:=[O3 comb0,H3 (G8 ⟨path,d,n,hs⟩)]) (a7 rfl rfl rfl rfl rfl rfl rfl) (by rw [if_pos h2])
  ·have h2:=A1 ht
   refine k5 (k1 (k2 (A3 (A6 (C5 Z Z Z) Z (F8 (B8 TySz.out Z Z Z Z Z Z) (A7 Z Z (A5 ?_)))))));refine k1 (k10 ?_)
   exact B6 (rs:=[O3 ⟨path,d,n,hs⟩,H3 0]) (a7 rfl rfl rfl rfl rfl rfl rfl) (by rw [if_neg h2])
 have hlt:k < sp.length:=by have:=A0 ht;omega
 have hv:sp[k]?=some sp[k]:=by simp [hlt]
 rw [K13 hlt,V5] at hp
 rw [K13 hlt,E66] at ho
 obtain ⟨s,hsd⟩:∃s,s=sp[k]:=⟨_,rfl⟩
 rw [←hsd] at hp hv ho
 have hc:¬(s.From < (e:Int)∨s.To≤s.From∨(rows.length:Int) < s.To):=by
  intro hc
  rw [if_pos hc] at ho;cases ho
 rw [if_neg hc] at hp ho
 simp only [not_or,Int.not_lt,Int.not_le] at hc
 obtain ⟨c1,c2,c3⟩:=hc
 obtain ⟨F,hF⟩:∃F:Nat,s.From=F:=⟨s.From.toNat,by omega⟩
 obtain ⟨T,hT⟩:∃T:Nat,s.To=T:=⟨s.To.toNat,by omega⟩
 obtain ⟨sF,sT⟩:=s
 have hF:sF=(F:Int):=hF
 have hT:sT=(T:Int):=hT
 subst hF hT
 dsimp only at c1 c2 c3 hp ho
 rw [K12,K12] at hp
 have hsub:((rows.drop F).take (T - F)).length=T - F:=by rw [K19,K23];omega
 have hcl:(G9 (rows.take F) n).length=n+1:=by simp [G9]
 refine k5 (k1 (k2 (k3 (k2 (A3 (A6 (B0 Z (.pure _ _ _ _) Z (by omega) hv) Z (A6 (G3 Z Z) Z (C1 (I3 16 Z) Z (F8 (B8 TySz.out Z Z Z Z Z Z) (A5 ?_))))))))));refine M9 [(5,.s (.one (.ref 5 0))),(8,.s (.one (.ref 8 0))),(11,.s (.one (.ref 11 0))),(12,.s (.one (.ref 12 0))),(14,.s (.one (.clo 165 [] [(5,0),(13,0),(12,0)]))),(16,.s (.one (.ref 16 0))),(45,C3 Span 2 spanC sp),(46,B9 sp.length),(47,B9 k)] [(5,.box (pTable ⟨n,rows⟩).s1.cells),(8,z59),(11,.box [.p (.v (.string ⟨path.toArray⟩)),.p (.v (.bool d)),.p (.v (.int .i64 n)),.buf 754 CHunk 2 H5 hs]),(754,.spare hs.length 2 59),(12,.box [.mut 720]),(13,u6 e),(720,.arr Int 1 F7 (G9 (rows.take e) n)),(16,.box [.p (.v (.int .i64 F)),.p (.v (.int .i64 T))])] (J69 ⟨le1 rfl,le1 rfl,le1 rfl,le1 rfl,le1 rfl,le1 rfl,le1 rfl,le1 rfl,le1 rfl,trivial⟩ ⟨rfl,rfl,rfl,rfl,rfl,rfl,rfl,rfl,trivial⟩) ?_
 refine k2 (A3 (A4 Z Z (A6 (A8 Z) Z (E1 Z Z Z Z (D32 (E65 ⟨n,rows⟩ n e F Z (by omega) hr (by dsimp only;omega) (by omega) (by dsimp only;omega) Z Z Z Z) Z Z Z Z ?_)))));rintro _ _ ⟨rfl,rfl⟩;refine A5 ?_;refine M9 [(5,.s (.one (.ref 5 0))),(8,.s (.one (.ref 8 0))),(11,.s (.one (.ref 11 0))),(12,.s (.one (.ref 12 0))),(14,.s (.one (.clo 165 [] [(5,0),(13,0),(12,0)]))),(16,.s (.one (.ref 16 0))),(45,C3 Span 2 spanC sp),(46,B9 sp.length),(47,B9 k)] [(5,.box (pTable ⟨n,rows⟩).s1.cells),(8,z59),(11,.box [.p (.v (.string ⟨path.toArray⟩)),.p (.v (.bool d)),.p (.v (.int .i64 n)),.buf 754 CHunk 2 H5 hs]),(754,.spare hs.length 2 59),(12,.box [.mut 720]),(13,u6 F),(720,.arr Int 1 F7 (G9 (rows.take F) n)),(16,.box [.p (.v (.int .i64 F)),.p (.v (.int .i64 T))])] (J69 ⟨le1 rfl,le1 rfl,le1 rfl,le1 rfl,le1 rfl,le1 rfl,le1 rfl,le1 rfl,le1 rfl,trivial⟩ ⟨rfl,rfl,rfl,rfl,rfl,rfl,rfl,rfl,trivial⟩) ?_
 refine k2 ?_
 have hCR:=I96 ((rows.drop F).take (T - F)) (by omega)
 have hCI:=fun gf ob h=>H87 (gf:=gf) (ob:=ob) (G9 (rows.take F) n) (by omega) h
 refine T7 [16,14,3] [[],[3],[14,3],[16,14,3]] [(3,([],[])),(14,([754],[56])),(16,([],[]))] [(0,[]),(1,[]),(2,[]),(3,[]),(4,[]),(5,[]),(6,[]),(7,[]),(8,[]),(9,[]),(10,[]),(11,[3]),(12,[3]),(13,[3]),(14,[3]),(15,[14,3]),(16,[14,3])] [(0,[3]),(1,[3]),(4,[3]),(5,[3]),(6,[3]),(7,[3]),(8,[3]),(9,[3]),(10,[3])] (by kernel_rfl) (by kernel_rfl) (E2 Z Z (by kernel_rfl) Z Z (A8 Z) (E2 Z Z (by kernel_rfl) Z Z (B5 Z Z Z) (E2 Z Z (by kernel_rfl) Z Z (B5 Z Z Z) (X7 Z Z (by kernel_rfl) Z Z (r_met (fun gf=>hCI gf _ Z) Z Z) Z (E2 Z Z (by kernel_rfl) Z Z (A8 Z) (E2 Z Z (by kernel_rfl) Z Z (B5 Z Z Z) (E2 Z Z (by kernel_rfl) Z Z (A8 Z) (E2 Z Z (by kernel_rfl) Z Z (B5 Z Z Z) (E2 Z Z (by kernel_rfl) Z Z (A8 Z) (E2 Z Z (by kernel_rfl) Z Z (B5 Z Z Z) (E2 Z Z (by kernel_rfl) Z Z (S0 Z (.pure _ _ _ _) Z Z (by (first | omega | (dsimp only;omega))) (by (first | omega | (dsimp only;omega))) (by (first | omega | (dsimp only;omega)))) (E2 Z Z (by kernel_rfl) Z Z (H2 (hCR) Z Z) (E2 Z Z (by kernel_rfl) Z Z (H1 Z) (E2 Z Z (by kernel_rfl) Z Z (D5 (c:=H5) (ys:=[⟨G9 (rows.take F) n,(rows.drop F).take (T - F)⟩]) (E0 Z Z Z Z F3) Z Z Z) (X7 Z Z (by kernel_rfl) Z Z (B78 (fun frc hU=>G4 (W8 hU Z) Z (W8 hU Z) (.pure _ _ _ _) (by (simp only [K08,K11];omega)) Z)) Z (E2 Z Z (by kernel_rfl) Z Z (A8 Z) (X7 Z Z (by kernel_rfl) Z Z (D60 (fun frc hU=>B8 TySz.out (W8 hU Z) Z (W8 hU Z) Z Z Z)) Z ?_)))))))))))))))));refine D59 (by kernel_rfl) rfl ?_ ?_
 ·refine G1 Z Z (by kernel_rfl) Z Z (A8 Z) (G1 Z Z (by kernel_rfl) Z Z (B5 Z Z Z) (G1 Z Z (by kernel_rfl) Z Z (A8 Z) (G1 Z Z (by kernel_rfl) Z Z (B5 Z Z Z) (G1 Z Z (by kernel_rfl) Z Z (A8 Z) (G1 Z Z (by kernel_rfl) Z Z (B5 Z Z Z) (G1 Z Z (by kernel_rfl) Z Z (A8 Z) (G1 Z Z (by kernel_rfl) Z Z (B5 Z Z Z) (G1 Z Z (by kernel_rfl) Z Z (S0 Z (.pure _ _ _ _) Z Z (by (first | omega | (dsimp only;omega))) (by (first | omega | (dsimp only;omega))) (by (first | omega | (dsimp only;omega)))) ?_))))))));exact C88
 refine M9 [(5,.s (.one (.ref 5 0))),(8,.s (.one (.ref 8 0))),(11,.s (.one (.ref 11 0))),(12,.s (.one (.ref 12 0))),(14,.s (.one (.clo 165 [] [(5,0),(13,0),(12,0)]))),(16,.s (.one (.ref 16 0))),(45,C3 Span 2 spanC sp),(46,B9 sp.length),(47,B9 k)] [(5,.box (pTable ⟨n,rows⟩).s1.cells),(8,z59),(11,.box [.p (.v (.string ⟨path.toArray⟩)),.p (.v (.bool d)),.p (.v (.int .i64 n)),.buf 754 CHunk 2 H5 (hs++[⟨G9 (rows.take F) n,(rows.drop F).take (T - F)⟩])]),(754,.spare (hs++[(⟨G9 (rows.take F) n,(rows.drop F).take (T - F)⟩:CHunk)]).length 2 59),(12,.box [.mut 720]),(13,u6 F),(720,.arr Int 1 F7 (G9 (rows.take F) n)),(16,.box [.p (.v (.int .i64 F)),.p (.v (.int .i64 T))])] (J69 ⟨le1 rfl,le1 rfl,le1 rfl,le1 rfl,le1 rfl,le1 rfl,le1 rfl,le1 rfl,le1 rfl,trivial⟩ ⟨rfl,rfl,rfl,rfl,rfl,rfl,rfl,rfl,trivial⟩) ?_
 skip
 refine A3 (A4 Z Z (A6 (A8 Z) Z (E1 Z Z Z Z (D32 (E65 ⟨n,rows⟩ n F T Z (by omega) hr (by dsimp only;omega) (by omega) (by dsimp only;omega) Z Z Z Z) Z Z Z Z ?_))));rintro _ _ ⟨rfl,rfl⟩;refine A5 ?_;refine k4 (k1 (A3 (C6 Z Z Z (A4 Z Z (A5 ?_)))));refine k1 ?_
 exact ⟨(k+1,T,hs++[⟨G9 (rows.take F) n,(rows.drop F).take (T - F)⟩]),⟨by dsimp only;omega,by dsimp only;omega,by dsimp only;rw [K06];simp;omega,hp,ho⟩,by dsimp only;omega,J69 ⟨le1 rfl,le1 rfl,le1 rfl,le1 rfl,le1 rfl,le1 rfl,le1 rfl,le1 rfl,trivial⟩ ⟨rfl,rfl,rfl,rfl,rfl,rfl,rfl,trivial⟩⟩
def C99 (t:Table):List Span:=if 0 < t.Rows.length then [⟨0,t.Rows.length⟩] else []
def D38 (path x:Str) (r:List Str):Comb × Int :=
 if Q0 path=false then (comb0,120) else if (F2 x r).2≠0 then (comb0,(F2 x r).2) else U8 path (F2 x r).1 (C99 (F2 x r).1) false
set_option maxHeartbeats 1000000
theorem J47 (path x:Str) (r:List Str) (h:Small16 x r) (hL:∀b∈x::r,(C2 b).length≤16):FnOk Tryz.prog 43 [N2 path,N2 x,x4 r] (fun rs=>rs=[O3 (D38 path x r).1,H3 (D38 path x r).2]):=by
 have hx:=h.hx
 obtain ⟨s1,s2,s3⟩:=h.sums
 have hl:=h.len
 have hrows:=h.rows
 have hrn:=h.n
 have hm:=J46 x r 16 (by omega) (by omega) ⟨hL x (by simp),by omega⟩ (fun b hb=>⟨hL b (by simp [hb]),by have:=h.hr b hb;omega⟩)
 obtain ⟨t,e,hte⟩:∃t e,F2 x r=(t,e):=⟨_,_,rfl⟩
 rw [hte] at s1 s2 hl hrows hm
 dsimp only at s1 s2 hl hrows hm
 have hc:=pcut_ok path t (C99 t) false hrows (by omega) (by omega) (by unfold C99;split<;>simp)
 have hres:D38 path x r=if Q0 path=false then (comb0,120) else if e≠0 then (comb0,e) else U8 path t (C99 t) false:=by
  unfold D38;rw [hte]
 rw [hres]
 refine FnOk.intro Tryz.func43 (by decide) Z Z Z Z ?_
 refine k2 (A3 (C1 (I3 6 Z) Z (A7 Z Z (A5 ?_))));refine k1 (k2 (k2 (A3 (A4 Z Z (C4 (D35 path) Z Z Z ?_)))));rintro _ rfl;refine O6 Z Z (A5 ?_);refine k1 ?_;refine B3 rfl (fun ht=>?_) (fun ht=>?_)
 ·have h:Q0 path=false:=by simpa using ht
  refine k2 (A3 (A6 (H1 Z) Z (F8 (B8 TySz.out Z Z Z Z Z Z) (A7 Z Z (A5 ?_)))));refine k1 (G5 (J70 CHunk 2 H5 6 3 Z Z) ?_)
  refine k10 (k11 ?_)
  exact B6 (rs:=[O3 comb0,H3 120]) (a7 rfl rfl rfl rfl rfl rfl rfl) (by rw [if_pos h])
 have h1:Q0 path=true:=by simpa using ht
 rw [if_neg (by rw [h1];decide)]
 refine k5 (k1 (k2 (A3 (A4 Z Z (A4 Z Z (C4 (hm) Z Z Z ?_))))));rintro _ rfl;refine A4 Z Z (H9 Z Z Z (H9 Z Z Z (C1 (I3 8 Z) Z (F8 (B8 TySz.out Z Z Z Z Z Z) (A7 Z Z (A5 ?_))))));refine k1 (k2 (k2 (A3 (A4 Z Z (A6 (O9 Z Z) Z (A5 ?_))))));refine k1 ?_;refine B3 rfl (fun ht=>?_) (fun ht=>?_)
 ·have h2:=A0 ht
  refine k2 (A3 (A6 (H1 Z) Z (A4 Z Z (F8 (B8 TySz.out Z Z Z Z Z Z) (A7 Z Z (A5 ?_))))));refine k1 (G5 (J70 CHunk 2 H5 6 3 Z Z) ?_)
  refine k10 (k11 ?_)
  exact B6 (rs:=[O3 comb0,H3 e]) (a7 rfl rfl rfl rfl rfl rfl rfl) (by rw [if_pos h2])
 have h2:=A1 ht
 rw [if_neg h2]
 refine k5 (k1 (k2 (A3 (A6 (M8 _ 2 spanC) Z (A5 ?_)))));refine k1 (k2 (k2 (A3 (A6 (A8 Z) Z (E1 Z Z Z Z (E7 Z Z (A6 (N5 Z Z) Z (A5 ?_))))))));refine k1 ?_;refine B3 rfl (fun ht=>?_) (fun ht=>?_)
 ·have h3:=A0 ht
  have hsp:C99 t=[⟨0,t.Rows.length⟩]:=by unfold C99;rw [if_pos (by omega)]
  rw [hsp] at hc ⊢
  skip
  refine A3 (A6 (A8 Z) Z (E1 Z Z Z Z (E7 Z Z (A6 (H1 Z) Z (A6 (D5 (c:=spanC) (ys:=[⟨0,(t.Rows.length:Int)⟩]) (E0 Z Z Z Z F3) Z Z Z) Z (A7 Z Z (A5 ?_)))))));refine k1 (k2 (A3 (A4 Z Z (A6 (C5 Z Z Z) Z (A4 Z Z (C4 (hc) Z Z Z ?_))))));rintro _ rfl;refine H9 Z Z Z (H9 Z Z Z (F8 (B8 TySz.out Z Z Z Z Z Z) (A7 Z Z (A5 ?_))));refine k1 (k10 ?_)
  exact B6 (a7 rfl rfl rfl rfl rfl rfl rfl) rfl
 ·have h3:=A1 ht
  have hsp:C99 t=[]:=by unfold C99;rw [if_neg (by omega)]
  rw [hsp] at hc ⊢
  refine k5 (k1 (k2 (A3 (A4 Z Z (A6 (C5 Z Z Z) Z (A4 Z Z (C4 (hc) Z Z Z ?_)))))));rintro _ rfl;refine H9 Z Z Z (H9 Z Z Z (F8 (B8 TySz.out Z Z Z Z Z Z) (A7 Z Z (A5 ?_))));refine k1 (k10 ?_)
  exact B6 (a7 rfl rfl rfl rfl rfl rfl rfl) rfl
def exX:Str:=[97,10,99,10]
def exR:List Str:=[[97,10,98,10],[97,10,99,10]]
def exC:Comb:=⟨[120],false,2,[⟨[0,0,0],[⟨false,0,[97,10]⟩,⟨true,1,[98,10]⟩,⟨false,1,[99,10]⟩]⟩]⟩
def exS:Str:=[100,105,102,102,32,45,45,99,111,109,98,105,110,101,100,32,120,10,112,97,114,101,110,116,115,32,50,10,64,64,64,32,45,49,44,50,32,45,49,44,50,32,43,49,44,50,32,64,64,64,10,32,32,97,10,45,32,98,10,43,32,99,10]
theorem ex_c0:E6 [[],[]]=([],0):=by simp [E6,H8,R8,P9,F5,F9]
theorem ex_c1:E6 [[2],[]]=([⟨2,1⟩],0):=by
 have hb:H0 0=1:=by decide
 simp [E6,H8,R8,P9,F5,F9,hb]
def u7:List (List Int):=[[0,1],[0,2],[0,1]]
theorem ex_loom:(O8 u7 2 2 2).1=[0,1]∧(O8 u7 2 2 2).2 0=[[],[]]∧(O8 u7 2 2 2).2 1=[[2],[]]∧(O8 u7 2 2 2).2 2=[[],[]]:=by
 have w0:L3 [0,2] [0,1]=[⟨1,1,1,1⟩]:=by simp [L3,F9,dist,i7,O0]
 have w1:L3 [0,1] [0,1]=[]:=by simp [L3,F9,i7,O0]
 have h0:M6 u7 (A17 2 2) 0=((S2 [⟨1,1,1,1⟩] 2).foldl (M1 0) ((A17 2 2).1.map (K6 · (H0 0))),[(⟨1,1,1,1⟩:Change)].foldl (L1 0 [0,2]) (A17 2 2).2):=by
  rw [←w0];rfl
 have h1:O8 u7 2 2 2=((S2 [] 2).foldl (M1 1) ((M6 u7 (A17 2 2) 0).1.map (K6 · (H0 1))),(M6 u7 (A17 2 2) 0).2):=by
  show M6 u7 (M6 u7 (A17 2 2) 0) 1=_
  have:M6 u7 (M6 u7 (A17 2 2) 0) 1=((S2 (L3 [0,1] [0,1]) 2).foldl (M1 1) ((M6 u7 (A17 2 2) 0).1.map (K6 · (H0 1))),(L3 [0,1] [0,1]).foldl (L1 1 [0,1]) (M6 u7 (A17 2 2) 0).2):=rfl
  rw [this,w1];rfl
 rw [h1,h0]
 refine ⟨by decide,by decide,by decide,by decide⟩
theorem ex_make:F2 exX exR=(⟨2,[⟨false,0,[97,10]⟩,⟨true,1,[98,10]⟩,⟨false,1,[99,10]⟩]⟩,0):=by
 have e0:C2 exX=[[97,10],[99,10]]:=by decide
 have e1:exR.map C2=[[[97,10],[98,10]],[[97,10],[99,10]]]:=by decide
 have e2:E5 [[[97,10],[99,10]],[[97,10],[98,10]],[[97,10],[99,10]]]=[[97,10],[99,10],[98,10]]:=by decide
 have e3:[[[97,10],[99,10]],[[97,10],[98,10]],[[97,10],[99,10]]].map (L2 [[97,10],[99,10],[98,10]])=u7:=by decide
 obtain ⟨l1,l2,l3,l4⟩:=ex_loom
 have hR:exR.length=2:=rfl
 have hc:∀k,k < 3→E6 ((O8 u7 2 2 2).2 k)=if k=1 then ([⟨2,1⟩],0) else ([],0):=by
  intro k hk
  match k,hk with
  | 0,_=>rw [l2,ex_c0];rfl
  | 1,_=>rw [l3,ex_c1];rfl
  | 2,_=>rw [l4,ex_c0];rfl
 unfold F2
 rw [if_neg (by decide)]
 dsimp only
 rw [e0,e1,e2,e3]
 have hno:¬∃k,k < 3∧(E6 ((O8 u7 2 2 2).2 k)).2≠0:=by
  rintro ⟨k,hk,h⟩
  rw [hc k hk] at h
  split at h<;>exact h rfl
 refine (if_neg hno).trans ?_
 show ((⟨2,V7 [[97,10],[99,10],[98,10]] [[97,10],[99,10]] (O8 u7 2 2 2) 3⟩:Table),(0:Int))=_
 have hr:∀k,k < 3→S3 [[97,10],[99,10],[98,10]] [[97,10],[99,10]] (O8 u7 2 2 2) k=if k=0 then [⟨false,0,[97,10]⟩] else if k=1 then [⟨true,1,[98,10]⟩,⟨false,1,[99,10]⟩] else []:=by
  intro k hk
  unfold S3
  rw [hc k hk,l1]
  match k,hk with
  | 0,_=>rfl
  | 1,_=>rfl
  | 2,_=>rfl
 rw [q9,q9,q9,hr 0 (by omega),hr 1 (by omega),hr 2 (by omega)]
 rfl
theorem H08:G8 exC=0:=by kernel_rfl
theorem ex_full:D38 [120] exX exR=(exC,0):=by
 unfold D38
 rw [ex_make,if_neg (by decide),if_neg (by decide)]
 dsimp only
 have h1:L4 ⟨2,[⟨false,0,[97,10]⟩,⟨true,1,[98,10]⟩,⟨false,1,[99,10]⟩]⟩=0:=by decide
 have h2:V5 (Int.toNat 2) [⟨false,0,[97,10]⟩,⟨true,1,[98,10]⟩,⟨false,1,[99,10]⟩] 0 [] (C99 ⟨2,[⟨false,0,[97,10]⟩,⟨true,1,[98,10]⟩,⟨false,1,[99,10]⟩]⟩)=some exC.Hunks:=by decide
 unfold U8
 rw [if_neg (by decide),h1,if_neg (by decide)]
 dsimp only
 rw [h2]
 dsimp only
 rw [show G8 ⟨[120],false,2,exC.Hunks⟩=0 from H08,if_neg (by decide)]
 rfl
theorem J48:i8 exC=exS:=by kernel_rfl
theorem ex_small:Small16 exX exR∧∀b∈exX::exR,(C2 b).length≤16:=by
 have hall:∀b∈exX::exR,(C2 b).length≤16∧b.length≤140:=by
  intro b hb
  have h1:b.length≤4:=by
   have:∀b∈exX::exR,b.length≤4:=by decide
   exact this b hb
  have h2:=U5 b
  omega
 obtain ⟨k1,k2,k3⟩:=D16 exX exR 16 140 (hall exX (by simp)) (fun b hb=>hall b (by simp [hb]))
 exact ⟨⟨by decide,by decide,fun b hb=>(hall b (by simp [hb])).2,k1,Nat.le_trans k2 (by decide),k3⟩,fun b hb=>(hall b hb).1⟩
theorem B24:FnOk Tryz.prog 35 [] (fun rs=>rs=[M3 true]):=by
 have h1:=J47 [120] exX exR ex_small.1 ex_small.2
 rw [ex_full] at h1
 have h2:=B21 exC (by decide) (by intro h hh;simp [exC] at hh;subst hh;intro r hr;simp at hr;rcases hr with rfl | rfl | rfl<;>decide)
 rw [if_pos H08,J48] at h2
 refine FnOk.intro Tryz.func35 (by decide) Z Z Z Z ?_
 refine k2 (A3 (A7 Z Z (A5 ?_)));refine k1 (k2 (A3 (A6 (D5 (c:=M5) (ys:=exR) (E0 Z Z Z Z (E0 Z Z Z Z F3)) Z Z Z) Z (C4 (h1) Z Z Z ?_))));rintro _ rfl;refine A4 Z Z (H9 Z Z Z (H9 Z Z Z (C1 (I3 1 Z) Z (F8 (B8 TySz.out Z Z Z Z Z Z) (A7 Z Z (A5 ?_))))));refine k1 (k2 (A3 (A6 (C5 Z Z Z) Z (C4 (h2) Z Z Z ?_))));rintro _ rfl;refine A4 Z Z (H9 Z Z Z (H9 Z Z Z (A7 Z Z (A7 Z Z (A5 ?_)))));refine k1 (k2 (A3 (A4 Z Z (A6 (K0 Z Z) Z (A4 Z Z (B2 Z Z Z Z (fun hg=>by rw [hg];exact B7 Z Z) ?_))))));refine B2 Z Z Z Z (fun hg=>by rw [hg];exact K0 Z Z) ?_;refine J4 Z Z ?_;refine A4 Z Z (B2 Z Z Z Z (fun hg=>by rw [hg];exact B7 Z Z) ?_);refine B2 Z Z Z Z (fun hg=>by rw [hg];exact A30 Z Z) ?_;refine J4 Z Z ?_;refine A7 Z Z (A5 ?_);refine k1 (k10 ?_)
 exact B6 (rs:=[M3 true]) (G6 rfl rfl rfl) rfl
theorem J00 (raw:List Int) (n:Int) (x:Str) (r:List Str) (h:y6 raw n=x::r):FnOk Tryz.prog 36 [P0 raw,H3 n] (fun rs=>rs=[N2 x,x4 r]):=by
 have hm:=U4 n (n:=4) (by omega)
 have hlen:(x::r).length=(2+R5 n 4).toNat:=by rw [←h];simp [y6,c8]
 have hb:=J36 raw (2+R5 n 4).toNat 7 (by omega) (by omega)
 have hcast:(((2+R5 n 4).toNat:Nat):Int)=2+R5 n 4:=by omega
 rw [hcast] at hb
 have hbr:c8 raw (2+R5 n 4).toNat 7=x::r:=h
 rw [hbr] at hb
 refine FnOk.intro Tryz.func36 (by decide) Z Z Z Z ?_
 refine k2 (A3 (A7 Z Z (A7 Z Z (A5 ?_))));refine k1 (k2 (A3 (A4 Z Z (A4 Z Z (C4 (A43 n 4 (by omega) (by omega)) Z Z Z ?_)))));rintro _ rfl;refine C6 Z Z Z (C4 (hb) Z Z Z ?_);rintro _ rfl;refine A7 Z Z (A5 ?_);refine k1 (k2 (C9 (by kernel_rfl) (by kernel_rfl) (C8 Z Z (A9 (B0 Z (.pure _ _ _ _) Z (by omega) (show (x::r)[(0:Int).toNat]?=some x from Z)) Z Z (A9 (B1 Z Z) Z Z (C8 Z Z (A9 (C13 Z (.pure _ _ _ _) Z (by (first | omega | (simp only [K08];omega))) (by (first | omega | (simp only [K08];omega)))) Z Z (A9 (J6 Z Z) Z Z (A9 (J6 Z Z) Z Z (L6 ?_))))))))));refine k1 (k10 (B6 (s6 Z Z Z Z Z) ?_))
 rfl
theorem J49 {raw:List Int} {n:Int} {x:Str} {r:List Str} (h:y6 raw n=x::r):∀b∈x::r,(C2 b).length≤16:=by rw [←h];exact fun b hb=>(E61 raw n b hb).1
theorem A33 {x:Str} {r:List Str} (h:Small16 x r) (h1:1≤r.length) (hL:∀b∈x::r,(C2 b).length≤16):(F2 x r).2=0∧L4 (F2 x r).1=0∧(F2 x r).1.Parents=r.length∧Made16 x r (F2 x r).1.Rows:=by
 have hn:=h.n
 have hz:(F2 x r).2=0:=H49 (B:=16) ⟨h1,hn⟩ (hL x (by simp)) (fun b hb=>hL b (by simp [hb])) (by omega)
 have hx1:=hL x (by simp)
 have h2:∀b∈r,(C2 b).length≤4096:=fun b hb=>by have:=hL b (by simp [hb]);omega
 have h3:=D95 (by omega) h2 hz
 exact ⟨hz,G60 (by omega) h2 hz,h3.2⟩
theorem H09 {path:Str} {x:Str} {r:List Str} {sp:List Span} (d:Bool) (hp:Q0 path=true) (hpl:path.length≤400) (h:Small16 x r) (h1:1≤r.length) (hL:∀b∈x::r,(C2 b).length≤16) (hsp:CutSp (F2 x r).1.Rows.length 0 sp) :
  U8 path (F2 x r).1 sp d=(⟨path,d,r.length,c6 r.length (F2 x r).1.Rows sp⟩,0)∧G8 ⟨path,d,r.length,c6 r.length (F2 x r).1.Rows sp⟩=0:=by
 obtain ⟨_,g2,g3,_⟩:=A33 h h1 hL
 have hl:=h.len
 have hs:=h.sums.2.2 r.length (by have:=h.n;omega)
 have hg:=I17 (path:=path) (sp:=sp) (d:=d) hp g2 (by omega) hsp (by rw [g3,K12];omega)
 rw [g3,K12] at hg
 exact ⟨hg.1,hg.2.1⟩
theorem B93 {path x:Str} {r:List Str} {ctx:Int} (d:Bool) (hp:Q0 path=true) (hpl:path.length≤400) (h:Small16 x r) (h1:1≤r.length) (hL:∀b∈x::r,(C2 b).length≤16) (hc:0≤ctx∧ctx≤1048576) :
  Z5 path x r ctx d=(⟨path,d,r.length,c6 r.length (F2 x r).1.Rows (N9 (F2 x r).1 ctx d).1⟩,0)∧G8 (Z5 path x r ctx d).1=0∧Z5 path x r ctx d=U8 path (F2 x r).1 (N9 (F2 x r).1 ctx d).1 d∧CutSp (F2 x r).1.Rows.length 0 (N9 (F2 x r).1 ctx d).1:=by
 obtain ⟨g1,g2,_,_⟩:=A33 h h1 hL
 obtain ⟨k1,k2⟩:=D24 (t:=(F2 x r).1) d g2 hc
 obtain ⟨c1,c2⟩:=H09 d hp hpl h h1 hL k2
 have e:Z5 path x r ctx d=U8 path (F2 x r).1 (N9 (F2 x r).1 ctx d).1 d:=by
  unfold Z5
  rw [if_neg (by rw [hp];decide),g1,if_neg (by decide),k1,if_neg (by decide)]
 refine ⟨e.trans c1,?_,e,k2⟩
 rw [e,c1];exact c2
theorem J01 {path x:Str} {r:List Str} {ctx:Int} {d:Bool} (h:Small16 x r):szC (Z5 path x r ctx d).1.Hunks≤268435456∧∀y∈(Z5 path x r ctx d).1.Hunks,I8 y.Rows:=by
 by_cases he:(Z5 path x r ctx d).2=0
 ·obtain ⟨_,_,e1⟩:=I91 he
  rw [e1];exact J43 h.rows (by have:=h.sums.2.1;omega)
 ·rw [H79 he];exact ⟨by decide,fun y hy=>by cases hy⟩
set_option maxHeartbeats 1000000
theorem F31 {c:Comb} (h:G8 c=0):(1≤c.Parents∧c.Parents≤32)∧X2 c.Parents.toNat c.Hunks=true∧R9 c.Parents.toNat (List.replicate (c.Parents.toNat+1) 0) c.Hunks=true∧T3 (L5 c.Hunks) c.Parents.toNat=true:=by
 unfold G8 at h
 split at h
 ·cases h
 ·split at h
  ·cases h
  ·rename_i h0
   split at h
   ·cases h
   ·rename_i h1
    split at h
    ·cases h
    ·rename_i h2
     have h2:P5 c.Parents.toNat c.Hunks=true:=by simpa using h2
     unfold P5 at h2
     rw [K10] at h2
     exact ⟨by omega,by simpa using h1,h2.1,h2.2⟩
theorem at_nn {n:Nat} {hs:List CHunk} (hg:R9 n (List.replicate (n+1) 0) hs=true) {h:CHunk} (hm:h∈hs):h.At.length=n+1∧h.Rows≠[]∧∀v∈h.At,0≤v:=by
 obtain ⟨a1,a2,a3⟩:=B01 hs _ (fun k hk=>by rw [K09,List.getElem?_replicate_of_lt hk];exact Int.le_refl _) hg h hm
 refine ⟨a1,a2,fun v hv=>?_⟩
 obtain ⟨k,hk,rfl⟩:=List.getElem_of_mem hv
 have:=(a3 k (by omega)).1
 rw [K09,K07 hk] at this
 exact this
set_option maxHeartbeats 1000000
end Go.Proofs.YtbiadkkamhpdnaaGreatDoor
