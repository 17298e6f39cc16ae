/- Walks of the program's functions. -/
import Derived.Test.YtbiadkkamhpdnaaGreatDoorFa
import Derived.Test.YtbiadkkamhpdnaaGreatDoorFf
import Derived.Test.YtbiadkkamhpdnaaGreatDoorFe
import Derived.Test.YtbiadkkamhpdnaaGreatDoorFs
set_option linter.unusedSimpArgs false
namespace Go.Proofs.YtbiadkkamhpdnaaGreatDoor
open Go Go.AL
set_option maxRecDepth 100000
theorem B67 {b:Str} (h:b.length≤200):X3 b=0:=by
 have:=R1 b
 rw [X3,if_neg (by omega)]
theorem H85 {m r:Nat} {z:TC} (h:r < m):(R6 m m z)[r]?=some (.mut (r+1000)):=by
 unfold R6;rw [J30,J37 h];simp [h]
def A86 (f:Int→Int) (l:List Int) (k:Nat):List Int:=(l.take k).map f++l.drop k
theorem F25 (f:Int→Int) (l:List Int) (k:Nat):(A86 f l k).length=l.length:=by simp [A86];omega
theorem H86 (f:Int→Int) (l:List Int) (k:Nat) (h:k < l.length):(A86 f l k)[k]?=some (l.getD k 0):=by
 unfold A86
 rw [J29 (by simp;omega)]
 simp [show k - min k l.length=0 by omega,J05 h,J08]
theorem H87 (f:Int→Int) (l:List Int) (k:Nat) (h:k < l.length):(A86 f l k).set k (f (l.getD k 0))=A86 f l (k+1):=by
 unfold A86
 rw [List.set_append_right _ _ (by simp;omega),J11 h,J13 h]
 have e:k - min k l.length=0:=by omega
 simp only [J21,J20,e,List.set_cons_zero,J19,J16,J40,J17,J53,J08,J05 h,Option.getD_some]
theorem G82 (f:Int→Int) (l:List Int):A86 f l 0=l:=by simp [A86]
theorem G83 (f:Int→Int) (l:List Int):A86 f l l.length=l.map f:=by simp [A86]
set_option maxHeartbeats 1000000
theorem H88 (result:Str) (parents:List Str) (h0:result.length≤200) (h1:∀b∈parents,b.length≤200):FnOk Tryz.prog 46 [P5 result,u9 parents] (fun rs=>rs=[pTable (F7 result parents).1,I7 (F7 result parents).2]):=by
 refine FnOk.intro Tryz.func46 (by decide) Z Z Z Z ?_
 refine A40 (t:=1) rfl (.pure _ _ _ _) fun hplen=>?_
 refine k2 ?_
 refine A4 (C3 (H7 4 Z) Z (A3 (A6 Z Z) Z (A7 ?_)))
 refine k1 (k2 ?_)
 refine A4 (A3 (A5 Z Z) Z (A3 (D5 Z (.pure _ _ _ _)) Z (A3 (A6 Z Z) Z (A7 ?_))))
 refine k1 (k2 (k2 ?_))
 refine A4 (A3 (A5 Z Z) Z (A3 (D9 Z Z) Z (A3 (A5 Z Z) Z (B4 Z Z Z Z (fun hg=>by rw [hg];exact A5 Z Z) ?_))));refine B4 Z Z Z Z (fun hg=>by rw [hg];exact P6 Z Z) ?_;refine A3 (B8 Z (fun h=>by first | rfl | (rw [h];rfl)) (fun h=>by first | rfl | (rw [h];rfl))) Z ?_;refine A7 ?_
 refine k1 ?_
 refine B5 rfl (fun ht=>?_) (fun ht=>?_)
 ·have h:=A0 (or_pick.symm.trans ht)
  refine k2 ?_
  refine A4 (A3 (H6 Z) Z (F8 (C0 TySz.out Z Z Z Z Z Z) (A3 (A6 Z Z) Z (A7 ?_))))
  refine k1 ?_
  refine H3 (I76 Row 3 rowC 4 1 Z Z) ?_
  refine k10 (k11 ?_)
  exact B6 (rs:=[pTable ⟨0,[]⟩,I7 2]) (l5 rfl rfl rfl rfl rfl rfl rfl) (by rw [F7,if_pos (by omega)])
 ·have h := A1 (or_pick.symm.trans ht)
  refine L7 [(0,W4 result),(1,B9 Str 1 L1 parents),(4,.s (.one (.ref 4 0))),(6,B7 parents.length)] [(4,.box [.p (.v (.int .i64 0)),.p (.v (.slice none 0 0))])] (I72 ⟨le1 rfl,le1 rfl,le1 rfl,le1 rfl,trivial⟩ ⟨rfl,trivial⟩) ?_
  refine k5 (k1 (k2 ?_))
  refine A4 (A3 (A5 Z Z) Z (C5 (C15 result (by omega)) Z Z Z ?_));rintro _ rfl;refine C3 (B76 39 (c:=strsC) (ys:=[_]) (E0 Z Z Z Z F6) Z Z Z (by first | rfl | (simp [H4,I3,Ob.free,SV.free,S1.free,TC.free]<;>rfl))) Z ?_;refine A3 (A6 Z Z) Z (A7 ?_)
  refine k1 (k2 (k2 ?_))
  refine A4 (A3 (A5 Z Z) Z (C5 (F74 result (by omega)) Z Z Z ?_));rintro _ rfl;refine A3 (A6 Z Z) Z (A7 ?_)
  refine k1 (k2 ?_)
  rw [B67 h0]
  refine A4 (A3 (A5 Z Z) Z (A3 (O3 Z Z) Z (A7 ?_)))
  refine k1 ?_
  refine B5 rfl (fun ht=>?_) (fun ht=>?_)
  ·cases A0 ht rfl
  ·refine k5 (k1 (k2 (k2 ?_)))
   refine A4 (A3 (A6 Z Z) Z (A7 ?_))
   refine k1 (k3 ?_)
   obtain ⟨n,hn⟩:∃n,n=parents.length:=⟨_,rfl⟩
   rw [←hn] at h
   refine C7 (X:=Nat) (fun p=>([(1,B9 Str 1 L1 parents),(4,.s (.one (.ref 4 0))),(6,B7 n),(7,.s (.one (.buf 39 (List Str) 1 strsC (C1 result::(parents.take p).map C1)))),(9,B7 p)],[(4,.box [.p (.v (.int .i64 0)),.p (.v (.slice none 0 0))]),(39,.spare (C1 result::(parents.take p).map C1).length 1 60)])) (fun p=>p≤n) (fun p=>n - p) 0 (Nat.zero_le _) (by rw [hn];exact I72 ⟨le1 rfl,le1 rfl,le1 rfl,le1 rfl,le1 rfl,trivial⟩ ⟨rfl,rfl,trivial⟩) ?_
   intro p hp
   dsimp only at hp ⊢
   have hfl:(C1 result::(parents.take p).map C1).length=p+1:=by simp;omega
   refine k2 (k2 ?_)
   refine A4 (A3 (A5 Z Z) Z (A3 (A5 Z Z) Z (A3 (D9 Z Z) Z (A7 ?_))))
   refine k1 ?_
   refine B5 rfl (fun ht=>?_) (fun ht=>?_)
   ·have hlt:p < parents.length:=by have:=A0 ht;omega
    have hv:parents[p]?=some parents[p]:=by simp [hlt]
    have hb:=h1 _ (J15 hlt)
    have hst:C1 result::(parents.take (p+1)).map C1=(C1 result::(parents.take p).map C1)++[C1 parents[p]]:=by
     rw [List.take_add_one,hv,Option.toList_some,J19];rfl
    refine k5 (k1 (k2 (k3 (k2 (k2 ?_)))))
    refine A4 (A3 (A5 Z Z) Z (A3 (A5 Z Z) Z ?_));refine A3 (B1 rfl (.pure _ _ _ _) rfl (by omega) (J05 (by omega))) rfl ?_;refine A3 (B3 Z Z) Z (C5 (F74 parents[p] (by omega)) Z Z Z ?_);rintro _ rfl;refine A3 (A6 Z Z) Z (A7 ?_)
    refine k1 (k2 ?_)
    rw [B67 hb]
    refine A4 (A3 (A5 Z Z) Z (A3 (O3 Z Z) Z (A7 ?_)))
    refine k1 ?_
    refine B5 rfl (fun ht=>?_) (fun ht=>?_)
    ·cases A0 ht rfl
    ·refine k5 (k1 ?_)
     refine A4 (A3 (A5 Z Z) Z (A3 (A5 Z Z) Z (A3 (A5 Z Z) Z ?_)));refine A3 (B1 rfl (.pure _ _ _ _) rfl (by omega) (J05 (by omega))) rfl ?_;refine A3 (B3 Z Z) Z (C5 (C15 parents[p] (by omega)) Z Z Z ?_);rintro _ rfl;refine A3 (C8 (c:=strsC) (ys:=[_]) (E0 Z Z Z Z F6) Z Z Z) Z (C3 (G9 Z Z Z (.pure _ _ _ _) (by (rw [hfl];simp only [J07,J10];omega)) Z) Z ?_);refine A3 (A6 Z Z) Z (A7 ?_)
     refine k4 (k1 ?_)
     refine A4 (A3 (A5 Z Z) Z (A3 (C2 Z Z (by omega)) Z (A3 (A6 Z Z) Z (A7 ?_))))
     refine k1 ?_
     refine ⟨p+1,by omega,by omega,?_⟩
     rw [hst]
     exact I72 ⟨le1 rfl,le1 rfl,le1 rfl,le1 rfl,le1 rfl,trivial⟩ ⟨rfl,rfl,trivial⟩
   ·have hp':p=n:=by have:=A1 ht;omega
    rw [hp',hn,J23]
    rw [hp',hn,J23] at hfl
    rw [←hn] at hfl ⊢
    obtain ⟨fs,hfs⟩:∃fs,fs=C1 result::parents.map C1:=⟨_,rfl⟩
    rw [←hfs] at hfl ⊢
    have hfsB:∀f∈fs,f.length≤200∧f.flatten.length≤200:=by
     intro f hf
     rw [hfs] at hf
     rcases List.mem_cons.1 hf with rfl | hf
     ·have:=R1 result;rw [U8];omega
     ·obtain ⟨b,hb,rfl⟩:=List.mem_map.1 hf
      have:=R1 b;have:=h1 b hb;rw [U8];omega
    have hmk:F7 result parents=if ∃k,k < (C1 result).length+1∧(E3 ((M8 (fs.map (J3 (E2 fs))) (C1 result).length n n).2 k)).2≠0 then (⟨0,[]⟩,1) else (⟨n,R9 (E2 fs) (C1 result) (M8 (fs.map (J3 (E2 fs))) (C1 result).length n n) ((C1 result).length+1)⟩,0):=by
     rw [F7,if_neg (by omega),hn,hfs]
    have hn1:fs.length=n+1:=by rw [hfl]
    have hf0:fs[0]?=some (C1 result):=by rw [hfs];rfl
    have hflat:fs.flatten.length≤6600:=by
     have key:∀l:List (List Str),(∀f∈l,f.length≤200∧f.flatten.length≤200)→l.flatten.length≤200*l.length:=by
      intro l hl
      induction l with
      | nil=>simp
      | cons x r ih=>have:=ih (fun f hf=>hl f (by simp [hf]));have:=(hl x (by simp)).1;simp only [J24,J06,J07];omega
     have:=key fs hfsB;omega
    obtain ⟨names,hnames⟩:∃names,names=E2 fs:=⟨_,rfl⟩
    obtain ⟨ids,hids⟩:∃ids,ids=fs.map (J3 names):=⟨_,rfl⟩
    obtain ⟨L,hL⟩:∃L,L=(C1 result).length:=⟨_,rfl⟩
    have hLB:L≤200:=by rw [hL];exact (hfsB _ (by rw [hfs];simp)).1
    have hidsl:ids.length=n+1:=by rw [hids,J21,hn1]
    have hidB:∀x∈ids,x.length≤200∧∀v∈x,0≤v∧v < (names.length:Int):=by
     intro x hx
     rw [hids,hnames] at hx
     have h2:=G90 fs x hx
     obtain ⟨f,hf,rfl⟩:=List.mem_map.1 hx
     exact ⟨by rw [J3,J21];exact (hfsB f hf).1,by rw [hnames];exact h2⟩
    have hid0:(ids.getD 0 []).length=L:=by rw [hids,J08,J30,hf0,hL];simp [J3]
    have hv0:ids[0]?=some (ids.getD 0 []):=by rw [J08,J05 (by omega)];rfl
    refine L7 [(4,.s (.one (.ref 4 0))),(6,B7 n),(7,B9 (List Str) 1 strsC fs)] [(4,.box [.p (.v (.int .i64 0)),.p (.v (.slice none 0 0))])] (I72 ⟨le1 rfl,le1 rfl,leL rfl,trivial⟩ ⟨rfl,trivial⟩) ?_
    refine k6 (k2 ?_)
    refine A4 (A3 (A5 Z Z) Z (C5 (F76 fs (by omega)) Z Z Z ?_));rintro _ rfl;refine A3 (A5 Z Z) Z (C5 (ids_ok fs (by omega) (by omega)) Z Z Z ?_);rintro _ rfl;refine A3 (A6 Z Z) Z (A3 (A6 Z Z) Z (A7 ?_))
    rw [←hnames,←hids]
    refine k1 (k2 ?_)
    refine A4 (A3 (A5 Z Z) Z (A3 (B1 Z (.pure _ _ _ _) Z (by omega) hf0) Z (A3 (B3 Z Z) Z (A3 (D5 Z (.pure _ _ _ _)) Z (A3 (A6 Z Z) Z (A7 ?_))))))
    rw [←hL]
    refine k1 (k2 ?_)
    refine A4 (A3 (A5 Z Z) Z (C3 (U1 14 Int Z0 0 Z Z (by omega) (by omega) (fun _=>by first | exact ⟨⟨rfl,rfl⟩,trivial⟩ | exact ⟨N1 _ _ _,trivial⟩) (by first | rfl | (simp [H4,I3,Ob.free,SV.free,S1.free,TC.free]<;>rfl))) Z ?_));refine A3 (A6 Z Z) Z (A7 ?_)
    refine k1 (k2 ?_)
    refine A4 (A3 (A5 Z Z) Z (A3 (C2 Z Z (by omega)) Z (C3 (U1 15 (List (List Int)) intssC [] Z Z (by omega) (by omega) (fun _=>by first | exact ⟨⟨rfl,rfl⟩,trivial⟩ | exact ⟨N1 _ _ _,trivial⟩) (by first | rfl | (simp [H4,I3,Ob.free,SV.free,S1.free,TC.free]<;>rfl))) Z ?_)));refine A3 (A6 Z Z) Z (A7 ?_)
    refine k1 (k2 (k2 ?_))
    refine A4 (A3 (A6 Z Z) Z (A7 ?_))
    refine k1 (k3 ?_)
    refine H3 (I87 15 Z) ?_
    obtain ⟨z,hz⟩:∃z:TC,z=.p (intssC [] 0):=⟨_,rfl⟩
    have hzf:∀k,z.free k=true:=fun k=>by rw [hz];rfl
    have hrep:(List.replicate ((L:Int)+1).toNat ([]:List (List Int))).map (fun x=>TC.p (intssC x 0))=R6 (L+1) 0 z:=by
     rw [←G55,hz];simp
    refine C7 (X:=Nat) (fun k=>([(4,.s (.one (.ref 4 0))),(6,B7 n),(7,B9 (List Str) 1 strsC fs),(11,B9 Str 1 L1 names),(12,B9 (List Int) 1 intsC ids),(13,B7 L),(14,.s (.one (.mut 14))),(15,.s (.one (.mut 15))),(16,B7 k)],
     (4,.box [.p (.v (.int .i64 0)),.p (.v (.slice none 0 0))])::(14,.arr Int 1 Z0 (List.replicate L 0))::(15,.tarr (L+1) 1 (R6 (L+1) k z))::I4 intsC (fun _=>List.replicate n []) (List.range k))) (fun k=>k≤L+1) (fun k=>L+1 - k) 0 (Nat.zero_le _) ?_ ?_
    ·refine I72 ⟨⟨_,rfl,.same _⟩,⟨_,rfl,.same _⟩,⟨_,rfl,.same _⟩,⟨_,rfl,.same _⟩,⟨_,rfl,.same _⟩,⟨_,rfl,.same _⟩,⟨_,rfl,.same _⟩,⟨_,rfl,.same _⟩,⟨_,rfl,.same _⟩,trivial⟩ ⟨rfl,rfl,?_,trivial⟩
     rw [←hrep];simp [C4,List.length_replicate]
    ·intro k hk
     dsimp only at hk ⊢
     refine k2 (k2 ?_)
     refine A4 (A3 (A5 Z Z) Z (A3 (A5 Z Z) Z (A3 (A04 Z Z) Z (A7 ?_))))
     refine k1 ?_
     refine B5 rfl (fun ht=>?_) (fun ht=>?_)
     ·have hlt:k < L+1:=by have:=A0 ht;omega
      have hfree:I3 (k+1000) ((4,.box [.p (.v (.int .i64 0)),.p (.v (.slice none 0 0))])::(14,.arr Int 1 Z0 (List.replicate L 0))::(15,.tarr (L+1) 1 (R6 (L+1) k z))::I4 intsC (fun _=>List.replicate n ([]:List Int)) (List.range k))=true:=by
       have h1:=A44 (k:=k+1000) (by omega) (List.range k) (fun r hr=>by have:=List.mem_range.1 hr;omega) (c:=intsC) (g:=fun _=>List.replicate n ([]:List Int))
       have h2:=G57 (m:=L+1) (k:=k) (hzf (k+1000))
       simp only [I3,Ob.free,h1,h2,I6 (show 4≠k+1000 by omega),I6 (show 14≠k+1000 by omega),I6 (show 15≠k+1000 by omega)]
       rfl
      refine k5 (k1 (k2 (k3 ?_)))
      refine A4 (A3 (A5 Z Z) Z (A3 (A5 Z Z) Z (A3 (A5 Z Z) Z (C3 (U1 (k+1000) (List Int) intsC [] Z Z (by omega) (by omega) (fun _=>by first | exact ⟨⟨rfl,rfl⟩,trivial⟩ | exact ⟨N1 _ _ _,trivial⟩) (by simp only [H4,SV.free,S1.free,TC.free,hfree,I6 (show 4≠k+1000 by omega),I6 (show 14≠k+1000 by omega),I6 (show 15≠k+1000 by omega)];rfl)) Z ?_))));refine A3 (H0 Z (by rw [B2 (by omega)];rfl) Z (by omega) (by omega)) Z ?_;refine F8 (c5 TySz.out Z (by rw [B2 (by omega)];rfl) (by (rw [C05];omega)) Z Z) ?_;refine A7 ?_
      refine k4 (k1 ?_)
      refine A4 (A3 (A5 Z Z) Z (A3 (C2 Z Z (by omega)) Z (A3 (A6 Z Z) Z (A7 ?_))))
      refine k1 ?_
      refine ⟨k+1,by omega,by omega,?_⟩
      refine I74 ⟨⟨_,rfl,.same _⟩,⟨_,rfl,.same _⟩,⟨_,rfl,.same _⟩,⟨_,rfl,.same _⟩,⟨_,rfl,.same _⟩,⟨_,rfl,.same _⟩,⟨_,rfl,.same _⟩,⟨_,rfl,.same _⟩,⟨_,rfl,.eq (by simp)⟩,trivial⟩ ?_
      refine I21 (g:=fun _=>List.replicate n ([]:List Int)) (pre:=[(4,.box [.p (.v (.int .i64 0)),.p (.v (.slice none 0 0))]),(14,.arr Int 1 Z0 (List.replicate L 0)),(15,.tarr (L+1) 1 (R6 (L+1) k z))])
       (pre':=[(4,.box [.p (.v (.int .i64 0)),.p (.v (.slice none 0 0))]),(14,.arr Int 1 Z0 (List.replicate L 0)),(15,.tarr (L+1) 1 (R6 (L+1) (k+1) z))]) (top:=[(15,.tarr (L+1) 1 ((R6 (L+1) k z).set k (.mut (k+1000))))]) rfl rfl ?_ rfl
      intro k' o ho
      rw [H57]
      by_cases h15:15=k'
      ·subst h15;exact ho
      ·by_cases h4:4=k'
       ·subst h4;rw [J53,B2 (by omega),B2 (by omega)];exact ho
       ·by_cases h14:14=k'
        ·subst h14;rw [J53,B2 (by omega),B2 (by omega)];exact ho
        ·rw [B2 h4,B2 h14,B2 h15] at ho;cases ho
     ·have hkL:k=L+1:=by have:=A1 ht;omega
      rw [hkL]
      clear hkL ht hk k
      refine L7 [(4,.s (.one (.ref 4 0))),(6,B7 n),(7,B9 (List Str) 1 strsC fs),(11,B9 Str 1 L1 names),(12,B9 (List Int) 1 intsC ids),(13,B7 L),(14,.s (.one (.mut 14))),(15,.s (.one (.mut 15)))]
       ((4,.box [.p (.v (.int .i64 0)),.p (.v (.slice none 0 0))])::(14,.arr Int 1 Z0 (List.replicate L 0))::(15,.tarr (L+1) 1 (R6 (L+1) (L+1) z))::I4 intsC (fun _=>List.replicate n []) (List.range (L+1))) (I74 ⟨⟨_,rfl,.same _⟩,⟨_,rfl,.same _⟩,⟨_,rfl,.same _⟩,⟨_,rfl,.same _⟩,⟨_,rfl,.same _⟩,⟨_,rfl,.same _⟩,⟨_,rfl,.same _⟩,⟨_,rfl,.same _⟩,trivial⟩ (fun _ _ h=>h)) ?_
      refine k6 (k2 (k2 ?_))
      refine A4 (A3 (A6 Z Z) Z (A7 ?_))
      refine k1 (k3 ?_)
      obtain ⟨s,hs⟩:∃s:Nat→Loom,s=fun p=>M8 ids L n p:=⟨_,rfl⟩
      have hok:∀p,LoomOk (fun v=>0≤v∧v < (names.length:Int)) 200 L n (s p):=fun p=>by rw [hs];exact x7 hidB p
      refine C7 (X:=Nat) (fun p=>([(4,.s (.one (.ref 4 0))),(6,B7 n),(7,B9 (List Str) 1 strsC fs),(11,B9 Str 1 L1 names),(12,B9 (List Int) 1 intsC ids),(13,B7 L),(14,.s (.one (.mut 14))),(15,.s (.one (.mut 15))),(17,B7 p)],
       (4,.box [.p (.v (.int .i64 0)),.p (.v (.slice none 0 0))])::(14,.arr Int 1 Z0 (s p).1)::(15,.tarr (L+1) 1 (R6 (L+1) (L+1) z))::I4 intsC (s p).2 (List.range (L+1)))) (fun p=>p≤n) (fun p=>n - p) 0 (Nat.zero_le _) ?_ ?_
      ·have h0s:s 0=r9 L n:=by rw [hs];rfl
       rw [h0s]
       exact I74 ⟨⟨_,rfl,.same _⟩,⟨_,rfl,.same _⟩,⟨_,rfl,.same _⟩,⟨_,rfl,.same _⟩,⟨_,rfl,.same _⟩,⟨_,rfl,.same _⟩,⟨_,rfl,.same _⟩,⟨_,rfl,.same _⟩,⟨_,rfl,.same _⟩,trivial⟩ (fun _ _ h=>h)
      intro p hp
      dsimp only at hp ⊢
      have hsp:=hok p
      refine k2 (k2 ?_)
      refine A4 (A3 (A5 Z Z) Z (A3 (A5 Z Z) Z (A3 (D9 Z Z) Z (A7 ?_))))
      refine k1 ?_
      refine B5 rfl (fun ht=>?_) (fun ht=>?_)
      ·have hlt:p < n:=by have:=A0 ht;omega
       have hv1:ids[p+1]?=some (ids.getD (p+1) []):=by rw [J08,J05 (by omega)];rfl
       have hstep:s (p+1)=K6 ids (s p) p:=by rw [hs];exact A14 ids L n p
       have hfB:=hidB _ (J26 hv1)
       obtain ⟨file,hfile⟩:∃f,f=ids.getD (p+1) []:=⟨_,rfl⟩
       obtain ⟨base,hbase⟩:∃f,f=ids.getD 0 []:=⟨_,rfl⟩
       rw [←hbase] at hid0 hv0
       rw [←hfile] at hv1 hfB
       have hwb:=A59 file base
       have hmw:=A58 file base
       have hwg:=C16 file base 0 0
       have hwl:=T0 0 0 file base
       have hml:=p6 (F3 0 0 file base) 0 0 file.length base.length
       obtain ⟨sc,hsc⟩:∃sc,sc=J5 file base:=⟨_,rfl⟩
       have hscl:sc.length≤201:=by rw [hsc];have h2:(J5 file base).length=(L9 0 0 (F3 0 0 file base) file.length base.length).length:=rfl;omega
       rw [←hsc] at hwb hmw
       refine k5 (k1 (k2 (k3 (k2 ?_))))
       refine D8 (by kernel_rfl) (by kernel_rfl) (B0 (A5 Z Z) Z Z (B0 (A5 Z Z) Z Z (B0 (C2 Z Z (by omega)) Z Z (B0 (B1 Z (.pure _ _ _ _) Z (by omega) (by rw [show ((p:Int)+1).toNat=p+1 by omega];exact hv1)) Z Z ?_))));refine B0 (B3 Z Z) Z Z (B0 (A5 Z Z) Z Z (B0 (B1 Z (.pure _ _ _ _) Z (by omega) hv0) Z Z (B0 (B3 Z Z) Z Z (B0 (P1 (H25 file base (by omega) (by omega)) Z Z) Z Z (B0 (A6 Z Z) Z Z (O5 ?_))))))
       rw [←hsc]
       obtain ⟨m0,hm0⟩:∃m0,m0=(s p).1:=⟨_,rfl⟩
       have hm0l:m0.length=L:=by rw [hm0];exact hsp.len
       have hbit:=B82 p
       refine k1 (k2 (k2 ?_))
       refine A4 (A3 (A6 Z Z) Z (A7 ?_))
       refine k1 (k3 ?_)
       refine C7 (X:=Nat) (fun k=>([(4,.s (.one (.ref 4 0))),(6,B7 n),(7,B9 (List Str) 1 strsC fs),(11,B9 Str 1 L1 names),(12,B9 (List Int) 1 intsC ids),(13,B7 L),(14,.s (.one (.mut 14))),(15,.s (.one (.mut 15))),(17,B7 p),(18,B9 Change 4 changeC sc),(19,B7 k)],(4,.box [.p (.v (.int .i64 0)),.p (.v (.slice none 0 0))])::(14,.arr Int 1 Z0 (A86 (I8 · (G3 p)) m0 k))::(15,.tarr (L+1) 1 (R6 (L+1) (L+1) z))::I4 intsC (s p).2 (List.range (L+1)))) (fun k=>k≤L) (fun k=>L - k) 0 (Nat.zero_le _) ?_ ?_
       ·rw [G82,hm0]
        exact I74 ⟨⟨_,rfl,.same _⟩,⟨_,rfl,.same _⟩,⟨_,rfl,.same _⟩,⟨_,rfl,.same _⟩,⟨_,rfl,.same _⟩,⟨_,rfl,.same _⟩,⟨_,rfl,.same _⟩,⟨_,rfl,.same _⟩,⟨_,rfl,.same _⟩,⟨_,rfl,.same _⟩,⟨_,rfl,.same _⟩,trivial⟩ (fun _ _ h=>h)
       intro k hk
       dsimp only at hk ⊢
       refine k2 (k2 ?_)
       refine A4 (A3 (A5 Z Z) Z (A3 (A5 Z Z) Z (A3 (D9 Z Z) Z (A7 ?_))))
       refine k1 ?_
       refine B5 rfl (fun ht=>?_) (fun ht=>?_)
       ·have hkl:k < m0.length:=by have:=A0 ht;omega
        have hget:=H86 (I8 · (G3 p)) m0 k hkl
        have hset:=H87 (I8 · (G3 p)) m0 k hkl
        have hml':=F25 (I8 · (G3 p)) m0 k
        refine k5 (k1 (k2 (k3 ?_)))
        refine A4 (A3 (A5 Z Z) Z (A3 (A5 Z Z) Z (A3 (A5 Z Z) Z (A3 (A5 Z Z) Z (A3 (E1 Z Z Z (by omega) (by (rw [hml'];omega))) Z ?_)))));refine A3 (O4 Z Z hget Z) Z (A3 (A5 Z Z) Z (A3 (M9 Z) Z (A3 (E36 Z Z (by (exact hbit))) Z ?_)));refine A3 (V7 Z Z Z (fun _=>rfl)) Z (A3 (E1 Z Z Z (by omega) (by (rw [hml'];omega))) Z ?_);refine F8 (G8 TySz.out Z Z (by (rw [hml'];exact hkl)) Z Z) ?_;refine A7 ?_
        refine k4 (k1 ?_)
        refine A4 (A3 (A5 Z Z) Z (A3 (C2 Z Z (by omega)) Z (A3 (A6 Z Z) Z (A7 ?_))))
        refine k1 ?_
        refine ⟨k+1,by omega,by omega,?_⟩
        rw [←hset]
        exact I74 ⟨⟨_,rfl,.same _⟩,⟨_,rfl,.same _⟩,⟨_,rfl,.same _⟩,⟨_,rfl,.same _⟩,⟨_,rfl,.same _⟩,⟨_,rfl,.same _⟩,⟨_,rfl,.same _⟩,⟨_,rfl,.same _⟩,⟨_,rfl,.same _⟩,⟨_,rfl,.same _⟩,⟨_,rfl,.eq (by simp)⟩,trivial⟩ (E44 rfl trivial trivial)
       ·have hkL:k=m0.length:=by have:=A1 ht;omega
        rw [hkL,G83]
        clear hkL ht hk k
        obtain ⟨m1,hm1⟩:∃m1,m1=m0.map (I8 · (G3 p)):=⟨_,rfl⟩
        have hm1l:m1.length=L:=by rw [hm1,J21,hm0l]
        rw [←hm1]
        refine k6 (k2 ?_)
        refine A4 (A3 (A5 Z Z) Z (A3 (A5 Z Z) Z (A3 (A5 Z Z) Z (A3 (C2 Z Z (by omega)) Z (A3 (B1 Z (.pure _ _ _ _) Z (by omega) (by rw [show ((p:Int)+1).toNat=p+1 by omega];exact hv1)) Z ?_)))));refine A3 (B3 Z Z) Z (A3 (D5 Z (.pure _ _ _ _)) Z (C5 (D46 sc file.length (by omega) (by omega) (fun c hc=>by have:=hwb c hc;omega)) Z Z Z ?_));rintro _ rfl;refine A3 (A6 Z Z) Z (A7 ?_)
        rw [hmw]
        obtain ⟨ps,hps⟩:∃ps,ps=F3 0 0 file base:=⟨_,rfl⟩
        rw [←hps] at hwg hwl hmw ⊢
        refine k1 (k2 (k2 ?_))
        refine A4 (A3 (A6 Z Z) Z (A7 ?_))
        refine k1 (k3 ?_)
        have hcl:∀k,((ps.take k).foldl (K0 p) m1).length=L:=fun k=>by
         have key:∀(l:List Span) (ms:List Int),(l.foldl (K0 p) ms).length=ms.length:=by
          intro l;induction l with
          | nil=>intro ms;rfl
          | cons x r ih=>intro ms;rw [J32,ih];simp [K0]
         rw [key,hm1l]
        refine C7 (X:=Nat) (fun k=>([(4,.s (.one (.ref 4 0))),(6,B7 n),(7,B9 (List Str) 1 strsC fs),(11,B9 Str 1 L1 names),(12,B9 (List Int) 1 intsC ids),(13,B7 L),(14,.s (.one (.mut 14))),(15,.s (.one (.mut 15))),(17,B7 p),(18,B9 Change 4 changeC sc),(20,B9 Span 2 spanC ps),(21,B7 k)],(4,.box [.p (.v (.int .i64 0)),.p (.v (.slice none 0 0))])::(14,.arr Int 1 Z0 ((ps.take k).foldl (K0 p) m1))::(15,.tarr (L+1) 1 (R6 (L+1) (L+1) z))::I4 intsC (s p).2 (List.range (L+1)))) (fun k=>k≤ps.length) (fun k=>ps.length - k) 0 (Nat.zero_le _) ?_ ?_
        ·exact I74 ⟨⟨_,rfl,.same _⟩,⟨_,rfl,.same _⟩,⟨_,rfl,.same _⟩,⟨_,rfl,.same _⟩,⟨_,rfl,.same _⟩,⟨_,rfl,.same _⟩,⟨_,rfl,.same _⟩,⟨_,rfl,.same _⟩,⟨_,rfl,.same _⟩,⟨_,rfl,.same _⟩,⟨_,rfl,.same _⟩,⟨_,rfl,.same _⟩,trivial⟩ (fun _ _ h=>h)
        intro k hk
        dsimp only at hk ⊢
        refine k2 (k2 ?_)
        refine A4 (A3 (A5 Z Z) Z (A3 (A5 Z Z) Z (A3 (D5 Z (.pure _ _ _ _)) Z (A3 (D9 Z Z) Z (A7 ?_)))))
        refine k1 ?_
        refine B5 rfl (fun ht=>?_) (fun ht=>?_)
        ·have hkl:k < ps.length:=by have:=A0 ht;omega
         have hpv:ps[k]?=some ps[k]:=by simp [hkl]
         have hpb:=hwg ps[k] (J15 hkl)
         have hclk:=hcl k
         have hlt2:ps[k].To.toNat < ((ps.take k).foldl (K0 p) m1).length:=by omega
         have hget:((ps.take k).foldl (K0 p) m1)[ps[k].To.toNat]?=some (((ps.take k).foldl (K0 p) m1).getD ps[k].To.toNat 0):=by rw [J08,J05 hlt2];rfl
         have hset:(ps.take (k+1)).foldl (K0 p) m1=((ps.take k).foldl (K0 p) m1).set ps[k].To.toNat (Z4 (((ps.take k).foldl (K0 p) m1).getD ps[k].To.toNat 0) (G3 p)):=by
          rw [J13 hkl,J34];rfl
         refine k5 (k1 (k2 (k3 ?_)))
         refine D8 (by kernel_rfl) (by kernel_rfl) (B0 (A5 Z Z) Z Z (B0 (A5 Z Z) Z Z (B0 (A5 Z Z) Z Z (B0 (B1 Z (.pure _ _ _ _) Z (by omega) hpv) Z Z (B0 (F1 Z) Z Z (B0 (B3 Z Z) Z Z (B0 (A5 Z Z) Z Z (B0 (A5 Z Z) Z Z (B0 (A5 Z Z) Z Z (B0 (B1 Z (.pure _ _ _ _) Z (by omega) hpv) Z Z (B0 (F1 Z) Z Z (B0 (B3 Z Z) Z Z (B0 (E1 Z Z Z (by omega) (by omega)) Z Z (B0 (O4 Z Z hget Z) Z Z (B0 (A5 Z Z) Z Z (B0 (M9 Z) Z Z (B0 (E36 Z Z (by (exact hbit))) Z Z ?_)))))))))))))))));refine B0 (V7 Z Z Z (fun _=>rfl)) Z Z (B0 (E1 Z Z Z (by omega) (by omega)) Z Z (A82 (G8 TySz.out Z Z (by (exact hlt2)) Z Z) Z ?_));refine O5 ?_
         refine k4 (k1 ?_)
         refine A4 (A3 (A5 Z Z) Z (A3 (C2 Z Z (by omega)) Z (A3 (A6 Z Z) Z (A7 ?_))))
         refine k1 ?_
         refine ⟨k+1,by omega,by omega,?_⟩
         rw [hset]
         exact I74 ⟨⟨_,rfl,.same _⟩,⟨_,rfl,.same _⟩,⟨_,rfl,.same _⟩,⟨_,rfl,.same _⟩,⟨_,rfl,.same _⟩,⟨_,rfl,.same _⟩,⟨_,rfl,.same _⟩,⟨_,rfl,.same _⟩,⟨_,rfl,.same _⟩,⟨_,rfl,.same _⟩,⟨_,rfl,.same _⟩,⟨_,rfl,.eq (by simp)⟩,trivial⟩ (E44 rfl trivial trivial)
        ·have hkL:k=ps.length:=by have:=A1 ht;omega
         rw [hkL,J23]
         clear hkL ht hk k
         have hcl':=hcl ps.length
         rw [J23] at hcl'
         clear hcl
         obtain ⟨m2,hm2⟩:∃m2,m2=ps.foldl (K0 p) m1:=⟨_,rfl⟩
         rw [←hm2] at hcl' ⊢
         have hgl:∀k q,((sc.take k).foldl (J2 p file) (s p).2 q).length=n:=fun k q=>(A62 hfB (sc.take k) hsp.gaps q).1
         refine k6 (k2 ?_)
         refine A4 (A3 (A6 Z Z) Z (A7 ?_))
         refine k1 (k3 ?_)
         refine C7 (X:=Nat) (fun k=>([(4,.s (.one (.ref 4 0))),(6,B7 n),(7,B9 (List Str) 1 strsC fs),(11,B9 Str 1 L1 names),(12,B9 (List Int) 1 intsC ids),(13,B7 L),(14,.s (.one (.mut 14))),(15,.s (.one (.mut 15))),(17,B7 p),(18,B9 Change 4 changeC sc),(22,B7 k)],(4,.box [.p (.v (.int .i64 0)),.p (.v (.slice none 0 0))])::(14,.arr Int 1 Z0 m2)::(15,.tarr (L+1) 1 (R6 (L+1) (L+1) z))::I4 intsC ((sc.take k).foldl (J2 p file) (s p).2) (List.range (L+1)))) (fun k=>k≤sc.length) (fun k=>sc.length - k) 0 (Nat.zero_le _) ?_ ?_
         ·exact I74 ⟨⟨_,rfl,.same _⟩,⟨_,rfl,.same _⟩,⟨_,rfl,.same _⟩,⟨_,rfl,.same _⟩,⟨_,rfl,.same _⟩,⟨_,rfl,.same _⟩,⟨_,rfl,.same _⟩,⟨_,rfl,.same _⟩,⟨_,rfl,.same _⟩,⟨_,rfl,.same _⟩,⟨_,rfl,.same _⟩,trivial⟩ (fun _ _ h=>h)
         intro k hk
         dsimp only at hk ⊢
         refine k2 (k2 ?_)
         refine A4 (A3 (A5 Z Z) Z (A3 (A5 Z Z) Z (A3 (D5 Z (.pure _ _ _ _)) Z (A3 (D9 Z Z) Z (A7 ?_)))))
         refine k1 ?_
         refine B5 rfl (fun ht=>?_) (fun ht=>?_)
         ·have hkl:k < sc.length:=by have:=A0 ht;omega
          have hcv:sc[k]?=some sc[k]:=by simp [hkl]
          have hcb:=hwb sc[k] (J15 hkl)
          have hgk:=hgl k sc[k].New.toNat
          have hN:sc[k].New.toNat < L+1:=by omega
          have hrow:(R6 (L+1) (L+1) z)[sc[k].New.toNat]?=some (.mut (sc[k].New.toNat+1000)):=H85 hN
          have hrl:(R6 (L+1) (L+1) z).length=L+1:=C05
          have hob:C4 ((4,.box [.p (.v (.int .i64 0)),.p (.v (.slice none 0 0))])::(14,.arr Int 1 Z0 m2)::(15,.tarr (L+1) 1 (R6 (L+1) (L+1) z))::I4 intsC ((sc.take k).foldl (J2 p file) (s p).2) (List.range (L+1))) (sc[k].New.toNat+1000)=some (.arr (List Int) 1 intsC ((sc.take k).foldl (J2 p file) (s p).2 sc[k].New.toNat)):=by
           rw [B2 (by omega),B2 (by omega),B2 (by omega)]
           exact n8 (List.mem_range.2 hN)
          have hnew:((sc.take k).foldl (J2 p file) (s p).2 sc[k].New.toNat).set p ((file.drop sc[k].Old.toNat).take ((sc[k].Old+sc[k].OldLen).toNat - sc[k].Old.toNat))=(sc.take (k+1)).foldl (J2 p file) (s p).2 sc[k].New.toNat:=by
           rw [J13 hkl,J34]
           show _=J2 p file _ sc[k] _
           rw [J2,if_pos rfl]
          have hsame:∀q,q≠sc[k].New.toNat→(sc.take (k+1)).foldl (J2 p file) (s p).2 q=(sc.take k).foldl (J2 p file) (s p).2 q:=by
           intro q hq
           rw [J13 hkl,J34]
           show J2 p file _ sc[k] _=_
           rw [J2,if_neg hq]
          refine k5 (k1 (k2 (k3 ?_)))
          refine D8 (by kernel_rfl) (by kernel_rfl) (B0 (A5 Z Z) Z Z (B0 (A5 Z Z) Z Z (B0 (A5 Z Z) Z Z (B0 (B1 Z (.pure _ _ _ _) Z (by omega) hcv) Z Z (B0 (F1 Z) Z Z (B0 (B3 Z Z) Z Z (B0 (H0 Z Z Z (by omega) (by omega)) Z Z (B0 (L3 Z Z hrow) Z Z (B0 (A5 Z Z) Z Z (B0 (A5 Z Z) Z Z (B0 (A5 Z Z) Z Z (B0 (C2 Z Z (by omega)) Z Z (B0 (B1 Z (.pure _ _ _ _) Z (by omega) (by rw [show ((p:Int)+1).toNat=p+1 by omega];exact hv1)) Z Z ?_)))))))))))));refine B0 (B3 Z Z) Z Z (B0 (A5 Z Z) Z Z (B0 (A5 Z Z) Z Z (B0 (B1 Z (.pure _ _ _ _) Z (by omega) hcv) Z Z (B0 (F1 Z) Z Z (B0 (B3 Z Z) Z Z (B0 (A5 Z Z) Z Z (B0 (A5 Z Z) Z Z (B0 (B1 Z (.pure _ _ _ _) Z (by omega) hcv) Z Z (B0 (F1 Z) Z Z (B0 (B3 Z Z) Z Z (B0 (A5 Z Z) Z Z (B0 (A5 Z Z) Z Z (B0 (B1 Z (.pure _ _ _ _) Z (by omega) hcv) Z Z (B0 (F1 Z) Z Z (B0 (B3 Z Z) Z Z (B0 (C2 Z Z (by omega)) Z Z (B0 (U0 Z (.pure _ _ _ _) Z Z (by omega) (by omega) (by omega)) Z Z (B0 (E1 Z hob Z (by omega) (by omega)) Z Z (A82 (G8 TySz.out Z hob (by omega) Z Z) Z (O5 ?_))))))))))))))))))))
          refine k4 (k1 ?_)
          refine A4 (A3 (A5 Z Z) Z (A3 (C2 Z Z (by omega)) Z (A3 (A6 Z Z) Z (A7 ?_))))
          refine k1 ?_
          refine ⟨k+1,by omega,by omega,?_⟩
          refine I74 ⟨⟨_,rfl,.same _⟩,⟨_,rfl,.same _⟩,⟨_,rfl,.same _⟩,⟨_,rfl,.same _⟩,⟨_,rfl,.same _⟩,⟨_,rfl,.same _⟩,⟨_,rfl,.same _⟩,⟨_,rfl,.same _⟩,⟨_,rfl,.same _⟩,⟨_,rfl,.same _⟩,⟨_,rfl,.eq (by simp)⟩,trivial⟩ ?_
          show ∀k' o,_→C4 ((sc[k].New.toNat+1000,.arr (List Int) 1 intsC (((sc.take k).foldl (J2 p file) (s p).2 sc[k].New.toNat).set p ((file.drop sc[k].Old.toNat).take ((sc[k].Old+sc[k].OldLen).toNat - sc[k].Old.toNat))))::((4,.box [.p (.v (.int .i64 0)),.p (.v (.slice none 0 0))])::(14,.arr Int 1 Z0 m2)::(15,.tarr (L+1) 1 (R6 (L+1) (L+1) z))::I4 intsC ((sc.take k).foldl (J2 p file) (s p).2) (List.range (L+1)))) k'=some o
          rw [hnew]
          exact F61 (pre:=[(4,.box [.p (.v (.int .i64 0)),.p (.v (.slice none 0 0))]),(14,.arr Int 1 Z0 m2),(15,.tarr (L+1) 1 (R6 (L+1) (L+1) z))]) rfl (List.mem_range.2 hN) hsame
         ·have hkL:k=sc.length:=by have:=A1 ht;omega
          rw [hkL,J23]
          have hs1:s (p+1)=(m2,sc.foldl (J2 p file) (s p).2):=by
           have e:K6 ids (s p) p=((O9 (J5 (ids.getD (p+1) []) (ids.getD 0 [])) (ids.getD (p+1) []).length).foldl (K0 p) ((s p).1.map (I8 · (G3 p))),(J5 (ids.getD (p+1) []) (ids.getD 0 [])).foldl (J2 p (ids.getD (p+1) [])) (s p).2):=rfl
           rw [hstep,e,←hfile,←hbase,←hsc,hmw,←hm0,←hm1,←hm2]
          refine k6 (k7 (k7 (k8 Z (k4 (k1 ?_)))))
          refine A4 (A3 (A5 Z Z) Z (A3 (C2 Z Z (by omega)) Z (A3 (A6 Z Z) Z (A7 ?_))))
          refine k1 ?_
          refine ⟨p+1,by omega,by omega,?_⟩
          rw [hs1]
          exact I74 ⟨⟨_,rfl,.same _⟩,⟨_,rfl,.same _⟩,⟨_,rfl,.same _⟩,⟨_,rfl,.same _⟩,⟨_,rfl,.same _⟩,⟨_,rfl,.same _⟩,⟨_,rfl,.same _⟩,⟨_,rfl,.same _⟩,⟨_,rfl,.eq (by simp)⟩,trivial⟩ (fun _ _ h=>h)
      ·have hpn:p=n:=by have:=A1 ht;omega
       rw [hpn] at hsp ⊢
       clear hpn ht hp p
       obtain ⟨ms,hms⟩:∃ms,ms=(s n).1:=⟨_,rfl⟩
       obtain ⟨g,hg⟩:∃g,g=(s n).2:=⟨_,rfl⟩
       refine L7 [(4,.s (.one (.ref 4 0))),(6,B7 n),(7,B9 (List Str) 1 strsC fs),(11,B9 Str 1 L1 names),(13,B7 L),(14,.s (.one (.mut 14))),(15,.s (.one (.mut 15)))] ([(4,.box [.p (.v (.int .i64 0)),.p (.v (.slice none 0 0))]),(14,.arr Int 1 Z0 ms)]++((15,.tarr (L+1) 1 (J7 intsC (L+1) 0 g))::I4 intsC g (List.range (L+1)))) ?_ ?_
       ·rw [hms,hg,←G56 (z:=z)]
        exact I74 ⟨⟨_,rfl,.same _⟩,⟨_,rfl,.same _⟩,⟨_,rfl,.same _⟩,⟨_,rfl,.same _⟩,⟨_,rfl,.same _⟩,⟨_,rfl,.same _⟩,⟨_,rfl,.same _⟩,trivial⟩ (fun _ _ h=>h)
       refine H3 (I95 (by omega) rfl rfl (fun r _=>?_) (fun r _=>rfl)) ?_
       ·simp only [H4,SV.free,S1.free,TC.free,I6 (show 4≠r+1000 by omega),I6 (show 14≠r+1000 by omega),I6 (show 15≠r+1000 by omega)];rfl
       obtain ⟨gs,hgs⟩:∃gs,gs=(List.range (L+1)).map g:=⟨_,rfl⟩
       rw [←hgs]
       refine H3 (Sees.freeze (k:=14) Z) ?_
       refine H3 (Sees.freeze (k:=15) Z) ?_
       refine L7 [(4,.s (.one (.ref 4 0))),(6,B7 n),(7,B9 (List Str) 1 strsC fs),(11,B9 Str 1 L1 names),(13,B7 L),(14,B9 Int 1 Z0 ms),(15,B9 (List (List Int)) 1 intssC gs)] [(4,.box [.p (.v (.int .i64 0)),.p (.v (.slice none 0 0))])] (I72 ⟨le1 rfl,le1 rfl,le1 rfl,le1 rfl,le1 rfl,le1 rfl,le1 rfl,trivial⟩ ⟨rfl,trivial⟩) ?_
       obtain ⟨f0,hf0'⟩:∃f0,f0=C1 result:=⟨_,rfl⟩
       rw [←hf0'] at hL hf0 hmk
       obtain ⟨R,hR⟩:∃R:Nat→List Row,R=fun k=>R9 names f0 (s n) k:=⟨_,rfl⟩
       obtain ⟨F,hF⟩:∃F:Merged→Row,F=fun m=>⟨true,m.Parents,names.getD m.Line.toNat []⟩:=⟨_,rfl⟩
       have hcs:∀k,(E3 (g k)).1.length≤6400∧∀m∈(E3 (g k)).1,(0≤m.Parents∧m.Parents < 4294967296)∧0≤m.Line∧m.Line < (names.length:Int):=fun k=>by
        have h2:=hsp.gaps k
        have h3:=p7 (fun v=>0≤v∧v < (names.length:Int)) 200 (g k) (by rw [hg];exact h2.2)
        rw [show (g k).length=n by rw [hg];exact h2.1] at h3
        exact ⟨by omega,h3.2⟩
       have hR1:∀k,R (k+1)=R k++((E3 (g k)).1.map F++(if k < f0.length then [⟨false,ms.getD k 0,f0.getD k []⟩] else [])):=fun k=>by
        rw [hR];dsimp only;rw [Z8,P0,hF,hg,hms]
       have hRl:∀k,(R k).length≤k*6401:=fun k=>by
        induction k with
        | zero=>rw [hR];simp [R9]
        | succ k ih=>rw [hR1];have:=(hcs k).1;simp only [J06,J21];split<;>simp<;>omega
       have hmsl:ms.length=L:=by rw [hms];exact hsp.len
       refine k6 (k2 ?_)
       refine A4 (A3 (A5 Z Z) Z (A3 (H6 Z) Z (C3 (H7 23 Z) Z (F8 (C0 TySz.out Z Z Z Z Z Z) (A7 ?_)))))
       refine k1 (k2 (k2 ?_))
       refine A4 (A3 (A6 Z Z) Z (A7 ?_))
       refine k1 (k3 ?_)
       refine H3 (I80 88 Row 3 rowC 69 (kb:=23) (o:=1) Z Z Z) ?_
       refine C7 (X:=Nat) (fun k=>([(4,.s (.one (.ref 4 0))),(6,B7 n),(7,B9 (List Str) 1 strsC fs),(11,B9 Str 1 L1 names),(13,B7 L),(14,B9 Int 1 Z0 ms),(15,B9 (List (List Int)) 1 intssC gs),(23,.s (.one (.ref 23 0))),(24,B7 k)],[(4,.box [.p (.v (.int .i64 0)),.p (.v (.slice none 0 0))]),(23,.box [.p (.v (.int .i64 n)),.buf 88 Row 3 rowC (R k)]),(88,.spare (R k).length 3 69)])) (fun k=>k≤L+1∧∀q,q < k→(E3 (g q)).2=0) (fun k=>L+1 - k) 0 ⟨Nat.zero_le _,fun q hq=>by omega⟩ (by rw [show R 0=[] by rw [hR];rfl];exact I72 ⟨le1 rfl,le1 rfl,le1 rfl,le1 rfl,le1 rfl,le1 rfl,le1 rfl,le1 rfl,le1 rfl,trivial⟩ ⟨rfl,rfl,rfl,trivial⟩) ?_
       rintro k ⟨hk,hz0⟩
       dsimp only at hk hz0 ⊢
       have hRk:=hRl k
       refine k2 (k2 ?_)
       refine A4 (A3 (A5 Z Z) Z (A3 (A5 Z Z) Z (A3 (A04 Z Z) Z (A7 ?_))))
       refine k1 ?_
       refine B5 rfl (fun ht=>?_) (fun ht=>?_)
       ·have hlt:k < L+1:=by have:=A0 ht;omega
        have hgv:gs[k]?=some (g k):=by rw [hgs,J30,J37 hlt];rfl
        have hck:=hcs k
        refine k5 (k1 (k2 (k3 (k2 ?_))))
        refine A4 (A3 (A5 Z Z) Z (A3 (A5 Z Z) Z (A3 (B1 Z (.pure _ _ _ _) Z (by omega) hgv) Z (A3 (B3 Z Z) Z (C5 (F77 (g k)) Z Z Z ?_)))));rintro _ rfl;refine A3 (A5 Z Z) Z (A3 (D2 Z Z) Z (A3 (D2 Z Z) Z (A3 (A6 Z Z) Z (A3 (A6 Z Z) Z (A7 ?_)))))
        obtain ⟨l,hl⟩:∃l,l=(E3 (g k)).1:=⟨_,rfl⟩
        obtain ⟨e,he⟩:∃e,e=(E3 (g k)).2:=⟨_,rfl⟩
        rw [←hl,←he]
        rw [←hl] at hck
        refine k1 (k2 (k2 ?_))
        refine A4 (A3 (A5 Z Z) Z (A3 (O3 Z Z) Z (A7 ?_)))
        refine k1 ?_
        refine B5 rfl (fun ht=>?_) (fun ht=>?_)
        ·have hne:=A0 ht
         refine k2 ?_
         refine A4 (A3 (H6 Z) Z (F8 (C0 TySz.out Z Z Z Z Z Z) (A3 (A6 Z Z) Z (A7 ?_))))
         refine k1 ?_
         refine H3 (I76 Row 3 rowC 4 1 Z Z) ?_
         refine k10 (k11 (k12 (k11 (k11 (k12 (k11 ?_))))))
         exact B6 (rs:=[pTable ⟨0,[]⟩,I7 1]) (l5 rfl rfl rfl rfl rfl rfl rfl) (by rw [hmk,if_pos];refine ⟨k,by omega,?_⟩;rw [←hnames,←hids,←hL];rw [hg,hs] at he;dsimp only at he;rw [←he];exact hne)
        ·have he0:e=0:=by simpa using A1 ht
         refine k5 (k1 (k2 (k2 ?_)))
         refine A4 (A3 (A6 Z Z) Z (A7 ?_))
         refine k1 (k3 ?_)
         refine C7 (X:=Nat) (fun i=>([(4,.s (.one (.ref 4 0))),(6,B7 n),(7,B9 (List Str) 1 strsC fs),(11,B9 Str 1 L1 names),(13,B7 L),(14,B9 Int 1 Z0 ms),(15,B9 (List (List Int)) 1 intssC gs),(23,.s (.one (.ref 23 0))),(24,B7 k),(25,B9 Merged 2 mergedC l),(27,B7 i)],[(4,.box [.p (.v (.int .i64 0)),.p (.v (.slice none 0 0))]),(23,.box [.p (.v (.int .i64 n)),.buf 88 Row 3 rowC (R k++(l.take i).map F)]),(88,.spare (R k++(l.take i).map F).length 3 69)])) (fun i=>i≤l.length) (fun i=>l.length - i) 0 (Nat.zero_le _) (by have e0:R k++(l.take 0).map F=R k:=(by simp);dsimp only;rw [e0];exact I72 ⟨le1 rfl,le1 rfl,le1 rfl,le1 rfl,le1 rfl,le1 rfl,le1 rfl,le1 rfl,le1 rfl,le1 rfl,le1 rfl,trivial⟩ ⟨rfl,rfl,rfl,trivial⟩) ?_
         intro i hi
         dsimp only at hi ⊢
         have hil:(R k++(l.take i).map F).length≤k*6401+6400:=by simp only [J06,J21,J20];omega
         refine k2 (k2 ?_)
         refine A4 (A3 (A5 Z Z) Z (A3 (A5 Z Z) Z (A3 (D5 Z (.pure _ _ _ _)) Z (A3 (D9 Z Z) Z (A7 ?_)))))
         refine k1 ?_
         refine B5 rfl (fun ht=>?_) (fun ht=>?_)
         ·have hli:i < l.length:=by have:=A0 ht;omega
          have hlv:l[i]?=some l[i]:=by simp [hli]
          have hlb:=hck.2 l[i] (J15 hli)
          have hnv:names[l[i].Line.toNat]?=some (names.getD l[i].Line.toNat []):=by rw [J08,J05 (by omega)];rfl
          have hFi:F l[i]=⟨true,l[i].Parents,names.getD l[i].Line.toNat []⟩:=by rw [hF]
          refine k5 (k1 (k2 (k3 ?_)))
          refine D8 (by kernel_rfl) (by kernel_rfl) (B0 (A8 Z) Z Z (B0 (A9 Z Z Z) Z Z (B0 (A5 Z Z) Z Z (B0 (A5 Z Z) Z Z (B0 (B1 Z (.pure _ _ _ _) Z (by omega) hlv) Z Z (B0 (F1 Z) Z Z (B0 (B3 Z Z) Z Z (B0 (A5 Z Z) Z Z (B0 (A5 Z Z) Z Z (B0 (A5 Z Z) Z Z (B0 (B1 Z (.pure _ _ _ _) Z (by omega) hlv) Z Z (B0 (F1 Z) Z Z (B0 (B3 Z Z) Z Z (B0 (B1 Z (.pure _ _ _ _) Z (by omega) hnv) Z Z (B0 (B3 Z Z) Z Z (B0 (H6 Z) Z Z (B0 (C8 (c:=rowC) (ys:=[⟨true,l[i].Parents,names.getD l[i].Line.toNat []⟩]) (E0 Z Z Z Z F6) Z Z Z) Z Z (D26 (G9 Z Z Z (.pure _ _ _ _) (by (simp only [J07,J10];omega)) Z) Z Z (B0 (A8 Z) Z Z (A82 (C0 TySz.out Z Z Z Z Z Z) Z (O5 ?_)))))))))))))))))))))
          refine k4 (k1 ?_)
          refine A4 (A3 (A5 Z Z) Z (A3 (C2 Z Z (by omega)) Z (A3 (A6 Z Z) Z (A7 ?_))))
          refine k1 ?_
          refine ⟨i+1,by omega,by omega,?_⟩
          have e1:R k++(l.take (i+1)).map F=R k++(l.take i).map F++[⟨true,l[i].Parents,names.getD l[i].Line.toNat []⟩]:=by rw [J13 hli,J19,J16,J40,←J17,hFi]
          rw [e1]
          exact I72 ⟨le1 rfl,le1 rfl,le1 rfl,le1 rfl,le1 rfl,le1 rfl,le1 rfl,le1 rfl,le1 rfl,le1 rfl,le1 rfl,trivial⟩ ⟨rfl,rfl,rfl,trivial⟩
         ·have hli:i=l.length:=by have:=A1 ht;omega
          rw [hli,J23] at hil ⊢
          refine k6 (k2 ?_)
          refine A4 (A3 (A5 Z Z) Z (A3 (A5 Z Z) Z (A3 (D9 Z Z) Z (A7 ?_))))
          refine k1 ?_
          refine B5 rfl (fun ht=>?_) (fun ht=>?_)
          ·have hkL:k < f0.length:=by have:=A0 ht;omega
           have hmv:ms[k]?=some (ms.getD k 0):=by rw [J08,J05 (by omega)];rfl
           have hfv:f0[k]?=some (f0.getD k []):=by rw [J08,J05 (by omega)];rfl
           have hR2:=hR1 k
           rw [if_pos hkL,←hl,←J17] at hR2
           skip
           refine D8 (by kernel_rfl) (by kernel_rfl) (B0 (A8 Z) Z Z (B0 (A9 Z Z Z) Z Z (B0 (A5 Z Z) Z Z (B0 (A5 Z Z) Z Z (B0 (B1 Z (.pure _ _ _ _) Z (by omega) hmv) Z Z (B0 (B3 Z Z) Z Z (B0 (A5 Z Z) Z Z (B0 (B1 Z (.pure _ _ _ _) Z (by omega) hf0) Z Z (B0 (B3 Z Z) Z Z (B0 (A5 Z Z) Z Z (B0 (B1 Z (.pure _ _ _ _) Z (by omega) hfv) Z Z (B0 (B3 Z Z) Z Z (B0 (H6 Z) Z Z (B0 (C8 (c:=rowC) (ys:=[⟨false,ms.getD k 0,f0.getD k []⟩]) (E0 Z Z Z Z F6) Z Z Z) Z Z (D26 (G9 Z Z Z (.pure _ _ _ _) (by (simp only [J07,J10];omega)) Z) Z Z (B0 (A8 Z) Z Z (A82 (C0 TySz.out Z Z Z Z Z Z) Z (O5 ?_))))))))))))))))))
           refine k4 (k1 ?_)
           refine A4 (A3 (A5 Z Z) Z (A3 (C2 Z Z (by omega)) Z (A3 (A6 Z Z) Z (A7 ?_))))
           refine k1 ?_
           refine ⟨k+1,⟨by omega,fun q hq=>?_⟩,by omega,?_⟩
           ·by_cases h2:q=k
            ·rw [h2,←he,he0]
            ·exact hz0 q (by omega)
           rw [hR2]
           exact I72 ⟨le1 rfl,le1 rfl,le1 rfl,le1 rfl,le1 rfl,le1 rfl,le1 rfl,le1 rfl,le1 rfl,trivial⟩ ⟨rfl,rfl,rfl,trivial⟩
          ·have hkL:¬k < f0.length:=by have:=A1 ht;omega
           have hR2:=hR1 k
           rw [if_neg hkL,←hl,J25] at hR2
           refine k5 (k4 (k1 ?_))
           refine A4 (A3 (A5 Z Z) Z (A3 (C2 Z Z (by omega)) Z (A3 (A6 Z Z) Z (A7 ?_))))
           refine k1 ?_
           refine ⟨k+1,⟨by omega,fun q hq=>?_⟩,by omega,?_⟩
           ·by_cases h2:q=k
            ·rw [h2,←he,he0]
            ·exact hz0 q (by omega)
           rw [hR2]
           exact I72 ⟨le1 rfl,le1 rfl,le1 rfl,le1 rfl,le1 rfl,le1 rfl,le1 rfl,le1 rfl,le1 rfl,trivial⟩ ⟨rfl,rfl,rfl,trivial⟩
       ·have hkL:k=L+1:=by have:=A1 ht;omega
        refine k6 (k2 ?_)
        refine A4 (A3 (D7 Z Z Z) Z (F8 (C0 TySz.out Z Z Z Z Z Z) (A3 (A6 Z Z) Z (A7 ?_))))
        refine k1 (k10 ?_)
        refine B6 (rs:=[pTable ⟨n,R k⟩,I7 0]) (l5 Z Z Z Z Z Z Z) ?_
        have hno:¬∃q,q < f0.length+1∧(E3 ((M8 (fs.map (J3 (E2 fs))) f0.length n n).2 q)).2≠0:=by
         rintro ⟨q,hq1,hq2⟩
         refine hq2 ?_
         have:=hz0 q (by omega)
         rw [hg,hs,hids,hnames,hL] at this
         exact this
        rw [hmk,if_neg hno,hkL,hR,hs,hids,hnames,hL]
theorem cut_szC {n:Nat} {rows:List Row} {sp:List Span} {hs:List CHunk} (hn:n≤32) (hr:K4 rows) (hW:(rows.map W9).sum≤8388608) (h:s9 n rows 0 [] sp=some hs):szC hs≤268435456∧∀x∈hs,K4 x.Rows:=by
 have h1:=F46 W9 2081 n rows sp 0 [] hs (Int.le_refl _) h (by simp) (by simp)
 have h2:=D94 hr sp 0 [] hs h (fun x hx=>by cases hx)
 have hl:=x8 rows
 refine ⟨?_,fun x hx=>(h2 x hx).2⟩
 have h3:szC hs=(hs.map fun h=>(2048+h.At.length)+(h.Rows.map W9).sum).sum:=rfl
 have h4:szC hs≤(hs.map fun h=>2081+(h.Rows.map W9).sum).sum:=by
  rw [h3]
  clear h h1 h3
  induction hs with
  | nil=>simp
  | cons x r ih =>
   have h5:=(h2 x (by simp)).1
   have h6:=ih fun y hy=>h2 y (by simp [hy])
   rw [J16,J39,J16,J39]
   omega
 have h5:=h1.2
 simp only [J10] at h5
 have h6:=h1.1
 omega
theorem F96 {t:Table} (h:I2 t=0):1≤t.Parents∧t.Parents≤32:=by
 unfold I2 at h
 split at h
 ·cases h
 ·omega
set_option maxHeartbeats 1000000
abbrev rowV (q:Row):List Value:=[.bool q.Lost,.int .u32 q.Marks,.string ⟨q.Text.toArray⟩]
theorem row_eq (q q':Row):F14 (rowV q) (rowV q')=decide (q=q'):=by
 rw [Bool.eq_iff_iff]
 simp only [F14,eqV,ByteArray.toList_mk,J09,beq_iff_eq,decide_eq_true_eq,Bool.and_true]
 constructor
 ·rintro ⟨h1,h2,h3⟩
  obtain ⟨k,m,t⟩:=q
  obtain ⟨k',m',t'⟩:=q'
  obtain rfl:k=k':=h1
  obtain rfl:m=m':=h2
  obtain rfl:t=t':=h3
  rfl
 ·rintro rfl;exact ⟨rfl,rfl,rfl⟩
theorem I41 (a:List Row) (ha:a.length≤1099511627776):FnOk Tryz.prog 47 [pRows a,pRows a] (fun rs=>rs=[K7 true]):=by
 refine FnOk.intro Tryz.func47 (by decide) Z Z Z Z ?_
 refine k2 ?_
 refine A4 (A3 (A6 Z Z) Z (A7 ?_))
 refine k1 (k2 (k2 ?_))
 refine A4 (A3 (A5 Z Z) Z (A3 (D5 Z (.pure _ _ _ _)) Z (A3 (A5 Z Z) Z (A3 (D5 Z (.pure _ _ _ _)) Z (A3 (O3 Z Z) Z (A7 ?_))))))
 refine k1 ?_
 refine B5 rfl (fun ht=>?_) (fun ht=>?_)
 ·exact absurd rfl (A0 ht)
 refine k5 (k1 (k2 (k2 ?_)))
 refine A4 (A3 (A6 Z Z) Z (A7 ?_))
 refine k1 (k3 ?_)
 refine C7 (X:=Nat) (fun i=>([(0,B9 Row 3 rowC a),(1,B9 Row 3 rowC a),(5,B7 i)],[])) (fun i=>i≤a.length) (fun i=>a.length - i) 0 (Nat.zero_le _) (I72 ⟨le1 rfl,le1 rfl,le1 rfl,trivial⟩ trivial) ?_
 intro i hi
 dsimp only at hi ⊢
 refine k2 (k2 ?_)
 refine A4 (A3 (A5 Z Z) Z (A3 (A5 Z Z) Z (A3 (D5 Z (.pure _ _ _ _)) Z (A3 (D9 Z Z) Z (A7 ?_)))))
 refine k1 ?_
 refine B5 rfl (fun ht=>?_) (fun ht=>?_)
 ·have hlt:i < a.length:=by have:=A0 ht;omega
  have hv:a[i]?=some a[i]:=by simp [hlt]
  obtain ⟨r,hr⟩:∃r,r=a[i]:=⟨_,rfl⟩
  rw [←hr] at hv
  refine k5 (k1 (k2 (k3 (k2 ?_))))
  refine D8 (by kernel_rfl) (by kernel_rfl) (B0 (A5 Z Z) Z Z (B0 (A5 Z Z) Z Z (B0 (B1 Z (.pure _ _ _ _) Z (by omega) hv) Z Z (B0 (E5 Z Z) Z Z (B0 (A5 Z Z) Z Z (B0 (A5 Z Z) Z Z (B0 (B1 Z (.pure _ _ _ _) Z (by omega) hv) Z Z (B0 (E5 Z Z) Z Z (B0 (I23 (rowV r) (rowV r) Z Z Z Z ((row_eq r r).trans (decide_eq_true Z))) Z Z (O5 ?_))))))))))
  refine k1 ?_
  refine B5 rfl (fun ht=>?_) (fun ht=>?_)
  ·cases ht
  refine k5 (k4 (k1 ?_))
  refine A4 (A3 (A5 Z Z) Z (A3 (C2 Z Z (by omega)) Z (A3 (A6 Z Z) Z (A7 ?_))))
  refine k1 ?_
  exact ⟨i+1,by omega,by omega,I72 ⟨le1 rfl,le1 rfl,le1 rfl,trivial⟩ trivial⟩
 ·refine k6 (k2 ?_)
  refine A4 (A3 (A6 Z Z) Z (A7 ?_))
  refine k1 (k10 ?_)
  exact B6 (rs:=[K7 true]) (H2 rfl rfl rfl) rfl
end Go.Proofs.YtbiadkkamhpdnaaGreatDoor
namespace Go.Proofs.YtbiadkkamhpdnaaGreatDoor
open Go Go.AL
set_option maxRecDepth 100000
end Go.Proofs.YtbiadkkamhpdnaaGreatDoor
namespace Go.Proofs.YtbiadkkamhpdnaaGreatDoor
open Go Go.AL
set_option maxRecDepth 100000
set_option maxHeartbeats 4000000
set_option maxHeartbeats 1000000
set_option maxHeartbeats 4000000
set_option maxHeartbeats 4000000
section
variable {P:Program} {nt:Nat} {fr:Fr} {w:Str} {d:Bool} {n:Int} {hs:List CHunk}
end
set_option maxHeartbeats 4000000
end Go.Proofs.YtbiadkkamhpdnaaGreatDoor
