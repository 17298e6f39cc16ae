/- Walks of the program's functions. -/
import Derived.Test.YtbiadkkamhpdnaaGreatDoorFa
import Derived.Test.YtbiadkkamhpdnaaGreatDoorFf
import Derived.Test.YtbiadkkamhpdnaaGreatDoorFe
import Derived.Test.YtbiadkkamhpdnaaGreatDoorFs
namespace Go.Proofs.YtbiadkkamhpdnaaGreatDoor
open Go Go.AL
set_option maxRecDepth 100000
theorem B69 {b:Str} (h:b.length≤200):Y1 b=0:=by
 have:=R6 b
 rw [Y1,if_neg (by omega)]
theorem H67 {m r:Nat} {z:TC} (h:r < m):(S0 m m z)[r]?=some (.mut (r+1000)):=by
 unfold S0;rw [J03,J06 h];simp [h]
def A95 (f:Int→Int) (l:List Int) (k:Nat):List Int:=(l.take k).map f++l.drop k
theorem F15 (f:Int→Int) (l:List Int) (k:Nat):(A95 f l k).length=l.length:=by simp [A95];omega
theorem H68 (f:Int→Int) (l:List Int) (k:Nat) (h:k < l.length):(A95 f l k)[k]?=some (l.getD k 0):=by
 unfold A95
 rw [J02 (by simp;omega)]
 simp [show k - min k l.length=0 by omega,I80 h,I82]
theorem H69 (f:Int→Int) (l:List Int) (k:Nat) (h:k < l.length):(A95 f l k).set k (f (l.getD k 0))=A95 f l (k+1):=by
 unfold A95
 rw [List.set_append_right _ _ (by simp;omega),I84 h,I86 h]
 have e:k - min k l.length=0:=by omega
 simp only [J00,I93,e,List.set_cons_zero,I92,I89,J09,I88,J25,I82,I80 h,Option.getD_some]
theorem G61 (f:Int→Int) (l:List Int):A95 f l 0=l:=by simp [A95]
theorem G62 (f:Int→Int) (l:List Int):A95 f l l.length=l.map f:=by simp [A95]
set_option maxHeartbeats 1000000
theorem E60 (result:Str) (parents:List Str) (h0:result.length≤200) (h1:∀b∈parents,b.length≤200):FnOk Tryz.prog 46 [L5 result,j1 parents] (fun rs=>rs=[pTable (I6 result parents).1,G1 (I6 result parents).2]):=by
 refine FnOk.intro Tryz.func46 (by decide) Z Z Z Z ?_
 refine A07 (t:=1) rfl (.pure _ _ _ _) fun hplen=>?_
 refine k2 ?_
 refine A3 (B9 (F5 4 Z) Z (A2 (A5 Z Z) Z (A6 ?_)))
 refine k1 (k2 ?_)
 refine A3 (A2 (A4 Z Z) Z (A2 (D4 Z (.pure _ _ _ _)) Z (A2 (A5 Z Z) Z (A6 ?_))))
 refine k1 (k2 (k2 ?_))
 refine A3 (A2 (A4 Z Z) Z (A2 (D7 Z Z) Z (A2 (A4 Z Z) Z (B1 Z Z Z Z (fun hg=>by rw [hg];exact A4 Z Z) ?_))));refine B1 Z Z Z Z (fun hg=>by rw [hg];exact M4 Z Z) ?_;refine A2 (B6 Z (fun h=>by first | rfl | (rw [h];rfl)) (fun h=>by first | rfl | (rw [h];rfl))) Z ?_;refine A6 ?_
 refine k1 ?_
 refine B3 rfl (fun ht=>?_) (fun ht=>?_)
 ·have h:=A0 (or_pick.symm.trans ht)
  refine k2 ?_
  refine A3 (A2 (F3 Z) Z (E6 (B7 TySz.out Z Z Z Z Z Z) (A2 (A5 Z Z) Z (A6 ?_))))
  refine k1 ?_
  refine F8 (I47 Row 3 rowC 4 1 Z Z) ?_
  refine k10 (k11 ?_)
  exact B5 (rs:=[pTable ⟨0,[]⟩,G1 2]) (R5 rfl rfl rfl rfl rfl rfl rfl) (by rw [I6,if_pos (by omega)])
 ·have h := A1 (or_pick.symm.trans ht)
  refine L0 [(0,S7 result),(1,C1 Str 1 K6 parents),(4,.s (.one (.ref 4 0))),(6,B8 parents.length)] [(4,.box [.p (.v (.int .i64 0)),.p (.v (.slice none 0 0))])] (I45 ⟨le1 rfl,le1 rfl,le1 rfl,le1 rfl,trivial⟩ ⟨rfl,trivial⟩) ?_
  refine k5 (k1 (k2 ?_))
  refine A3 (A2 (A4 Z Z) Z (C2 (C15 result (by omega)) Z Z Z ?_));rintro _ rfl;refine B9 (A54 39 (c:=strsC) (ys:=[_]) (D5 Z Z Z Z E7) Z Z Z (by first | rfl | (simp [H0,H3,Ob.free,SV.free,S1.free,TC.free]<;>rfl))) Z ?_;refine A2 (A5 Z Z) Z (A6 ?_)
  refine k1 (k2 (k2 ?_))
  refine A3 (A2 (A4 Z Z) Z (C2 (F63 result (by omega)) Z Z Z ?_));rintro _ rfl;refine A2 (A5 Z Z) Z (A6 ?_)
  refine k1 (k2 ?_)
  rw [B69 h0]
  refine A3 (A2 (A4 Z Z) Z (A2 (M5 Z Z) Z (A6 ?_)))
  refine k1 ?_
  refine B3 rfl (fun ht=>?_) (fun ht=>?_)
  ·cases A0 ht rfl
  ·refine k5 (k1 (k2 (k2 ?_)))
   refine A3 (A2 (A5 Z Z) Z (A6 ?_))
   refine k1 (k3 ?_)
   obtain ⟨n,hn⟩:∃n,n=parents.length:=⟨_,rfl⟩
   rw [←hn] at h
   refine C9 (X:=Nat) (fun p=>([(1,C1 Str 1 K6 parents),(4,.s (.one (.ref 4 0))),(6,B8 n),(7,.s (.one (.buf 39 (List Str) 1 strsC (C7 result::(parents.take p).map C7)))),(9,B8 p)],[(4,.box [.p (.v (.int .i64 0)),.p (.v (.slice none 0 0))]),(39,.spare (C7 result::(parents.take p).map C7).length 1 60)])) (fun p=>p≤n) (fun p=>n - p) 0 (Nat.zero_le _) (by rw [hn];exact I45 ⟨le1 rfl,le1 rfl,le1 rfl,le1 rfl,le1 rfl,trivial⟩ ⟨rfl,rfl,trivial⟩) ?_
   intro p hp
   dsimp only at hp ⊢
   have hfl:(C7 result::(parents.take p).map C7).length=p+1:=by simp;omega
   refine k2 (k2 ?_)
   refine A3 (A2 (A4 Z Z) Z (A2 (A4 Z Z) Z (A2 (D7 Z Z) Z (A6 ?_))))
   refine k1 ?_
   refine B3 rfl (fun ht=>?_) (fun ht=>?_)
   ·have hlt:p < parents.length:=by have:=A0 ht;omega
    have hv:parents[p]?=some parents[p]:=by simp [hlt]
    have hb:=h1 _ (I90 hlt)
    have hst:C7 result::(parents.take (p+1)).map C7=(C7 result::(parents.take p).map C7)++[C7 parents[p]]:=by
     rw [List.take_add_one,hv,Option.toList_some,I92];rfl
    refine k5 (k1 (k2 (k3 (k2 (k2 ?_)))))
    refine A3 (A2 (A4 Z Z) Z (A2 (A4 Z Z) Z ?_));refine A2 (B0 rfl (.pure _ _ _ _) rfl (by omega) (I80 (by omega))) rfl ?_;refine A2 (B2 Z Z) Z (C2 (F63 parents[p] (by omega)) Z Z Z ?_);rintro _ rfl;refine A2 (A5 Z Z) Z (A6 ?_)
    refine k1 (k2 ?_)
    rw [B69 hb]
    refine A3 (A2 (A4 Z Z) Z (A2 (M5 Z Z) Z (A6 ?_)))
    refine k1 ?_
    refine B3 rfl (fun ht=>?_) (fun ht=>?_)
    ·cases A0 ht rfl
    ·refine k5 (k1 ?_)
     refine A3 (A2 (A4 Z Z) Z (A2 (A4 Z Z) Z (A2 (A4 Z Z) Z ?_)));refine A2 (B0 rfl (.pure _ _ _ _) rfl (by omega) (I80 (by omega))) rfl ?_;refine A2 (B2 Z Z) Z (C2 (C15 parents[p] (by omega)) Z Z Z ?_);rintro _ rfl;refine A2 (C4 (c:=strsC) (ys:=[_]) (D5 Z Z Z Z E7) Z Z Z) Z (B9 (F0 Z Z Z (.pure _ _ _ _) (by (rw [hfl];simp only [I79,I81];omega)) Z) Z ?_);refine A2 (A5 Z Z) Z (A6 ?_)
     refine k4 (k1 ?_)
     refine A3 (A2 (A4 Z Z) Z (A2 (C0 Z Z (by omega)) Z (A2 (A5 Z Z) Z (A6 ?_))))
     refine k1 ?_
     refine ⟨p+1,by omega,by omega,?_⟩
     rw [hst]
     exact I45 ⟨le1 rfl,le1 rfl,le1 rfl,le1 rfl,le1 rfl,trivial⟩ ⟨rfl,rfl,trivial⟩
   ·have hp':p=n:=by have:=A1 ht;omega
    rw [hp',hn,I94]
    rw [hp',hn,I94] at hfl
    rw [←hn] at hfl ⊢
    obtain ⟨fs,hfs⟩:∃fs,fs=C7 result::parents.map C7:=⟨_,rfl⟩
    rw [←hfs] at hfl ⊢
    have hfsB:∀f∈fs,f.length≤200∧f.flatten.length≤200:=by
     intro f hf
     rw [hfs] at hf
     rcases List.mem_cons.1 hf with rfl | hf
     ·have:=R6 result;rw [V4];omega
     ·obtain ⟨b,hb,rfl⟩:=List.mem_map.1 hf
      have:=R6 b;have:=h1 b hb;rw [V4];omega
    have hmk:I6 result parents=if ∃k,k < (C7 result).length+1∧(F2 ((Q9 (fs.map (L3 (E2 fs))) (C7 result).length n n).2 k)).2≠0 then (⟨0,[]⟩,1) else (⟨n,V2 (E2 fs) (C7 result) (Q9 (fs.map (L3 (E2 fs))) (C7 result).length n n) ((C7 result).length+1)⟩,0):=by
     rw [I6,if_neg (by omega),hn,hfs]
    have hn1:fs.length=n+1:=by rw [hfl]
    have hf0:fs[0]?=some (C7 result):=by rw [hfs];rfl
    have hflat:fs.flatten.length≤6600:=by
     have key:∀l:List (List Str),(∀f∈l,f.length≤200∧f.flatten.length≤200)→l.flatten.length≤200*l.length:=by
      intro l hl
      induction l with
      | nil=>simp
      | cons x r ih=>have:=ih (fun f hf=>hl f (by simp [hf]));have:=(hl x (by simp)).1;simp only [I96,I78,I79];omega
     have:=key fs hfsB;omega
    obtain ⟨names,hnames⟩:∃names,names=E2 fs:=⟨_,rfl⟩
    obtain ⟨ids,hids⟩:∃ids,ids=fs.map (L3 names):=⟨_,rfl⟩
    obtain ⟨L,hL⟩:∃L,L=(C7 result).length:=⟨_,rfl⟩
    have hLB:L≤200:=by rw [hL];exact (hfsB _ (by rw [hfs];simp)).1
    have hidsl:ids.length=n+1:=by rw [hids,J00,hn1]
    have hidB:∀x∈ids,x.length≤200∧∀v∈x,0≤v∧v < (names.length:Int):=by
     intro x hx
     rw [hids,hnames] at hx
     have h2:=ids_in fs x hx
     obtain ⟨f,hf,rfl⟩:=List.mem_map.1 hx
     exact ⟨by rw [L3,J00];exact (hfsB f hf).1,by rw [hnames];exact h2⟩
    have hid0:(ids.getD 0 []).length=L:=by rw [hids,I82,J03,hf0,hL];simp [L3]
    have hv0:ids[0]?=some (ids.getD 0 []):=by rw [I82,I80 (by omega)];rfl
    refine L0 [(4,.s (.one (.ref 4 0))),(6,B8 n),(7,C1 (List Str) 1 strsC fs)] [(4,.box [.p (.v (.int .i64 0)),.p (.v (.slice none 0 0))])] (I45 ⟨le1 rfl,le1 rfl,leL rfl,trivial⟩ ⟨rfl,trivial⟩) ?_
    refine k6 (k2 ?_)
    refine A3 (A2 (A4 Z Z) Z (C2 (F65 fs (by omega)) Z Z Z ?_));rintro _ rfl;refine A2 (A4 Z Z) Z (C2 (ids_ok fs (by omega) (by omega)) Z Z Z ?_);rintro _ rfl;refine A2 (A5 Z Z) Z (A2 (A5 Z Z) Z (A6 ?_))
    rw [←hnames,←hids]
    refine k1 (k2 ?_)
    refine A3 (A2 (A4 Z Z) Z (A2 (B0 Z (.pure _ _ _ _) Z (by omega) hf0) Z (A2 (B2 Z Z) Z (A2 (D4 Z (.pure _ _ _ _)) Z (A2 (A5 Z Z) Z (A6 ?_))))))
    rw [←hL]
    refine k1 (k2 ?_)
    refine A3 (A2 (A4 Z Z) Z (B9 (U0 14 Int Z9 0 Z Z (by omega) (by omega) (fun _=>by first | exact ⟨⟨rfl,rfl⟩,trivial⟩ | exact ⟨N3 _ _ _,trivial⟩) (by first | rfl | (simp [H0,H3,Ob.free,SV.free,S1.free,TC.free]<;>rfl))) Z ?_));refine A2 (A5 Z Z) Z (A6 ?_)
    refine k1 (k2 ?_)
    refine A3 (A2 (A4 Z Z) Z (A2 (C0 Z Z (by omega)) Z (B9 (U0 15 (List (List Int)) intssC [] Z Z (by omega) (by omega) (fun _=>by first | exact ⟨⟨rfl,rfl⟩,trivial⟩ | exact ⟨N3 _ _ _,trivial⟩) (by first | rfl | (simp [H0,H3,Ob.free,SV.free,S1.free,TC.free]<;>rfl))) Z ?_)));refine A2 (A5 Z Z) Z (A6 ?_)
    refine k1 (k2 (k2 ?_))
    refine A3 (A2 (A5 Z Z) Z (A6 ?_))
    refine k1 (k3 ?_)
    refine F8 (I60 15 Z) ?_
    obtain ⟨z,hz⟩:∃z:TC,z=.p (intssC [] 0):=⟨_,rfl⟩
    have hzf:∀k,z.free k=true:=fun k=>by rw [hz];rfl
    have hrep:(List.replicate ((L:Int)+1).toNat ([]:List (List Int))).map (fun x=>TC.p (intssC x 0))=S0 (L+1) 0 z:=by
     rw [←G36,hz];simp
    refine C9 (X:=Nat) (fun k=>([(4,.s (.one (.ref 4 0))),(6,B8 n),(7,C1 (List Str) 1 strsC fs),(11,C1 Str 1 K6 names),(12,C1 (List Int) 1 intsC ids),(13,B8 L),(14,.s (.one (.mut 14))),(15,.s (.one (.mut 15))),(16,B8 k)],
     (4,.box [.p (.v (.int .i64 0)),.p (.v (.slice none 0 0))])::(14,.arr Int 1 Z9 (List.replicate L 0))::(15,.tarr (L+1) 1 (S0 (L+1) k z))::H7 intsC (fun _=>List.replicate n []) (List.range k))) (fun k=>k≤L+1) (fun k=>L+1 - k) 0 (Nat.zero_le _) ?_ ?_
    ·refine I45 ⟨⟨_,rfl,.same _⟩,⟨_,rfl,.same _⟩,⟨_,rfl,.same _⟩,⟨_,rfl,.same _⟩,⟨_,rfl,.same _⟩,⟨_,rfl,.same _⟩,⟨_,rfl,.same _⟩,⟨_,rfl,.same _⟩,⟨_,rfl,.same _⟩,trivial⟩ ⟨rfl,rfl,?_,trivial⟩
     rw [←hrep];simp [C3,List.length_replicate]
    ·intro k hk
     dsimp only at hk ⊢
     refine k2 (k2 ?_)
     refine A3 (A2 (A4 Z Z) Z (A2 (A4 Z Z) Z (A2 (i6 Z Z) Z (A6 ?_))))
     refine k1 ?_
     refine B3 rfl (fun ht=>?_) (fun ht=>?_)
     ·have hlt:k < L+1:=by have:=A0 ht;omega
      have hfree:H3 (k+1000) ((4,.box [.p (.v (.int .i64 0)),.p (.v (.slice none 0 0))])::(14,.arr Int 1 Z9 (List.replicate L 0))::(15,.tarr (L+1) 1 (S0 (L+1) k z))::H7 intsC (fun _=>List.replicate n ([]:List Int)) (List.range k))=true:=by
       have h1:=A55 (k:=k+1000) (by omega) (List.range k) (fun r hr=>by have:=List.mem_range.1 hr;omega) (c:=intsC) (g:=fun _=>List.replicate n ([]:List Int))
       have h2:=G38 (m:=L+1) (k:=k) (hzf (k+1000))
       simp only [H3,Ob.free,h1,h2,H9 (show 4≠k+1000 by omega),H9 (show 14≠k+1000 by omega),H9 (show 15≠k+1000 by omega)]
       rfl
      refine k5 (k1 (k2 (k3 ?_)))
      refine A3 (A2 (A4 Z Z) Z (A2 (A4 Z Z) Z (A2 (A4 Z Z) Z (B9 (U0 (k+1000) (List Int) intsC [] Z Z (by omega) (by omega) (fun _=>by first | exact ⟨⟨rfl,rfl⟩,trivial⟩ | exact ⟨N3 _ _ _,trivial⟩) (by simp only [H0,SV.free,S1.free,TC.free,hfree,H9 (show 4≠k+1000 by omega),H9 (show 14≠k+1000 by omega),H9 (show 15≠k+1000 by omega)];rfl)) Z ?_))));refine A2 (G9 Z (by rw [B4 (by omega)];rfl) Z (by omega) (by omega)) Z ?_;refine E6 (j3 TySz.out Z (by rw [B4 (by omega)];rfl) (by (rw [C05];omega)) Z Z) ?_;refine A6 ?_
      refine k4 (k1 ?_)
      refine A3 (A2 (A4 Z Z) Z (A2 (C0 Z Z (by omega)) Z (A2 (A5 Z Z) Z (A6 ?_))))
      refine k1 ?_
      refine ⟨k+1,by omega,by omega,?_⟩
      refine I48 ⟨⟨_,rfl,.same _⟩,⟨_,rfl,.same _⟩,⟨_,rfl,.same _⟩,⟨_,rfl,.same _⟩,⟨_,rfl,.same _⟩,⟨_,rfl,.same _⟩,⟨_,rfl,.same _⟩,⟨_,rfl,.same _⟩,⟨_,rfl,.eq (by simp)⟩,trivial⟩ ?_
      refine H99 (g:=fun _=>List.replicate n ([]:List Int)) (pre:=[(4,.box [.p (.v (.int .i64 0)),.p (.v (.slice none 0 0))]),(14,.arr Int 1 Z9 (List.replicate L 0)),(15,.tarr (L+1) 1 (S0 (L+1) k z))])
       (pre':=[(4,.box [.p (.v (.int .i64 0)),.p (.v (.slice none 0 0))]),(14,.arr Int 1 Z9 (List.replicate L 0)),(15,.tarr (L+1) 1 (S0 (L+1) (k+1) z))]) (top:=[(15,.tarr (L+1) 1 ((S0 (L+1) k z).set k (.mut (k+1000))))]) rfl rfl ?_ rfl
      intro k' o ho
      rw [H35]
      by_cases h15:15=k'
      ·subst h15;exact ho
      ·by_cases h4:4=k'
       ·subst h4;rw [J25,B4 (by omega),B4 (by omega)];exact ho
       ·by_cases h14:14=k'
        ·subst h14;rw [J25,B4 (by omega),B4 (by omega)];exact ho
        ·rw [B4 h4,B4 h14,B4 h15] at ho;cases ho
     ·have hkL:k=L+1:=by have:=A1 ht;omega
      rw [hkL]
      clear hkL ht hk k
      refine L0 [(4,.s (.one (.ref 4 0))),(6,B8 n),(7,C1 (List Str) 1 strsC fs),(11,C1 Str 1 K6 names),(12,C1 (List Int) 1 intsC ids),(13,B8 L),(14,.s (.one (.mut 14))),(15,.s (.one (.mut 15)))]
       ((4,.box [.p (.v (.int .i64 0)),.p (.v (.slice none 0 0))])::(14,.arr Int 1 Z9 (List.replicate L 0))::(15,.tarr (L+1) 1 (S0 (L+1) (L+1) z))::H7 intsC (fun _=>List.replicate n []) (List.range (L+1))) (I48 ⟨⟨_,rfl,.same _⟩,⟨_,rfl,.same _⟩,⟨_,rfl,.same _⟩,⟨_,rfl,.same _⟩,⟨_,rfl,.same _⟩,⟨_,rfl,.same _⟩,⟨_,rfl,.same _⟩,⟨_,rfl,.same _⟩,trivial⟩ (fun _ _ h=>h)) ?_
      refine k6 (k2 (k2 ?_))
      refine A3 (A2 (A5 Z Z) Z (A6 ?_))
      refine k1 (k3 ?_)
      obtain ⟨s,hs⟩:∃s:Nat→Loom,s=fun p=>Q9 ids L n p:=⟨_,rfl⟩
      have hok:∀p,LoomOk (fun v=>0≤v∧v < (names.length:Int)) 200 L n (s p):=fun p=>by rw [hs];exact B52 hidB p
      refine C9 (X:=Nat) (fun p=>([(4,.s (.one (.ref 4 0))),(6,B8 n),(7,C1 (List Str) 1 strsC fs),(11,C1 Str 1 K6 names),(12,C1 (List Int) 1 intsC ids),(13,B8 L),(14,.s (.one (.mut 14))),(15,.s (.one (.mut 15))),(17,B8 p)],
       (4,.box [.p (.v (.int .i64 0)),.p (.v (.slice none 0 0))])::(14,.arr Int 1 Z9 (s p).1)::(15,.tarr (L+1) 1 (S0 (L+1) (L+1) z))::H7 intsC (s p).2 (List.range (L+1)))) (fun p=>p≤n) (fun p=>n - p) 0 (Nat.zero_le _) ?_ ?_
      ·have h0s:s 0=w9 L n:=by rw [hs];rfl
       rw [h0s]
       exact I48 ⟨⟨_,rfl,.same _⟩,⟨_,rfl,.same _⟩,⟨_,rfl,.same _⟩,⟨_,rfl,.same _⟩,⟨_,rfl,.same _⟩,⟨_,rfl,.same _⟩,⟨_,rfl,.same _⟩,⟨_,rfl,.same _⟩,⟨_,rfl,.same _⟩,trivial⟩ (fun _ _ h=>h)
      intro p hp
      dsimp only at hp ⊢
      have hsp:=hok p
      refine k2 (k2 ?_)
      refine A3 (A2 (A4 Z Z) Z (A2 (A4 Z Z) Z (A2 (D7 Z Z) Z (A6 ?_))))
      refine k1 ?_
      refine B3 rfl (fun ht=>?_) (fun ht=>?_)
      ·have hlt:p < n:=by have:=A0 ht;omega
       have hv1:ids[p+1]?=some (ids.getD (p+1) []):=by rw [I82,I80 (by omega)];rfl
       have hstep:s (p+1)=L7 ids (s p) p:=by rw [hs];exact B30 ids L n p
       have hfB:=hidB _ (I98 hv1)
       obtain ⟨file,hfile⟩:∃f,f=ids.getD (p+1) []:=⟨_,rfl⟩
       obtain ⟨base,hbase⟩:∃f,f=ids.getD 0 []:=⟨_,rfl⟩
       rw [←hbase] at hid0 hv0
       rw [←hfile] at hv1 hfB
       have hwb:=A68 file base
       have hmw:=A67 file base
       have hwg:=C16 file base 0 0
       have hwl:=T8 0 0 file base
       have hml:=p9 (F6 0 0 file base) 0 0 file.length base.length
       obtain ⟨sc,hsc⟩:∃sc,sc=L6 file base:=⟨_,rfl⟩
       have hscl:sc.length≤201:=by rw [hsc];have h2:(L6 file base).length=(O5 0 0 (F6 0 0 file base) file.length base.length).length:=rfl;omega
       rw [←hsc] at hwb hmw
       refine k5 (k1 (k2 (k3 (k2 ?_))))
       refine D2 (by kernel_rfl) (by kernel_rfl) (A9 (A4 Z Z) Z Z (A9 (A4 Z Z) Z Z (A9 (C0 Z Z (by omega)) Z Z (A9 (B0 Z (.pure _ _ _ _) Z (by omega) (by rw [show ((p:Int)+1).toNat=p+1 by omega];exact hv1)) Z Z ?_))));refine A9 (B2 Z Z) Z Z (A9 (A4 Z Z) Z Z (A9 (B0 Z (.pure _ _ _ _) Z (by omega) hv0) Z Z (A9 (B2 Z Z) Z Z (A9 (H6 (H04 file base (by omega) (by omega)) Z Z) Z Z (A9 (A5 Z Z) Z Z (K7 ?_))))))
       rw [←hsc]
       obtain ⟨m0,hm0⟩:∃m0,m0=(s p).1:=⟨_,rfl⟩
       have hm0l:m0.length=L:=by rw [hm0];exact hsp.len
       have hbit:=B81 p
       refine k1 (k2 (k2 ?_))
       refine A3 (A2 (A5 Z Z) Z (A6 ?_))
       refine k1 (k3 ?_)
       refine C9 (X:=Nat) (fun k=>([(4,.s (.one (.ref 4 0))),(6,B8 n),(7,C1 (List Str) 1 strsC fs),(11,C1 Str 1 K6 names),(12,C1 (List Int) 1 intsC ids),(13,B8 L),(14,.s (.one (.mut 14))),(15,.s (.one (.mut 15))),(17,B8 p),(18,C1 Change 4 changeC sc),(19,B8 k)],(4,.box [.p (.v (.int .i64 0)),.p (.v (.slice none 0 0))])::(14,.arr Int 1 Z9 (A95 (K4 · (I0 p)) m0 k))::(15,.tarr (L+1) 1 (S0 (L+1) (L+1) z))::H7 intsC (s p).2 (List.range (L+1)))) (fun k=>k≤L) (fun k=>L - k) 0 (Nat.zero_le _) ?_ ?_
       ·rw [G61,hm0]
        exact I48 ⟨⟨_,rfl,.same _⟩,⟨_,rfl,.same _⟩,⟨_,rfl,.same _⟩,⟨_,rfl,.same _⟩,⟨_,rfl,.same _⟩,⟨_,rfl,.same _⟩,⟨_,rfl,.same _⟩,⟨_,rfl,.same _⟩,⟨_,rfl,.same _⟩,⟨_,rfl,.same _⟩,⟨_,rfl,.same _⟩,trivial⟩ (fun _ _ h=>h)
       intro k hk
       dsimp only at hk ⊢
       refine k2 (k2 ?_)
       refine A3 (A2 (A4 Z Z) Z (A2 (A4 Z Z) Z (A2 (D7 Z Z) Z (A6 ?_))))
       refine k1 ?_
       refine B3 rfl (fun ht=>?_) (fun ht=>?_)
       ·have hkl:k < m0.length:=by have:=A0 ht;omega
        have hget:=H68 (K4 · (I0 p)) m0 k hkl
        have hset:=H69 (K4 · (I0 p)) m0 k hkl
        have hml':=F15 (K4 · (I0 p)) m0 k
        refine k5 (k1 (k2 (k3 ?_)))
        refine A3 (A2 (A4 Z Z) Z (A2 (A4 Z Z) Z (A2 (A4 Z Z) Z (A2 (A4 Z Z) Z (A2 (D9 Z Z Z (by omega) (by (rw [hml'];omega))) Z ?_)))));refine A2 (M6 Z Z hget Z) Z (A2 (A4 Z Z) Z (A2 (N0 Z) Z (A2 (E32 Z Z (by (exact hbit))) Z ?_)));refine A2 (U9 Z Z Z (fun _=>rfl)) Z (A2 (D9 Z Z Z (by omega) (by (rw [hml'];omega))) Z ?_);refine E6 (G5 TySz.out Z Z (by (rw [hml'];exact hkl)) Z Z) ?_;refine A6 ?_
        refine k4 (k1 ?_)
        refine A3 (A2 (A4 Z Z) Z (A2 (C0 Z Z (by omega)) Z (A2 (A5 Z Z) Z (A6 ?_))))
        refine k1 ?_
        refine ⟨k+1,by omega,by omega,?_⟩
        rw [←hset]
        exact I48 ⟨⟨_,rfl,.same _⟩,⟨_,rfl,.same _⟩,⟨_,rfl,.same _⟩,⟨_,rfl,.same _⟩,⟨_,rfl,.same _⟩,⟨_,rfl,.same _⟩,⟨_,rfl,.same _⟩,⟨_,rfl,.same _⟩,⟨_,rfl,.same _⟩,⟨_,rfl,.same _⟩,⟨_,rfl,.eq (by simp)⟩,trivial⟩ (E38 rfl trivial trivial)
       ·have hkL:k=m0.length:=by have:=A1 ht;omega
        rw [hkL,G62]
        clear hkL ht hk k
        obtain ⟨m1,hm1⟩:∃m1,m1=m0.map (K4 · (I0 p)):=⟨_,rfl⟩
        have hm1l:m1.length=L:=by rw [hm1,J00,hm0l]
        rw [←hm1]
        refine k6 (k2 ?_)
        refine A3 (A2 (A4 Z Z) Z (A2 (A4 Z Z) Z (A2 (A4 Z Z) Z (A2 (C0 Z Z (by omega)) Z (A2 (B0 Z (.pure _ _ _ _) Z (by omega) (by rw [show ((p:Int)+1).toNat=p+1 by omega];exact hv1)) Z ?_)))));refine A2 (B2 Z Z) Z (A2 (D4 Z (.pure _ _ _ _)) Z (C2 (D47 sc file.length (by omega) (by omega) (fun c hc=>by have:=hwb c hc;omega)) Z Z Z ?_));rintro _ rfl;refine A2 (A5 Z Z) Z (A6 ?_)
        rw [hmw]
        obtain ⟨ps,hps⟩:∃ps,ps=F6 0 0 file base:=⟨_,rfl⟩
        rw [←hps] at hwg hwl hmw ⊢
        refine k1 (k2 (k2 ?_))
        refine A3 (A2 (A5 Z Z) Z (A6 ?_))
        refine k1 (k3 ?_)
        have hcl:∀k,((ps.take k).foldl (K2 p) m1).length=L:=fun k=>by
         have key:∀(l:List Span) (ms:List Int),(l.foldl (K2 p) ms).length=ms.length:=by
          intro l;induction l with
          | nil=>intro ms;rfl
          | cons x r ih=>intro ms;rw [J05,ih];simp [K2]
         rw [key,hm1l]
        refine C9 (X:=Nat) (fun k=>([(4,.s (.one (.ref 4 0))),(6,B8 n),(7,C1 (List Str) 1 strsC fs),(11,C1 Str 1 K6 names),(12,C1 (List Int) 1 intsC ids),(13,B8 L),(14,.s (.one (.mut 14))),(15,.s (.one (.mut 15))),(17,B8 p),(18,C1 Change 4 changeC sc),(20,C1 Span 2 spanC ps),(21,B8 k)],(4,.box [.p (.v (.int .i64 0)),.p (.v (.slice none 0 0))])::(14,.arr Int 1 Z9 ((ps.take k).foldl (K2 p) m1))::(15,.tarr (L+1) 1 (S0 (L+1) (L+1) z))::H7 intsC (s p).2 (List.range (L+1)))) (fun k=>k≤ps.length) (fun k=>ps.length - k) 0 (Nat.zero_le _) ?_ ?_
        ·exact I48 ⟨⟨_,rfl,.same _⟩,⟨_,rfl,.same _⟩,⟨_,rfl,.same _⟩,⟨_,rfl,.same _⟩,⟨_,rfl,.same _⟩,⟨_,rfl,.same _⟩,⟨_,rfl,.same _⟩,⟨_,rfl,.same _⟩,⟨_,rfl,.same _⟩,⟨_,rfl,.same _⟩,⟨_,rfl,.same _⟩,⟨_,rfl,.same _⟩,trivial⟩ (fun _ _ h=>h)
        intro k hk
        dsimp only at hk ⊢
        refine k2 (k2 ?_)
        refine A3 (A2 (A4 Z Z) Z (A2 (A4 Z Z) Z (A2 (D4 Z (.pure _ _ _ _)) Z (A2 (D7 Z Z) Z (A6 ?_)))))
        refine k1 ?_
        refine B3 rfl (fun ht=>?_) (fun ht=>?_)
        ·have hkl:k < ps.length:=by have:=A0 ht;omega
         have hpv:ps[k]?=some ps[k]:=by simp [hkl]
         have hpb:=hwg ps[k] (I90 hkl)
         have hclk:=hcl k
         have hlt2:ps[k].To.toNat < ((ps.take k).foldl (K2 p) m1).length:=by omega
         have hget:((ps.take k).foldl (K2 p) m1)[ps[k].To.toNat]?=some (((ps.take k).foldl (K2 p) m1).getD ps[k].To.toNat 0):=by rw [I82,I80 hlt2];rfl
         have hset:(ps.take (k+1)).foldl (K2 p) m1=((ps.take k).foldl (K2 p) m1).set ps[k].To.toNat (b9 (((ps.take k).foldl (K2 p) m1).getD ps[k].To.toNat 0) (I0 p)):=by
          rw [I86 hkl,J07];rfl
         refine k5 (k1 (k2 (k3 ?_)))
         refine D2 (by kernel_rfl) (by kernel_rfl) (A9 (A4 Z Z) Z Z (A9 (A4 Z Z) Z Z (A9 (A4 Z Z) Z Z (A9 (B0 Z (.pure _ _ _ _) Z (by omega) hpv) Z Z (A9 (D8 Z) Z Z (A9 (B2 Z Z) Z Z (A9 (A4 Z Z) Z Z (A9 (A4 Z Z) Z Z (A9 (A4 Z Z) Z Z (A9 (B0 Z (.pure _ _ _ _) Z (by omega) hpv) Z Z (A9 (D8 Z) Z Z (A9 (B2 Z Z) Z Z (A9 (D9 Z Z Z (by omega) (by omega)) Z Z (A9 (M6 Z Z hget Z) Z Z (A9 (A4 Z Z) Z Z (A9 (N0 Z) Z Z (A9 (E32 Z Z (by (exact hbit))) Z Z ?_)))))))))))))))));refine A9 (U9 Z Z Z (fun _=>rfl)) Z Z (A9 (D9 Z Z Z (by omega) (by omega)) Z Z (A08 (G5 TySz.out Z Z (by (exact hlt2)) Z Z) Z ?_));refine K7 ?_
         refine k4 (k1 ?_)
         refine A3 (A2 (A4 Z Z) Z (A2 (C0 Z Z (by omega)) Z (A2 (A5 Z Z) Z (A6 ?_))))
         refine k1 ?_
         refine ⟨k+1,by omega,by omega,?_⟩
         rw [hset]
         exact I48 ⟨⟨_,rfl,.same _⟩,⟨_,rfl,.same _⟩,⟨_,rfl,.same _⟩,⟨_,rfl,.same _⟩,⟨_,rfl,.same _⟩,⟨_,rfl,.same _⟩,⟨_,rfl,.same _⟩,⟨_,rfl,.same _⟩,⟨_,rfl,.same _⟩,⟨_,rfl,.same _⟩,⟨_,rfl,.same _⟩,⟨_,rfl,.eq (by simp)⟩,trivial⟩ (E38 rfl trivial trivial)
        ·have hkL:k=ps.length:=by have:=A1 ht;omega
         rw [hkL,I94]
         clear hkL ht hk k
         have hcl':=hcl ps.length
         rw [I94] at hcl'
         clear hcl
         obtain ⟨m2,hm2⟩:∃m2,m2=ps.foldl (K2 p) m1:=⟨_,rfl⟩
         rw [←hm2] at hcl' ⊢
         have hgl:∀k q,((sc.take k).foldl (J5 p file) (s p).2 q).length=n:=fun k q=>(A70 hfB (sc.take k) hsp.gaps q).1
         refine k6 (k2 ?_)
         refine A3 (A2 (A5 Z Z) Z (A6 ?_))
         refine k1 (k3 ?_)
         refine C9 (X:=Nat) (fun k=>([(4,.s (.one (.ref 4 0))),(6,B8 n),(7,C1 (List Str) 1 strsC fs),(11,C1 Str 1 K6 names),(12,C1 (List Int) 1 intsC ids),(13,B8 L),(14,.s (.one (.mut 14))),(15,.s (.one (.mut 15))),(17,B8 p),(18,C1 Change 4 changeC sc),(22,B8 k)],(4,.box [.p (.v (.int .i64 0)),.p (.v (.slice none 0 0))])::(14,.arr Int 1 Z9 m2)::(15,.tarr (L+1) 1 (S0 (L+1) (L+1) z))::H7 intsC ((sc.take k).foldl (J5 p file) (s p).2) (List.range (L+1)))) (fun k=>k≤sc.length) (fun k=>sc.length - k) 0 (Nat.zero_le _) ?_ ?_
         ·exact I48 ⟨⟨_,rfl,.same _⟩,⟨_,rfl,.same _⟩,⟨_,rfl,.same _⟩,⟨_,rfl,.same _⟩,⟨_,rfl,.same _⟩,⟨_,rfl,.same _⟩,⟨_,rfl,.same _⟩,⟨_,rfl,.same _⟩,⟨_,rfl,.same _⟩,⟨_,rfl,.same _⟩,⟨_,rfl,.same _⟩,trivial⟩ (fun _ _ h=>h)
         intro k hk
         dsimp only at hk ⊢
         refine k2 (k2 ?_)
         refine A3 (A2 (A4 Z Z) Z (A2 (A4 Z Z) Z (A2 (D4 Z (.pure _ _ _ _)) Z (A2 (D7 Z Z) Z (A6 ?_)))))
         refine k1 ?_
         refine B3 rfl (fun ht=>?_) (fun ht=>?_)
         ·have hkl:k < sc.length:=by have:=A0 ht;omega
          have hcv:sc[k]?=some sc[k]:=by simp [hkl]
          have hcb:=hwb sc[k] (I90 hkl)
          have hgk:=hgl k sc[k].New.toNat
          have hN:sc[k].New.toNat < L+1:=by omega
          have hrow:(S0 (L+1) (L+1) z)[sc[k].New.toNat]?=some (.mut (sc[k].New.toNat+1000)):=H67 hN
          have hrl:(S0 (L+1) (L+1) z).length=L+1:=C05
          have hob:C3 ((4,.box [.p (.v (.int .i64 0)),.p (.v (.slice none 0 0))])::(14,.arr Int 1 Z9 m2)::(15,.tarr (L+1) 1 (S0 (L+1) (L+1) z))::H7 intsC ((sc.take k).foldl (J5 p file) (s p).2) (List.range (L+1))) (sc[k].New.toNat+1000)=some (.arr (List Int) 1 intsC ((sc.take k).foldl (J5 p file) (s p).2 sc[k].New.toNat)):=by
           rw [B4 (by omega),B4 (by omega),B4 (by omega)]
           exact p6 (List.mem_range.2 hN)
          have hnew:((sc.take k).foldl (J5 p file) (s p).2 sc[k].New.toNat).set p ((file.drop sc[k].Old.toNat).take ((sc[k].Old+sc[k].OldLen).toNat - sc[k].Old.toNat))=(sc.take (k+1)).foldl (J5 p file) (s p).2 sc[k].New.toNat:=by
           rw [I86 hkl,J07]
           show _=J5 p file _ sc[k] _
           rw [J5,if_pos rfl]
          have hsame:∀q,q≠sc[k].New.toNat→(sc.take (k+1)).foldl (J5 p file) (s p).2 q=(sc.take k).foldl (J5 p file) (s p).2 q:=by
           intro q hq
           rw [I86 hkl,J07]
           show J5 p file _ sc[k] _=_
           rw [J5,if_neg hq]
          refine k5 (k1 (k2 (k3 ?_)))
          refine D2 (by kernel_rfl) (by kernel_rfl) (A9 (A4 Z Z) Z Z (A9 (A4 Z Z) Z Z (A9 (A4 Z Z) Z Z (A9 (B0 Z (.pure _ _ _ _) Z (by omega) hcv) Z Z (A9 (D8 Z) Z Z (A9 (B2 Z Z) Z Z (A9 (G9 Z Z Z (by omega) (by omega)) Z Z (A9 (L8 Z Z hrow) Z Z (A9 (A4 Z Z) Z Z (A9 (A4 Z Z) Z Z (A9 (A4 Z Z) Z Z (A9 (C0 Z Z (by omega)) Z Z (A9 (B0 Z (.pure _ _ _ _) Z (by omega) (by rw [show ((p:Int)+1).toNat=p+1 by omega];exact hv1)) Z Z ?_)))))))))))));refine A9 (B2 Z Z) Z Z (A9 (A4 Z Z) Z Z (A9 (A4 Z Z) Z Z (A9 (B0 Z (.pure _ _ _ _) Z (by omega) hcv) Z Z (A9 (D8 Z) Z Z (A9 (B2 Z Z) Z Z (A9 (A4 Z Z) Z Z (A9 (A4 Z Z) Z Z (A9 (B0 Z (.pure _ _ _ _) Z (by omega) hcv) Z Z (A9 (D8 Z) Z Z (A9 (B2 Z Z) Z Z (A9 (A4 Z Z) Z Z (A9 (A4 Z Z) Z Z (A9 (B0 Z (.pure _ _ _ _) Z (by omega) hcv) Z Z (A9 (D8 Z) Z Z (A9 (B2 Z Z) Z Z (A9 (C0 Z Z (by omega)) Z Z (A9 (T5 Z (.pure _ _ _ _) Z Z (by omega) (by omega) (by omega)) Z Z (A9 (D9 Z hob Z (by omega) (by omega)) Z Z (A08 (G5 TySz.out Z hob (by omega) Z Z) Z (K7 ?_))))))))))))))))))))
          refine k4 (k1 ?_)
          refine A3 (A2 (A4 Z Z) Z (A2 (C0 Z Z (by omega)) Z (A2 (A5 Z Z) Z (A6 ?_))))
          refine k1 ?_
          refine ⟨k+1,by omega,by omega,?_⟩
          refine I48 ⟨⟨_,rfl,.same _⟩,⟨_,rfl,.same _⟩,⟨_,rfl,.same _⟩,⟨_,rfl,.same _⟩,⟨_,rfl,.same _⟩,⟨_,rfl,.same _⟩,⟨_,rfl,.same _⟩,⟨_,rfl,.same _⟩,⟨_,rfl,.same _⟩,⟨_,rfl,.same _⟩,⟨_,rfl,.eq (by simp)⟩,trivial⟩ ?_
          show ∀k' o,_→C3 ((sc[k].New.toNat+1000,.arr (List Int) 1 intsC (((sc.take k).foldl (J5 p file) (s p).2 sc[k].New.toNat).set p ((file.drop sc[k].Old.toNat).take ((sc[k].Old+sc[k].OldLen).toNat - sc[k].Old.toNat))))::((4,.box [.p (.v (.int .i64 0)),.p (.v (.slice none 0 0))])::(14,.arr Int 1 Z9 m2)::(15,.tarr (L+1) 1 (S0 (L+1) (L+1) z))::H7 intsC ((sc.take k).foldl (J5 p file) (s p).2) (List.range (L+1)))) k'=some o
          rw [hnew]
          exact F48 (pre:=[(4,.box [.p (.v (.int .i64 0)),.p (.v (.slice none 0 0))]),(14,.arr Int 1 Z9 m2),(15,.tarr (L+1) 1 (S0 (L+1) (L+1) z))]) rfl (List.mem_range.2 hN) hsame
         ·have hkL:k=sc.length:=by have:=A1 ht;omega
          rw [hkL,I94]
          have hs1:s (p+1)=(m2,sc.foldl (J5 p file) (s p).2):=by
           have e:L7 ids (s p) p=((P5 (L6 (ids.getD (p+1) []) (ids.getD 0 [])) (ids.getD (p+1) []).length).foldl (K2 p) ((s p).1.map (K4 · (I0 p))),(L6 (ids.getD (p+1) []) (ids.getD 0 [])).foldl (J5 p (ids.getD (p+1) [])) (s p).2):=rfl
           rw [hstep,e,←hfile,←hbase,←hsc,hmw,←hm0,←hm1,←hm2]
          refine k6 (k7 (k7 (k8 Z (k4 (k1 ?_)))))
          refine A3 (A2 (A4 Z Z) Z (A2 (C0 Z Z (by omega)) Z (A2 (A5 Z Z) Z (A6 ?_))))
          refine k1 ?_
          refine ⟨p+1,by omega,by omega,?_⟩
          rw [hs1]
          exact I48 ⟨⟨_,rfl,.same _⟩,⟨_,rfl,.same _⟩,⟨_,rfl,.same _⟩,⟨_,rfl,.same _⟩,⟨_,rfl,.same _⟩,⟨_,rfl,.same _⟩,⟨_,rfl,.same _⟩,⟨_,rfl,.same _⟩,⟨_,rfl,.eq (by simp)⟩,trivial⟩ (fun _ _ h=>h)
      ·have hpn:p=n:=by have:=A1 ht;omega
       rw [hpn] at hsp ⊢
       clear hpn ht hp p
       obtain ⟨ms,hms⟩:∃ms,ms=(s n).1:=⟨_,rfl⟩
       obtain ⟨g,hg⟩:∃g,g=(s n).2:=⟨_,rfl⟩
       refine L0 [(4,.s (.one (.ref 4 0))),(6,B8 n),(7,C1 (List Str) 1 strsC fs),(11,C1 Str 1 K6 names),(13,B8 L),(14,.s (.one (.mut 14))),(15,.s (.one (.mut 15)))] ([(4,.box [.p (.v (.int .i64 0)),.p (.v (.slice none 0 0))]),(14,.arr Int 1 Z9 ms)]++((15,.tarr (L+1) 1 (J8 intsC (L+1) 0 g))::H7 intsC g (List.range (L+1)))) ?_ ?_
       ·rw [hms,hg,←G37 (z:=z)]
        exact I48 ⟨⟨_,rfl,.same _⟩,⟨_,rfl,.same _⟩,⟨_,rfl,.same _⟩,⟨_,rfl,.same _⟩,⟨_,rfl,.same _⟩,⟨_,rfl,.same _⟩,⟨_,rfl,.same _⟩,trivial⟩ (fun _ _ h=>h)
       refine F8 (I68 (by omega) rfl rfl (fun r _=>?_) (fun r _=>rfl)) ?_
       ·simp only [H0,SV.free,S1.free,TC.free,H9 (show 4≠r+1000 by omega),H9 (show 14≠r+1000 by omega),H9 (show 15≠r+1000 by omega)];rfl
       obtain ⟨gs,hgs⟩:∃gs,gs=(List.range (L+1)).map g:=⟨_,rfl⟩
       rw [←hgs]
       refine F8 (Sees.freeze (k:=14) Z) ?_
       refine F8 (Sees.freeze (k:=15) Z) ?_
       refine L0 [(4,.s (.one (.ref 4 0))),(6,B8 n),(7,C1 (List Str) 1 strsC fs),(11,C1 Str 1 K6 names),(13,B8 L),(14,C1 Int 1 Z9 ms),(15,C1 (List (List Int)) 1 intssC gs)] [(4,.box [.p (.v (.int .i64 0)),.p (.v (.slice none 0 0))])] (I45 ⟨le1 rfl,le1 rfl,le1 rfl,le1 rfl,le1 rfl,le1 rfl,le1 rfl,trivial⟩ ⟨rfl,trivial⟩) ?_
       obtain ⟨f0,hf0'⟩:∃f0,f0=C7 result:=⟨_,rfl⟩
       rw [←hf0'] at hL hf0 hmk
       obtain ⟨R,hR⟩:∃R:Nat→List Row,R=fun k=>V2 names f0 (s n) k:=⟨_,rfl⟩
       obtain ⟨F,hF⟩:∃F:Merged→Row,F=fun m=>⟨true,m.Parents,names.getD m.Line.toNat []⟩:=⟨_,rfl⟩
       have hcs:∀k,(F2 (g k)).1.length≤6400∧∀m∈(F2 (g k)).1,(0≤m.Parents∧m.Parents < 4294967296)∧0≤m.Line∧m.Line < (names.length:Int):=fun k=>by
        have h2:=hsp.gaps k
        have h3:=A35 (fun v=>0≤v∧v < (names.length:Int)) 200 (g k) (by rw [hg];exact h2.2)
        rw [show (g k).length=n by rw [hg];exact h2.1] at h3
        exact ⟨by omega,h3.2⟩
       have hR1:∀k,R (k+1)=R k++((F2 (g k)).1.map F++(if k < f0.length then [⟨false,ms.getD k 0,f0.getD k []⟩] else [])):=fun k=>by
        rw [hR];dsimp only;rw [d6,W0,hF,hg,hms]
       have hRl:∀k,(R k).length≤k*6401:=fun k=>by
        induction k with
        | zero=>rw [hR];simp [V2]
        | succ k ih=>rw [hR1];have:=(hcs k).1;simp only [I78,J00];split<;>simp<;>omega
       have hmsl:ms.length=L:=by rw [hms];exact hsp.len
       refine k6 (k2 ?_)
       refine A3 (A2 (A4 Z Z) Z (A2 (F3 Z) Z (B9 (F5 23 Z) Z (E6 (B7 TySz.out Z Z Z Z Z Z) (A6 ?_)))))
       refine k1 (k2 (k2 ?_))
       refine A3 (A2 (A5 Z Z) Z (A6 ?_))
       refine k1 (k3 ?_)
       refine F8 (I51 88 Row 3 rowC 69 (kb:=23) (o:=1) Z Z Z) ?_
       refine C9 (X:=Nat) (fun k=>([(4,.s (.one (.ref 4 0))),(6,B8 n),(7,C1 (List Str) 1 strsC fs),(11,C1 Str 1 K6 names),(13,B8 L),(14,C1 Int 1 Z9 ms),(15,C1 (List (List Int)) 1 intssC gs),(23,.s (.one (.ref 23 0))),(24,B8 k)],[(4,.box [.p (.v (.int .i64 0)),.p (.v (.slice none 0 0))]),(23,.box [.p (.v (.int .i64 n)),.buf 88 Row 3 rowC (R k)]),(88,.spare (R k).length 3 69)])) (fun k=>k≤L+1∧∀q,q < k→(F2 (g q)).2=0) (fun k=>L+1 - k) 0 ⟨Nat.zero_le _,fun q hq=>by omega⟩ (by rw [show R 0=[] by rw [hR];rfl];exact I45 ⟨le1 rfl,le1 rfl,le1 rfl,le1 rfl,le1 rfl,le1 rfl,le1 rfl,le1 rfl,le1 rfl,trivial⟩ ⟨rfl,rfl,rfl,trivial⟩) ?_
       rintro k ⟨hk,hz0⟩
       dsimp only at hk hz0 ⊢
       have hRk:=hRl k
       refine k2 (k2 ?_)
       refine A3 (A2 (A4 Z Z) Z (A2 (A4 Z Z) Z (A2 (i6 Z Z) Z (A6 ?_))))
       refine k1 ?_
       refine B3 rfl (fun ht=>?_) (fun ht=>?_)
       ·have hlt:k < L+1:=by have:=A0 ht;omega
        have hgv:gs[k]?=some (g k):=by rw [hgs,J03,J06 hlt];rfl
        have hck:=hcs k
        refine k5 (k1 (k2 (k3 (k2 ?_))))
        refine A3 (A2 (A4 Z Z) Z (A2 (A4 Z Z) Z (A2 (B0 Z (.pure _ _ _ _) Z (by omega) hgv) Z (A2 (B2 Z Z) Z (C2 (F66 (g k)) Z Z Z ?_)))));rintro _ rfl;refine A2 (A4 Z Z) Z (A2 (C5 Z Z) Z (A2 (C5 Z Z) Z (A2 (A5 Z Z) Z (A2 (A5 Z Z) Z (A6 ?_)))))
        obtain ⟨l,hl⟩:∃l,l=(F2 (g k)).1:=⟨_,rfl⟩
        obtain ⟨e,he⟩:∃e,e=(F2 (g k)).2:=⟨_,rfl⟩
        rw [←hl,←he]
        rw [←hl] at hck
        refine k1 (k2 (k2 ?_))
        refine A3 (A2 (A4 Z Z) Z (A2 (M5 Z Z) Z (A6 ?_)))
        refine k1 ?_
        refine B3 rfl (fun ht=>?_) (fun ht=>?_)
        ·have hne:=A0 ht
         refine k2 ?_
         refine A3 (A2 (F3 Z) Z (E6 (B7 TySz.out Z Z Z Z Z Z) (A2 (A5 Z Z) Z (A6 ?_))))
         refine k1 ?_
         refine F8 (I47 Row 3 rowC 4 1 Z Z) ?_
         refine k10 (k11 (k12 (k11 (k11 (k12 (k11 ?_))))))
         exact B5 (rs:=[pTable ⟨0,[]⟩,G1 1]) (R5 rfl rfl rfl rfl rfl rfl rfl) (by rw [hmk,if_pos];refine ⟨k,by omega,?_⟩;rw [←hnames,←hids,←hL];rw [hg,hs] at he;dsimp only at he;rw [←he];exact hne)
        ·have he0:e=0:=by simpa using A1 ht
         refine k5 (k1 (k2 (k2 ?_)))
         refine A3 (A2 (A5 Z Z) Z (A6 ?_))
         refine k1 (k3 ?_)
         refine C9 (X:=Nat) (fun i=>([(4,.s (.one (.ref 4 0))),(6,B8 n),(7,C1 (List Str) 1 strsC fs),(11,C1 Str 1 K6 names),(13,B8 L),(14,C1 Int 1 Z9 ms),(15,C1 (List (List Int)) 1 intssC gs),(23,.s (.one (.ref 23 0))),(24,B8 k),(25,C1 Merged 2 mergedC l),(27,B8 i)],[(4,.box [.p (.v (.int .i64 0)),.p (.v (.slice none 0 0))]),(23,.box [.p (.v (.int .i64 n)),.buf 88 Row 3 rowC (R k++(l.take i).map F)]),(88,.spare (R k++(l.take i).map F).length 3 69)])) (fun i=>i≤l.length) (fun i=>l.length - i) 0 (Nat.zero_le _) (by have e0:R k++(l.take 0).map F=R k:=(by simp);dsimp only;rw [e0];exact I45 ⟨le1 rfl,le1 rfl,le1 rfl,le1 rfl,le1 rfl,le1 rfl,le1 rfl,le1 rfl,le1 rfl,le1 rfl,le1 rfl,trivial⟩ ⟨rfl,rfl,rfl,trivial⟩) ?_
         intro i hi
         dsimp only at hi ⊢
         have hil:(R k++(l.take i).map F).length≤k*6401+6400:=by simp only [I78,J00,I93];omega
         refine k2 (k2 ?_)
         refine A3 (A2 (A4 Z Z) Z (A2 (A4 Z Z) Z (A2 (D4 Z (.pure _ _ _ _)) Z (A2 (D7 Z Z) Z (A6 ?_)))))
         refine k1 ?_
         refine B3 rfl (fun ht=>?_) (fun ht=>?_)
         ·have hli:i < l.length:=by have:=A0 ht;omega
          have hlv:l[i]?=some l[i]:=by simp [hli]
          have hlb:=hck.2 l[i] (I90 hli)
          have hnv:names[l[i].Line.toNat]?=some (names.getD l[i].Line.toNat []):=by rw [I82,I80 (by omega)];rfl
          have hFi:F l[i]=⟨true,l[i].Parents,names.getD l[i].Line.toNat []⟩:=by rw [hF]
          refine k5 (k1 (k2 (k3 ?_)))
          refine D2 (by kernel_rfl) (by kernel_rfl) (A9 (A7 Z) Z Z (A9 (A8 Z Z Z) Z Z (A9 (A4 Z Z) Z Z (A9 (A4 Z Z) Z Z (A9 (B0 Z (.pure _ _ _ _) Z (by omega) hlv) Z Z (A9 (D8 Z) Z Z (A9 (B2 Z Z) Z Z (A9 (A4 Z Z) Z Z (A9 (A4 Z Z) Z Z (A9 (A4 Z Z) Z Z (A9 (B0 Z (.pure _ _ _ _) Z (by omega) hlv) Z Z (A9 (D8 Z) Z Z (A9 (B2 Z Z) Z Z (A9 (B0 Z (.pure _ _ _ _) Z (by omega) hnv) Z Z (A9 (B2 Z Z) Z Z (A9 (F3 Z) Z Z (A9 (C4 (c:=rowC) (ys:=[⟨true,l[i].Parents,names.getD l[i].Line.toNat []⟩]) (D5 Z Z Z Z E7) Z Z Z) Z Z (B75 (F0 Z Z Z (.pure _ _ _ _) (by (simp only [I79,I81];omega)) Z) Z Z (A9 (A7 Z) Z Z (A08 (B7 TySz.out Z Z Z Z Z Z) Z (K7 ?_)))))))))))))))))))))
          refine k4 (k1 ?_)
          refine A3 (A2 (A4 Z Z) Z (A2 (C0 Z Z (by omega)) Z (A2 (A5 Z Z) Z (A6 ?_))))
          refine k1 ?_
          refine ⟨i+1,by omega,by omega,?_⟩
          have e1:R k++(l.take (i+1)).map F=R k++(l.take i).map F++[⟨true,l[i].Parents,names.getD l[i].Line.toNat []⟩]:=by rw [I86 hli,I92,I89,J09,←I88,hFi]
          rw [e1]
          exact I45 ⟨le1 rfl,le1 rfl,le1 rfl,le1 rfl,le1 rfl,le1 rfl,le1 rfl,le1 rfl,le1 rfl,le1 rfl,le1 rfl,trivial⟩ ⟨rfl,rfl,rfl,trivial⟩
         ·have hli:i=l.length:=by have:=A1 ht;omega
          rw [hli,I94] at hil ⊢
          refine k6 (k2 ?_)
          refine A3 (A2 (A4 Z Z) Z (A2 (A4 Z Z) Z (A2 (D7 Z Z) Z (A6 ?_))))
          refine k1 ?_
          refine B3 rfl (fun ht=>?_) (fun ht=>?_)
          ·have hkL:k < f0.length:=by have:=A0 ht;omega
           have hmv:ms[k]?=some (ms.getD k 0):=by rw [I82,I80 (by omega)];rfl
           have hfv:f0[k]?=some (f0.getD k []):=by rw [I82,I80 (by omega)];rfl
           have hR2:=hR1 k
           rw [if_pos hkL,←hl,←I88] at hR2
           skip
           refine D2 (by kernel_rfl) (by kernel_rfl) (A9 (A7 Z) Z Z (A9 (A8 Z Z Z) Z Z (A9 (A4 Z Z) Z Z (A9 (A4 Z Z) Z Z (A9 (B0 Z (.pure _ _ _ _) Z (by omega) hmv) Z Z (A9 (B2 Z Z) Z Z (A9 (A4 Z Z) Z Z (A9 (B0 Z (.pure _ _ _ _) Z (by omega) hf0) Z Z (A9 (B2 Z Z) Z Z (A9 (A4 Z Z) Z Z (A9 (B0 Z (.pure _ _ _ _) Z (by omega) hfv) Z Z (A9 (B2 Z Z) Z Z (A9 (F3 Z) Z Z (A9 (C4 (c:=rowC) (ys:=[⟨false,ms.getD k 0,f0.getD k []⟩]) (D5 Z Z Z Z E7) Z Z Z) Z Z (B75 (F0 Z Z Z (.pure _ _ _ _) (by (simp only [I79,I81];omega)) Z) Z Z (A9 (A7 Z) Z Z (A08 (B7 TySz.out Z Z Z Z Z Z) Z (K7 ?_))))))))))))))))))
           refine k4 (k1 ?_)
           refine A3 (A2 (A4 Z Z) Z (A2 (C0 Z Z (by omega)) Z (A2 (A5 Z Z) Z (A6 ?_))))
           refine k1 ?_
           refine ⟨k+1,⟨by omega,fun q hq=>?_⟩,by omega,?_⟩
           ·by_cases h2:q=k
            ·rw [h2,←he,he0]
            ·exact hz0 q (by omega)
           rw [hR2]
           exact I45 ⟨le1 rfl,le1 rfl,le1 rfl,le1 rfl,le1 rfl,le1 rfl,le1 rfl,le1 rfl,le1 rfl,trivial⟩ ⟨rfl,rfl,rfl,trivial⟩
          ·have hkL:¬k < f0.length:=by have:=A1 ht;omega
           have hR2:=hR1 k
           rw [if_neg hkL,←hl,I97] at hR2
           refine k5 (k4 (k1 ?_))
           refine A3 (A2 (A4 Z Z) Z (A2 (C0 Z Z (by omega)) Z (A2 (A5 Z Z) Z (A6 ?_))))
           refine k1 ?_
           refine ⟨k+1,⟨by omega,fun q hq=>?_⟩,by omega,?_⟩
           ·by_cases h2:q=k
            ·rw [h2,←he,he0]
            ·exact hz0 q (by omega)
           rw [hR2]
           exact I45 ⟨le1 rfl,le1 rfl,le1 rfl,le1 rfl,le1 rfl,le1 rfl,le1 rfl,le1 rfl,le1 rfl,trivial⟩ ⟨rfl,rfl,rfl,trivial⟩
       ·have hkL:k=L+1:=by have:=A1 ht;omega
        refine k6 (k2 ?_)
        refine A3 (A2 (C8 Z Z Z) Z (E6 (B7 TySz.out Z Z Z Z Z Z) (A2 (A5 Z Z) Z (A6 ?_))))
        refine k1 (k10 ?_)
        refine B5 (rs:=[pTable ⟨n,R k⟩,G1 0]) (R5 Z Z Z Z Z Z Z) ?_
        have hno:¬∃q,q < f0.length+1∧(F2 ((Q9 (fs.map (L3 (E2 fs))) f0.length n n).2 q)).2≠0:=by
         rintro ⟨q,hq1,hq2⟩
         refine hq2 ?_
         have:=hz0 q (by omega)
         rw [hg,hs,hids,hnames,hL] at this
         exact this
        rw [hmk,if_neg hno,hkL,hR,hs,hids,hnames,hL]
theorem G63 {rows:List Row} (h:H8 rows) (i:Nat):H8 (rows.take i):=fun r hr=>h r (List.mem_of_mem_take hr)
theorem F16 {n:Nat} {rows:List Row} {sp:List Span} {hs:List CHunk} (hn:n≤32) (hr:H8 rows) (hW:(rows.map R8).sum≤8388608) (h:X7 n rows 0 [] sp=some hs):szC hs≤268435456∧∀x∈hs,H8 x.Rows:=by
 have h1:=H27 R8 2081 n rows sp 0 [] hs (Int.le_refl _) h (by simp) (by simp)
 have h2:=D98 hr sp 0 [] hs h (fun x hx=>by cases hx)
 have hl:=S6 rows
 refine ⟨?_,fun x hx=>(h2 x hx).2⟩
 have h3:szC hs=(hs.map fun h=>(2048+h.At.length)+(h.Rows.map R8).sum).sum:=rfl
 have h4:szC hs≤(hs.map fun h=>2081+(h.Rows.map R8).sum).sum:=by
  rw [h3]
  clear h h1 h3
  induction hs with
  | nil=>simp
  | cons x r ih =>
   have h5:=(h2 x (by simp)).1
   have h6:=ih fun y hy=>h2 y (by simp [hy])
   rw [I89,J10,I89,J10]
   omega
 have h5:=h1.2
 simp only [I81] at h5
 have h6:=h1.1
 omega
theorem F90 {path:Str} {t:Table} {sp:List Span} {d:Bool} (hr:H8 t.Rows) (hW:(t.Rows.map R8).sum≤8388608):szC (W5 path t sp d).1.Hunks≤268435456∧∀x∈(W5 path t sp d).1.Hunks,H8 x.Rows:=by
 have h0:szC comb0.Hunks≤268435456∧∀x∈comb0.Hunks,H8 x.Rows:=⟨by decide,fun x hx=>by cases hx⟩
 unfold W5
 split
 ·exact h0
 ·split
  ·exact h0
  ·rename_i hc
   cases hg:X7 t.Parents.toNat t.Rows 0 [] sp with
   | none=>exact h0
   | some hs =>
    dsimp only
    split
    ·exact h0
    ·refine F16 ?_ hr hW hg
     unfold I7 at hc
     split at hc
     ·exact absurd hc (by decide)
     ·omega
theorem C82 {t:Table} (h:I7 t=0):1≤t.Parents∧t.Parents≤32:=by
 unfold I7 at h
 split at h
 ·cases h
 ·omega
theorem F91 (rows:List Row) (n p:Nat):(List.range (p+1)).map (N4 rows n)=(List.range p).map (N4 rows n)++[N4 rows n p]:=by rw [J15,I92];rfl
set_option maxHeartbeats 1000000
theorem H13 (path:Str) (t:Table) (sp:List Span) (d:Bool) (hr:H8 t.Rows) (hW:(t.Rows.map R8).sum≤8388608) (hx:N8 t.Rows≤8388608) (hsp:sp.length≤536870912) :
  FnOk Tryz.prog 84 [L5 path,pTable t,pSpans sp,I3 d] (fun rs=>rs=[O0 (W5 path t sp d).1,G1 (W5 path t sp d).2]):=by
 have hl:=S6 t.Rows
 have hll:t.Rows.length≤8388608:=by omega
 refine FnOk.intro Tryz.func84 (by decide) Z Z Z Z ?_
 refine k2 ?_
 refine A3 (B9 (N7 5 Z Z Z) Z (B9 (F5 8 Z) Z (A2 (A5 Z Z) Z (A6 ?_))))
 refine k1 (k2 (k2 ?_))
 refine A3 (A2 (A4 Z Z) Z (C2 (C17 path) Z Z Z ?_));rintro _ rfl;refine A2 (J2 Z) Z (A6 ?_)
 refine k1 ?_
 refine B3 rfl (fun ht=>?_) (fun ht=>?_)
 ·have h:N6 path=false:=by simpa using ht
  refine k2 ?_
  refine A3 (A2 (F3 Z) Z (E6 (B7 TySz.out Z Z Z Z Z Z) (A2 (A5 Z Z) Z (A6 ?_))))
  refine k1 ?_
  refine F8 (I47 CHunk 2 K8 8 3 Z Z) ?_
  refine k10 (k11 ?_)
  exact B5 (rs:=[O0 comb0,G1 120]) (R5 rfl rfl rfl rfl rfl rfl rfl) (by unfold W5;rw [if_pos h])
 have h:N6 path=true:=by simpa using ht
 refine k5 (k1 (k2 (k2 ?_)))
 refine A3 (A2 (C8 Z Z Z) Z (C2 (D51 t hr (by omega) (by omega)) Z Z Z ?_));rintro _ rfl;refine A2 (A5 Z Z) Z (A6 ?_)
 refine k1 (k2 ?_)
 refine A3 (A2 (A4 Z Z) Z (A2 (M5 Z Z) Z (A6 ?_)))
 refine k1 ?_
 refine B3 rfl (fun ht=>?_) (fun ht=>?_)
 ·have h1:=A0 ht
  refine k2 ?_
  refine A3 (A2 (F3 Z) Z (A2 (A4 Z Z) Z (E6 (B7 TySz.out Z Z Z Z Z Z) (A2 (A5 Z Z) Z (A6 ?_)))))
  refine k1 ?_
  refine F8 (I47 CHunk 2 K8 8 3 Z Z) ?_
  refine k10 (k11 ?_)
  exact B5 (rs:=[O0 comb0,G1 (I7 t)]) (R5 rfl rfl rfl rfl rfl rfl rfl) (by unfold W5;rw [if_neg (by rw [h];decide),if_pos h1])
 have h1:=A1 ht
 have h10:I7 t=0:=by omega
 obtain ⟨hn1,hn2⟩:=C82 h10
 obtain ⟨n,hn⟩:∃n:Nat,t.Parents=n:=⟨t.Parents.toNat,by omega⟩
 obtain ⟨tp,rows⟩:=t
 have hn:tp=(n:Int):=hn
 subst hn
 dsimp only at hr hW hx hl hll hn1 hn2
 have hcut:W5 path ⟨n,rows⟩ sp d=match X7 n rows 0 [] sp with
  | none=>(comb0,3)
  | some hs=>if J4 ⟨path,d,(n:Int),hs⟩≠0 then (comb0,J4 ⟨path,d,(n:Int),hs⟩) else (⟨path,d,(n:Int),hs⟩,0):=by
  unfold W5;rw [if_neg (by rw [h];decide),if_neg (by omega)];rfl
 rw [hcut]
 have hno:X7 n rows 0 [] sp=none→[O0 comb0,G1 3]=[O0 (match X7 n rows 0 [] sp with
  | none=>(comb0,3)
  | some hs=>if J4 ⟨path,d,(n:Int),hs⟩≠0 then (comb0,J4 ⟨path,d,(n:Int),hs⟩) else (⟨path,d,(n:Int),hs⟩,0)).1,G1 (match X7 n rows 0 [] sp with
  | none=>(comb0,3)
  | some hs=>if J4 ⟨path,d,(n:Int),hs⟩≠0 then (comb0,J4 ⟨path,d,(n:Int),hs⟩) else (⟨path,d,(n:Int),hs⟩,0)).2]:=fun e=>by rw [e]
 obtain ⟨W,hWd⟩:∃W,W=X7 n rows 0 [] sp:=⟨_,rfl⟩
 have hcs:∀hs,W=some hs→szC hs≤268435456∧∀x∈hs,H8 x.Rows:=fun hs e=>F16 (n:=n) (by omega) hr hW (by rw [←hWd];exact e)
 rw [←hWd] at hno ⊢
 refine k5 (k1 (k2 ?_))
 refine A3 (A2 (A4 Z Z) Z (A2 (A4 Z Z) Z (A2 (A7 Z) Z (A2 (A8 Z Z Z) Z (A2 (F3 Z) Z (B9 (F5 11 Z) Z (E6 (B7 TySz.out Z Z Z Z Z Z) (A6 ?_))))))))
 refine F8 (I51 754 CHunk 2 K8 59 (kb:=11) (o:=3) Z Z Z) ?_
 refine k2 ?_
 refine A3 (A2 (A5 Z Z) Z (A6 ?_))
 refine k1 (k2 (k2 ?_))
 refine A3 (A2 (A5 Z Z) Z (A6 ?_))
 refine k1 (k3 ?_)
 refine C9 (X:=Nat × Int × List CHunk) (fun x=>([(2,C1 Span 2 spanC sp),(5,.s (.one (.ref 5 0))),(8,.s (.one (.ref 8 0))),(11,.s (.one (.ref 11 0))),(12,B8 x.2.1),(13,B8 x.1)],[(5,.box (pTable ⟨n,rows⟩).s1.cells),(8,.box [.p (.v (.string ⟨#[]⟩)),.p (.v (.bool false)),.p (.v (.int .i64 0)),.p (.v (.slice none 0 0))]),(11,.box [.p (.v (.string ⟨path.toArray⟩)),.p (.v (.bool d)),.p (.v (.int .i64 n)),.buf 754 CHunk 2 K8 x.2.2]),(754,.spare x.2.2.length 2 59)])) (fun x=>x.1≤sp.length∧0≤x.2.1∧x.2.2.length≤x.1∧W=X7 n rows x.2.1 x.2.2 (sp.drop x.1)) (fun x=>sp.length - x.1) (0,0,[]) ⟨Nat.zero_le _,Int.le_refl _,Nat.le_refl _,hWd⟩ (I45 ⟨le1 rfl,le1 rfl,le1 rfl,le1 rfl,le1 rfl,le1 rfl,trivial⟩ ⟨rfl,rfl,rfl,rfl,trivial⟩) ?_
 rintro ⟨k,e,hs⟩ ⟨hk,he,hsl,hp⟩
 dsimp only at hk he hsl hp ⊢
 refine k2 (k2 ?_)
 refine A3 (A2 (A4 Z Z) Z (A2 (A4 Z Z) Z (A2 (D4 Z (.pure _ _ _ _)) Z (A2 (D7 Z Z) Z (A6 ?_)))))
 refine k1 ?_
 refine B3 rfl (fun ht=>?_) (fun ht=>?_)
 rotate_left
 ·have hkl:k=sp.length:=by have:=A1 ht;omega
  rw [hkl,I87 (Nat.le_refl _)] at hp
  have hp:W=some hs:=hp
  obtain ⟨z1,z2⟩:=hcs hs hp
  rw [hp]
  dsimp only
  refine k6 (k2 (k2 ?_))
  refine A3 (A2 (C8 Z Z Z) Z (C2 (F86 ⟨path,d,n,hs⟩ z1 z2) Z Z Z ?_));rintro _ rfl;refine A2 (A5 Z Z) Z (A6 ?_)
  refine k1 (k2 ?_)
  refine A3 (A2 (A4 Z Z) Z (A2 (M5 Z Z) Z (A6 ?_)))
  refine k1 ?_
  refine B3 rfl (fun ht=>?_) (fun ht=>?_)
  ·have h2:=A0 ht
   refine k2 ?_
   refine A3 (A2 (F3 Z) Z (A2 (A4 Z Z) Z (E6 (B7 TySz.out Z Z Z Z Z Z) (A2 (A5 Z Z) Z (A6 ?_)))))
   refine k1 ?_
   refine F8 (I47 CHunk 2 K8 8 3 Z Z) ?_
   refine k10 (k11 ?_)
   exact B5 (rs:=[O0 comb0,G1 (J4 ⟨path,d,n,hs⟩)]) (R5 rfl rfl rfl rfl rfl rfl rfl) (by rw [if_pos h2])
  ·have h2:=A1 ht
   refine k5 (k1 (k2 ?_))
   refine A3 (A2 (C8 Z Z Z) Z (E6 (B7 TySz.out Z Z Z Z Z Z) (A2 (A5 Z Z) Z (A6 ?_))))
   refine k1 (k10 ?_)
   exact B5 (rs:=[O0 ⟨path,d,n,hs⟩,G1 0]) (R5 rfl rfl rfl rfl rfl rfl rfl) (by rw [if_neg h2])
 have hlt:k < sp.length:=by have:=A0 ht;omega
 have hv:sp[k]?=some sp[k]:=by simp [hlt]
 rw [I84 hlt,X7] at hp
 obtain ⟨s,hsd⟩:∃s,s=sp[k]:=⟨_,rfl⟩
 rw [←hsd] at hp hv
 refine k5 (k1 (k2 (k3 (k2 (k2 ?_)))))
 refine D2 (by kernel_rfl) (by kernel_rfl) (A9 (A4 Z Z) Z Z (A9 (A4 Z Z) Z Z (A9 (B0 Z (.pure _ _ _ _) Z (by omega) hv) Z Z (A9 (D8 Z) Z Z (A9 (B2 Z Z) Z Z (A9 (A4 Z Z) Z Z (A9 (D7 Z Z) Z Z (A9 (A4 Z Z) Z Z (C6 Z Z (fun hg=>by rw [hg];exact A4 Z Z) Z Z ?_)))))))));refine C6 Z Z (fun hg=>by rw [hg];exact A4 Z Z) Z Z ?_;refine C6 Z Z (fun hg=>by have hq:=hg;(try simp at hq);rw [hg];exact B0 Z (.pure _ _ _ _) Z (by omega) hv) Z Z ?_;refine C6 Z Z (fun hg=>by rw [hg];exact D8 Z) Z Z ?_;refine C6 Z Z (fun hg=>by rw [hg];exact B2 Z Z) Z Z ?_;refine C6 Z Z (fun hg=>by rw [hg];exact A4 Z Z) Z Z ?_;refine C6 Z Z (fun hg=>by rw [hg];exact A4 Z Z) Z Z ?_;refine C6 Z Z (fun hg=>by have hq:=hg;(try simp at hq);rw [hg];exact B0 Z (.pure _ _ _ _) Z (by omega) hv) Z Z ?_;refine C6 Z Z (fun hg=>by rw [hg];exact D8 Z) Z Z ?_;refine C6 Z Z (fun hg=>by rw [hg];exact B2 Z Z) Z Z ?_;refine C6 Z Z (fun hg=>by rw [hg];exact i6 Z Z) Z Z ?_;refine A9 (B6 Z (fun h=>by first | rfl | (rw [h];rfl)) (fun h=>by first | rfl | (rw [h];rfl))) Z Z ?_;refine A9 (A4 Z Z) Z Z (C6 Z Z (fun hg=>by rw [hg];exact A4 Z Z) Z Z ?_);refine C6 Z Z (fun hg=>by rw [hg];exact A4 Z Z) Z Z ?_;refine C6 Z Z (fun hg=>by have hq:=hg;(try simp at hq);rw [hg];exact B0 Z (.pure _ _ _ _) Z (by omega) hv) Z Z ?_;refine C6 Z Z (fun hg=>by rw [hg];exact D8 Z) Z Z ?_;refine C6 Z Z (fun hg=>by rw [hg];exact B2 Z Z) Z Z ?_;refine C6 Z Z (fun hg=>by rw [hg];exact A7 Z) Z Z ?_;refine C6 Z Z (fun hg=>by rw [hg];exact A8 Z Z Z) Z Z ?_;refine C6 Z Z (fun hg=>by rw [hg];exact D4 Z (.pure _ _ _ _)) Z Z ?_;refine C6 Z Z (fun hg=>by rw [hg];exact M4 Z Z) Z Z ?_;refine A9 (B6 Z (fun h=>by first | rfl | (rw [h];rfl)) (fun h=>by first | rfl | (rw [h];rfl))) Z Z ?_;refine K7 ?_
 refine k1 ?_
 refine B3 rfl (fun ht=>?_) (fun ht=>?_)
 ·have hc:s.From < e∨s.To≤s.From∨(rows.length:Int) < s.To:=by
   by_cases q1:s.From < e
   ·exact .inl q1
   ·by_cases q2:s.To≤s.From
    ·exact .inr (.inl q2)
    ·simp [q1,q2] at ht
     exact .inr (.inr ht)
  rw [if_pos hc] at hp
  refine k2 ?_
  refine A3 (A2 (F3 Z) Z (E6 (B7 TySz.out Z Z Z Z Z Z) (A2 (A5 Z Z) Z (A6 ?_))))
  refine k1 ?_
  refine F8 (I47 CHunk 2 K8 8 3 Z Z) ?_
  refine k10 (k11 (k12 (k11 (k11 (k12 (k11 ?_))))))
  exact B5 (rs:=[O0 comb0,G1 3]) (R5 rfl rfl rfl rfl rfl rfl rfl) (hno hp)
 have hc:¬(s.From < e∨s.To≤s.From∨(rows.length:Int) < s.To):=by
  rintro (q | q | q)
  ·simp [q] at ht
  ·simp [q] at ht
  ·simp [q] at ht
 rw [if_neg hc] at hp
 simp only [not_or,Int.not_lt,Int.not_le] at hc
 obtain ⟨c1,c2,c3⟩:=hc
 obtain ⟨F,hF⟩:∃F:Nat,s.From=F:=⟨s.From.toNat,by omega⟩
 obtain ⟨T,hT⟩:∃T:Nat,s.To=T:=⟨s.To.toNat,by omega⟩
 obtain ⟨sF,sT⟩:=s
 have hF:sF=(F:Int):=hF
 have hT:sT=(T:Int):=hT
 subst hF hT
 dsimp only at c1 c2 c3 hp
 rw [I85,I85] at hp
 have hsub:((rows.drop F).take (T - F)).length=T - F:=by rw [I93,I95];omega
 have hFl:(F:Int)≤rows.length:=by omega
 refine k5 (k1 (k2 ?_))
 refine L0 [(2,C1 Span 2 spanC sp),(5,.s (.one (.ref 5 0))),(8,.s (.one (.ref 8 0))),(11,.s (.one (.ref 11 0))),(13,B8 k)] [(5,.box (pTable ⟨n,rows⟩).s1.cells),(8,.box [.p (.v (.string ⟨#[]⟩)),.p (.v (.bool false)),.p (.v (.int .i64 0)),.p (.v (.slice none 0 0))]),(11,.box [.p (.v (.string ⟨path.toArray⟩)),.p (.v (.bool d)),.p (.v (.int .i64 n)),.buf 754 CHunk 2 K8 hs]),(754,.spare hs.length 2 59)] (I45 ⟨le1 rfl,le1 rfl,le1 rfl,le1 rfl,le1 rfl,trivial⟩ ⟨rfl,rfl,rfl,rfl,trivial⟩) ?_
 refine T0 [17,16,14] [[],[14],[16],[16,14],[17,16,14]] [(14,([],[])),(16,([14],[])),(17,([],[]))] [(0,[]),(1,[]),(2,[]),(3,[]),(4,[]),(5,[]),(6,[]),(7,[]),(8,[]),(9,[]),(10,[]),(11,[]),(12,[]),(13,[]),(14,[]),(15,[14]),(16,[]),(16,[14]),(17,[16,14])] [(0,[16]),(1,[16]),(2,[16]),(3,[16]),(4,[16]),(5,[16]),(6,[16]),(7,[16]),(8,[16]),(9,[16]),(10,[16]),(11,[16]),(12,[16]),(13,[16]),(14,[16]),(15,[16,14])] (by kernel_rfl) (by kernel_rfl) (E0 Z Z (by kernel_rfl) Z Z (s6 (c:=rowC) (ys:=[]) E7 Z Z Z) (E0 Z Z (by kernel_rfl) Z Z (A7 Z) (E0 Z Z (by kernel_rfl) Z Z (A8 Z Z Z) (E0 Z Z (by kernel_rfl) Z Z (A4 Z Z) (E0 Z Z (by kernel_rfl) Z Z (A4 Z Z) (E0 Z Z (by kernel_rfl) Z Z (B0 Z (.pure _ _ _ _) Z (by omega) hv) (E0 Z Z (by kernel_rfl) Z Z (D8 Z) (E0 Z Z (by kernel_rfl) Z Z (B2 Z Z) (E0 Z Z (by kernel_rfl) Z Z (A4 Z Z) (E0 Z Z (by kernel_rfl) Z Z (A4 Z Z) (E0 Z Z (by kernel_rfl) Z Z (B0 Z (.pure _ _ _ _) Z (by omega) hv) (E0 Z Z (by kernel_rfl) Z Z (D8 Z) (E0 Z Z (by kernel_rfl) Z Z (B2 Z Z) (E0 Z Z (by kernel_rfl) Z Z (T5 Z (.pure _ _ _ _) Z Z (by (first | omega | (dsimp only;omega))) (by (first | omega | (dsimp only;omega))) (by (first | omega | (dsimp only;omega)))) (Y5 Z Z (by kernel_rfl) Z Z (r_neu (fun frc hU=>p8 (W1 hU Z) (W1 hU Z) (.pure _ _ _ _) (by (rw [I85,I85,hsub];simp;omega)) (by rw [I85,I85,hsub];omega))) Z ?_)))))))))))))));refine E0 Z Z (by kernel_rfl) Z Z (F3 Z) (Y5 Z Z (by kernel_rfl) Z Z (H01 Z) Z (w_again Z Z (by kernel_rfl) Z Z (H01 Z) Z (Y5 Z Z (by kernel_rfl) Z Z (D43 (fun frc hU=>B7 TySz.out (W1 hU Z) Z (W1 hU Z) Z Z Z)) Z ?_)));refine D41 (by kernel_rfl) rfl ?_ ?_
 ·refine J0 Z Z (by kernel_rfl) Z Z (s6 (c:=rowC) (ys:=[]) E7 Z Z Z) (J0 Z Z (by kernel_rfl) Z Z (A7 Z) (J0 Z Z (by kernel_rfl) Z Z (A8 Z Z Z) (J0 Z Z (by kernel_rfl) Z Z (A4 Z Z) (J0 Z Z (by kernel_rfl) Z Z (A4 Z Z) (J0 Z Z (by kernel_rfl) Z Z (B0 Z (.pure _ _ _ _) Z (by omega) hv) (J0 Z Z (by kernel_rfl) Z Z (D8 Z) (J0 Z Z (by kernel_rfl) Z Z (B2 Z Z) (J0 Z Z (by kernel_rfl) Z Z (A4 Z Z) (J0 Z Z (by kernel_rfl) Z Z (A4 Z Z) (J0 Z Z (by kernel_rfl) Z Z (B0 Z (.pure _ _ _ _) Z (by omega) hv) (J0 Z Z (by kernel_rfl) Z Z (D8 Z) (J0 Z Z (by kernel_rfl) Z Z (B2 Z Z) (J0 Z Z (by kernel_rfl) Z Z (T5 Z (.pure _ _ _ _) Z Z (by (first | omega | (dsimp only;omega))) (by (first | omega | (dsimp only;omega))) (by (first | omega | (dsimp only;omega)))) ?_)))))))))))));refine x_eff rfl rfl (by kernel_rfl) rfl rfl (r_neu (fun frc hU=>p8 (W1 hU rfl) (W1 hU rfl) (.pure _ _ _ _) (by (rw [I85,I85,hsub];simp;omega)) (by rw [I85,I85,hsub];omega))) rfl (I03 (by repeat (first | exact trivial | refine ⟨.inr rfl,?_⟩ | refine ⟨.inl rfl,?_⟩))) ?_;refine J0 Z Z (by kernel_rfl) Z Z (F3 Z) ?_;exact C75
 rw [I85,I85,J11]
 refine F8 (I51 755 Int 1 F9 3 (kb:=14) (o:=0) Z Z Z) ?_
 refine k2 (k2 ?_)
 refine A3 (A2 (A5 Z Z) Z (A6 ?_))
 refine k1 (k3 ?_)
 obtain ⟨R,hR⟩:∃R,R=(rows.drop F).take (T - F):=⟨_,rfl⟩
 rw [←hR] at hp hsub ⊢
 refine C9 (X:=Nat) (fun p=>([(2,C1 Span 2 spanC sp),(5,.s (.one (.ref 5 0))),(8,.s (.one (.ref 8 0))),(11,.s (.one (.ref 11 0))),(13,B8 k),(14,.s (.one (.ref 14 0))),(15,B8 p)],[(5,.box (pTable ⟨n,rows⟩).s1.cells),(8,.box [.p (.v (.string ⟨#[]⟩)),.p (.v (.bool false)),.p (.v (.int .i64 0)),.p (.v (.slice none 0 0))]),(11,.box [.p (.v (.string ⟨path.toArray⟩)),.p (.v (.bool d)),.p (.v (.int .i64 n)),.buf 754 CHunk 2 K8 hs]),(754,.spare hs.length 2 59),(14,.box [.buf 755 Int 1 F9 ((List.range p).map (N4 (rows.take F) n)),.p (.list Row 3 rowC R)]),(755,.spare ((List.range p).map (N4 (rows.take F) n)).length 1 3)])) (fun p=>p≤n+1) (fun p=>n+1 - p) 0 (Nat.zero_le _) (I45 ⟨le1 rfl,le1 rfl,le1 rfl,le1 rfl,le1 rfl,le1 rfl,le1 rfl,trivial⟩ ⟨rfl,rfl,rfl,rfl,rfl,rfl,trivial⟩) ?_
 intro p hpn
 dsimp only at hpn ⊢
 have hml:((List.range p).map (N4 (rows.take F) n)).length=p:=by simp
 refine k2 (k2 ?_)
 refine A3 (A2 (A4 Z Z) Z (A2 (A7 Z) Z (A2 (A8 Z Z Z) Z (A2 (i6 Z Z) Z (A6 ?_)))))
 refine k1 ?_
 refine B3 rfl (fun ht=>?_) (fun ht=>?_)
 ·have hle:p≤n:=by have:=A0 ht;omega
  have hst:=F91 (rows.take F) n p
  have htl:(rows.take F).length=F:=by rw [I93];omega
  have hcm:=B85 p n
  have hcol:=A14 (rows.take F) (R7 n p) (G63 hr F) (by omega)
  refine k5 (k1 (k2 (k3 ?_)))
  refine D2 (by kernel_rfl) (by kernel_rfl) (A9 (A7 Z) Z Z (A9 (A8 Z Z Z) Z Z (A9 (A7 Z) Z Z (A9 (A8 Z Z Z) Z Z (A9 (A4 Z Z) Z Z (A9 (A4 Z Z) Z Z (A9 (B0 Z (.pure _ _ _ _) Z (by omega) hv) Z Z (A9 (D8 Z) Z Z (A9 (B2 Z Z) Z Z (A9 (C41 Z (.pure _ _ _ _) Z (by (first | omega | (dsimp only;omega))) (by (first | omega | (dsimp only;omega)))) Z Z (A9 (A4 Z Z) Z Z (A9 (A7 Z) Z Z (A9 (A8 Z Z Z) Z Z (A9 (H6 (hcm) Z Z) Z Z (A9 (H6 (hcol) Z Z) Z Z (A9 (D4 Z (.pure _ _ _ _)) Z Z (A9 (C4 (c:=F9) (ys:=[N4 (rows.take F) n p]) (D5 Z Z Z Z E7) Z Z Z) Z Z (B75 (F0 Z Z Z (.pure _ _ _ _) (by (rw [hml];simp only [I79,I81];omega)) Z) Z Z ?_))))))))))))))))));refine A9 (A7 Z) Z Z (A08 (B7 TySz.out Z Z Z Z Z Z) Z (K7 ?_))
  refine k4 (k1 ?_)
  refine A3 (A2 (A4 Z Z) Z (A2 (C0 Z Z (by omega)) Z (A2 (A5 Z Z) Z (A6 ?_))))
  refine k1 ?_
  refine ⟨p+1,by omega,by omega,?_⟩
  rw [hst]
  exact I45 ⟨le1 rfl,le1 rfl,le1 rfl,le1 rfl,le1 rfl,le1 rfl,le1 rfl,trivial⟩ ⟨rfl,rfl,rfl,rfl,rfl,rfl,trivial⟩
 have hpl:p=n+1:=by have:=A1 ht;omega
 rw [hpl]
 refine k6 (k2 ?_)
 refine A3 (A2 (A7 Z) Z (A2 (A8 Z Z Z) Z (A2 (C8 Z Z Z) Z (A2 (C4 (c:=K8) (ys:=[⟨I5 (rows.take F) n,R⟩]) (D5 Z Z Z Z E7) Z Z Z) Z (B9 (F0 Z Z Z (.pure _ _ _ _) (by (simp only [I79,I81];omega)) Z) Z (A2 (A7 Z) Z (E6 (B7 TySz.out Z Z Z Z Z Z) (A6 ?_))))))))
 refine k1 ?_
 refine A3 (A2 (A4 Z Z) Z (A2 (A4 Z Z) Z (A2 (B0 Z (.pure _ _ _ _) Z (by omega) hv) Z (A2 (D8 Z) Z (A2 (B2 Z Z) Z (A2 (A5 Z Z) Z (A6 ?_)))))))
 refine k4 (k1 ?_)
 refine A3 (A2 (A4 Z Z) Z (A2 (C0 Z Z (by omega)) Z (A2 (A5 Z Z) Z (A6 ?_))))
 refine k1 ?_
 exact ⟨(k+1,(T:Int),hs++[⟨I5 (rows.take F) n,R⟩]),⟨by dsimp only;omega,by dsimp only;omega,by dsimp only;rw [I78];simp;omega,hp⟩,by dsimp only;omega,I45 ⟨le1 rfl,le1 rfl,le1 rfl,le1 rfl,le1 rfl,le1 rfl,trivial⟩ ⟨rfl,rfl,rfl,rfl,trivial⟩⟩
abbrev rowV (q:Row):List Value:=[.bool q.Lost,.int .u32 q.Marks,.string ⟨q.Text.toArray⟩]
theorem row_eq (q q':Row):E97 (rowV q) (rowV q')=decide (q=q'):=by
 rw [Bool.eq_iff_iff]
 simp only [E97,eqV,ByteArray.toList_mk,I83,beq_iff_eq,decide_eq_true_eq,Bool.and_true]
 constructor
 ·rintro ⟨h1,h2,h3⟩
  obtain ⟨k,m,t⟩:=q
  obtain ⟨k',m',t'⟩:=q'
  obtain rfl:k=k':=h1
  obtain rfl:m=m':=h2
  obtain rfl:t=t':=h3
  rfl
 ·rintro rfl;exact ⟨rfl,rfl,rfl⟩
theorem I19 (a:List Int) (ha:a.length≤1099511627776):FnOk Tryz.prog 48 [N5 a,N5 a] (fun rs=>rs=[I3 true]):=by
 refine FnOk.intro Tryz.func48 (by decide) Z Z Z Z ?_
 refine k2 ?_
 refine A3 (A2 (A5 Z Z) Z (A6 ?_))
 refine k1 (k2 (k2 ?_))
 refine A3 (A2 (A4 Z Z) Z (A2 (D4 Z (.pure _ _ _ _)) Z (A2 (A4 Z Z) Z (A2 (D4 Z (.pure _ _ _ _)) Z (A2 (M5 Z Z) Z (A6 ?_))))))
 refine k1 ?_
 refine B3 rfl (fun ht=>?_) (fun ht=>?_)
 ·exact absurd rfl (A0 ht)
 refine k5 (k1 (k2 (k2 ?_)))
 refine A3 (A2 (A5 Z Z) Z (A6 ?_))
 refine k1 (k3 ?_)
 refine C9 (X:=Nat) (fun i=>([(0,C1 Int 1 F9 a),(1,C1 Int 1 F9 a),(5,B8 i)],[])) (fun i=>i≤a.length) (fun i=>a.length - i) 0 (Nat.zero_le _) (I45 ⟨le1 rfl,le1 rfl,le1 rfl,trivial⟩ trivial) ?_
 intro i hi
 dsimp only at hi ⊢
 refine k2 (k2 ?_)
 refine A3 (A2 (A4 Z Z) Z (A2 (A4 Z Z) Z (A2 (D4 Z (.pure _ _ _ _)) Z (A2 (D7 Z Z) Z (A6 ?_)))))
 refine k1 ?_
 refine B3 rfl (fun ht=>?_) (fun ht=>?_)
 ·have hlt:i < a.length:=by have:=A0 ht;omega
  have hv:=D93 hlt
  refine k5 (k1 (k2 (k3 (k2 ?_))))
  refine D2 (by kernel_rfl) (by kernel_rfl) (A9 (A4 Z Z) Z Z (A9 (A4 Z Z) Z Z (A9 (B0 Z (.pure _ _ _ _) Z (by omega) hv) Z Z (A9 (B2 Z Z) Z Z (A9 (A4 Z Z) Z Z (A9 (A4 Z Z) Z Z (A9 (B0 Z (.pure _ _ _ _) Z (by omega) hv) Z Z (A9 (B2 Z Z) Z Z (A9 (M5 Z Z) Z Z (K7 ?_))))))))))
  refine k1 ?_
  refine B3 rfl (fun ht=>?_) (fun ht=>?_)
  ·exact absurd rfl (A0 ht)
  refine k5 (k4 (k1 ?_))
  refine A3 (A2 (A4 Z Z) Z (A2 (C0 Z Z (by omega)) Z (A2 (A5 Z Z) Z (A6 ?_))))
  refine k1 ?_
  exact ⟨i+1,by omega,by omega,I45 ⟨le1 rfl,le1 rfl,le1 rfl,trivial⟩ trivial⟩
 ·refine k6 (k2 ?_)
  refine A3 (A2 (A5 Z Z) Z (A6 ?_))
  refine k1 (k10 ?_)
  exact B5 (rs:=[I3 true]) (F1 rfl rfl rfl) rfl
theorem I20 (a:List Row) (ha:a.length≤1099511627776):FnOk Tryz.prog 47 [pRows a,pRows a] (fun rs=>rs=[I3 true]):=by
 refine FnOk.intro Tryz.func47 (by decide) Z Z Z Z ?_
 refine k2 ?_
 refine A3 (A2 (A5 Z Z) Z (A6 ?_))
 refine k1 (k2 (k2 ?_))
 refine A3 (A2 (A4 Z Z) Z (A2 (D4 Z (.pure _ _ _ _)) Z (A2 (A4 Z Z) Z (A2 (D4 Z (.pure _ _ _ _)) Z (A2 (M5 Z Z) Z (A6 ?_))))))
 refine k1 ?_
 refine B3 rfl (fun ht=>?_) (fun ht=>?_)
 ·exact absurd rfl (A0 ht)
 refine k5 (k1 (k2 (k2 ?_)))
 refine A3 (A2 (A5 Z Z) Z (A6 ?_))
 refine k1 (k3 ?_)
 refine C9 (X:=Nat) (fun i=>([(0,C1 Row 3 rowC a),(1,C1 Row 3 rowC a),(5,B8 i)],[])) (fun i=>i≤a.length) (fun i=>a.length - i) 0 (Nat.zero_le _) (I45 ⟨le1 rfl,le1 rfl,le1 rfl,trivial⟩ trivial) ?_
 intro i hi
 dsimp only at hi ⊢
 refine k2 (k2 ?_)
 refine A3 (A2 (A4 Z Z) Z (A2 (A4 Z Z) Z (A2 (D4 Z (.pure _ _ _ _)) Z (A2 (D7 Z Z) Z (A6 ?_)))))
 refine k1 ?_
 refine B3 rfl (fun ht=>?_) (fun ht=>?_)
 ·have hlt:i < a.length:=by have:=A0 ht;omega
  have hv:a[i]?=some a[i]:=by simp [hlt]
  obtain ⟨r,hr⟩:∃r,r=a[i]:=⟨_,rfl⟩
  rw [←hr] at hv
  refine k5 (k1 (k2 (k3 (k2 ?_))))
  refine D2 (by kernel_rfl) (by kernel_rfl) (A9 (A4 Z Z) Z Z (A9 (A4 Z Z) Z Z (A9 (B0 Z (.pure _ _ _ _) Z (by omega) hv) Z Z (A9 (E1 Z Z) Z Z (A9 (A4 Z Z) Z Z (A9 (A4 Z Z) Z Z (A9 (B0 Z (.pure _ _ _ _) Z (by omega) hv) Z Z (A9 (E1 Z Z) Z Z (A9 (I01 (rowV r) (rowV r) Z Z Z Z ((row_eq r r).trans (decide_eq_true Z))) Z Z (K7 ?_))))))))))
  refine k1 ?_
  refine B3 rfl (fun ht=>?_) (fun ht=>?_)
  ·cases ht
  refine k5 (k4 (k1 ?_))
  refine A3 (A2 (A4 Z Z) Z (A2 (C0 Z Z (by omega)) Z (A2 (A5 Z Z) Z (A6 ?_))))
  refine k1 ?_
  exact ⟨i+1,by omega,by omega,I45 ⟨le1 rfl,le1 rfl,le1 rfl,trivial⟩ trivial⟩
 ·refine k6 (k2 ?_)
  refine A3 (A2 (A5 Z Z) Z (A6 ?_))
  refine k1 (k10 ?_)
  exact B5 (rs:=[I3 true]) (F1 rfl rfl rfl) rfl
theorem D62 (c:Comb) (hz:szC c.Hunks≤1099511627776):FnOk Tryz.prog 45 [O0 c,O0 c] (fun rs=>rs=[I3 true]):=by
 have hzl:=A23 c.Hunks
 refine FnOk.intro Tryz.func45 (by decide) Z Z Z Z ?_
 refine k2 ?_
 refine A3 (B9 (N7 2 Z Z Z) Z (B9 (N7 3 Z Z Z) Z (A2 (A5 Z Z) Z (A6 ?_))))
 refine k1 (k2 (k2 ?_))
 refine A3 (A2 (A7 Z) Z (A2 (A8 Z Z Z) Z (A2 (A7 Z) Z (A2 (A8 Z Z Z) Z (A2 (A49 Z Z) Z (A2 (A4 Z Z) Z (B1 Z Z Z Z (fun hg=>by rw [hg];exact A7 Z) ?_)))))));refine B1 Z Z Z Z (fun hg=>by rw [hg];exact A8 Z Z Z) ?_;refine B1 Z Z Z Z (fun hg=>by rw [hg];exact A7 Z) ?_;refine B1 Z Z Z Z (fun hg=>by rw [hg];exact A8 Z Z Z) ?_;refine B1 Z Z Z Z (fun hg=>by rw [hg];exact n_neq_b Z Z TyBool.out) ?_;refine A2 (B6 Z (fun h=>by first | rfl | (rw [h];rfl)) (fun h=>by first | rfl | (rw [h];rfl))) Z ?_;refine A2 (A4 Z Z) Z (B1 Z Z Z Z (fun hg=>by rw [hg];exact A7 Z) ?_);refine B1 Z Z Z Z (fun hg=>by rw [hg];exact A8 Z Z Z) ?_;refine B1 Z Z Z Z (fun hg=>by rw [hg];exact A7 Z) ?_;refine B1 Z Z Z Z (fun hg=>by rw [hg];exact A8 Z Z Z) ?_;refine B1 Z Z Z Z (fun hg=>by rw [hg];exact M5 Z Z) ?_;refine A2 (B6 Z (fun h=>by first | rfl | (rw [h];rfl)) (fun h=>by first | rfl | (rw [h];rfl))) Z ?_;refine A2 (A4 Z Z) Z (B1 Z Z Z Z (fun hg=>by rw [hg];exact A7 Z) ?_);refine B1 Z Z Z Z (fun hg=>by rw [hg];exact A8 Z Z Z) ?_;refine B1 Z Z Z Z (fun hg=>by rw [hg];exact D4 Z (.pure _ _ _ _)) ?_;refine B1 Z Z Z Z (fun hg=>by rw [hg];exact A7 Z) ?_;refine B1 Z Z Z Z (fun hg=>by rw [hg];exact A8 Z Z Z) ?_;refine B1 Z Z Z Z (fun hg=>by rw [hg];exact D4 Z (.pure _ _ _ _)) ?_;refine B1 Z Z Z Z (fun hg=>by rw [hg];exact M5 Z Z) ?_;refine A2 (B6 Z (fun h=>by first | rfl | (rw [h];rfl)) (fun h=>by first | rfl | (rw [h];rfl))) Z ?_;refine A6 ?_
 refine k1 ?_
 refine B3 rfl (fun ht=>?_) (fun ht=>?_)
 ·exfalso;revert ht;simp
 refine L0 [(2,.s (.one (.ref 2 0))),(3,.s (.one (.ref 3 0)))] [(2,A32 c),(3,A32 c)] (I45 ⟨le1 rfl,le1 rfl,trivial⟩ ⟨rfl,rfl,trivial⟩) ?_
 refine k5 (k1 (k2 (k2 ?_)))
 refine A3 (A2 (A5 Z Z) Z (A6 ?_))
 refine k1 (k3 ?_)
 refine C9 (X:=Nat) (fun k=>([(2,.s (.one (.ref 2 0))),(3,.s (.one (.ref 3 0))),(5,B8 k)],[(2,A32 c),(3,A32 c)])) (fun k=>k≤c.Hunks.length) (fun k=>c.Hunks.length - k) 0 (Nat.zero_le _) (I45 ⟨le1 rfl,le1 rfl,le1 rfl,trivial⟩ ⟨rfl,rfl,trivial⟩) ?_
 intro k hk
 dsimp only at hk ⊢
 refine k2 (k2 ?_)
 refine A3 (A2 (A4 Z Z) Z (A2 (A7 Z) Z (A2 (A8 Z Z Z) Z (A2 (D4 Z (.pure _ _ _ _)) Z (A2 (D7 Z Z) Z (A6 ?_))))))
 refine k1 ?_
 refine B3 rfl (fun ht=>?_) (fun ht=>?_)
 ·have hlt:k < c.Hunks.length:=by have:=A0 ht;omega
  have hv:c.Hunks[k]?=some c.Hunks[k]:=by simp [hlt]
  have hzm:=A86 (I90 hlt)
  obtain ⟨h,hx⟩:∃x,x=c.Hunks[k]:=⟨_,rfl⟩
  rw [←hx] at hv hzm
  have hz1:=S6 h.Rows
  unfold B05 at hzm
  refine k5 (k1 (k2 (k3 (k2 ?_))))
  refine D2 (by kernel_rfl) (by kernel_rfl) (A9 (A7 Z) Z Z (A9 (A8 Z Z Z) Z Z (A9 (A4 Z Z) Z Z (A9 (B0 Z (.pure _ _ _ _) Z (by omega) hv) Z Z (A9 (D8 Z) Z Z (A9 (B2 Z Z) Z Z (A9 (A7 Z) Z Z (A9 (A8 Z Z Z) Z Z (A9 (A4 Z Z) Z Z (A9 (B0 Z (.pure _ _ _ _) Z (by omega) hv) Z Z (A9 (D8 Z) Z Z (A9 (B2 Z Z) Z Z (A9 (H6 (I19 h.At (by omega)) Z Z) Z Z (A9 (J2 Z) Z Z (A9 (A4 Z Z) Z Z (C6 Z Z (fun hg=>by rw [hg];exact A7 Z) Z Z ?_))))))))))))))));refine C6 Z Z (fun hg=>by rw [hg];exact A8 Z Z Z) Z Z ?_;refine C6 Z Z (fun hg=>by rw [hg];exact A4 Z Z) Z Z ?_;refine C6 Z Z (fun hg=>by have hq:=hg;(try simp at hq);rw [hg];exact B0 Z (.pure _ _ _ _) Z (by omega) hv) Z Z ?_;refine C6 Z Z (fun hg=>by rw [hg];exact D8 Z) Z Z ?_;refine C6 Z Z (fun hg=>by rw [hg];exact B2 Z Z) Z Z ?_;refine C6 Z Z (fun hg=>by rw [hg];exact A7 Z) Z Z ?_;refine C6 Z Z (fun hg=>by rw [hg];exact A8 Z Z Z) Z Z ?_;refine C6 Z Z (fun hg=>by rw [hg];exact A4 Z Z) Z Z ?_;refine C6 Z Z (fun hg=>by have hq:=hg;(try simp at hq);rw [hg];exact B0 Z (.pure _ _ _ _) Z (by omega) hv) Z Z ?_;refine C6 Z Z (fun hg=>by rw [hg];exact D8 Z) Z Z ?_;refine C6 Z Z (fun hg=>by rw [hg];exact B2 Z Z) Z Z ?_;refine C6 Z Z (fun hg=>by have hq:=hg;(try simp at hq);rw [hg];exact H6 (I20 h.Rows (by omega)) Z Z) Z Z ?_;refine C6 Z Z (fun hg=>by rw [hg];exact J2 Z) Z Z ?_;refine A9 (B6 Z (fun h=>by first | rfl | (rw [h];rfl)) (fun h=>by first | rfl | (rw [h];rfl))) Z Z ?_;refine K7 ?_
  refine k1 ?_
  refine B3 rfl (fun ht=>?_) (fun ht=>?_)
  ·cases ht
  refine k5 (k4 (k1 ?_))
  refine A3 (A2 (A4 Z Z) Z (A2 (C0 Z Z (by omega)) Z (A2 (A5 Z Z) Z (A6 ?_))))
  refine k1 ?_
  exact ⟨k+1,by omega,by omega,I45 ⟨le1 rfl,le1 rfl,le1 rfl,trivial⟩ ⟨rfl,rfl,trivial⟩⟩
 ·refine k6 (k2 ?_)
  refine A3 (A2 (A5 Z Z) Z (A6 ?_))
  refine k1 (k10 ?_)
  exact B5 (rs:=[I3 true]) (F1 rfl rfl rfl) rfl
end Go.Proofs.YtbiadkkamhpdnaaGreatDoor
namespace Go.Proofs.YtbiadkkamhpdnaaGreatDoor
open Go Go.AL
set_option maxRecDepth 100000
end Go.Proofs.YtbiadkkamhpdnaaGreatDoor
namespace Go.Proofs.YtbiadkkamhpdnaaGreatDoor
open Go Go.AL
set_option maxRecDepth 100000
set_option maxHeartbeats 4000000
set_option maxHeartbeats 1000000
set_option maxHeartbeats 4000000
set_option maxHeartbeats 4000000
section
variable {P:Program} {nt:Nat} {fr:Fr} {w:Str} {d:Bool} {n:Int} {hs:List CHunk}
end
set_option maxHeartbeats 4000000
end Go.Proofs.YtbiadkkamhpdnaaGreatDoor
