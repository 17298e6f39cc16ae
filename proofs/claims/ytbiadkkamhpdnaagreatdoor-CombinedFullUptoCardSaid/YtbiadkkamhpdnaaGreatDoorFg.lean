/- Walks of the program's functions. -/
import Derived.Test.YtbiadkkamhpdnaaGreatDoorFa
import Derived.Test.YtbiadkkamhpdnaaGreatDoorFf
import Derived.Test.YtbiadkkamhpdnaaGreatDoorFe
import Derived.Test.YtbiadkkamhpdnaaGreatDoorFs
set_option linter.unusedSimpArgs false
namespace Go.Proofs.YtbiadkkamhpdnaaGreatDoor
open Go Go.AL
set_option maxRecDepth 100000
theorem B72 {b:Str} (h:b.length≤200):X8 b=0:=by
 have:=R5 b
 rw [X8,if_neg (by omega)]
theorem H96 {m r:Nat} {z:TC} (h:r < m):(S0 m m z)[r]?=some (.mut (r+1000)):=by
 unfold S0;rw [J40,J48 h];simp [h]
def A93 (f:Int→Int) (l:List Int) (k:Nat):List Int:=(l.take k).map f++l.drop k
theorem F33 (f:Int→Int) (l:List Int) (k:Nat):(A93 f l k).length=l.length:=by simp [A93];omega
theorem H97 (f:Int→Int) (l:List Int) (k:Nat) (h:k < l.length):(A93 f l k)[k]?=some (l.getD k 0):=by
 unfold A93
 rw [J38 (by simp;omega)]
 simp [show k - min k l.length=0 by omega,J14 h,J17]
theorem H98 (f:Int→Int) (l:List Int) (k:Nat) (h:k < l.length):(A93 f l k).set k (f (l.getD k 0))=A93 f l (k+1):=by
 unfold A93
 rw [List.set_append_right _ _ (by simp;omega),J20 h,J22 h]
 have e:k - min k l.length=0:=by omega
 simp only [J29,J36,e,List.set_cons_zero,J28,J24,J51,J25,J62,J17,J14 h,Option.getD_some]
theorem G92 (f:Int→Int) (l:List Int):A93 f l 0=l:=by simp [A93]
theorem G93 (f:Int→Int) (l:List Int):A93 f l l.length=l.map f:=by simp [A93]
set_option maxHeartbeats 1000000
theorem H99 (result:Str) (parents:List Str) (h0:result.length≤200) (h1:∀b∈parents,b.length≤200):FnOk Tryz.prog 46 [P8 result,A12 parents] (fun rs=>rs=[pTable (F3 result parents).1,J0 (F3 result parents).2]):=by
 refine FnOk.intro Tryz.func46 (by decide) Z Z Z Z ?_
 refine C08 (t:=1) rfl (.pure _ _ _ _) fun hplen=>?_
 refine k2 (A3 (C2 (H3 4 Z) Z (A7 Z Z (A5 ?_))));refine k1 (k2 (A3 (A4 Z Z (E4 Z Z (A7 Z Z (A5 ?_))))));refine k1 (k2 (k2 (A3 (A4 Z Z (F4 Z Z Z (A4 Z Z (B2 Z Z Z Z (fun hg=>by rw [hg];exact C3 Z Z) ?_)))))));refine B2 Z Z Z Z (fun hg=>by rw [hg];exact R0 Z Z) ?_;refine J5 Z Z ?_;refine A5 ?_;refine k1 ?_;refine B5 rfl (fun ht=>?_) (fun ht=>?_)
 ·have h:=A0 (or_pick.symm.trans ht)
  refine k2 (A3 (A6 (I1 Z) Z (G1 (B7 TySz.out Z Z Z Z Z Z) (A7 Z Z (A5 ?_)))));refine k1 (H5 (I85 Row 3 rowC 4 1 Z Z) ?_)
  refine k10 (k11 ?_)
  exact B9 (rs:=[pTable ⟨0,[]⟩,J0 2]) (m8 rfl rfl rfl rfl rfl rfl rfl) (by rw [F3,if_pos (by omega)])
 ·have h := A1 (or_pick.symm.trans ht)
  refine L6 [(0,X0 result),(1,C0 Str 1 M6 parents),(4,.s (.one (.ref 4 0))),(6,B6 parents.length)] [(4,.box [.p (.v (.int .i64 0)),.p (.v (.slice none 0 0))])] (I81 ⟨le1 rfl,le1 rfl,le1 rfl,le1 rfl,trivial⟩ ⟨rfl,trivial⟩) ?_
  refine k5 (k1 (k2 (A3 (A4 Z Z (C6 (C21 result (by omega)) Z Z Z ?_)))));rintro _ rfl;refine C2 (B83 39 (c:=strsC) (ys:=[_]) (E0 Z Z Z Z G6) Z Z Z (by first | rfl | (simp [H6,I4,Ob.free,SV.free,S1.free,TC.free]<;>rfl))) Z ?_;refine A7 Z Z (A5 ?_);refine k1 (k2 (k2 (A3 (A4 Z Z (C6 (F85 result (by omega)) Z Z Z ?_)))));rintro _ rfl;refine A7 Z Z (A5 ?_);refine k1 (k2 ?_)
  rw [B72 h0]
  refine A3 (A4 Z Z (A6 (O6 Z Z) Z (A5 ?_)));refine k1 ?_;refine B5 rfl (fun ht=>?_) (fun ht=>?_)
  ·cases A0 ht rfl
  ·refine k5 (k1 (k2 (k2 (A3 (A7 Z Z (A5 ?_))))));refine k1 (k3 ?_)
   obtain ⟨n,hn⟩:∃n,n=parents.length:=⟨_,rfl⟩
   rw [←hn] at h
   refine D2 (X:=Nat) (fun p=>([(1,C0 Str 1 M6 parents),(4,.s (.one (.ref 4 0))),(6,B6 n),(7,.s (.one (.buf 39 (List Str) 1 strsC (B8 result::(parents.take p).map B8)))),(9,B6 p)],[(4,.box [.p (.v (.int .i64 0)),.p (.v (.slice none 0 0))]),(39,.spare (B8 result::(parents.take p).map B8).length 1 60)])) (fun p=>p≤n) (fun p=>n - p) 0 (Nat.zero_le _) (by rw [hn];exact I81 ⟨le1 rfl,le1 rfl,le1 rfl,le1 rfl,le1 rfl,trivial⟩ ⟨rfl,rfl,trivial⟩) ?_
   intro p hp
   dsimp only at hp ⊢
   have hfl:(B8 result::(parents.take p).map B8).length=p+1:=by simp;omega
   refine k2 (k2 (A3 (A4 Z Z (A4 Z Z (F4 Z Z Z (A5 ?_))))));refine k1 ?_;refine B5 rfl (fun ht=>?_) (fun ht=>?_)
   ·have hlt:p < parents.length:=by have:=A0 ht;omega
    have hv:parents[p]?=some parents[p]:=by simp [hlt]
    have hb:=h1 _ (J26 hlt)
    have hst:B8 result::(parents.take (p+1)).map B8=(B8 result::(parents.take p).map B8)++[B8 parents[p]]:=by
     rw [List.take_add_one,hv,Option.toList_some,J28];rfl
    refine k5 (k1 (k2 (k3 (k2 (k2 (A3 (A4 Z Z (A4 Z Z ?_))))))));refine A6 (A9 rfl (.pure _ _ _ _) rfl (by omega) (J14 (by omega))) rfl ?_;refine A6 (B3 Z Z) Z (C6 (F85 parents[p] (by omega)) Z Z Z ?_);rintro _ rfl;refine A7 Z Z (A5 ?_);refine k1 (k2 ?_)
    rw [B72 hb]
    refine A3 (A4 Z Z (A6 (O6 Z Z) Z (A5 ?_)));refine k1 ?_;refine B5 rfl (fun ht=>?_) (fun ht=>?_)
    ·cases A0 ht rfl
    ·refine k5 (k1 (A3 (A4 Z Z (A4 Z Z (A4 Z Z ?_)))));refine A6 (A9 rfl (.pure _ _ _ _) rfl (by omega) (J14 (by omega))) rfl ?_;refine A6 (B3 Z Z) Z (C6 (C21 parents[p] (by omega)) Z Z Z ?_);rintro _ rfl;refine A6 (C9 (c:=strsC) (ys:=[_]) (E0 Z Z Z Z G6) Z Z Z) Z (C2 (H4 Z Z Z (.pure _ _ _ _) (by (rw [hfl];simp only [J16,J19];omega)) Z) Z ?_);refine A7 Z Z (A5 ?_);refine k4 (k1 (A3 (A4 Z Z (C5 Z Z Z (A7 Z Z (A5 ?_))))));refine k1 ?_;refine ⟨p+1,by omega,by omega,?_⟩
     rw [hst]
     exact I81 ⟨le1 rfl,le1 rfl,le1 rfl,le1 rfl,le1 rfl,trivial⟩ ⟨rfl,rfl,trivial⟩
   ·have hp':p=n:=by have:=A1 ht;omega
    rw [hp',hn,J32]
    rw [hp',hn,J32] at hfl
    rw [←hn] at hfl ⊢
    obtain ⟨fs,hfs⟩:∃fs,fs=B8 result::parents.map B8:=⟨_,rfl⟩
    rw [←hfs] at hfl ⊢
    have hfsB:∀f∈fs,f.length≤200∧f.flatten.length≤200:=by
     intro f hf
     rw [hfs] at hf
     rcases List.mem_cons.1 hf with rfl | hf
     ·have:=R5 result;rw [V3];omega
     ·obtain ⟨b,hb,rfl⟩:=List.mem_map.1 hf
      have:=R5 b;have:=h1 b hb;rw [V3];omega
    have hmk:F3 result parents=if ∃k,k < (B8 result).length+1∧(D9 ((M9 (fs.map (J6 (D8 fs))) (B8 result).length n n).2 k)).2≠0 then (⟨0,[]⟩,1) else (⟨n,S3 (D8 fs) (B8 result) (M9 (fs.map (J6 (D8 fs))) (B8 result).length n n) ((B8 result).length+1)⟩,0):=by
     rw [F3,if_neg (by omega),hn,hfs]
    have hn1:fs.length=n+1:=by rw [hfl]
    have hf0:fs[0]?=some (B8 result):=by rw [hfs];rfl
    have hflat:fs.flatten.length≤6600:=by
     have key:∀l:List (List Str),(∀f∈l,f.length≤200∧f.flatten.length≤200)→l.flatten.length≤200*l.length:=by
      intro l hl
      induction l with
      | nil=>simp
      | cons x r ih=>have:=ih (fun f hf=>hl f (by simp [hf]));have:=(hl x (by simp)).1;simp only [J33,J15,J16];omega
     have:=key fs hfsB;omega
    obtain ⟨names,hnames⟩:∃names,names=D8 fs:=⟨_,rfl⟩
    obtain ⟨ids,hids⟩:∃ids,ids=fs.map (J6 names):=⟨_,rfl⟩
    obtain ⟨L,hL⟩:∃L,L=(B8 result).length:=⟨_,rfl⟩
    have hLB:L≤200:=by rw [hL];exact (hfsB _ (by rw [hfs];simp)).1
    have hidsl:ids.length=n+1:=by rw [hids,J29,hn1]
    have hidB:∀x∈ids,x.length≤200∧∀v∈x,0≤v∧v < (names.length:Int):=by
     intro x hx
     rw [hids,hnames] at hx
     have h2:=H01 fs x hx
     obtain ⟨f,hf,rfl⟩:=List.mem_map.1 hx
     exact ⟨by rw [J6,J29];exact (hfsB f hf).1,by rw [hnames];exact h2⟩
    have hid0:(ids.getD 0 []).length=L:=by rw [hids,J17,J40,hf0,hL];simp [J6]
    have hv0:ids[0]?=some (ids.getD 0 []):=by rw [J17,J14 (by omega)];rfl
    refine L6 [(4,.s (.one (.ref 4 0))),(6,B6 n),(7,C0 (List Str) 1 strsC fs)] [(4,.box [.p (.v (.int .i64 0)),.p (.v (.slice none 0 0))])] (I81 ⟨le1 rfl,le1 rfl,leL rfl,trivial⟩ ⟨rfl,trivial⟩) ?_
    refine k6 (k2 (A3 (A4 Z Z (C6 (F87 fs (by omega)) Z Z Z ?_))));rintro _ rfl;refine A4 Z Z (C6 (ids_ok fs (by omega) (by omega)) Z Z Z ?_);rintro _ rfl;refine A7 Z Z (A7 Z Z (A5 ?_))
    rw [←hnames,←hids]
    refine k1 (k2 (A3 (A4 Z Z (A6 (A9 Z (.pure _ _ _ _) Z (by omega) hf0) Z (A6 (B3 Z Z) Z (E4 Z Z (A7 Z Z (A5 ?_))))))))
    rw [←hL]
    refine k1 (k2 (A3 (A4 Z Z (C2 (W2 14 Int Z5 0 Z Z (by omega) (by omega) (fun _=>by first | exact ⟨⟨rfl,rfl⟩,trivial⟩ | exact ⟨N3 _ _ _,trivial⟩) (by first | rfl | (simp [H6,I4,Ob.free,SV.free,S1.free,TC.free]<;>rfl))) Z ?_))));refine A7 Z Z (A5 ?_);refine k1 (k2 (A3 (A4 Z Z (C5 Z Z Z (C2 (W2 15 (List (List Int)) intssC [] Z Z (by omega) (by omega) (fun _=>by first | exact ⟨⟨rfl,rfl⟩,trivial⟩ | exact ⟨N3 _ _ _,trivial⟩) (by first | rfl | (simp [H6,I4,Ob.free,SV.free,S1.free,TC.free]<;>rfl))) Z ?_)))));refine A7 Z Z (A5 ?_);refine k1 (k2 (k2 (A3 (A7 Z Z (A5 ?_)))));refine k1 (k3 (H5 (I96 15 Z) ?_))
    obtain ⟨z,hz⟩:∃z:TC,z=.p (intssC [] 0):=⟨_,rfl⟩
    have hzf:∀k,z.free k=true:=fun k=>by rw [hz];rfl
    have hrep:(List.replicate ((L:Int)+1).toNat ([]:List (List Int))).map (fun x=>TC.p (intssC x 0))=S0 (L+1) 0 z:=by
     rw [←G68,hz];simp
    refine D2 (X:=Nat) (fun k=>([(4,.s (.one (.ref 4 0))),(6,B6 n),(7,C0 (List Str) 1 strsC fs),(11,C0 Str 1 M6 names),(12,C0 (List Int) 1 intsC ids),(13,B6 L),(14,.s (.one (.mut 14))),(15,.s (.one (.mut 15))),(16,B6 k)],
     (4,.box [.p (.v (.int .i64 0)),.p (.v (.slice none 0 0))])::(14,.arr Int 1 Z5 (List.replicate L 0))::(15,.tarr (L+1) 1 (S0 (L+1) k z))::I3 intsC (fun _=>List.replicate n []) (List.range k))) (fun k=>k≤L+1) (fun k=>L+1 - k) 0 (Nat.zero_le _) ?_ ?_
    ·refine I81 ⟨⟨_,rfl,.same _⟩,⟨_,rfl,.same _⟩,⟨_,rfl,.same _⟩,⟨_,rfl,.same _⟩,⟨_,rfl,.same _⟩,⟨_,rfl,.same _⟩,⟨_,rfl,.same _⟩,⟨_,rfl,.same _⟩,⟨_,rfl,.same _⟩,trivial⟩ ⟨rfl,rfl,?_,trivial⟩
     rw [←hrep];simp [C1,List.length_replicate]
    ·intro k hk
     dsimp only at hk ⊢
     refine k2 (k2 (A3 (A4 Z Z (A4 Z Z (A6 (A39 Z Z) Z (A5 ?_))))));refine k1 ?_;refine B5 rfl (fun ht=>?_) (fun ht=>?_)
     ·have hlt:k < L+1:=by have:=A0 ht;omega
      have hfree:I4 (k+1000) ((4,.box [.p (.v (.int .i64 0)),.p (.v (.slice none 0 0))])::(14,.arr Int 1 Z5 (List.replicate L 0))::(15,.tarr (L+1) 1 (S0 (L+1) k z))::I3 intsC (fun _=>List.replicate n ([]:List Int)) (List.range k))=true:=by
       have h1:=A54 (k:=k+1000) (by omega) (List.range k) (fun r hr=>by have:=List.mem_range.1 hr;omega) (c:=intsC) (g:=fun _=>List.replicate n ([]:List Int))
       have h2:=G70 (m:=L+1) (k:=k) (hzf (k+1000))
       simp only [I4,Ob.free,h1,h2,I2 (show 4≠k+1000 by omega),I2 (show 14≠k+1000 by omega),I2 (show 15≠k+1000 by omega)]
       rfl
      refine k5 (k1 (k2 (k3 (A3 (A4 Z Z (A4 Z Z (A4 Z Z (C2 (W2 (k+1000) (List Int) intsC [] Z Z (by omega) (by omega) (fun _=>by first | exact ⟨⟨rfl,rfl⟩,trivial⟩ | exact ⟨N3 _ _ _,trivial⟩) (by simp only [H6,SV.free,S1.free,TC.free,hfree,I2 (show 4≠k+1000 by omega),I2 (show 14≠k+1000 by omega),I2 (show 15≠k+1000 by omega)];rfl)) Z ?_))))))));refine A6 (G8 Z (by rw [B0 (by omega)];rfl) Z (by omega) (by omega)) Z ?_;refine G1 (d5 TySz.out Z (by rw [B0 (by omega)];rfl) (by (rw [C11];omega)) Z Z) ?_;refine A5 ?_;refine k4 (k1 (A3 (A4 Z Z (C5 Z Z Z (A7 Z Z (A5 ?_))))));refine k1 ?_;refine ⟨k+1,by omega,by omega,?_⟩
      refine I83 ⟨⟨_,rfl,.same _⟩,⟨_,rfl,.same _⟩,⟨_,rfl,.same _⟩,⟨_,rfl,.same _⟩,⟨_,rfl,.same _⟩,⟨_,rfl,.same _⟩,⟨_,rfl,.same _⟩,⟨_,rfl,.same _⟩,⟨_,rfl,.eq (by simp)⟩,trivial⟩ ?_
      refine I34 (g:=fun _=>List.replicate n ([]:List Int)) (pre:=[(4,.box [.p (.v (.int .i64 0)),.p (.v (.slice none 0 0))]),(14,.arr Int 1 Z5 (List.replicate L 0)),(15,.tarr (L+1) 1 (S0 (L+1) k z))])
       (pre':=[(4,.box [.p (.v (.int .i64 0)),.p (.v (.slice none 0 0))]),(14,.arr Int 1 Z5 (List.replicate L 0)),(15,.tarr (L+1) 1 (S0 (L+1) (k+1) z))]) (top:=[(15,.tarr (L+1) 1 ((S0 (L+1) k z).set k (.mut (k+1000))))]) rfl rfl ?_ rfl
      intro k' o ho
      rw [H72]
      by_cases h15:15=k'
      ·subst h15;exact ho
      ·by_cases h4:4=k'
       ·subst h4;rw [J62,B0 (by omega),B0 (by omega)];exact ho
       ·by_cases h14:14=k'
        ·subst h14;rw [J62,B0 (by omega),B0 (by omega)];exact ho
        ·rw [B0 h4,B0 h14,B0 h15] at ho;cases ho
     ·have hkL:k=L+1:=by have:=A1 ht;omega
      rw [hkL]
      clear hkL ht hk k
      refine L6 [(4,.s (.one (.ref 4 0))),(6,B6 n),(7,C0 (List Str) 1 strsC fs),(11,C0 Str 1 M6 names),(12,C0 (List Int) 1 intsC ids),(13,B6 L),(14,.s (.one (.mut 14))),(15,.s (.one (.mut 15)))]
       ((4,.box [.p (.v (.int .i64 0)),.p (.v (.slice none 0 0))])::(14,.arr Int 1 Z5 (List.replicate L 0))::(15,.tarr (L+1) 1 (S0 (L+1) (L+1) z))::I3 intsC (fun _=>List.replicate n []) (List.range (L+1))) (I83 ⟨⟨_,rfl,.same _⟩,⟨_,rfl,.same _⟩,⟨_,rfl,.same _⟩,⟨_,rfl,.same _⟩,⟨_,rfl,.same _⟩,⟨_,rfl,.same _⟩,⟨_,rfl,.same _⟩,⟨_,rfl,.same _⟩,trivial⟩ (fun _ _ h=>h)) ?_
      refine k6 (k2 (k2 (A3 (A7 Z Z (A5 ?_)))));refine k1 (k3 ?_)
      obtain ⟨s,hs⟩:∃s:Nat→Loom,s=fun p=>M9 ids L n p:=⟨_,rfl⟩
      have hok:∀p,LoomOk (fun v=>0≤v∧v < (names.length:Int)) 200 L n (s p):=fun p=>by rw [hs];exact y5 hidB p
      refine D2 (X:=Nat) (fun p=>([(4,.s (.one (.ref 4 0))),(6,B6 n),(7,C0 (List Str) 1 strsC fs),(11,C0 Str 1 M6 names),(12,C0 (List Int) 1 intsC ids),(13,B6 L),(14,.s (.one (.mut 14))),(15,.s (.one (.mut 15))),(17,B6 p)],
       (4,.box [.p (.v (.int .i64 0)),.p (.v (.slice none 0 0))])::(14,.arr Int 1 Z5 (s p).1)::(15,.tarr (L+1) 1 (S0 (L+1) (L+1) z))::I3 intsC (s p).2 (List.range (L+1)))) (fun p=>p≤n) (fun p=>n - p) 0 (Nat.zero_le _) ?_ ?_
      ·have h0s:s 0=u6 L n:=by rw [hs];rfl
       rw [h0s]
       exact I83 ⟨⟨_,rfl,.same _⟩,⟨_,rfl,.same _⟩,⟨_,rfl,.same _⟩,⟨_,rfl,.same _⟩,⟨_,rfl,.same _⟩,⟨_,rfl,.same _⟩,⟨_,rfl,.same _⟩,⟨_,rfl,.same _⟩,⟨_,rfl,.same _⟩,trivial⟩ (fun _ _ h=>h)
      intro p hp
      dsimp only at hp ⊢
      have hsp:=hok p
      refine k2 (k2 (A3 (A4 Z Z (A4 Z Z (F4 Z Z Z (A5 ?_))))));refine k1 ?_;refine B5 rfl (fun ht=>?_) (fun ht=>?_)
      ·have hlt:p < n:=by have:=A0 ht;omega
       have hv1:ids[p+1]?=some (ids.getD (p+1) []):=by rw [J17,J14 (by omega)];rfl
       have hstep:s (p+1)=K7 ids (s p) p:=by rw [hs];exact A23 ids L n p
       have hfB:=hidB _ (J30 hv1)
       obtain ⟨file,hfile⟩:∃f,f=ids.getD (p+1) []:=⟨_,rfl⟩
       obtain ⟨base,hbase⟩:∃f,f=ids.getD 0 []:=⟨_,rfl⟩
       rw [←hbase] at hid0 hv0
       rw [←hfile] at hv1 hfB
       have hwb:=A68 file base
       have hmw:=A67 file base
       have hwg:=C22 file base 0 0
       have hwl:=T4 0 0 file base
       have hml:=s6 (F0 0 0 file base) 0 0 file.length base.length
       obtain ⟨sc,hsc⟩:∃sc,sc=J7 file base:=⟨_,rfl⟩
       have hscl:sc.length≤201:=by rw [hsc];have h2:(J7 file base).length=(L9 0 0 (F0 0 0 file base) file.length base.length).length:=rfl;omega
       rw [←hsc] at hwb hmw
       refine k5 (k1 (k2 (k3 (k2 (D5 (by kernel_rfl) (by kernel_rfl) (D3 Z Z (D3 Z Z (B1 (U2 Z Z (by omega)) Z Z (B1 (A9 Z (.pure _ _ _ _) Z (by omega) (by rw [show ((p:Int)+1).toNat=p+1 by omega];exact hv1)) Z Z ?_)))))))));refine B1 (B3 Z Z) Z Z (D3 Z Z (B1 (A9 Z (.pure _ _ _ _) Z (by omega) hv0) Z Z (B1 (B3 Z Z) Z Z (B1 (O4 (H35 file base (by omega) (by omega)) Z Z) Z Z (B1 (K8 Z Z) Z Z (O2 ?_))))))
       rw [←hsc]
       obtain ⟨m0,hm0⟩:∃m0,m0=(s p).1:=⟨_,rfl⟩
       have hm0l:m0.length=L:=by rw [hm0];exact hsp.len
       have hbit:=B89 p
       refine k1 (k2 (k2 (A3 (A7 Z Z (A5 ?_)))));refine k1 (k3 ?_);refine D2 (X:=Nat) (fun k=>([(4,.s (.one (.ref 4 0))),(6,B6 n),(7,C0 (List Str) 1 strsC fs),(11,C0 Str 1 M6 names),(12,C0 (List Int) 1 intsC ids),(13,B6 L),(14,.s (.one (.mut 14))),(15,.s (.one (.mut 15))),(17,B6 p),(18,C0 Change 4 changeC sc),(19,B6 k)],(4,.box [.p (.v (.int .i64 0)),.p (.v (.slice none 0 0))])::(14,.arr Int 1 Z5 (A93 (I8 · (G4 p)) m0 k))::(15,.tarr (L+1) 1 (S0 (L+1) (L+1) z))::I3 intsC (s p).2 (List.range (L+1)))) (fun k=>k≤L) (fun k=>L - k) 0 (Nat.zero_le _) ?_ ?_
       ·rw [G92,hm0]
        exact I83 ⟨⟨_,rfl,.same _⟩,⟨_,rfl,.same _⟩,⟨_,rfl,.same _⟩,⟨_,rfl,.same _⟩,⟨_,rfl,.same _⟩,⟨_,rfl,.same _⟩,⟨_,rfl,.same _⟩,⟨_,rfl,.same _⟩,⟨_,rfl,.same _⟩,⟨_,rfl,.same _⟩,⟨_,rfl,.same _⟩,trivial⟩ (fun _ _ h=>h)
       intro k hk
       dsimp only at hk ⊢
       refine k2 (k2 (A3 (A4 Z Z (A4 Z Z (F4 Z Z Z (A5 ?_))))));refine k1 ?_;refine B5 rfl (fun ht=>?_) (fun ht=>?_)
       ·have hkl:k < m0.length:=by have:=A0 ht;omega
        have hget:=H97 (I8 · (G4 p)) m0 k hkl
        have hset:=H98 (I8 · (G4 p)) m0 k hkl
        have hml':=F33 (I8 · (G4 p)) m0 k
        refine k5 (k1 (k2 (k3 (A3 (A4 Z Z (A4 Z Z (A4 Z Z (A4 Z Z (A6 (E2 Z Z Z (by omega) (by (rw [hml'];omega))) Z ?_)))))))));refine A6 (P4 Z Z hget Z) Z (A4 Z Z (A6 (R3 Z) Z (A6 (E50 Z Z (by (exact hbit))) Z ?_)));refine A6 (Z4 Z Z Z (fun _=>rfl)) Z (A6 (E2 Z Z Z (by omega) (by (rw [hml'];omega))) Z ?_);refine G1 (H0 TySz.out Z Z (by (rw [hml'];exact hkl)) Z Z) ?_;refine A5 ?_;refine k4 (k1 (A3 (A4 Z Z (C5 Z Z Z (A7 Z Z (A5 ?_))))));refine k1 ?_;refine ⟨k+1,by omega,by omega,?_⟩
        rw [←hset]
        exact I83 ⟨⟨_,rfl,.same _⟩,⟨_,rfl,.same _⟩,⟨_,rfl,.same _⟩,⟨_,rfl,.same _⟩,⟨_,rfl,.same _⟩,⟨_,rfl,.same _⟩,⟨_,rfl,.same _⟩,⟨_,rfl,.same _⟩,⟨_,rfl,.same _⟩,⟨_,rfl,.same _⟩,⟨_,rfl,.eq (by simp)⟩,trivial⟩ (E55 rfl trivial trivial)
       ·have hkL:k=m0.length:=by have:=A1 ht;omega
        rw [hkL,G93]
        clear hkL ht hk k
        obtain ⟨m1,hm1⟩:∃m1,m1=m0.map (I8 · (G4 p)):=⟨_,rfl⟩
        have hm1l:m1.length=L:=by rw [hm1,J29,hm0l]
        rw [←hm1]
        refine k6 (k2 (A3 (A4 Z Z (A4 Z Z (A4 Z Z (C5 Z Z Z (A6 (A9 Z (.pure _ _ _ _) Z (by omega) (by rw [show ((p:Int)+1).toNat=p+1 by omega];exact hv1)) Z ?_)))))));refine A6 (B3 Z Z) Z (E4 Z Z (C6 (D58 sc file.length (by omega) (by omega) (fun c hc=>by have:=hwb c hc;omega)) Z Z Z ?_));rintro _ rfl;refine A7 Z Z (A5 ?_)
        rw [hmw]
        obtain ⟨ps,hps⟩:∃ps,ps=F0 0 0 file base:=⟨_,rfl⟩
        rw [←hps] at hwg hwl hmw ⊢
        refine k1 (k2 (k2 (A3 (A7 Z Z (A5 ?_)))));refine k1 (k3 ?_)
        have hcl:∀k,((ps.take k).foldl (K1 p) m1).length=L:=fun k=>by
         have key:∀(l:List Span) (ms:List Int),(l.foldl (K1 p) ms).length=ms.length:=by
          intro l;induction l with
          | nil=>intro ms;rfl
          | cons x r ih=>intro ms;rw [J41,ih];simp [K1]
         rw [key,hm1l]
        refine D2 (X:=Nat) (fun k=>([(4,.s (.one (.ref 4 0))),(6,B6 n),(7,C0 (List Str) 1 strsC fs),(11,C0 Str 1 M6 names),(12,C0 (List Int) 1 intsC ids),(13,B6 L),(14,.s (.one (.mut 14))),(15,.s (.one (.mut 15))),(17,B6 p),(18,C0 Change 4 changeC sc),(20,C0 Span 2 spanC ps),(21,B6 k)],(4,.box [.p (.v (.int .i64 0)),.p (.v (.slice none 0 0))])::(14,.arr Int 1 Z5 ((ps.take k).foldl (K1 p) m1))::(15,.tarr (L+1) 1 (S0 (L+1) (L+1) z))::I3 intsC (s p).2 (List.range (L+1)))) (fun k=>k≤ps.length) (fun k=>ps.length - k) 0 (Nat.zero_le _) ?_ ?_
        ·exact I83 ⟨⟨_,rfl,.same _⟩,⟨_,rfl,.same _⟩,⟨_,rfl,.same _⟩,⟨_,rfl,.same _⟩,⟨_,rfl,.same _⟩,⟨_,rfl,.same _⟩,⟨_,rfl,.same _⟩,⟨_,rfl,.same _⟩,⟨_,rfl,.same _⟩,⟨_,rfl,.same _⟩,⟨_,rfl,.same _⟩,⟨_,rfl,.same _⟩,trivial⟩ (fun _ _ h=>h)
        intro k hk
        dsimp only at hk ⊢
        refine k2 (k2 (A3 (A4 Z Z (A4 Z Z (E4 Z Z (F4 Z Z Z (A5 ?_)))))));refine k1 ?_;refine B5 rfl (fun ht=>?_) (fun ht=>?_)
        ·have hkl:k < ps.length:=by have:=A0 ht;omega
         have hpv:ps[k]?=some ps[k]:=by simp [hkl]
         have hpb:=hwg ps[k] (J26 hkl)
         have hclk:=hcl k
         have hlt2:ps[k].To.toNat < ((ps.take k).foldl (K1 p) m1).length:=by omega
         have hget:((ps.take k).foldl (K1 p) m1)[ps[k].To.toNat]?=some (((ps.take k).foldl (K1 p) m1).getD ps[k].To.toNat 0):=by rw [J17,J14 hlt2];rfl
         have hset:(ps.take (k+1)).foldl (K1 p) m1=((ps.take k).foldl (K1 p) m1).set ps[k].To.toNat (Z8 (((ps.take k).foldl (K1 p) m1).getD ps[k].To.toNat 0) (G4 p)):=by
          rw [J22 hkl,J45];rfl
         refine k5 (k1 (k2 (k3 (D5 (by kernel_rfl) (by kernel_rfl) (D3 Z Z (D3 Z Z (D3 Z Z (B1 (A9 Z (.pure _ _ _ _) Z (by omega) hpv) Z Z (B1 (G7 Z) Z Z (B1 (B3 Z Z) Z Z (D3 Z Z (D3 Z Z (D3 Z Z (B1 (A9 Z (.pure _ _ _ _) Z (by omega) hpv) Z Z (B1 (G7 Z) Z Z (B1 (B3 Z Z) Z Z (B1 (E2 Z Z Z (by omega) (by omega)) Z Z (B1 (P4 Z Z hget Z) Z Z (D3 Z Z (B1 (R3 Z) Z Z (B1 (E50 Z Z (by (exact hbit))) Z Z ?_)))))))))))))))))))));refine B1 (Z4 Z Z Z (fun _=>rfl)) Z Z (B1 (E2 Z Z Z (by omega) (by omega)) Z Z (A89 (H0 TySz.out Z Z (by (exact hlt2)) Z Z) Z ?_));refine O2 ?_;refine k4 (k1 (A3 (A4 Z Z (C5 Z Z Z (A7 Z Z (A5 ?_))))));refine k1 ?_;refine ⟨k+1,by omega,by omega,?_⟩
         rw [hset]
         exact I83 ⟨⟨_,rfl,.same _⟩,⟨_,rfl,.same _⟩,⟨_,rfl,.same _⟩,⟨_,rfl,.same _⟩,⟨_,rfl,.same _⟩,⟨_,rfl,.same _⟩,⟨_,rfl,.same _⟩,⟨_,rfl,.same _⟩,⟨_,rfl,.same _⟩,⟨_,rfl,.same _⟩,⟨_,rfl,.same _⟩,⟨_,rfl,.eq (by simp)⟩,trivial⟩ (E55 rfl trivial trivial)
        ·have hkL:k=ps.length:=by have:=A1 ht;omega
         rw [hkL,J32]
         clear hkL ht hk k
         have hcl':=hcl ps.length
         rw [J32] at hcl'
         clear hcl
         obtain ⟨m2,hm2⟩:∃m2,m2=ps.foldl (K1 p) m1:=⟨_,rfl⟩
         rw [←hm2] at hcl' ⊢
         have hgl:∀k q,((sc.take k).foldl (J3 p file) (s p).2 q).length=n:=fun k q=>(A69 hfB (sc.take k) hsp.gaps q).1
         refine k6 (k2 (A3 (A7 Z Z (A5 ?_))));refine k1 (k3 ?_);refine D2 (X:=Nat) (fun k=>([(4,.s (.one (.ref 4 0))),(6,B6 n),(7,C0 (List Str) 1 strsC fs),(11,C0 Str 1 M6 names),(12,C0 (List Int) 1 intsC ids),(13,B6 L),(14,.s (.one (.mut 14))),(15,.s (.one (.mut 15))),(17,B6 p),(18,C0 Change 4 changeC sc),(22,B6 k)],(4,.box [.p (.v (.int .i64 0)),.p (.v (.slice none 0 0))])::(14,.arr Int 1 Z5 m2)::(15,.tarr (L+1) 1 (S0 (L+1) (L+1) z))::I3 intsC ((sc.take k).foldl (J3 p file) (s p).2) (List.range (L+1)))) (fun k=>k≤sc.length) (fun k=>sc.length - k) 0 (Nat.zero_le _) ?_ ?_
         ·exact I83 ⟨⟨_,rfl,.same _⟩,⟨_,rfl,.same _⟩,⟨_,rfl,.same _⟩,⟨_,rfl,.same _⟩,⟨_,rfl,.same _⟩,⟨_,rfl,.same _⟩,⟨_,rfl,.same _⟩,⟨_,rfl,.same _⟩,⟨_,rfl,.same _⟩,⟨_,rfl,.same _⟩,⟨_,rfl,.same _⟩,trivial⟩ (fun _ _ h=>h)
         intro k hk
         dsimp only at hk ⊢
         refine k2 (k2 (A3 (A4 Z Z (A4 Z Z (E4 Z Z (F4 Z Z Z (A5 ?_)))))));refine k1 ?_;refine B5 rfl (fun ht=>?_) (fun ht=>?_)
         ·have hkl:k < sc.length:=by have:=A0 ht;omega
          have hcv:sc[k]?=some sc[k]:=by simp [hkl]
          have hcb:=hwb sc[k] (J26 hkl)
          have hgk:=hgl k sc[k].New.toNat
          have hN:sc[k].New.toNat < L+1:=by omega
          have hrow:(S0 (L+1) (L+1) z)[sc[k].New.toNat]?=some (.mut (sc[k].New.toNat+1000)):=H96 hN
          have hrl:(S0 (L+1) (L+1) z).length=L+1:=C11
          have hob:C1 ((4,.box [.p (.v (.int .i64 0)),.p (.v (.slice none 0 0))])::(14,.arr Int 1 Z5 m2)::(15,.tarr (L+1) 1 (S0 (L+1) (L+1) z))::I3 intsC ((sc.take k).foldl (J3 p file) (s p).2) (List.range (L+1))) (sc[k].New.toNat+1000)=some (.arr (List Int) 1 intsC ((sc.take k).foldl (J3 p file) (s p).2 sc[k].New.toNat)):=by
           rw [B0 (by omega),B0 (by omega),B0 (by omega)]
           exact r9 (List.mem_range.2 hN)
          have hnew:((sc.take k).foldl (J3 p file) (s p).2 sc[k].New.toNat).set p ((file.drop sc[k].Old.toNat).take ((sc[k].Old+sc[k].OldLen).toNat - sc[k].Old.toNat))=(sc.take (k+1)).foldl (J3 p file) (s p).2 sc[k].New.toNat:=by
           rw [J22 hkl,J45]
           show _=J3 p file _ sc[k] _
           rw [J3,if_pos rfl]
          have hsame:∀q,q≠sc[k].New.toNat→(sc.take (k+1)).foldl (J3 p file) (s p).2 q=(sc.take k).foldl (J3 p file) (s p).2 q:=by
           intro q hq
           rw [J22 hkl,J45]
           show J3 p file _ sc[k] _=_
           rw [J3,if_neg hq]
          refine k5 (k1 (k2 (k3 (D5 (by kernel_rfl) (by kernel_rfl) (D3 Z Z (D3 Z Z (D3 Z Z (B1 (A9 Z (.pure _ _ _ _) Z (by omega) hcv) Z Z (B1 (G7 Z) Z Z (B1 (B3 Z Z) Z Z (B1 (G8 Z Z Z (by omega) (by omega)) Z Z (B1 (L4 Z Z hrow) Z Z (D3 Z Z (D3 Z Z (D3 Z Z (B1 (U2 Z Z (by omega)) Z Z (B1 (A9 Z (.pure _ _ _ _) Z (by omega) (by rw [show ((p:Int)+1).toNat=p+1 by omega];exact hv1)) Z Z ?_)))))))))))))))));refine B1 (B3 Z Z) Z Z (D3 Z Z (D3 Z Z (B1 (A9 Z (.pure _ _ _ _) Z (by omega) hcv) Z Z (B1 (G7 Z) Z Z (B1 (B3 Z Z) Z Z (D3 Z Z (D3 Z Z (B1 (A9 Z (.pure _ _ _ _) Z (by omega) hcv) Z Z (B1 (G7 Z) Z Z (B1 (B3 Z Z) Z Z (D3 Z Z (D3 Z Z (B1 (A9 Z (.pure _ _ _ _) Z (by omega) hcv) Z Z (B1 (G7 Z) Z Z (B1 (B3 Z Z) Z Z (B1 (U2 Z Z (by omega)) Z Z (B1 (X1 Z (.pure _ _ _ _) Z Z (by omega) (by omega) (by omega)) Z Z (B1 (E2 Z hob Z (by omega) (by omega)) Z Z (A89 (H0 TySz.out Z hob (by omega) Z Z) Z (O2 ?_))))))))))))))))))));refine k4 (k1 (A3 (A4 Z Z (C5 Z Z Z (A7 Z Z (A5 ?_))))));refine k1 ?_;refine ⟨k+1,by omega,by omega,?_⟩
          refine I83 ⟨⟨_,rfl,.same _⟩,⟨_,rfl,.same _⟩,⟨_,rfl,.same _⟩,⟨_,rfl,.same _⟩,⟨_,rfl,.same _⟩,⟨_,rfl,.same _⟩,⟨_,rfl,.same _⟩,⟨_,rfl,.same _⟩,⟨_,rfl,.same _⟩,⟨_,rfl,.same _⟩,⟨_,rfl,.eq (by simp)⟩,trivial⟩ ?_
          show ∀k' o,_→C1 ((sc[k].New.toNat+1000,.arr (List Int) 1 intsC (((sc.take k).foldl (J3 p file) (s p).2 sc[k].New.toNat).set p ((file.drop sc[k].Old.toNat).take ((sc[k].Old+sc[k].OldLen).toNat - sc[k].Old.toNat))))::((4,.box [.p (.v (.int .i64 0)),.p (.v (.slice none 0 0))])::(14,.arr Int 1 Z5 m2)::(15,.tarr (L+1) 1 (S0 (L+1) (L+1) z))::I3 intsC ((sc.take k).foldl (J3 p file) (s p).2) (List.range (L+1)))) k'=some o
          rw [hnew]
          exact F71 (pre:=[(4,.box [.p (.v (.int .i64 0)),.p (.v (.slice none 0 0))]),(14,.arr Int 1 Z5 m2),(15,.tarr (L+1) 1 (S0 (L+1) (L+1) z))]) rfl (List.mem_range.2 hN) hsame
         ·have hkL:k=sc.length:=by have:=A1 ht;omega
          rw [hkL,J32]
          have hs1:s (p+1)=(m2,sc.foldl (J3 p file) (s p).2):=by
           have e:K7 ids (s p) p=((O9 (J7 (ids.getD (p+1) []) (ids.getD 0 [])) (ids.getD (p+1) []).length).foldl (K1 p) ((s p).1.map (I8 · (G4 p))),(J7 (ids.getD (p+1) []) (ids.getD 0 [])).foldl (J3 p (ids.getD (p+1) [])) (s p).2):=rfl
           rw [hstep,e,←hfile,←hbase,←hsc,hmw,←hm0,←hm1,←hm2]
          refine k6 (k7 (k7 (k8 Z (k4 (k1 (A3 (A4 Z Z (C5 Z Z Z (A7 Z Z (A5 ?_))))))))));refine k1 ?_;refine ⟨p+1,by omega,by omega,?_⟩
          rw [hs1]
          exact I83 ⟨⟨_,rfl,.same _⟩,⟨_,rfl,.same _⟩,⟨_,rfl,.same _⟩,⟨_,rfl,.same _⟩,⟨_,rfl,.same _⟩,⟨_,rfl,.same _⟩,⟨_,rfl,.same _⟩,⟨_,rfl,.same _⟩,⟨_,rfl,.eq (by simp)⟩,trivial⟩ (fun _ _ h=>h)
      ·have hpn:p=n:=by have:=A1 ht;omega
       rw [hpn] at hsp ⊢
       clear hpn ht hp p
       obtain ⟨ms,hms⟩:∃ms,ms=(s n).1:=⟨_,rfl⟩
       obtain ⟨g,hg⟩:∃g,g=(s n).2:=⟨_,rfl⟩
       refine L6 [(4,.s (.one (.ref 4 0))),(6,B6 n),(7,C0 (List Str) 1 strsC fs),(11,C0 Str 1 M6 names),(13,B6 L),(14,.s (.one (.mut 14))),(15,.s (.one (.mut 15)))] ([(4,.box [.p (.v (.int .i64 0)),.p (.v (.slice none 0 0))]),(14,.arr Int 1 Z5 ms)]++((15,.tarr (L+1) 1 (J8 intsC (L+1) 0 g))::I3 intsC g (List.range (L+1)))) ?_ ?_
       ·rw [hms,hg,←G69 (z:=z)]
        exact I83 ⟨⟨_,rfl,.same _⟩,⟨_,rfl,.same _⟩,⟨_,rfl,.same _⟩,⟨_,rfl,.same _⟩,⟨_,rfl,.same _⟩,⟨_,rfl,.same _⟩,⟨_,rfl,.same _⟩,trivial⟩ (fun _ _ h=>h)
       refine H5 (J04 (by omega) rfl rfl (fun r _=>?_) (fun r _=>rfl)) ?_
       ·simp only [H6,SV.free,S1.free,TC.free,I2 (show 4≠r+1000 by omega),I2 (show 14≠r+1000 by omega),I2 (show 15≠r+1000 by omega)];rfl
       obtain ⟨gs,hgs⟩:∃gs,gs=(List.range (L+1)).map g:=⟨_,rfl⟩
       rw [←hgs]
       refine H5 (Sees.freeze (k:=14) Z) ?_
       refine H5 (Sees.freeze (k:=15) Z) ?_
       refine L6 [(4,.s (.one (.ref 4 0))),(6,B6 n),(7,C0 (List Str) 1 strsC fs),(11,C0 Str 1 M6 names),(13,B6 L),(14,C0 Int 1 Z5 ms),(15,C0 (List (List Int)) 1 intssC gs)] [(4,.box [.p (.v (.int .i64 0)),.p (.v (.slice none 0 0))])] (I81 ⟨le1 rfl,le1 rfl,le1 rfl,le1 rfl,le1 rfl,le1 rfl,le1 rfl,trivial⟩ ⟨rfl,trivial⟩) ?_
       obtain ⟨f0,hf0'⟩:∃f0,f0=B8 result:=⟨_,rfl⟩
       rw [←hf0'] at hL hf0 hmk
       obtain ⟨R,hR⟩:∃R:Nat→List Row,R=fun k=>S3 names f0 (s n) k:=⟨_,rfl⟩
       obtain ⟨F,hF⟩:∃F:Merged→Row,F=fun m=>⟨true,m.Parents,names.getD m.Line.toNat []⟩:=⟨_,rfl⟩
       have hcs:∀k,(D9 (g k)).1.length≤6400∧∀m∈(D9 (g k)).1,(0≤m.Parents∧m.Parents < 4294967296)∧0≤m.Line∧m.Line < (names.length:Int):=fun k=>by
        have h2:=hsp.gaps k
        have h3:=s7 (fun v=>0≤v∧v < (names.length:Int)) 200 (g k) (by rw [hg];exact h2.2)
        rw [show (g k).length=n by rw [hg];exact h2.1] at h3
        exact ⟨by omega,h3.2⟩
       have hR1:∀k,R (k+1)=R k++((D9 (g k)).1.map F++(if k < f0.length then [⟨false,ms.getD k 0,f0.getD k []⟩] else [])):=fun k=>by
        rw [hR];dsimp only;rw [a8,P0,hF,hg,hms]
       have hRl:∀k,(R k).length≤k*6401:=fun k=>by
        induction k with
        | zero=>rw [hR];simp [S3]
        | succ k ih=>rw [hR1];have:=(hcs k).1;simp only [J15,J29];split<;>simp<;>omega
       have hmsl:ms.length=L:=by rw [hms];exact hsp.len
       refine k6 (k2 (A3 (A4 Z Z (A6 (I1 Z) Z (C2 (H3 23 Z) Z (G1 (B7 TySz.out Z Z Z Z Z Z) (A5 ?_)))))));refine k1 (k2 (k2 (A3 (A7 Z Z (A5 ?_)))));refine k1 (k3 (H5 (I89 88 Row 3 rowC 69 (kb:=23) (o:=1) Z Z Z) ?_))
       refine D2 (X:=Nat) (fun k=>([(4,.s (.one (.ref 4 0))),(6,B6 n),(7,C0 (List Str) 1 strsC fs),(11,C0 Str 1 M6 names),(13,B6 L),(14,C0 Int 1 Z5 ms),(15,C0 (List (List Int)) 1 intssC gs),(23,.s (.one (.ref 23 0))),(24,B6 k)],[(4,.box [.p (.v (.int .i64 0)),.p (.v (.slice none 0 0))]),(23,.box [.p (.v (.int .i64 n)),.buf 88 Row 3 rowC (R k)]),(88,.spare (R k).length 3 69)])) (fun k=>k≤L+1∧∀q,q < k→(D9 (g q)).2=0) (fun k=>L+1 - k) 0 ⟨Nat.zero_le _,fun q hq=>by omega⟩ (by rw [show R 0=[] by rw [hR];rfl];exact I81 ⟨le1 rfl,le1 rfl,le1 rfl,le1 rfl,le1 rfl,le1 rfl,le1 rfl,le1 rfl,le1 rfl,trivial⟩ ⟨rfl,rfl,rfl,trivial⟩) ?_
       rintro k ⟨hk,hz0⟩
       dsimp only at hk hz0 ⊢
       have hRk:=hRl k
       refine k2 (k2 (A3 (A4 Z Z (A4 Z Z (A6 (A39 Z Z) Z (A5 ?_))))));refine k1 ?_;refine B5 rfl (fun ht=>?_) (fun ht=>?_)
       ·have hlt:k < L+1:=by have:=A0 ht;omega
        have hgv:gs[k]?=some (g k):=by rw [hgs,J40,J48 hlt];rfl
        have hck:=hcs k
        refine k5 (k1 (k2 (k3 (k2 (A3 (A4 Z Z (A4 Z Z (A6 (A9 Z (.pure _ _ _ _) Z (by omega) hgv) Z (A6 (B3 Z Z) Z (C6 (F88 (g k)) Z Z Z ?_))))))))));rintro _ rfl;refine A4 Z Z (J4 Z Z Z (J4 Z Z Z (A7 Z Z (A7 Z Z (A5 ?_)))))
        obtain ⟨l,hl⟩:∃l,l=(D9 (g k)).1:=⟨_,rfl⟩
        obtain ⟨e,he⟩:∃e,e=(D9 (g k)).2:=⟨_,rfl⟩
        rw [←hl,←he]
        rw [←hl] at hck
        refine k1 (k2 (k2 (A3 (A4 Z Z (A6 (O6 Z Z) Z (A5 ?_))))));refine k1 ?_;refine B5 rfl (fun ht=>?_) (fun ht=>?_)
        ·have hne:=A0 ht
         refine k2 (A3 (A6 (I1 Z) Z (G1 (B7 TySz.out Z Z Z Z Z Z) (A7 Z Z (A5 ?_)))));refine k1 (H5 (I85 Row 3 rowC 4 1 Z Z) ?_)
         refine k10 (k11 (k12 (k11 (k11 (k12 (k11 ?_))))))
         exact B9 (rs:=[pTable ⟨0,[]⟩,J0 1]) (m8 rfl rfl rfl rfl rfl rfl rfl) (by rw [hmk,if_pos];refine ⟨k,by omega,?_⟩;rw [←hnames,←hids,←hL];rw [hg,hs] at he;dsimp only at he;rw [←he];exact hne)
        ·have he0:e=0:=by simpa using A1 ht
         refine k5 (k1 (k2 (k2 (A3 (A7 Z Z (A5 ?_))))));refine k1 (k3 (D2 (X:=Nat) (fun i=>([(4,.s (.one (.ref 4 0))),(6,B6 n),(7,C0 (List Str) 1 strsC fs),(11,C0 Str 1 M6 names),(13,B6 L),(14,C0 Int 1 Z5 ms),(15,C0 (List (List Int)) 1 intssC gs),(23,.s (.one (.ref 23 0))),(24,B6 k),(25,C0 Merged 2 mergedC l),(27,B6 i)],[(4,.box [.p (.v (.int .i64 0)),.p (.v (.slice none 0 0))]),(23,.box [.p (.v (.int .i64 n)),.buf 88 Row 3 rowC (R k++(l.take i).map F)]),(88,.spare (R k++(l.take i).map F).length 3 69)])) (fun i=>i≤l.length) (fun i=>l.length - i) 0 (Nat.zero_le _) (by have e0:R k++(l.take 0).map F=R k:=(by simp);dsimp only;rw [e0];exact I81 ⟨le1 rfl,le1 rfl,le1 rfl,le1 rfl,le1 rfl,le1 rfl,le1 rfl,le1 rfl,le1 rfl,le1 rfl,le1 rfl,trivial⟩ ⟨rfl,rfl,rfl,trivial⟩) ?_))
         intro i hi
         dsimp only at hi ⊢
         have hil:(R k++(l.take i).map F).length≤k*6401+6400:=by simp only [J15,J29,J36];omega
         refine k2 (k2 (A3 (A4 Z Z (A4 Z Z (E4 Z Z (F4 Z Z Z (A5 ?_)))))));refine k1 ?_;refine B5 rfl (fun ht=>?_) (fun ht=>?_)
         ·have hli:i < l.length:=by have:=A0 ht;omega
          have hlv:l[i]?=some l[i]:=by simp [hli]
          have hlb:=hck.2 l[i] (J26 hli)
          have hnv:names[l[i].Line.toNat]?=some (names.getD l[i].Line.toNat []):=by rw [J17,J14 (by omega)];rfl
          have hFi:F l[i]=⟨true,l[i].Parents,names.getD l[i].Line.toNat []⟩:=by rw [hF]
          refine k5 (k1 (k2 (k3 (D5 (by kernel_rfl) (by kernel_rfl) (B1 (A8 Z) Z Z (B1 (B4 Z Z Z) Z Z (D3 Z Z (D3 Z Z (B1 (A9 Z (.pure _ _ _ _) Z (by omega) hlv) Z Z (B1 (G7 Z) Z Z (B1 (B3 Z Z) Z Z (D3 Z Z (D3 Z Z (D3 Z Z (B1 (A9 Z (.pure _ _ _ _) Z (by omega) hlv) Z Z (B1 (G7 Z) Z Z (B1 (B3 Z Z) Z Z (B1 (A9 Z (.pure _ _ _ _) Z (by omega) hnv) Z Z (B1 (B3 Z Z) Z Z (B1 (I1 Z) Z Z (B1 (C9 (c:=rowC) (ys:=[⟨true,l[i].Parents,names.getD l[i].Line.toNat []⟩]) (E0 Z Z Z Z G6) Z Z Z) Z Z (D37 (H4 Z Z Z (.pure _ _ _ _) (by (simp only [J16,J19];omega)) Z) Z Z (B1 (A8 Z) Z Z ?_)))))))))))))))))))))));refine A89 (B7 TySz.out Z Z Z Z Z Z) Z (O2 ?_);refine k4 (k1 (A3 (A4 Z Z (C5 Z Z Z (A7 Z Z (A5 ?_))))));refine k1 ?_;refine ⟨i+1,by omega,by omega,?_⟩
          have e1:R k++(l.take (i+1)).map F=R k++(l.take i).map F++[⟨true,l[i].Parents,names.getD l[i].Line.toNat []⟩]:=by rw [J22 hli,J28,J24,J51,←J25,hFi]
          rw [e1]
          exact I81 ⟨le1 rfl,le1 rfl,le1 rfl,le1 rfl,le1 rfl,le1 rfl,le1 rfl,le1 rfl,le1 rfl,le1 rfl,le1 rfl,trivial⟩ ⟨rfl,rfl,rfl,trivial⟩
         ·have hli:i=l.length:=by have:=A1 ht;omega
          rw [hli,J32] at hil ⊢
          refine k6 (k2 (A3 (A4 Z Z (A4 Z Z (F4 Z Z Z (A5 ?_))))));refine k1 ?_;refine B5 rfl (fun ht=>?_) (fun ht=>?_)
          ·have hkL:k < f0.length:=by have:=A0 ht;omega
           have hmv:ms[k]?=some (ms.getD k 0):=by rw [J17,J14 (by omega)];rfl
           have hfv:f0[k]?=some (f0.getD k []):=by rw [J17,J14 (by omega)];rfl
           have hR2:=hR1 k
           rw [if_pos hkL,←hl,←J25] at hR2
           skip
           refine D5 (by kernel_rfl) (by kernel_rfl) (B1 (A8 Z) Z Z (B1 (B4 Z Z Z) Z Z (D3 Z Z (D3 Z Z (B1 (A9 Z (.pure _ _ _ _) Z (by omega) hmv) Z Z (B1 (B3 Z Z) Z Z (D3 Z Z (B1 (A9 Z (.pure _ _ _ _) Z (by omega) hf0) Z Z (B1 (B3 Z Z) Z Z (D3 Z Z (B1 (A9 Z (.pure _ _ _ _) Z (by omega) hfv) Z Z (B1 (B3 Z Z) Z Z (B1 (I1 Z) Z Z (B1 (C9 (c:=rowC) (ys:=[⟨false,ms.getD k 0,f0.getD k []⟩]) (E0 Z Z Z Z G6) Z Z Z) Z Z (D37 (H4 Z Z Z (.pure _ _ _ _) (by (simp only [J16,J19];omega)) Z) Z Z (B1 (A8 Z) Z Z (A89 (B7 TySz.out Z Z Z Z Z Z) Z (O2 ?_))))))))))))))))));refine k4 (k1 (A3 (A4 Z Z (C5 Z Z Z (A7 Z Z (A5 ?_))))));refine k1 ?_;refine ⟨k+1,⟨by omega,fun q hq=>?_⟩,by omega,?_⟩
           ·by_cases h2:q=k
            ·rw [h2,←he,he0]
            ·exact hz0 q (by omega)
           rw [hR2]
           exact I81 ⟨le1 rfl,le1 rfl,le1 rfl,le1 rfl,le1 rfl,le1 rfl,le1 rfl,le1 rfl,le1 rfl,trivial⟩ ⟨rfl,rfl,rfl,trivial⟩
          ·have hkL:¬k < f0.length:=by have:=A1 ht;omega
           have hR2:=hR1 k
           rw [if_neg hkL,←hl,J35] at hR2
           refine k5 (k4 (k1 (A3 (A4 Z Z (C5 Z Z Z (A7 Z Z (A5 ?_)))))));refine k1 ?_;refine ⟨k+1,⟨by omega,fun q hq=>?_⟩,by omega,?_⟩
           ·by_cases h2:q=k
            ·rw [h2,←he,he0]
            ·exact hz0 q (by omega)
           rw [hR2]
           exact I81 ⟨le1 rfl,le1 rfl,le1 rfl,le1 rfl,le1 rfl,le1 rfl,le1 rfl,le1 rfl,le1 rfl,trivial⟩ ⟨rfl,rfl,rfl,trivial⟩
       ·have hkL:k=L+1:=by have:=A1 ht;omega
        refine k6 (k2 (A3 (A6 (D6 Z Z Z) Z (G1 (B7 TySz.out Z Z Z Z Z Z) (A7 Z Z (A5 ?_))))));refine k1 (k10 (B9 (rs:=[pTable ⟨n,R k⟩,J0 0]) (m8 Z Z Z Z Z Z Z) ?_))
        have hno:¬∃q,q < f0.length+1∧(D9 ((M9 (fs.map (J6 (D8 fs))) f0.length n n).2 q)).2≠0:=by
         rintro ⟨q,hq1,hq2⟩
         refine hq2 ?_
         have:=hz0 q (by omega)
         rw [hg,hs,hids,hnames,hL] at this
         exact this
        rw [hmk,if_neg hno,hkL,hR,hs,hids,hnames,hL]
theorem H44 {n:Nat} {rows:List Row} {sp:List Span} {hs:List CHunk} (hn:n≤32) (hr:L3 rows) (hW:(rows.map W5).sum≤8388608) (h:n4 n rows 0 [] sp=some hs):szC hs≤268435456∧∀x∈hs,L3 x.Rows:=by
 have h1:=F55 W5 2081 n rows sp 0 [] hs (Int.le_refl _) h (by simp) (by simp)
 have h2:=E09 hr sp 0 [] hs h (fun x hx=>by cases hx)
 have hl:=r5 rows
 refine ⟨?_,fun x hx=>(h2 x hx).2⟩
 have h3:szC hs=(hs.map fun h=>(2048+h.At.length)+(h.Rows.map W5).sum).sum:=rfl
 have h4:szC hs≤(hs.map fun h=>2081+(h.Rows.map W5).sum).sum:=by
  rw [h3]
  clear h h1 h3
  induction hs with
  | nil=>simp
  | cons x r ih =>
   have h5:=(h2 x (by simp)).1
   have h6:=ih fun y hy=>h2 y (by simp [hy])
   rw [J24,J47,J24,J47]
   omega
 have h5:=h1.2
 simp only [J19] at h5
 have h6:=h1.1
 omega
theorem I50 {path:Str} {t:Table} {sp:List Span} {d:Bool} (hr:L3 t.Rows) (hW:(t.Rows.map W5).sum≤8388608):szC (Y6 path t sp d).1.Hunks≤268435456∧∀x∈(Y6 path t sp d).1.Hunks,L3 x.Rows:=by
 have h0:szC comb0.Hunks≤268435456∧∀x∈comb0.Hunks,L3 x.Rows:=⟨by decide,fun x hx=>by cases hx⟩
 unfold Y6
 split
 ·exact h0
 ·split
  ·exact h0
  ·rename_i hc
   cases hg:n4 t.Parents.toNat t.Rows 0 [] sp with
   | none=>exact h0
   | some hs =>
    dsimp only
    split
    ·exact h0
    ·refine H44 ?_ hr hW hg
     unfold J2 at hc
     split at hc
     ·exact absurd hc (by decide)
     ·omega
theorem G03 {t:Table} (h:J2 t=0):1≤t.Parents∧t.Parents≤32:=by
 unfold J2 at h
 split at h
 ·cases h
 ·omega
set_option maxHeartbeats 1000000
abbrev rowV (q:Row):List Value:=[.bool q.Lost,.int .u32 q.Marks,.string ⟨q.Text.toArray⟩]
theorem row_eq (q q':Row):F21 (rowV q) (rowV q')=decide (q=q'):=by
 rw [Bool.eq_iff_iff]
 simp only [F21,eqV,ByteArray.toList_mk,J18,beq_iff_eq,decide_eq_true_eq,Bool.and_true]
 constructor
 ·rintro ⟨h1,h2,h3⟩
  obtain ⟨k,m,t⟩:=q
  obtain ⟨k',m',t'⟩:=q'
  obtain rfl:k=k':=h1
  obtain rfl:m=m':=h2
  obtain rfl:t=t':=h3
  rfl
 ·rintro rfl;exact ⟨rfl,rfl,rfl⟩
theorem G04 (a:List Int) (ha:a.length≤1099511627776):FnOk Tryz.prog 48 [M7 a,M7 a] (fun rs=>rs=[N1 true]):=by
 refine FnOk.intro Tryz.func48 (by decide) Z Z Z Z ?_
 refine k2 (A3 (A7 Z Z (A5 ?_)));refine k1 (k2 (k2 (A3 (A4 Z Z (E4 Z Z (A4 Z Z (E4 Z Z (A6 (O6 Z Z) Z (A5 ?_)))))))));refine k1 ?_;refine B5 rfl (fun ht=>?_) (fun ht=>?_)
 ·exact absurd rfl (A0 ht)
 refine k5 (k1 (k2 (k2 (A3 (A7 Z Z (A5 ?_))))));refine k1 (k3 (D2 (X:=Nat) (fun i=>([(0,C0 Int 1 G3 a),(1,C0 Int 1 G3 a),(5,B6 i)],[])) (fun i=>i≤a.length) (fun i=>a.length - i) 0 (Nat.zero_le _) (I81 ⟨le1 rfl,le1 rfl,le1 rfl,trivial⟩ trivial) ?_))
 intro i hi
 dsimp only at hi ⊢
 refine k2 (k2 (A3 (A4 Z Z (A4 Z Z (E4 Z Z (F4 Z Z Z (A5 ?_)))))));refine k1 ?_;refine B5 rfl (fun ht=>?_) (fun ht=>?_)
 ·have hlt:i < a.length:=by have:=A0 ht;omega
  have hv:=getI hlt
  refine k5 (k1 (k2 (k3 (k2 (D5 (by kernel_rfl) (by kernel_rfl) (D3 Z Z (D3 Z Z (B1 (A9 Z (.pure _ _ _ _) Z (by omega) hv) Z Z (B1 (B3 Z Z) Z Z (D3 Z Z (D3 Z Z (B1 (A9 Z (.pure _ _ _ _) Z (by omega) hv) Z Z (B1 (B3 Z Z) Z Z (B1 (O6 Z Z) Z Z (O2 ?_)))))))))))))));refine k1 ?_;refine B5 rfl (fun ht=>?_) (fun ht=>?_)
  ·exact absurd rfl (A0 ht)
  refine k5 (k4 (k1 (A3 (A4 Z Z (C5 Z Z Z (A7 Z Z (A5 ?_)))))));refine k1 ?_
  exact ⟨i+1,by omega,by omega,I81 ⟨le1 rfl,le1 rfl,le1 rfl,trivial⟩ trivial⟩
 ·refine k6 (k2 (A3 (A7 Z Z (A5 ?_))));refine k1 (k10 ?_)
  exact B9 (rs:=[N1 true]) (I5 rfl rfl rfl) rfl
theorem G05 (a:List Row) (ha:a.length≤1099511627776):FnOk Tryz.prog 47 [pRows a,pRows a] (fun rs=>rs=[N1 true]):=by
 refine FnOk.intro Tryz.func47 (by decide) Z Z Z Z ?_
 refine k2 (A3 (A7 Z Z (A5 ?_)));refine k1 (k2 (k2 (A3 (A4 Z Z (E4 Z Z (A4 Z Z (E4 Z Z (A6 (O6 Z Z) Z (A5 ?_)))))))));refine k1 ?_;refine B5 rfl (fun ht=>?_) (fun ht=>?_)
 ·exact absurd rfl (A0 ht)
 refine k5 (k1 (k2 (k2 (A3 (A7 Z Z (A5 ?_))))));refine k1 (k3 (D2 (X:=Nat) (fun i=>([(0,C0 Row 3 rowC a),(1,C0 Row 3 rowC a),(5,B6 i)],[])) (fun i=>i≤a.length) (fun i=>a.length - i) 0 (Nat.zero_le _) (I81 ⟨le1 rfl,le1 rfl,le1 rfl,trivial⟩ trivial) ?_))
 intro i hi
 dsimp only at hi ⊢
 refine k2 (k2 (A3 (A4 Z Z (A4 Z Z (E4 Z Z (F4 Z Z Z (A5 ?_)))))));refine k1 ?_;refine B5 rfl (fun ht=>?_) (fun ht=>?_)
 ·have hlt:i < a.length:=by have:=A0 ht;omega
  have hv:a[i]?=some a[i]:=by simp [hlt]
  obtain ⟨r,hr⟩:∃r,r=a[i]:=⟨_,rfl⟩
  rw [←hr] at hv
  refine k5 (k1 (k2 (k3 (k2 (D5 (by kernel_rfl) (by kernel_rfl) (D3 Z Z (D3 Z Z (B1 (A9 Z (.pure _ _ _ _) Z (by omega) hv) Z Z (B1 (F5 Z Z) Z Z (D3 Z Z (D3 Z Z (B1 (A9 Z (.pure _ _ _ _) Z (by omega) hv) Z Z (B1 (F5 Z Z) Z Z (B1 (I35 (rowV r) (rowV r) Z Z Z Z ((row_eq r r).trans (decide_eq_true Z))) Z Z (O2 ?_)))))))))))))));refine k1 ?_;refine B5 rfl (fun ht=>?_) (fun ht=>?_)
  ·cases ht
  refine k5 (k4 (k1 (A3 (A4 Z Z (C5 Z Z Z (A7 Z Z (A5 ?_)))))));refine k1 ?_
  exact ⟨i+1,by omega,by omega,I81 ⟨le1 rfl,le1 rfl,le1 rfl,trivial⟩ trivial⟩
 ·refine k6 (k2 (A3 (A7 Z Z (A5 ?_))));refine k1 (k10 ?_)
  exact B9 (rs:=[N1 true]) (I5 rfl rfl rfl) rfl
theorem I51 (c:Comb) (hz:szC c.Hunks≤1099511627776):FnOk Tryz.prog 45 [U6 c,U6 c] (fun rs=>rs=[N1 true]):=by
 have hzl:=C42 c.Hunks
 refine FnOk.intro Tryz.func45 (by decide) Z Z Z Z ?_
 refine k2 (A3 (C2 (T8 2 Z Z Z) Z (C2 (T8 3 Z Z Z) Z (A7 Z Z (A5 ?_)))));refine k1 (k2 (k2 (A3 (A6 (A8 Z) Z (E9 Z Z Z Z (A6 (A8 Z) Z (E9 Z Z Z Z (A6 (D24 Z Z) Z (A4 Z Z (B2 Z Z Z Z (fun hg=>by rw [hg];exact A8 Z) ?_))))))))));refine B2 Z Z Z Z (fun hg=>by rw [hg];exact B4 Z Z Z) ?_;refine B2 Z Z Z Z (fun hg=>by rw [hg];exact A8 Z) ?_;refine B2 Z Z Z Z (fun hg=>by rw [hg];exact B4 Z Z Z) ?_;refine B2 Z Z Z Z (fun hg=>by rw [hg];exact n_neq_b Z Z TyBool.out) ?_;refine J5 Z Z ?_;refine A4 Z Z (B2 Z Z Z Z (fun hg=>by rw [hg];exact A8 Z) ?_);refine B2 Z Z Z Z (fun hg=>by rw [hg];exact B4 Z Z Z) ?_;refine B2 Z Z Z Z (fun hg=>by rw [hg];exact A8 Z) ?_;refine B2 Z Z Z Z (fun hg=>by rw [hg];exact B4 Z Z Z) ?_;refine B2 Z Z Z Z (fun hg=>by rw [hg];exact O6 Z Z) ?_;refine J5 Z Z ?_;refine A4 Z Z (B2 Z Z Z Z (fun hg=>by rw [hg];exact A8 Z) ?_);refine B2 Z Z Z Z (fun hg=>by rw [hg];exact B4 Z Z Z) ?_;refine B2 Z Z Z Z (fun hg=>by rw [hg];exact V1 Z (.pure _ _ _ _)) ?_;refine B2 Z Z Z Z (fun hg=>by rw [hg];exact A8 Z) ?_;refine B2 Z Z Z Z (fun hg=>by rw [hg];exact B4 Z Z Z) ?_;refine B2 Z Z Z Z (fun hg=>by rw [hg];exact V1 Z (.pure _ _ _ _)) ?_;refine B2 Z Z Z Z (fun hg=>by rw [hg];exact O6 Z Z) ?_;refine J5 Z Z ?_;refine A5 ?_;refine k1 ?_;refine B5 rfl (fun ht=>?_) (fun ht=>?_)
 ·exfalso;revert ht;simp
 refine L6 [(2,.s (.one (.ref 2 0))),(3,.s (.one (.ref 3 0)))] [(2,D17 c),(3,D17 c)] (I81 ⟨le1 rfl,le1 rfl,trivial⟩ ⟨rfl,rfl,trivial⟩) ?_
 refine k5 (k1 (k2 (k2 (A3 (A7 Z Z (A5 ?_))))));refine k1 (k3 (D2 (X:=Nat) (fun k=>([(2,.s (.one (.ref 2 0))),(3,.s (.one (.ref 3 0))),(5,B6 k)],[(2,D17 c),(3,D17 c)])) (fun k=>k≤c.Hunks.length) (fun k=>c.Hunks.length - k) 0 (Nat.zero_le _) (I81 ⟨le1 rfl,le1 rfl,le1 rfl,trivial⟩ ⟨rfl,rfl,trivial⟩) ?_))
 intro k hk
 dsimp only at hk ⊢
 refine k2 (k2 (A3 (A4 Z Z (A6 (A8 Z) Z (E9 Z Z Z Z (E4 Z Z (F4 Z Z Z (A5 ?_))))))));refine k1 ?_;refine B5 rfl (fun ht=>?_) (fun ht=>?_)
 ·have hlt:k < c.Hunks.length:=by have:=A0 ht;omega
  have hv:c.Hunks[k]?=some c.Hunks[k]:=by simp [hlt]
  have hzm:=C41 (J26 hlt)
  obtain ⟨h,hx⟩:∃x,x=c.Hunks[k]:=⟨_,rfl⟩
  rw [←hx] at hv hzm
  have hz1:=r5 h.Rows
  unfold D99 at hzm
  refine k5 (k1 (k2 (k3 (k2 (D5 (by kernel_rfl) (by kernel_rfl) (B1 (A8 Z) Z Z (B1 (B4 Z Z Z) Z Z (D3 Z Z (B1 (A9 Z (.pure _ _ _ _) Z (by omega) hv) Z Z (B1 (G7 Z) Z Z (B1 (B3 Z Z) Z Z (B1 (A8 Z) Z Z (B1 (B4 Z Z Z) Z Z (D3 Z Z (B1 (A9 Z (.pure _ _ _ _) Z (by omega) hv) Z Z (B1 (G7 Z) Z Z (B1 (B3 Z Z) Z Z (B1 (O4 (G04 h.At (by omega)) Z Z) Z Z (B1 (M3 Z) Z Z (D3 Z Z (D4 Z Z (fun hg=>by rw [hg];exact A8 Z) Z Z ?_)))))))))))))))))))));refine D4 Z Z (fun hg=>by rw [hg];exact B4 Z Z Z) Z Z ?_;refine D4 Z Z (fun hg=>by rw [hg];exact C3 Z Z) Z Z ?_;refine D4 Z Z (fun hg=>by have hq:=hg;(try simp at hq);rw [hg];exact A9 Z (.pure _ _ _ _) Z (by omega) hv) Z Z ?_;refine D4 Z Z (fun hg=>by rw [hg];exact G7 Z) Z Z ?_;refine D4 Z Z (fun hg=>by rw [hg];exact B3 Z Z) Z Z ?_;refine D4 Z Z (fun hg=>by rw [hg];exact A8 Z) Z Z ?_;refine D4 Z Z (fun hg=>by rw [hg];exact B4 Z Z Z) Z Z ?_;refine D4 Z Z (fun hg=>by rw [hg];exact C3 Z Z) Z Z ?_;refine D4 Z Z (fun hg=>by have hq:=hg;(try simp at hq);rw [hg];exact A9 Z (.pure _ _ _ _) Z (by omega) hv) Z Z ?_;refine D4 Z Z (fun hg=>by rw [hg];exact G7 Z) Z Z ?_;refine D4 Z Z (fun hg=>by rw [hg];exact B3 Z Z) Z Z ?_;refine D4 Z Z (fun hg=>by have hq:=hg;(try simp at hq);rw [hg];exact O4 (G05 h.Rows (by omega)) Z Z) Z Z ?_;refine D4 Z Z (fun hg=>by rw [hg];exact M3 Z) Z Z ?_;refine B1 (K6 Z (fun h=>by first | rfl | (rw [h];rfl)) (fun h=>by first | rfl | (rw [h];rfl))) Z Z ?_;refine O2 ?_;refine k1 ?_;refine B5 rfl (fun ht=>?_) (fun ht=>?_)
  ·cases ht
  refine k5 (k4 (k1 (A3 (A4 Z Z (C5 Z Z Z (A7 Z Z (A5 ?_)))))));refine k1 ?_
  exact ⟨k+1,by omega,by omega,I81 ⟨le1 rfl,le1 rfl,le1 rfl,trivial⟩ ⟨rfl,rfl,trivial⟩⟩
 ·refine k6 (k2 (A3 (A7 Z Z (A5 ?_))));refine k1 (k10 ?_)
  exact B9 (rs:=[N1 true]) (I5 rfl rfl rfl) rfl
end Go.Proofs.YtbiadkkamhpdnaaGreatDoor
namespace Go.Proofs.YtbiadkkamhpdnaaGreatDoor
open Go Go.AL
set_option maxRecDepth 100000
end Go.Proofs.YtbiadkkamhpdnaaGreatDoor
namespace Go.Proofs.YtbiadkkamhpdnaaGreatDoor
open Go Go.AL
set_option maxRecDepth 100000
set_option maxHeartbeats 4000000
set_option maxHeartbeats 1000000
set_option maxHeartbeats 4000000
set_option maxHeartbeats 4000000
section
variable {P:Program} {nt:Nat} {fr:Fr} {w:Str} {d:Bool} {n:Int} {hs:List CHunk}
end
set_option maxHeartbeats 4000000
end Go.Proofs.YtbiadkkamhpdnaaGreatDoor
