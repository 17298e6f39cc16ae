/- Walks of the program's functions. -/
import Derived.Test.YtbiadkkamhpdnaaGreatDoorFa
import Derived.Test.YtbiadkkamhpdnaaGreatDoorFf
import Derived.Test.YtbiadkkamhpdnaaGreatDoorFe
import Derived.Test.YtbiadkkamhpdnaaGreatDoorFs
set_option linter.unusedSimpArgs false
namespace Go.Proofs.YtbiadkkamhpdnaaGreatDoor
open Go Go.AL
set_option maxRecDepth 100000
theorem C38 {b:Str} (h:b.length≤200):W7 b=0:=by
 have:=V0 b
 rw [W7,if_neg (by omega)]
theorem I80 {m r:Nat} {z:TC} (h:r < m):(V5 m m z)[r]?=some (.mut (r+1000)):=by
 unfold V5;rw [K15,K22 h];simp [h]
def B60 (f:Int→Int) (l:List Int) (k:Nat):List Int:=(l.take k).map f++l.drop k
theorem G19 (f:Int→Int) (l:List Int) (k:Nat):(B60 f l k).length=l.length:=by simp [B60];omega
theorem I81 (f:Int→Int) (l:List Int) (k:Nat) (h:k < l.length):(B60 f l k)[k]?=some (l.getD k 0):=by
 unfold B60
 rw [K10 (by simp;omega)]
 simp [show k - min k l.length=0 by omega,J88 h,J91]
theorem I82 (f:Int→Int) (l:List Int) (k:Nat) (h:k < l.length):(B60 f l k).set k (f (l.getD k 0))=B60 f l (k+1):=by
 unfold B60
 rw [List.set_append_right _ _ (by simp;omega),J92 h,J93 h]
 have e:k - min k l.length=0:=by omega
 simp only [K13,K03,e,List.set_cons_zero,K00,J95,K17,K01,K37,J91,J88 h,Option.getD_some]
theorem H66 (f:Int→Int) (l:List Int):B60 f l 0=l:=by simp [B60]
theorem H67 (f:Int→Int) (l:List Int):B60 f l l.length=l.map f:=by simp [B60]
set_option maxHeartbeats 1000000
theorem F71 (result:Str) (parents:List Str) (h0:result.length≤200) (h1:∀b∈parents,b.length≤200):FnOk Tryz.prog 46 [L6 result,Z9 parents] (fun rs=>rs=[pTable (M7 result parents).1,E5 (M7 result parents).2]):=by
 refine FnOk.intro Tryz.func46 (by decide) Z Z Z Z ?_
 refine A49 (t:=1) rfl (.pure _ _ _ _) fun hplen=>?_
 refine k2 (A2 (C0 (F4 4 Z) Z (A7 Z Z (A4 ?_))));refine k1 (k2 (A2 (A3 Z Z (D9 Z Z (A7 Z Z (A4 ?_))))));refine k1 (k2 (k2 (A2 (A3 Z Z (E1 Z Z Z (A3 Z Z (B0 Z Z Z Z (fun hg=>by rw [hg];exact B5 Z Z) ?_)))))));refine B0 Z Z Z Z (fun hg=>by rw [hg];exact K9 Z Z) ?_;refine F2 Z Z ?_;refine A4 ?_;refine k1 ?_;refine B3 rfl (fun ht=>?_) (fun ht=>?_)
 ·have h:=A0 (or_pick.symm.trans ht)
  refine k2 (A2 (A6 (E6 Z) Z (E2 (B6 TySz.out Z Z Z Z Z Z) (A7 Z Z (A4 ?_)))));refine k1 (G4 (J59 Row 3 rowC 4 1 Z Z) ?_)
  refine k10 (k11 ?_)
  exact B4 (rs:=[pTable ⟨0,[]⟩,E5 2]) (O5 rfl rfl rfl rfl rfl rfl rfl) (by rw [M7,if_pos (by omega)])
 ·have h := A1 (or_pick.symm.trans ht)
  refine O9 [(0,U3 result),(1,C4 Str 1 I0 parents),(4,.s (.one (.ref 4 0))),(6,B8 parents.length)] [(4,.box [.p (.v (.int .i64 0)),.p (.v (.slice none 0 0))])] (J58 ⟨le1 rfl,le1 rfl,le1 rfl,le1 rfl,trivial⟩ ⟨rfl,trivial⟩) ?_
  refine k5 (k1 (k2 (A2 (A3 Z Z (C2 (B86 result (by omega)) Z Z Z ?_)))));rintro _ rfl;refine C0 (s5 39 (c:=strsC) (ys:=[_]) (D8 Z Z Z Z F1) Z Z Z (by first | rfl | (simp [I1,J8,Ob.free,SV.free,S1.free,TC.free]<;>rfl))) Z ?_;refine A7 Z Z (A4 ?_);refine k1 (k2 (k2 (A2 (A3 Z Z (C2 (E60 result (by omega)) Z Z Z ?_)))));rintro _ rfl;refine A7 Z Z (A4 ?_);refine k1 (k2 ?_)
  rw [C38 h0]
  refine A2 (A3 Z Z (A6 (H9 Z Z) Z (A4 ?_)));refine k1 ?_;refine B3 rfl (fun ht=>?_) (fun ht=>?_)
  ·cases A0 ht rfl
  ·refine k5 (k1 (k2 (k2 (A2 (A7 Z Z (A4 ?_))))));refine k1 (k3 ?_)
   obtain ⟨n,hn⟩:∃n,n=parents.length:=⟨_,rfl⟩
   rw [←hn] at h
   refine D1 (X:=Nat) (fun p=>([(1,C4 Str 1 I0 parents),(4,.s (.one (.ref 4 0))),(6,B8 n),(7,.s (.one (.buf 39 (List Str) 1 strsC (D5 result::(parents.take p).map D5)))),(9,B8 p)],[(4,.box [.p (.v (.int .i64 0)),.p (.v (.slice none 0 0))]),(39,.spare (D5 result::(parents.take p).map D5).length 1 60)])) (fun p=>p≤n) (fun p=>n - p) 0 (Nat.zero_le _) (by rw [hn];exact J58 ⟨le1 rfl,le1 rfl,le1 rfl,le1 rfl,le1 rfl,trivial⟩ ⟨rfl,rfl,trivial⟩) ?_
   intro p hp
   dsimp only at hp ⊢
   have hfl:(D5 result::(parents.take p).map D5).length=p+1:=by simp;omega
   refine k2 (k2 (A2 (A3 Z Z (A3 Z Z (E1 Z Z Z (A4 ?_))))));refine k1 ?_;refine B3 rfl (fun ht=>?_) (fun ht=>?_)
   ·have hlt:p < parents.length:=by have:=A0 ht;omega
    have hv:parents[p]?=some parents[p]:=by simp [hlt]
    have hb:=h1 _ (J96 hlt)
    have hst:D5 result::(parents.take (p+1)).map D5=(D5 result::(parents.take p).map D5)++[D5 parents[p]]:=by
     rw [List.take_add_one,hv,Option.toList_some,K00];rfl
    refine k5 (k1 (k2 (k3 (k2 (k2 (A2 (A3 Z Z (A3 Z Z ?_))))))));refine A6 (A8 rfl (.pure _ _ _ _) rfl (by omega) (J88 (by omega))) rfl ?_;refine A6 (B1 Z Z) Z (C2 (E60 parents[p] (by omega)) Z Z Z ?_);rintro _ rfl;refine A7 Z Z (A4 ?_);refine k1 (k2 ?_)
    rw [C38 hb]
    refine A2 (A3 Z Z (A6 (H9 Z Z) Z (A4 ?_)));refine k1 ?_;refine B3 rfl (fun ht=>?_) (fun ht=>?_)
    ·cases A0 ht rfl
    ·refine k5 (k1 (A2 (A3 Z Z (A3 Z Z (A3 Z Z ?_)))));refine A6 (A8 rfl (.pure _ _ _ _) rfl (by omega) (J88 (by omega))) rfl ?_;refine A6 (B1 Z Z) Z (C2 (B86 parents[p] (by omega)) Z Z Z ?_);rintro _ rfl;refine A6 (C9 (c:=strsC) (ys:=[_]) (D8 Z Z Z Z F1) Z Z Z) Z (C0 (F8 Z Z Z (.pure _ _ _ _) (by (rw [hfl];simp only [J87,J89];omega)) Z) Z ?_);refine A7 Z Z (A4 ?_);refine k4 (k1 (A2 (A3 Z Z (C7 Z Z Z (A7 Z Z (A4 ?_))))));refine k1 ?_;refine ⟨p+1,by omega,by omega,?_⟩
     rw [hst]
     exact J58 ⟨le1 rfl,le1 rfl,le1 rfl,le1 rfl,le1 rfl,trivial⟩ ⟨rfl,rfl,trivial⟩
   ·have hp':p=n:=by have:=A1 ht;omega
    rw [hp',hn,J98]
    rw [hp',hn,J98] at hfl
    rw [←hn] at hfl ⊢
    obtain ⟨fs,hfs⟩:∃fs,fs=D5 result::parents.map D5:=⟨_,rfl⟩
    rw [←hfs] at hfl ⊢
    have hfsB:∀f∈fs,f.length≤200∧f.flatten.length≤200:=by
     intro f hf
     rw [hfs] at hf
     rcases List.mem_cons.1 hf with rfl | hf
     ·have:=V0 result;rw [b9];omega
     ·obtain ⟨b,hb,rfl⟩:=List.mem_map.1 hf
      have:=V0 b;have:=h1 b hb;rw [b9];omega
    have hmk:M7 result parents=if ∃k,k < (D5 result).length+1∧(L3 ((B01 (fs.map (F0 (D2 fs))) (D5 result).length n n).2 k)).2≠0 then (⟨0,[]⟩,1) else (⟨n,A42 (D2 fs) (D5 result) (B01 (fs.map (F0 (D2 fs))) (D5 result).length n n) ((D5 result).length+1)⟩,0):=by
     rw [M7,if_neg (by omega),hn,hfs]
    have hn1:fs.length=n+1:=by rw [hfl]
    have hf0:fs[0]?=some (D5 result):=by rw [hfs];rfl
    have hflat:fs.flatten.length≤6600:=by
     have key:∀l:List (List Str),(∀f∈l,f.length≤200∧f.flatten.length≤200)→l.flatten.length≤200*l.length:=by
      intro l hl
      induction l with
      | nil=>simp
      | cons x r ih=>have:=ih (fun f hf=>hl f (by simp [hf]));have:=(hl x (by simp)).1;simp only [J99,J86,J87];omega
     have:=key fs hfsB;omega
    obtain ⟨names,hnames⟩:∃names,names=D2 fs:=⟨_,rfl⟩
    obtain ⟨ids,hids⟩:∃ids,ids=fs.map (F0 names):=⟨_,rfl⟩
    obtain ⟨L,hL⟩:∃L,L=(D5 result).length:=⟨_,rfl⟩
    have hLB:L≤200:=by rw [hL];exact (hfsB _ (by rw [hfs];simp)).1
    have hidsl:ids.length=n+1:=by rw [hids,K13,hn1]
    have hidB:∀x∈ids,x.length≤200∧∀v∈x,0≤v∧v < (names.length:Int):=by
     intro x hx
     rw [hids,hnames] at hx
     have h2:=ids_in fs x hx
     obtain ⟨f,hf,rfl⟩:=List.mem_map.1 hx
     exact ⟨by rw [F0,K13];exact (hfsB f hf).1,by rw [hnames];exact h2⟩
    have hid0:(ids.getD 0 []).length=L:=by rw [hids,J91,K15,hf0,hL];simp [F0]
    have hv0:ids[0]?=some (ids.getD 0 []):=by rw [J91,J88 (by omega)];rfl
    refine O9 [(4,.s (.one (.ref 4 0))),(6,B8 n),(7,C4 (List Str) 1 strsC fs)] [(4,.box [.p (.v (.int .i64 0)),.p (.v (.slice none 0 0))])] (J58 ⟨le1 rfl,le1 rfl,leL rfl,trivial⟩ ⟨rfl,trivial⟩) ?_
    refine k6 (k2 (A2 (A3 Z Z (C2 (G69 fs (by omega)) Z Z Z ?_))));rintro _ rfl;refine A3 Z Z (C2 (H51 fs (by omega) (by omega)) Z Z Z ?_);rintro _ rfl;refine A7 Z Z (A7 Z Z (A4 ?_))
    rw [←hnames,←hids]
    refine k1 (k2 (A2 (A3 Z Z (A6 (A8 Z (.pure _ _ _ _) Z (by omega) hf0) Z (A6 (B1 Z Z) Z (D9 Z Z (A7 Z Z (A4 ?_))))))))
    rw [←hL]
    refine k1 (k2 (A2 (A3 Z Z (C0 (p7 14 Int B72 0 Z Z (by omega) (by omega) (fun _=>by first | exact ⟨⟨rfl,rfl⟩,trivial⟩ | exact ⟨Q5 _ _ _,trivial⟩) (by first | rfl | (simp [I1,J8,Ob.free,SV.free,S1.free,TC.free]<;>rfl))) Z ?_))));refine A7 Z Z (A4 ?_);refine k1 (k2 (A2 (A3 Z Z (C7 Z Z Z (C0 (p7 15 (List (List Int)) intssC [] Z Z (by omega) (by omega) (fun _=>by first | exact ⟨⟨rfl,rfl⟩,trivial⟩ | exact ⟨Q5 _ _ _,trivial⟩) (by first | rfl | (simp [I1,J8,Ob.free,SV.free,S1.free,TC.free]<;>rfl))) Z ?_)))));refine A7 Z Z (A4 ?_);refine k1 (k2 (k2 (A2 (A7 Z Z (A4 ?_)))));refine k1 (k3 (G4 (J74 15 Z) ?_))
    obtain ⟨z,hz⟩:∃z:TC,z=.p (intssC [] 0):=⟨_,rfl⟩
    have hzf:∀k,z.free k=true:=fun k=>by rw [hz];rfl
    have hrep:(List.replicate ((L:Int)+1).toNat ([]:List (List Int))).map (fun x=>TC.p (intssC x 0))=V5 (L+1) 0 z:=by
     rw [←H41,hz];simp
    refine D1 (X:=Nat) (fun k=>([(4,.s (.one (.ref 4 0))),(6,B8 n),(7,C4 (List Str) 1 strsC fs),(11,C4 Str 1 I0 names),(12,C4 (List Int) 1 intsC ids),(13,B8 L),(14,.s (.one (.mut 14))),(15,.s (.one (.mut 15))),(16,B8 k)],
     (4,.box [.p (.v (.int .i64 0)),.p (.v (.slice none 0 0))])::(14,.arr Int 1 B72 (List.replicate L 0))::(15,.tarr (L+1) 1 (V5 (L+1) k z))::Q9 intsC (fun _=>List.replicate n []) (List.range k))) (fun k=>k≤L+1) (fun k=>L+1 - k) 0 (Nat.zero_le _) ?_ ?_
    ·refine J58 ⟨⟨_,rfl,.same _⟩,⟨_,rfl,.same _⟩,⟨_,rfl,.same _⟩,⟨_,rfl,.same _⟩,⟨_,rfl,.same _⟩,⟨_,rfl,.same _⟩,⟨_,rfl,.same _⟩,⟨_,rfl,.same _⟩,⟨_,rfl,.same _⟩,trivial⟩ ⟨rfl,rfl,?_,trivial⟩
     rw [←hrep];simp [D4,List.length_replicate]
    ·intro k hk
     dsimp only at hk ⊢
     refine k2 (k2 (A2 (A3 Z Z (A3 Z Z (A6 (t8 Z Z) Z (A4 ?_))))));refine k1 ?_;refine B3 rfl (fun ht=>?_) (fun ht=>?_)
     ·have hlt:k < L+1:=by have:=A0 ht;omega
      have hfree:J8 (k+1000) ((4,.box [.p (.v (.int .i64 0)),.p (.v (.slice none 0 0))])::(14,.arr Int 1 B72 (List.replicate L 0))::(15,.tarr (L+1) 1 (V5 (L+1) k z))::Q9 intsC (fun _=>List.replicate n ([]:List Int)) (List.range k))=true:=by
       have h1:=E35 (k:=k+1000) (by omega) (List.range k) (fun r hr=>by have:=List.mem_range.1 hr;omega) (c:=intsC) (g:=fun _=>List.replicate n ([]:List Int))
       have h2:=H43 (m:=L+1) (k:=k) (hzf (k+1000))
       simp only [J8,Ob.free,h1,h2,M9 (show 4≠k+1000 by omega),M9 (show 14≠k+1000 by omega),M9 (show 15≠k+1000 by omega)]
       rfl
      refine k5 (k1 (k2 (k3 (A2 (A3 Z Z (A3 Z Z (A3 Z Z (C0 (p7 (k+1000) (List Int) intsC [] Z Z (by omega) (by omega) (fun _=>by first | exact ⟨⟨rfl,rfl⟩,trivial⟩ | exact ⟨Q5 _ _ _,trivial⟩) (by simp only [I1,SV.free,S1.free,TC.free,hfree,M9 (show 4≠k+1000 by omega),M9 (show 14≠k+1000 by omega),M9 (show 15≠k+1000 by omega)];rfl)) Z ?_))))))));refine A6 (H6 Z (by rw [B7 (by omega)];rfl) Z (by omega) (by omega)) Z ?_;refine E2 (w9 TySz.out Z (by rw [B7 (by omega)];rfl) (by (rw [C92];omega)) Z Z) ?_;refine A4 ?_;refine k4 (k1 (A2 (A3 Z Z (C7 Z Z Z (A7 Z Z (A4 ?_))))));refine k1 ?_;refine ⟨k+1,by omega,by omega,?_⟩
      refine J64 ⟨⟨_,rfl,.same _⟩,⟨_,rfl,.same _⟩,⟨_,rfl,.same _⟩,⟨_,rfl,.same _⟩,⟨_,rfl,.same _⟩,⟨_,rfl,.same _⟩,⟨_,rfl,.same _⟩,⟨_,rfl,.same _⟩,⟨_,rfl,.eq (by simp)⟩,trivial⟩ ?_
      refine J14 (g:=fun _=>List.replicate n ([]:List Int)) (pre:=[(4,.box [.p (.v (.int .i64 0)),.p (.v (.slice none 0 0))]),(14,.arr Int 1 B72 (List.replicate L 0)),(15,.tarr (L+1) 1 (V5 (L+1) k z))])
       (pre':=[(4,.box [.p (.v (.int .i64 0)),.p (.v (.slice none 0 0))]),(14,.arr Int 1 B72 (List.replicate L 0)),(15,.tarr (L+1) 1 (V5 (L+1) (k+1) z))]) (top:=[(15,.tarr (L+1) 1 ((V5 (L+1) k z).set k (.mut (k+1000))))]) rfl rfl ?_ rfl
      intro k' o ho
      rw [I42]
      by_cases h15:15=k'
      ·subst h15;exact ho
      ·by_cases h4:4=k'
       ·subst h4;rw [K37,B7 (by omega),B7 (by omega)];exact ho
       ·by_cases h14:14=k'
        ·subst h14;rw [K37,B7 (by omega),B7 (by omega)];exact ho
        ·rw [B7 h4,B7 h14,B7 h15] at ho;cases ho
     ·have hkL:k=L+1:=by have:=A1 ht;omega
      rw [hkL]
      clear hkL ht hk k
      refine O9 [(4,.s (.one (.ref 4 0))),(6,B8 n),(7,C4 (List Str) 1 strsC fs),(11,C4 Str 1 I0 names),(12,C4 (List Int) 1 intsC ids),(13,B8 L),(14,.s (.one (.mut 14))),(15,.s (.one (.mut 15)))]
       ((4,.box [.p (.v (.int .i64 0)),.p (.v (.slice none 0 0))])::(14,.arr Int 1 B72 (List.replicate L 0))::(15,.tarr (L+1) 1 (V5 (L+1) (L+1) z))::Q9 intsC (fun _=>List.replicate n []) (List.range (L+1))) (J64 ⟨⟨_,rfl,.same _⟩,⟨_,rfl,.same _⟩,⟨_,rfl,.same _⟩,⟨_,rfl,.same _⟩,⟨_,rfl,.same _⟩,⟨_,rfl,.same _⟩,⟨_,rfl,.same _⟩,⟨_,rfl,.same _⟩,trivial⟩ (fun _ _ h=>h)) ?_
      refine k6 (k2 (k2 (A2 (A7 Z Z (A4 ?_)))));refine k1 (k3 ?_)
      obtain ⟨s,hs⟩:∃s:Nat→Loom,s=fun p=>B01 ids L n p:=⟨_,rfl⟩
      have hok:∀p,LoomOk (fun v=>0≤v∧v < (names.length:Int)) 200 L n (s p):=fun p=>by rw [hs];exact D52 hidB p
      refine D1 (X:=Nat) (fun p=>([(4,.s (.one (.ref 4 0))),(6,B8 n),(7,C4 (List Str) 1 strsC fs),(11,C4 Str 1 I0 names),(12,C4 (List Int) 1 intsC ids),(13,B8 L),(14,.s (.one (.mut 14))),(15,.s (.one (.mut 15))),(17,B8 p)],
       (4,.box [.p (.v (.int .i64 0)),.p (.v (.slice none 0 0))])::(14,.arr Int 1 B72 (s p).1)::(15,.tarr (L+1) 1 (V5 (L+1) (L+1) z))::Q9 intsC (s p).2 (List.range (L+1)))) (fun p=>p≤n) (fun p=>n - p) 0 (Nat.zero_le _) ?_ ?_
      ·have h0s:s 0=H01 L n:=by rw [hs];rfl
       rw [h0s]
       exact J64 ⟨⟨_,rfl,.same _⟩,⟨_,rfl,.same _⟩,⟨_,rfl,.same _⟩,⟨_,rfl,.same _⟩,⟨_,rfl,.same _⟩,⟨_,rfl,.same _⟩,⟨_,rfl,.same _⟩,⟨_,rfl,.same _⟩,⟨_,rfl,.same _⟩,trivial⟩ (fun _ _ h=>h)
      intro p hp
      dsimp only at hp ⊢
      have hsp:=hok p
      refine k2 (k2 (A2 (A3 Z Z (A3 Z Z (E1 Z Z Z (A4 ?_))))));refine k1 ?_;refine B3 rfl (fun ht=>?_) (fun ht=>?_)
      ·have hlt:p < n:=by have:=A0 ht;omega
       have hv1:ids[p+1]?=some (ids.getD (p+1) []):=by rw [J91,J88 (by omega)];rfl
       have hstep:s (p+1)=A12 ids (s p) p:=by rw [hs];exact D86 ids L n p
       have hfB:=hidB _ (K02 hv1)
       obtain ⟨file,hfile⟩:∃f,f=ids.getD (p+1) []:=⟨_,rfl⟩
       obtain ⟨base,hbase⟩:∃f,f=ids.getD 0 []:=⟨_,rfl⟩
       rw [←hbase] at hid0 hv0
       rw [←hfile] at hv1 hfB
       have hwb:=D10 file base
       have hmw:=D09 file base
       have hwg:=D02 file base 0 0
       have hwl:=d6 0 0 file base
       have hml:=B00 (H1 0 0 file base) 0 0 file.length base.length
       obtain ⟨sc,hsc⟩:∃sc,sc=V7 file base:=⟨_,rfl⟩
       have hscl:sc.length≤201:=by rw [hsc];have h2:(V7 file base).length=(R4 0 0 (H1 0 0 file base) file.length base.length).length:=rfl;omega
       rw [←hsc] at hwb hmw
       refine k5 (k1 (k2 (k3 (k2 (C5 (by kernel_rfl) (by kernel_rfl) (C3 Z Z (C3 Z Z (A9 (L4 Z Z (by omega)) Z Z (A9 (A8 Z (.pure _ _ _ _) Z (by omega) (by rw [show ((p:Int)+1).toNat=p+1 by omega];exact hv1)) Z Z ?_)))))))));refine A9 (B1 Z Z) Z Z (C3 Z Z (A9 (A8 Z (.pure _ _ _ _) Z (by omega) hv0) Z Z (A9 (B1 Z Z) Z Z (A9 (E3 (G05 file base (by omega) (by omega)) Z Z) Z Z (A9 (E0 Z Z) Z Z (G5 ?_))))))
       rw [←hsc]
       obtain ⟨m0,hm0⟩:∃m0,m0=(s p).1:=⟨_,rfl⟩
       have hm0l:m0.length=L:=by rw [hm0];exact hsp.len
       have hbit:=C59 p
       refine k1 (k2 (k2 (A2 (A7 Z Z (A4 ?_)))));refine k1 (k3 ?_);refine D1 (X:=Nat) (fun k=>([(4,.s (.one (.ref 4 0))),(6,B8 n),(7,C4 (List Str) 1 strsC fs),(11,C4 Str 1 I0 names),(12,C4 (List Int) 1 intsC ids),(13,B8 L),(14,.s (.one (.mut 14))),(15,.s (.one (.mut 15))),(17,B8 p),(18,C4 Change 4 changeC sc),(19,B8 k)],(4,.box [.p (.v (.int .i64 0)),.p (.v (.slice none 0 0))])::(14,.arr Int 1 B72 (B60 (l6 · (V6 p)) m0 k))::(15,.tarr (L+1) 1 (V5 (L+1) (L+1) z))::Q9 intsC (s p).2 (List.range (L+1)))) (fun k=>k≤L) (fun k=>L - k) 0 (Nat.zero_le _) ?_ ?_
       ·rw [H66,hm0]
        exact J64 ⟨⟨_,rfl,.same _⟩,⟨_,rfl,.same _⟩,⟨_,rfl,.same _⟩,⟨_,rfl,.same _⟩,⟨_,rfl,.same _⟩,⟨_,rfl,.same _⟩,⟨_,rfl,.same _⟩,⟨_,rfl,.same _⟩,⟨_,rfl,.same _⟩,⟨_,rfl,.same _⟩,⟨_,rfl,.same _⟩,trivial⟩ (fun _ _ h=>h)
       intro k hk
       dsimp only at hk ⊢
       refine k2 (k2 (A2 (A3 Z Z (A3 Z Z (E1 Z Z Z (A4 ?_))))));refine k1 ?_;refine B3 rfl (fun ht=>?_) (fun ht=>?_)
       ·have hkl:k < m0.length:=by have:=A0 ht;omega
        have hget:=I81 (l6 · (V6 p)) m0 k hkl
        have hset:=I82 (l6 · (V6 p)) m0 k hkl
        have hml':=G19 (l6 · (V6 p)) m0 k
        refine k5 (k1 (k2 (k3 (A2 (A3 Z Z (A3 Z Z (A3 Z Z (A3 Z Z (A6 (F7 Z Z Z (by omega) (by (rw [hml'];omega))) Z ?_)))))))));refine A6 (Q2 Z Z hget Z) Z (A3 Z Z (A6 (O0 Z) Z (A6 (I04 Z Z (by (exact hbit))) Z ?_)));refine A6 (r9 Z Z Z (fun _=>rfl)) Z (A6 (F7 Z Z Z (by omega) (by (rw [hml'];omega))) Z ?_);refine E2 (I9 TySz.out Z Z (by (rw [hml'];exact hkl)) Z Z) ?_;refine A4 ?_;refine k4 (k1 (A2 (A3 Z Z (C7 Z Z Z (A7 Z Z (A4 ?_))))));refine k1 ?_;refine ⟨k+1,by omega,by omega,?_⟩
        rw [←hset]
        exact J64 ⟨⟨_,rfl,.same _⟩,⟨_,rfl,.same _⟩,⟨_,rfl,.same _⟩,⟨_,rfl,.same _⟩,⟨_,rfl,.same _⟩,⟨_,rfl,.same _⟩,⟨_,rfl,.same _⟩,⟨_,rfl,.same _⟩,⟨_,rfl,.same _⟩,⟨_,rfl,.same _⟩,⟨_,rfl,.eq (by simp)⟩,trivial⟩ (F50 rfl trivial trivial)
       ·have hkL:k=m0.length:=by have:=A1 ht;omega
        rw [hkL,H67]
        clear hkL ht hk k
        obtain ⟨m1,hm1⟩:∃m1,m1=m0.map (l6 · (V6 p)):=⟨_,rfl⟩
        have hm1l:m1.length=L:=by rw [hm1,K13,hm0l]
        rw [←hm1]
        refine k6 (k2 (A2 (A3 Z Z (A3 Z Z (A3 Z Z (C7 Z Z Z (A6 (A8 Z (.pure _ _ _ _) Z (by omega) (by rw [show ((p:Int)+1).toNat=p+1 by omega];exact hv1)) Z ?_)))))));refine A6 (B1 Z Z) Z (D9 Z Z (C2 (C60 sc file.length (by omega) (by omega) (fun c hc=>by have:=hwb c hc;omega)) Z Z Z ?_));rintro _ rfl;refine A7 Z Z (A4 ?_)
        rw [hmw]
        obtain ⟨ps,hps⟩:∃ps,ps=H1 0 0 file base:=⟨_,rfl⟩
        rw [←hps] at hwg hwl hmw ⊢
        refine k1 (k2 (k2 (A2 (A7 Z Z (A4 ?_)))));refine k1 (k3 ?_)
        have hcl:∀k,((ps.take k).foldl (Q7 p) m1).length=L:=fun k=>by
         have key:∀(l:List Span) (ms:List Int),(l.foldl (Q7 p) ms).length=ms.length:=by
          intro l;induction l with
          | nil=>intro ms;rfl
          | cons x r ih=>intro ms;rw [K23,ih];simp [Q7]
         rw [key,hm1l]
        refine D1 (X:=Nat) (fun k=>([(4,.s (.one (.ref 4 0))),(6,B8 n),(7,C4 (List Str) 1 strsC fs),(11,C4 Str 1 I0 names),(12,C4 (List Int) 1 intsC ids),(13,B8 L),(14,.s (.one (.mut 14))),(15,.s (.one (.mut 15))),(17,B8 p),(18,C4 Change 4 changeC sc),(20,C4 Span 2 spanC ps),(21,B8 k)],(4,.box [.p (.v (.int .i64 0)),.p (.v (.slice none 0 0))])::(14,.arr Int 1 B72 ((ps.take k).foldl (Q7 p) m1))::(15,.tarr (L+1) 1 (V5 (L+1) (L+1) z))::Q9 intsC (s p).2 (List.range (L+1)))) (fun k=>k≤ps.length) (fun k=>ps.length - k) 0 (Nat.zero_le _) ?_ ?_
        ·exact J64 ⟨⟨_,rfl,.same _⟩,⟨_,rfl,.same _⟩,⟨_,rfl,.same _⟩,⟨_,rfl,.same _⟩,⟨_,rfl,.same _⟩,⟨_,rfl,.same _⟩,⟨_,rfl,.same _⟩,⟨_,rfl,.same _⟩,⟨_,rfl,.same _⟩,⟨_,rfl,.same _⟩,⟨_,rfl,.same _⟩,⟨_,rfl,.same _⟩,trivial⟩ (fun _ _ h=>h)
        intro k hk
        dsimp only at hk ⊢
        refine k2 (k2 (A2 (A3 Z Z (A3 Z Z (D9 Z Z (E1 Z Z Z (A4 ?_)))))));refine k1 ?_;refine B3 rfl (fun ht=>?_) (fun ht=>?_)
        ·have hkl:k < ps.length:=by have:=A0 ht;omega
         have hpv:ps[k]?=some ps[k]:=by simp [hkl]
         have hpb:=hwg ps[k] (J96 hkl)
         have hclk:=hcl k
         have hlt2:ps[k].To.toNat < ((ps.take k).foldl (Q7 p) m1).length:=by omega
         have hget:((ps.take k).foldl (Q7 p) m1)[ps[k].To.toNat]?=some (((ps.take k).foldl (Q7 p) m1).getD ps[k].To.toNat 0):=by rw [J91,J88 hlt2];rfl
         have hset:(ps.take (k+1)).foldl (Q7 p) m1=((ps.take k).foldl (Q7 p) m1).set ps[k].To.toNat (clrBit (((ps.take k).foldl (Q7 p) m1).getD ps[k].To.toNat 0) (V6 p)):=by
          rw [J93 hkl,K26];rfl
         refine k5 (k1 (k2 (k3 (C5 (by kernel_rfl) (by kernel_rfl) (C3 Z Z (C3 Z Z (C3 Z Z (A9 (A8 Z (.pure _ _ _ _) Z (by omega) hpv) Z Z (A9 (C1 Z) Z Z (A9 (B1 Z Z) Z Z (C3 Z Z (C3 Z Z (C3 Z Z (A9 (A8 Z (.pure _ _ _ _) Z (by omega) hpv) Z Z (A9 (C1 Z) Z Z (A9 (B1 Z Z) Z Z (A9 (F7 Z Z Z (by omega) (by omega)) Z Z (A9 (Q2 Z Z hget Z) Z Z (C3 Z Z (A9 (O0 Z) Z Z (A9 (I04 Z Z (by (exact hbit))) Z Z ?_)))))))))))))))))))));refine A9 (r9 Z Z Z (fun _=>rfl)) Z Z (A9 (F7 Z Z Z (by omega) (by omega)) Z Z (o6 (I9 TySz.out Z Z (by (exact hlt2)) Z Z) Z ?_));refine G5 ?_;refine k4 (k1 (A2 (A3 Z Z (C7 Z Z Z (A7 Z Z (A4 ?_))))));refine k1 ?_;refine ⟨k+1,by omega,by omega,?_⟩
         rw [hset]
         exact J64 ⟨⟨_,rfl,.same _⟩,⟨_,rfl,.same _⟩,⟨_,rfl,.same _⟩,⟨_,rfl,.same _⟩,⟨_,rfl,.same _⟩,⟨_,rfl,.same _⟩,⟨_,rfl,.same _⟩,⟨_,rfl,.same _⟩,⟨_,rfl,.same _⟩,⟨_,rfl,.same _⟩,⟨_,rfl,.same _⟩,⟨_,rfl,.eq (by simp)⟩,trivial⟩ (F50 rfl trivial trivial)
        ·have hkL:k=ps.length:=by have:=A1 ht;omega
         rw [hkL,J98]
         clear hkL ht hk k
         have hcl':=hcl ps.length
         rw [J98] at hcl'
         clear hcl
         obtain ⟨m2,hm2⟩:∃m2,m2=ps.foldl (Q7 p) m1:=⟨_,rfl⟩
         rw [←hm2] at hcl' ⊢
         have hgl:∀k q,((sc.take k).foldl (V8 p file) (s p).2 q).length=n:=fun k q=>(B37 hfB (sc.take k) hsp.gaps q).1
         refine k6 (k2 (A2 (A7 Z Z (A4 ?_))));refine k1 (k3 ?_);refine D1 (X:=Nat) (fun k=>([(4,.s (.one (.ref 4 0))),(6,B8 n),(7,C4 (List Str) 1 strsC fs),(11,C4 Str 1 I0 names),(12,C4 (List Int) 1 intsC ids),(13,B8 L),(14,.s (.one (.mut 14))),(15,.s (.one (.mut 15))),(17,B8 p),(18,C4 Change 4 changeC sc),(22,B8 k)],(4,.box [.p (.v (.int .i64 0)),.p (.v (.slice none 0 0))])::(14,.arr Int 1 B72 m2)::(15,.tarr (L+1) 1 (V5 (L+1) (L+1) z))::Q9 intsC ((sc.take k).foldl (V8 p file) (s p).2) (List.range (L+1)))) (fun k=>k≤sc.length) (fun k=>sc.length - k) 0 (Nat.zero_le _) ?_ ?_
         ·exact J64 ⟨⟨_,rfl,.same _⟩,⟨_,rfl,.same _⟩,⟨_,rfl,.same _⟩,⟨_,rfl,.same _⟩,⟨_,rfl,.same _⟩,⟨_,rfl,.same _⟩,⟨_,rfl,.same _⟩,⟨_,rfl,.same _⟩,⟨_,rfl,.same _⟩,⟨_,rfl,.same _⟩,⟨_,rfl,.same _⟩,trivial⟩ (fun _ _ h=>h)
         intro k hk
         dsimp only at hk ⊢
         refine k2 (k2 (A2 (A3 Z Z (A3 Z Z (D9 Z Z (E1 Z Z Z (A4 ?_)))))));refine k1 ?_;refine B3 rfl (fun ht=>?_) (fun ht=>?_)
         ·have hkl:k < sc.length:=by have:=A0 ht;omega
          have hcv:sc[k]?=some sc[k]:=by simp [hkl]
          have hcb:=hwb sc[k] (J96 hkl)
          have hgk:=hgl k sc[k].New.toNat
          have hN:sc[k].New.toNat < L+1:=by omega
          have hrow:(V5 (L+1) (L+1) z)[sc[k].New.toNat]?=some (.mut (sc[k].New.toNat+1000)):=I80 hN
          have hrl:(V5 (L+1) (L+1) z).length=L+1:=C92
          have hob:D4 ((4,.box [.p (.v (.int .i64 0)),.p (.v (.slice none 0 0))])::(14,.arr Int 1 B72 m2)::(15,.tarr (L+1) 1 (V5 (L+1) (L+1) z))::Q9 intsC ((sc.take k).foldl (V8 p file) (s p).2) (List.range (L+1))) (sc[k].New.toNat+1000)=some (.arr (List Int) 1 intsC ((sc.take k).foldl (V8 p file) (s p).2 sc[k].New.toNat)):=by
           rw [B7 (by omega),B7 (by omega),B7 (by omega)]
           exact C11 (List.mem_range.2 hN)
          have hnew:((sc.take k).foldl (V8 p file) (s p).2 sc[k].New.toNat).set p ((file.drop sc[k].Old.toNat).take ((sc[k].Old+sc[k].OldLen).toNat - sc[k].Old.toNat))=(sc.take (k+1)).foldl (V8 p file) (s p).2 sc[k].New.toNat:=by
           rw [J93 hkl,K26]
           show _=V8 p file _ sc[k] _
           rw [V8,if_pos rfl]
          have hsame:∀q,q≠sc[k].New.toNat→(sc.take (k+1)).foldl (V8 p file) (s p).2 q=(sc.take k).foldl (V8 p file) (s p).2 q:=by
           intro q hq
           rw [J93 hkl,K26]
           show V8 p file _ sc[k] _=_
           rw [V8,if_neg hq]
          refine k5 (k1 (k2 (k3 (C5 (by kernel_rfl) (by kernel_rfl) (C3 Z Z (C3 Z Z (C3 Z Z (A9 (A8 Z (.pure _ _ _ _) Z (by omega) hcv) Z Z (A9 (C1 Z) Z Z (A9 (B1 Z Z) Z Z (A9 (H6 Z Z Z (by omega) (by omega)) Z Z (A9 (N4 Z Z hrow) Z Z (C3 Z Z (C3 Z Z (C3 Z Z (A9 (L4 Z Z (by omega)) Z Z (A9 (A8 Z (.pure _ _ _ _) Z (by omega) (by rw [show ((p:Int)+1).toNat=p+1 by omega];exact hv1)) Z Z ?_)))))))))))))))));refine A9 (B1 Z Z) Z Z (C3 Z Z (C3 Z Z (A9 (A8 Z (.pure _ _ _ _) Z (by omega) hcv) Z Z (A9 (C1 Z) Z Z (A9 (B1 Z Z) Z Z (C3 Z Z (C3 Z Z (A9 (A8 Z (.pure _ _ _ _) Z (by omega) hcv) Z Z (A9 (C1 Z) Z Z (A9 (B1 Z Z) Z Z (C3 Z Z (C3 Z Z (A9 (A8 Z (.pure _ _ _ _) Z (by omega) hcv) Z Z (A9 (C1 Z) Z Z (A9 (B1 Z Z) Z Z (A9 (L4 Z Z (by omega)) Z Z (A9 (T6 Z (.pure _ _ _ _) Z Z (by omega) (by omega) (by omega)) Z Z (A9 (F7 Z hob Z (by omega) (by omega)) Z Z (o6 (I9 TySz.out Z hob (by omega) Z Z) Z (G5 ?_))))))))))))))))))));refine k4 (k1 (A2 (A3 Z Z (C7 Z Z Z (A7 Z Z (A4 ?_))))));refine k1 ?_;refine ⟨k+1,by omega,by omega,?_⟩
          refine J64 ⟨⟨_,rfl,.same _⟩,⟨_,rfl,.same _⟩,⟨_,rfl,.same _⟩,⟨_,rfl,.same _⟩,⟨_,rfl,.same _⟩,⟨_,rfl,.same _⟩,⟨_,rfl,.same _⟩,⟨_,rfl,.same _⟩,⟨_,rfl,.same _⟩,⟨_,rfl,.same _⟩,⟨_,rfl,.eq (by simp)⟩,trivial⟩ ?_
          show ∀k' o,_→D4 ((sc[k].New.toNat+1000,.arr (List Int) 1 intsC (((sc.take k).foldl (V8 p file) (s p).2 sc[k].New.toNat).set p ((file.drop sc[k].Old.toNat).take ((sc[k].Old+sc[k].OldLen).toNat - sc[k].Old.toNat))))::((4,.box [.p (.v (.int .i64 0)),.p (.v (.slice none 0 0))])::(14,.arr Int 1 B72 m2)::(15,.tarr (L+1) 1 (V5 (L+1) (L+1) z))::Q9 intsC ((sc.take k).foldl (V8 p file) (s p).2) (List.range (L+1)))) k'=some o
          rw [hnew]
          exact J13 (pre:=[(4,.box [.p (.v (.int .i64 0)),.p (.v (.slice none 0 0))]),(14,.arr Int 1 B72 m2),(15,.tarr (L+1) 1 (V5 (L+1) (L+1) z))]) rfl (List.mem_range.2 hN) hsame
         ·have hkL:k=sc.length:=by have:=A1 ht;omega
          rw [hkL,J98]
          have hs1:s (p+1)=(m2,sc.foldl (V8 p file) (s p).2):=by
           have e:A12 ids (s p) p=((M8 (V7 (ids.getD (p+1) []) (ids.getD 0 [])) (ids.getD (p+1) []).length).foldl (Q7 p) ((s p).1.map (l6 · (V6 p))),(V7 (ids.getD (p+1) []) (ids.getD 0 [])).foldl (V8 p (ids.getD (p+1) [])) (s p).2):=rfl
           rw [hstep,e,←hfile,←hbase,←hsc,hmw,←hm0,←hm1,←hm2]
          refine k6 (k7 (k7 (k8 Z (k4 (k1 (A2 (A3 Z Z (C7 Z Z Z (A7 Z Z (A4 ?_))))))))));refine k1 ?_;refine ⟨p+1,by omega,by omega,?_⟩
          rw [hs1]
          exact J64 ⟨⟨_,rfl,.same _⟩,⟨_,rfl,.same _⟩,⟨_,rfl,.same _⟩,⟨_,rfl,.same _⟩,⟨_,rfl,.same _⟩,⟨_,rfl,.same _⟩,⟨_,rfl,.same _⟩,⟨_,rfl,.same _⟩,⟨_,rfl,.eq (by simp)⟩,trivial⟩ (fun _ _ h=>h)
      ·have hpn:p=n:=by have:=A1 ht;omega
       rw [hpn] at hsp ⊢
       clear hpn ht hp p
       obtain ⟨ms,hms⟩:∃ms,ms=(s n).1:=⟨_,rfl⟩
       obtain ⟨g,hg⟩:∃g,g=(s n).2:=⟨_,rfl⟩
       refine O9 [(4,.s (.one (.ref 4 0))),(6,B8 n),(7,C4 (List Str) 1 strsC fs),(11,C4 Str 1 I0 names),(13,B8 L),(14,.s (.one (.mut 14))),(15,.s (.one (.mut 15)))] ([(4,.box [.p (.v (.int .i64 0)),.p (.v (.slice none 0 0))]),(14,.arr Int 1 B72 ms)]++((15,.tarr (L+1) 1 (Z1 intsC (L+1) 0 g))::Q9 intsC g (List.range (L+1)))) ?_ ?_
       ·rw [hms,hg,←H42 (z:=z)]
        exact J64 ⟨⟨_,rfl,.same _⟩,⟨_,rfl,.same _⟩,⟨_,rfl,.same _⟩,⟨_,rfl,.same _⟩,⟨_,rfl,.same _⟩,⟨_,rfl,.same _⟩,⟨_,rfl,.same _⟩,trivial⟩ (fun _ _ h=>h)
       refine G4 (J81 (by omega) rfl rfl (fun r _=>?_) (fun r _=>rfl)) ?_
       ·simp only [I1,SV.free,S1.free,TC.free,M9 (show 4≠r+1000 by omega),M9 (show 14≠r+1000 by omega),M9 (show 15≠r+1000 by omega)];rfl
       obtain ⟨gs,hgs⟩:∃gs,gs=(List.range (L+1)).map g:=⟨_,rfl⟩
       rw [←hgs]
       refine G4 (Sees.freeze (k:=14) Z) ?_
       refine G4 (Sees.freeze (k:=15) Z) ?_
       refine O9 [(4,.s (.one (.ref 4 0))),(6,B8 n),(7,C4 (List Str) 1 strsC fs),(11,C4 Str 1 I0 names),(13,B8 L),(14,C4 Int 1 B72 ms),(15,C4 (List (List Int)) 1 intssC gs)] [(4,.box [.p (.v (.int .i64 0)),.p (.v (.slice none 0 0))])] (J58 ⟨le1 rfl,le1 rfl,le1 rfl,le1 rfl,le1 rfl,le1 rfl,le1 rfl,trivial⟩ ⟨rfl,trivial⟩) ?_
       obtain ⟨f0,hf0'⟩:∃f0,f0=D5 result:=⟨_,rfl⟩
       rw [←hf0'] at hL hf0 hmk
       obtain ⟨R,hR⟩:∃R:Nat→List Row,R=fun k=>A42 names f0 (s n) k:=⟨_,rfl⟩
       obtain ⟨F,hF⟩:∃F:Merged→Row,F=fun m=>⟨true,m.Parents,names.getD m.Line.toNat []⟩:=⟨_,rfl⟩
       have hcs:∀k,(L3 (g k)).1.length≤6400∧∀m∈(L3 (g k)).1,(0≤m.Parents∧m.Parents < 4294967296)∧0≤m.Line∧m.Line < (names.length:Int):=fun k=>by
        have h2:=hsp.gaps k
        have h3:=C42 (fun v=>0≤v∧v < (names.length:Int)) 200 (g k) (by rw [hg];exact h2.2)
        rw [show (g k).length=n by rw [hg];exact h2.1] at h3
        exact ⟨by omega,h3.2⟩
       have hR1:∀k,R (k+1)=R k++((L3 (g k)).1.map F++(if k < f0.length then [⟨false,ms.getD k 0,f0.getD k []⟩] else [])):=fun k=>by
        rw [hR];dsimp only;rw [D85,A13,hF,hg,hms]
       have hRl:∀k,(R k).length≤k*6401:=fun k=>by
        induction k with
        | zero=>rw [hR];simp [A42]
        | succ k ih=>rw [hR1];have:=(hcs k).1;simp only [J86,K13];split<;>simp<;>omega
       have hmsl:ms.length=L:=by rw [hms];exact hsp.len
       refine k6 (k2 (A2 (A3 Z Z (A6 (E6 Z) Z (C0 (F4 23 Z) Z (E2 (B6 TySz.out Z Z Z Z Z Z) (A4 ?_)))))));refine k1 (k2 (k2 (A2 (A7 Z Z (A4 ?_)))));refine k1 (k3 (G4 (J61 88 Row 3 rowC 69 (kb:=23) (o:=1) Z Z Z) ?_))
       refine D1 (X:=Nat) (fun k=>([(4,.s (.one (.ref 4 0))),(6,B8 n),(7,C4 (List Str) 1 strsC fs),(11,C4 Str 1 I0 names),(13,B8 L),(14,C4 Int 1 B72 ms),(15,C4 (List (List Int)) 1 intssC gs),(23,.s (.one (.ref 23 0))),(24,B8 k)],[(4,.box [.p (.v (.int .i64 0)),.p (.v (.slice none 0 0))]),(23,.box [.p (.v (.int .i64 n)),.buf 88 Row 3 rowC (R k)]),(88,.spare (R k).length 3 69)])) (fun k=>k≤L+1∧∀q,q < k→(L3 (g q)).2=0) (fun k=>L+1 - k) 0 ⟨Nat.zero_le _,fun q hq=>by omega⟩ (by rw [show R 0=[] by rw [hR];rfl];exact J58 ⟨le1 rfl,le1 rfl,le1 rfl,le1 rfl,le1 rfl,le1 rfl,le1 rfl,le1 rfl,le1 rfl,trivial⟩ ⟨rfl,rfl,rfl,trivial⟩) ?_
       rintro k ⟨hk,hz0⟩
       dsimp only at hk hz0 ⊢
       have hRk:=hRl k
       refine k2 (k2 (A2 (A3 Z Z (A3 Z Z (A6 (t8 Z Z) Z (A4 ?_))))));refine k1 ?_;refine B3 rfl (fun ht=>?_) (fun ht=>?_)
       ·have hlt:k < L+1:=by have:=A0 ht;omega
        have hgv:gs[k]?=some (g k):=by rw [hgs,K15,K22 hlt];rfl
        have hck:=hcs k
        refine k5 (k1 (k2 (k3 (k2 (A2 (A3 Z Z (A3 Z Z (A6 (A8 Z (.pure _ _ _ _) Z (by omega) hgv) Z (A6 (B1 Z Z) Z (C2 (G70 (g k)) Z Z Z ?_))))))))));rintro _ rfl;refine A3 Z Z (F5 Z Z Z (F5 Z Z Z (A7 Z Z (A7 Z Z (A4 ?_)))))
        obtain ⟨l,hl⟩:∃l,l=(L3 (g k)).1:=⟨_,rfl⟩
        obtain ⟨e,he⟩:∃e,e=(L3 (g k)).2:=⟨_,rfl⟩
        rw [←hl,←he]
        rw [←hl] at hck
        refine k1 (k2 (k2 (A2 (A3 Z Z (A6 (H9 Z Z) Z (A4 ?_))))));refine k1 ?_;refine B3 rfl (fun ht=>?_) (fun ht=>?_)
        ·have hne:=A0 ht
         refine k2 (A2 (A6 (E6 Z) Z (E2 (B6 TySz.out Z Z Z Z Z Z) (A7 Z Z (A4 ?_)))));refine k1 (G4 (J59 Row 3 rowC 4 1 Z Z) ?_)
         refine k10 (k11 (k12 (k11 (k11 (k12 (k11 ?_))))))
         exact B4 (rs:=[pTable ⟨0,[]⟩,E5 1]) (O5 rfl rfl rfl rfl rfl rfl rfl) (by rw [hmk,if_pos];refine ⟨k,by omega,?_⟩;rw [←hnames,←hids,←hL];rw [hg,hs] at he;dsimp only at he;rw [←he];exact hne)
        ·have he0:e=0:=by simpa using A1 ht
         refine k5 (k1 (k2 (k2 (A2 (A7 Z Z (A4 ?_))))));refine k1 (k3 (D1 (X:=Nat) (fun i=>([(4,.s (.one (.ref 4 0))),(6,B8 n),(7,C4 (List Str) 1 strsC fs),(11,C4 Str 1 I0 names),(13,B8 L),(14,C4 Int 1 B72 ms),(15,C4 (List (List Int)) 1 intssC gs),(23,.s (.one (.ref 23 0))),(24,B8 k),(25,C4 Merged 2 mergedC l),(27,B8 i)],[(4,.box [.p (.v (.int .i64 0)),.p (.v (.slice none 0 0))]),(23,.box [.p (.v (.int .i64 n)),.buf 88 Row 3 rowC (R k++(l.take i).map F)]),(88,.spare (R k++(l.take i).map F).length 3 69)])) (fun i=>i≤l.length) (fun i=>l.length - i) 0 (Nat.zero_le _) (by have e0:R k++(l.take 0).map F=R k:=(by simp);dsimp only;rw [e0];exact J58 ⟨le1 rfl,le1 rfl,le1 rfl,le1 rfl,le1 rfl,le1 rfl,le1 rfl,le1 rfl,le1 rfl,le1 rfl,le1 rfl,trivial⟩ ⟨rfl,rfl,rfl,trivial⟩) ?_))
         intro i hi
         dsimp only at hi ⊢
         have hil:(R k++(l.take i).map F).length≤k*6401+6400:=by simp only [J86,K13,K03];omega
         refine k2 (k2 (A2 (A3 Z Z (A3 Z Z (D9 Z Z (E1 Z Z Z (A4 ?_)))))));refine k1 ?_;refine B3 rfl (fun ht=>?_) (fun ht=>?_)
         ·have hli:i < l.length:=by have:=A0 ht;omega
          have hlv:l[i]?=some l[i]:=by simp [hli]
          have hlb:=hck.2 l[i] (J96 hli)
          have hnv:names[l[i].Line.toNat]?=some (names.getD l[i].Line.toNat []):=by rw [J91,J88 (by omega)];rfl
          have hFi:F l[i]=⟨true,l[i].Parents,names.getD l[i].Line.toNat []⟩:=by rw [hF]
          refine k5 (k1 (k2 (k3 (C5 (by kernel_rfl) (by kernel_rfl) (A9 (A5 Z) Z Z (A9 (B2 Z Z Z) Z Z (C3 Z Z (C3 Z Z (A9 (A8 Z (.pure _ _ _ _) Z (by omega) hlv) Z Z (A9 (C1 Z) Z Z (A9 (B1 Z Z) Z Z (C3 Z Z (C3 Z Z (C3 Z Z (A9 (A8 Z (.pure _ _ _ _) Z (by omega) hlv) Z Z (A9 (C1 Z) Z Z (A9 (B1 Z Z) Z Z (A9 (A8 Z (.pure _ _ _ _) Z (by omega) hnv) Z Z (A9 (B1 Z Z) Z Z (A9 (E6 Z) Z Z (A9 (C9 (c:=rowC) (ys:=[⟨true,l[i].Parents,names.getD l[i].Line.toNat []⟩]) (D8 Z Z Z Z F1) Z Z Z) Z Z (A96 (F8 Z Z Z (.pure _ _ _ _) (by (simp only [J87,J89];omega)) Z) Z Z (A9 (A5 Z) Z Z ?_)))))))))))))))))))))));refine o6 (B6 TySz.out Z Z Z Z Z Z) Z (G5 ?_);refine k4 (k1 (A2 (A3 Z Z (C7 Z Z Z (A7 Z Z (A4 ?_))))));refine k1 ?_;refine ⟨i+1,by omega,by omega,?_⟩
          have e1:R k++(l.take (i+1)).map F=R k++(l.take i).map F++[⟨true,l[i].Parents,names.getD l[i].Line.toNat []⟩]:=by rw [J93 hli,K00,J95,K17,←K01,hFi]
          rw [e1]
          exact J58 ⟨le1 rfl,le1 rfl,le1 rfl,le1 rfl,le1 rfl,le1 rfl,le1 rfl,le1 rfl,le1 rfl,le1 rfl,le1 rfl,trivial⟩ ⟨rfl,rfl,rfl,trivial⟩
         ·have hli:i=l.length:=by have:=A1 ht;omega
          rw [hli,J98] at hil ⊢
          refine k6 (k2 (A2 (A3 Z Z (A3 Z Z (E1 Z Z Z (A4 ?_))))));refine k1 ?_;refine B3 rfl (fun ht=>?_) (fun ht=>?_)
          ·have hkL:k < f0.length:=by have:=A0 ht;omega
           have hmv:ms[k]?=some (ms.getD k 0):=by rw [J91,J88 (by omega)];rfl
           have hfv:f0[k]?=some (f0.getD k []):=by rw [J91,J88 (by omega)];rfl
           have hR2:=hR1 k
           rw [if_pos hkL,←hl,←K01] at hR2
           skip
           refine C5 (by kernel_rfl) (by kernel_rfl) (A9 (A5 Z) Z Z (A9 (B2 Z Z Z) Z Z (C3 Z Z (C3 Z Z (A9 (A8 Z (.pure _ _ _ _) Z (by omega) hmv) Z Z (A9 (B1 Z Z) Z Z (C3 Z Z (A9 (A8 Z (.pure _ _ _ _) Z (by omega) hf0) Z Z (A9 (B1 Z Z) Z Z (C3 Z Z (A9 (A8 Z (.pure _ _ _ _) Z (by omega) hfv) Z Z (A9 (B1 Z Z) Z Z (A9 (E6 Z) Z Z (A9 (C9 (c:=rowC) (ys:=[⟨false,ms.getD k 0,f0.getD k []⟩]) (D8 Z Z Z Z F1) Z Z Z) Z Z (A96 (F8 Z Z Z (.pure _ _ _ _) (by (simp only [J87,J89];omega)) Z) Z Z (A9 (A5 Z) Z Z (o6 (B6 TySz.out Z Z Z Z Z Z) Z (G5 ?_))))))))))))))))));refine k4 (k1 (A2 (A3 Z Z (C7 Z Z Z (A7 Z Z (A4 ?_))))));refine k1 ?_;refine ⟨k+1,⟨by omega,fun q hq=>?_⟩,by omega,?_⟩
           ·by_cases h2:q=k
            ·rw [h2,←he,he0]
            ·exact hz0 q (by omega)
           rw [hR2]
           exact J58 ⟨le1 rfl,le1 rfl,le1 rfl,le1 rfl,le1 rfl,le1 rfl,le1 rfl,le1 rfl,le1 rfl,trivial⟩ ⟨rfl,rfl,rfl,trivial⟩
          ·have hkL:¬k < f0.length:=by have:=A1 ht;omega
           have hR2:=hR1 k
           rw [if_neg hkL,←hl,K06] at hR2
           refine k5 (k4 (k1 (A2 (A3 Z Z (C7 Z Z Z (A7 Z Z (A4 ?_)))))));refine k1 ?_;refine ⟨k+1,⟨by omega,fun q hq=>?_⟩,by omega,?_⟩
           ·by_cases h2:q=k
            ·rw [h2,←he,he0]
            ·exact hz0 q (by omega)
           rw [hR2]
           exact J58 ⟨le1 rfl,le1 rfl,le1 rfl,le1 rfl,le1 rfl,le1 rfl,le1 rfl,le1 rfl,le1 rfl,trivial⟩ ⟨rfl,rfl,rfl,trivial⟩
       ·have hkL:k=L+1:=by have:=A1 ht;omega
        refine k6 (k2 (A2 (A6 (C6 Z Z Z) Z (E2 (B6 TySz.out Z Z Z Z Z Z) (A7 Z Z (A4 ?_))))));refine k1 (k10 (B4 (rs:=[pTable ⟨n,R k⟩,E5 0]) (O5 Z Z Z Z Z Z Z) ?_))
        have hno:¬∃q,q < f0.length+1∧(L3 ((B01 (fs.map (F0 (D2 fs))) f0.length n n).2 q)).2≠0:=by
         rintro ⟨q,hq1,hq2⟩
         refine hq2 ?_
         have:=hz0 q (by omega)
         rw [hg,hs,hids,hnames,hL] at this
         exact this
        rw [hmk,if_neg hno,hkL,hR,hs,hids,hnames,hL]
theorem H68 {rows:List Row} (h:I2 rows) (i:Nat):I2 (rows.take i):=fun r hr=>h r (List.mem_of_mem_take hr)
theorem I24 {n:Nat} {rows:List Row} {sp:List Span} {hs:List CHunk} (hn:n≤32) (hr:I2 rows) (hW:(rows.map T5).sum≤8388608) (h:A48 n rows 0 [] sp=some hs):szC hs≤268435456∧∀x∈hs,I2 x.Rows:=by
 have h1:=I32 T5 2081 n rows sp 0 [] hs (Int.le_refl _) h (by simp) (by simp)
 have h2:=F07 hr sp 0 [] hs h (fun x hx=>by cases hx)
 have hl:=W3 rows
 refine ⟨?_,fun x hx=>(h2 x hx).2⟩
 have h3:szC hs=(hs.map fun h=>(2048+h.At.length)+(h.Rows.map T5).sum).sum:=rfl
 have h4:szC hs≤(hs.map fun h=>2081+(h.Rows.map T5).sum).sum:=by
  rw [h3]
  clear h h1 h3
  induction hs with
  | nil=>simp
  | cons x r ih =>
   have h5:=(h2 x (by simp)).1
   have h6:=ih fun y hy=>h2 y (by simp [hy])
   rw [J95,K11,J95,K11]
   omega
 have h5:=h1.2
 simp only [J89] at h5
 have h6:=h1.1
 omega
theorem G92 {path:Str} {t:Table} {sp:List Span} {d:Bool} (hr:I2 t.Rows) (hW:(t.Rows.map T5).sum≤8388608):szC (A78 path t sp d).1.Hunks≤268435456∧∀x∈(A78 path t sp d).1.Hunks,I2 x.Rows:=by
 have h0:szC comb0.Hunks≤268435456∧∀x∈comb0.Hunks,I2 x.Rows:=⟨by decide,fun x hx=>by cases hx⟩
 unfold A78
 split
 ·exact h0
 ·split
  ·exact h0
  ·rename_i hc
   cases hg:A48 t.Parents.toNat t.Rows 0 [] sp with
   | none=>exact h0
   | some hs =>
    dsimp only
    split
    ·exact h0
    ·refine I24 ?_ hr hW hg
     unfold M6 at hc
     split at hc
     ·exact absurd hc (by decide)
     ·omega
theorem G93 {t:Table} (h:M6 t=0):1≤t.Parents∧t.Parents≤32:=by
 unfold M6 at h
 split at h
 ·cases h
 ·omega
theorem G94 (rows:List Row) (n p:Nat):(List.range (p+1)).map (U2 rows n)=(List.range p).map (U2 rows n)++[U2 rows n p]:=by rw [K30,K00];rfl
set_option maxHeartbeats 1000000
theorem I25 (path:Str) (t:Table) (sp:List Span) (d:Bool) (hr:I2 t.Rows) (hW:(t.Rows.map T5).sum≤8388608) (hx:N7 t.Rows≤8388608) (hsp:sp.length≤536870912) :
  FnOk Tryz.prog 84 [L6 path,pTable t,pSpans sp,I8 d] (fun rs=>rs=[S5 (A78 path t sp d).1,E5 (A78 path t sp d).2]):=by
 have hl:=W3 t.Rows
 have hll:t.Rows.length≤8388608:=by omega
 refine FnOk.intro Tryz.func84 (by decide) Z Z Z Z ?_
 refine k2 (A2 (C0 (M2 5 Z Z Z) Z (C0 (F4 8 Z) Z (A7 Z Z (A4 ?_)))));refine k1 (k2 (k2 (A2 (A3 Z Z (C2 (A31 path) Z Z Z ?_)))));rintro _ rfl;refine L7 Z Z (A4 ?_);refine k1 ?_;refine B3 rfl (fun ht=>?_) (fun ht=>?_)
 ·have h:J1 path=false:=by simpa using ht
  refine k2 (A2 (A6 (E6 Z) Z (E2 (B6 TySz.out Z Z Z Z Z Z) (A7 Z Z (A4 ?_)))));refine k1 (G4 (J59 CHunk 2 S4 8 3 Z Z) ?_)
  refine k10 (k11 ?_)
  exact B4 (rs:=[S5 comb0,E5 120]) (O5 rfl rfl rfl rfl rfl rfl rfl) (by unfold A78;rw [if_pos h])
 have h:J1 path=true:=by simpa using ht
 refine k5 (k1 (k2 (k2 (A2 (A6 (C6 Z Z Z) Z (C2 (C64 t hr (by omega) (by omega)) Z Z Z ?_))))));rintro _ rfl;refine A7 Z Z (A4 ?_);refine k1 (k2 (A2 (A3 Z Z (A6 (H9 Z Z) Z (A4 ?_)))));refine k1 ?_;refine B3 rfl (fun ht=>?_) (fun ht=>?_)
 ·have h1:=A0 ht
  refine k2 (A2 (A6 (E6 Z) Z (A3 Z Z (E2 (B6 TySz.out Z Z Z Z Z Z) (A7 Z Z (A4 ?_))))));refine k1 (G4 (J59 CHunk 2 S4 8 3 Z Z) ?_)
  refine k10 (k11 ?_)
  exact B4 (rs:=[S5 comb0,E5 (M6 t)]) (O5 rfl rfl rfl rfl rfl rfl rfl) (by unfold A78;rw [if_neg (by rw [h];decide),if_pos h1])
 have h1:=A1 ht
 have h10:M6 t=0:=by omega
 obtain ⟨hn1,hn2⟩:=G93 h10
 obtain ⟨n,hn⟩:∃n:Nat,t.Parents=n:=⟨t.Parents.toNat,by omega⟩
 obtain ⟨tp,rows⟩:=t
 have hn:tp=(n:Int):=hn
 subst hn
 dsimp only at hr hW hx hl hll hn1 hn2
 have hcut:A78 path ⟨n,rows⟩ sp d=match A48 n rows 0 [] sp with
  | none=>(comb0,3)
  | some hs=>if J2 ⟨path,d,(n:Int),hs⟩≠0 then (comb0,J2 ⟨path,d,(n:Int),hs⟩) else (⟨path,d,(n:Int),hs⟩,0):=by
  unfold A78;rw [if_neg (by rw [h];decide),if_neg (by omega)];rfl
 rw [hcut]
 have hno:A48 n rows 0 [] sp=none→[S5 comb0,E5 3]=[S5 (match A48 n rows 0 [] sp with
  | none=>(comb0,3)
  | some hs=>if J2 ⟨path,d,(n:Int),hs⟩≠0 then (comb0,J2 ⟨path,d,(n:Int),hs⟩) else (⟨path,d,(n:Int),hs⟩,0)).1,E5 (match A48 n rows 0 [] sp with
  | none=>(comb0,3)
  | some hs=>if J2 ⟨path,d,(n:Int),hs⟩≠0 then (comb0,J2 ⟨path,d,(n:Int),hs⟩) else (⟨path,d,(n:Int),hs⟩,0)).2]:=fun e=>by rw [e]
 obtain ⟨W,hWd⟩:∃W,W=A48 n rows 0 [] sp:=⟨_,rfl⟩
 have hcs:∀hs,W=some hs→szC hs≤268435456∧∀x∈hs,I2 x.Rows:=fun hs e=>I24 (n:=n) (by omega) hr hW (by rw [←hWd];exact e)
 rw [←hWd] at hno ⊢
 refine k5 (k1 (k2 (A2 (A3 Z Z (A3 Z Z (A6 (A5 Z) Z (D3 Z Z Z Z (A6 (E6 Z) Z (C0 (F4 11 Z) Z (E2 (B6 TySz.out Z Z Z Z Z Z) (A4 ?_)))))))))));refine G4 (J61 754 CHunk 2 S4 59 (kb:=11) (o:=3) Z Z Z) ?_
 refine k2 (A2 (A7 Z Z (A4 ?_)));refine k1 (k2 (k2 (A2 (A7 Z Z (A4 ?_)))));refine k1 (k3 (D1 (X:=Nat × Int × List CHunk) (fun x=>([(2,C4 Span 2 spanC sp),(5,.s (.one (.ref 5 0))),(8,.s (.one (.ref 8 0))),(11,.s (.one (.ref 11 0))),(12,B8 x.2.1),(13,B8 x.1)],[(5,.box (pTable ⟨n,rows⟩).s1.cells),(8,.box [.p (.v (.string ⟨#[]⟩)),.p (.v (.bool false)),.p (.v (.int .i64 0)),.p (.v (.slice none 0 0))]),(11,.box [.p (.v (.string ⟨path.toArray⟩)),.p (.v (.bool d)),.p (.v (.int .i64 n)),.buf 754 CHunk 2 S4 x.2.2]),(754,.spare x.2.2.length 2 59)])) (fun x=>x.1≤sp.length∧0≤x.2.1∧x.2.2.length≤x.1∧W=A48 n rows x.2.1 x.2.2 (sp.drop x.1)) (fun x=>sp.length - x.1) (0,0,[]) ⟨Nat.zero_le _,Int.le_refl _,Nat.le_refl _,hWd⟩ (J58 ⟨le1 rfl,le1 rfl,le1 rfl,le1 rfl,le1 rfl,le1 rfl,trivial⟩ ⟨rfl,rfl,rfl,rfl,trivial⟩) ?_))
 rintro ⟨k,e,hs⟩ ⟨hk,he,hsl,hp⟩
 dsimp only at hk he hsl hp ⊢
 refine k2 (k2 (A2 (A3 Z Z (A3 Z Z (D9 Z Z (E1 Z Z Z (A4 ?_)))))));refine k1 ?_;refine B3 rfl (fun ht=>?_) (fun ht=>?_)
 rotate_left
 ·have hkl:k=sp.length:=by have:=A1 ht;omega
  rw [hkl,J94 (Nat.le_refl _)] at hp
  have hp:W=some hs:=hp
  obtain ⟨z1,z2⟩:=hcs hs hp
  rw [hp]
  dsimp only
  refine k6 (k2 (k2 (A2 (A6 (C6 Z Z Z) Z (C2 (D79 ⟨path,d,n,hs⟩ z1 z2) Z Z Z ?_)))));rintro _ rfl;refine A7 Z Z (A4 ?_);refine k1 (k2 (A2 (A3 Z Z (A6 (H9 Z Z) Z (A4 ?_)))));refine k1 ?_;refine B3 rfl (fun ht=>?_) (fun ht=>?_)
  ·have h2:=A0 ht
   refine k2 (A2 (A6 (E6 Z) Z (A3 Z Z (E2 (B6 TySz.out Z Z Z Z Z Z) (A7 Z Z (A4 ?_))))));refine k1 (G4 (J59 CHunk 2 S4 8 3 Z Z) ?_)
   refine k10 (k11 ?_)
   exact B4 (rs:=[S5 comb0,E5 (J2 ⟨path,d,n,hs⟩)]) (O5 rfl rfl rfl rfl rfl rfl rfl) (by rw [if_pos h2])
  ·have h2:=A1 ht
   refine k5 (k1 (k2 (A2 (A6 (C6 Z Z Z) Z (E2 (B6 TySz.out Z Z Z Z Z Z) (A7 Z Z (A4 ?_)))))));refine k1 (k10 ?_)
   exact B4 (rs:=[S5 ⟨path,d,n,hs⟩,E5 0]) (O5 rfl rfl rfl rfl rfl rfl rfl) (by rw [if_neg h2])
 have hlt:k < sp.length:=by have:=A0 ht;omega
 have hv:sp[k]?=some sp[k]:=by simp [hlt]
 rw [J92 hlt,A48] at hp
 obtain ⟨s,hsd⟩:∃s,s=sp[k]:=⟨_,rfl⟩
 rw [←hsd] at hp hv
 refine k5 (k1 (k2 (k3 (k2 (k2 (C5 (by kernel_rfl) (by kernel_rfl) (C3 Z Z (C3 Z Z (A9 (A8 Z (.pure _ _ _ _) Z (by omega) hv) Z Z (A9 (C1 Z) Z Z (A9 (B1 Z Z) Z Z (C3 Z Z (A9 (Y4 Z Z) Z Z (C3 Z Z (B9 Z Z (fun hg=>by rw [hg];exact B5 Z Z) Z Z ?_)))))))))))))));refine B9 Z Z (fun hg=>by rw [hg];exact B5 Z Z) Z Z ?_;refine B9 Z Z (fun hg=>by have hq:=hg;(try simp at hq);rw [hg];exact A8 Z (.pure _ _ _ _) Z (by omega) hv) Z Z ?_;refine B9 Z Z (fun hg=>by rw [hg];exact C1 Z) Z Z ?_;refine B9 Z Z (fun hg=>by rw [hg];exact B1 Z Z) Z Z ?_;refine B9 Z Z (fun hg=>by rw [hg];exact B5 Z Z) Z Z ?_;refine B9 Z Z (fun hg=>by rw [hg];exact B5 Z Z) Z Z ?_;refine B9 Z Z (fun hg=>by have hq:=hg;(try simp at hq);rw [hg];exact A8 Z (.pure _ _ _ _) Z (by omega) hv) Z Z ?_;refine B9 Z Z (fun hg=>by rw [hg];exact C1 Z) Z Z ?_;refine B9 Z Z (fun hg=>by rw [hg];exact B1 Z Z) Z Z ?_;refine B9 Z Z (fun hg=>by rw [hg];exact t8 Z Z) Z Z ?_;refine A9 (G7 Z (fun h=>by first | rfl | (rw [h];rfl)) (fun h=>by first | rfl | (rw [h];rfl))) Z Z ?_;refine C3 Z Z (B9 Z Z (fun hg=>by rw [hg];exact B5 Z Z) Z Z ?_);refine B9 Z Z (fun hg=>by rw [hg];exact B5 Z Z) Z Z ?_;refine B9 Z Z (fun hg=>by have hq:=hg;(try simp at hq);rw [hg];exact A8 Z (.pure _ _ _ _) Z (by omega) hv) Z Z ?_;refine B9 Z Z (fun hg=>by rw [hg];exact C1 Z) Z Z ?_;refine B9 Z Z (fun hg=>by rw [hg];exact B1 Z Z) Z Z ?_;refine B9 Z Z (fun hg=>by rw [hg];exact A5 Z) Z Z ?_;refine B9 Z Z (fun hg=>by rw [hg];exact B2 Z Z Z) Z Z ?_;refine B9 Z Z (fun hg=>by rw [hg];exact O8 Z (.pure _ _ _ _)) Z Z ?_;refine B9 Z Z (fun hg=>by rw [hg];exact K9 Z Z) Z Z ?_;refine A9 (G7 Z (fun h=>by first | rfl | (rw [h];rfl)) (fun h=>by first | rfl | (rw [h];rfl))) Z Z ?_;refine G5 ?_;refine k1 ?_;refine B3 rfl (fun ht=>?_) (fun ht=>?_)
 ·have hc:s.From < e∨s.To≤s.From∨(rows.length:Int) < s.To:=by
   by_cases q1:s.From < e
   ·exact .inl q1
   ·by_cases q2:s.To≤s.From
    ·exact .inr (.inl q2)
    ·simp [q1,q2] at ht
     exact .inr (.inr ht)
  rw [if_pos hc] at hp
  refine k2 (A2 (A6 (E6 Z) Z (E2 (B6 TySz.out Z Z Z Z Z Z) (A7 Z Z (A4 ?_)))));refine k1 (G4 (J59 CHunk 2 S4 8 3 Z Z) ?_)
  refine k10 (k11 (k12 (k11 (k11 (k12 (k11 ?_))))))
  exact B4 (rs:=[S5 comb0,E5 3]) (O5 rfl rfl rfl rfl rfl rfl rfl) (hno hp)
 have hc:¬(s.From < e∨s.To≤s.From∨(rows.length:Int) < s.To):=by
  rintro (q | q | q)
  ·simp [q] at ht
  ·simp [q] at ht
  ·simp [q] at ht
 rw [if_neg hc] at hp
 simp only [not_or,Int.not_lt,Int.not_le] at hc
 obtain ⟨c1,c2,c3⟩:=hc
 obtain ⟨F,hF⟩:∃F:Nat,s.From=F:=⟨s.From.toNat,by omega⟩
 obtain ⟨T,hT⟩:∃T:Nat,s.To=T:=⟨s.To.toNat,by omega⟩
 obtain ⟨sF,sT⟩:=s
 have hF:sF=(F:Int):=hF
 have hT:sT=(T:Int):=hT
 subst hF hT
 dsimp only at c1 c2 c3 hp
 rw [J97,J97] at hp
 have hsub:((rows.drop F).take (T - F)).length=T - F:=by rw [K03,K08];omega
 have hFl:(F:Int)≤rows.length:=by omega
 refine k5 (k1 (k2 (O9 [(2,C4 Span 2 spanC sp),(5,.s (.one (.ref 5 0))),(8,.s (.one (.ref 8 0))),(11,.s (.one (.ref 11 0))),(13,B8 k)] [(5,.box (pTable ⟨n,rows⟩).s1.cells),(8,.box [.p (.v (.string ⟨#[]⟩)),.p (.v (.bool false)),.p (.v (.int .i64 0)),.p (.v (.slice none 0 0))]),(11,.box [.p (.v (.string ⟨path.toArray⟩)),.p (.v (.bool d)),.p (.v (.int .i64 n)),.buf 754 CHunk 2 S4 hs]),(754,.spare hs.length 2 59)] (J58 ⟨le1 rfl,le1 rfl,le1 rfl,le1 rfl,le1 rfl,trivial⟩ ⟨rfl,rfl,rfl,rfl,trivial⟩) ?_)))
 refine x6 [17,16,14] [[],[14],[16],[16,14],[17,16,14]] [(14,([],[])),(16,([14],[])),(17,([],[]))] [(0,[]),(1,[]),(2,[]),(3,[]),(4,[]),(5,[]),(6,[]),(7,[]),(8,[]),(9,[]),(10,[]),(11,[]),(12,[]),(13,[]),(14,[]),(15,[14]),(16,[]),(16,[14]),(17,[16,14])] [(0,[16]),(1,[16]),(2,[16]),(3,[16]),(4,[16]),(5,[16]),(6,[16]),(7,[16]),(8,[16]),(9,[16]),(10,[16]),(11,[16]),(12,[16]),(13,[16]),(14,[16]),(15,[16,14])] (by kernel_rfl) (by kernel_rfl) (L1 Z Z (by kernel_rfl) Z Z (B85 (c:=rowC) (ys:=[]) F1 Z Z Z) (L1 Z Z (by kernel_rfl) Z Z (A5 Z) (L1 Z Z (by kernel_rfl) Z Z (B2 Z Z Z) (L1 Z Z (by kernel_rfl) Z Z (B5 Z Z) (L1 Z Z (by kernel_rfl) Z Z (B5 Z Z) (L1 Z Z (by kernel_rfl) Z Z (A8 Z (.pure _ _ _ _) Z (by omega) hv) (L1 Z Z (by kernel_rfl) Z Z (C1 Z) (L1 Z Z (by kernel_rfl) Z Z (B1 Z Z) (L1 Z Z (by kernel_rfl) Z Z (B5 Z Z) (L1 Z Z (by kernel_rfl) Z Z (B5 Z Z) (L1 Z Z (by kernel_rfl) Z Z (A8 Z (.pure _ _ _ _) Z (by omega) hv) (L1 Z Z (by kernel_rfl) Z Z (C1 Z) (L1 Z Z (by kernel_rfl) Z Z (B1 Z Z) (L1 Z Z (by kernel_rfl) Z Z (T6 Z (.pure _ _ _ _) Z Z (by (first | omega | (dsimp only;omega))) (by (first | omega | (dsimp only;omega))) (by (first | omega | (dsimp only;omega)))) (B83 Z Z (by kernel_rfl) Z Z (r_neu (fun frc hU=>A97 (C57 hU Z) (C57 hU Z) (.pure _ _ _ _) (by (rw [J97,J97,hsub];simp;omega)) (by rw [J97,J97,hsub];omega))) Z ?_)))))))))))))));refine L1 Z Z (by kernel_rfl) Z Z (E6 Z) (B83 Z Z (by kernel_rfl) Z Z (I12 Z) Z (w_again Z Z (by kernel_rfl) Z Z (I12 Z) Z (B83 Z Z (by kernel_rfl) Z Z (r_eff (fun frc hU=>B6 TySz.out (C57 hU Z) Z (C57 hU Z) Z Z Z)) Z ?_)));refine G64 (by kernel_rfl) rfl ?_ ?_
 ·refine N6 Z Z (by kernel_rfl) Z Z (B85 (c:=rowC) (ys:=[]) F1 Z Z Z) (N6 Z Z (by kernel_rfl) Z Z (A5 Z) (N6 Z Z (by kernel_rfl) Z Z (B2 Z Z Z) (N6 Z Z (by kernel_rfl) Z Z (B5 Z Z) (N6 Z Z (by kernel_rfl) Z Z (B5 Z Z) (N6 Z Z (by kernel_rfl) Z Z (A8 Z (.pure _ _ _ _) Z (by omega) hv) (N6 Z Z (by kernel_rfl) Z Z (C1 Z) (N6 Z Z (by kernel_rfl) Z Z (B1 Z Z) (N6 Z Z (by kernel_rfl) Z Z (B5 Z Z) (N6 Z Z (by kernel_rfl) Z Z (B5 Z Z) (N6 Z Z (by kernel_rfl) Z Z (A8 Z (.pure _ _ _ _) Z (by omega) hv) (N6 Z Z (by kernel_rfl) Z Z (C1 Z) (N6 Z Z (by kernel_rfl) Z Z (B1 Z Z) (N6 Z Z (by kernel_rfl) Z Z (T6 Z (.pure _ _ _ _) Z Z (by (first | omega | (dsimp only;omega))) (by (first | omega | (dsimp only;omega))) (by (first | omega | (dsimp only;omega)))) ?_)))))))))))));refine x_eff rfl rfl (by kernel_rfl) rfl rfl (r_neu (fun frc hU=>A97 (C57 hU rfl) (C57 hU rfl) (.pure _ _ _ _) (by (rw [J97,J97,hsub];simp;omega)) (by rw [J97,J97,hsub];omega))) rfl (J16 (by repeat (first | exact trivial | refine ⟨.inr rfl,?_⟩ | refine ⟨.inl rfl,?_⟩))) ?_;refine N6 Z Z (by kernel_rfl) Z Z (E6 Z) ?_;exact G65
 rw [J97,J97,K16]
 refine G4 (J61 755 Int 1 H4 3 (kb:=14) (o:=0) Z Z Z) ?_
 refine k2 (k2 (A2 (A7 Z Z (A4 ?_))));refine k1 (k3 ?_)
 obtain ⟨R,hR⟩:∃R,R=(rows.drop F).take (T - F):=⟨_,rfl⟩
 rw [←hR] at hp hsub ⊢
 refine D1 (X:=Nat) (fun p=>([(2,C4 Span 2 spanC sp),(5,.s (.one (.ref 5 0))),(8,.s (.one (.ref 8 0))),(11,.s (.one (.ref 11 0))),(13,B8 k),(14,.s (.one (.ref 14 0))),(15,B8 p)],[(5,.box (pTable ⟨n,rows⟩).s1.cells),(8,.box [.p (.v (.string ⟨#[]⟩)),.p (.v (.bool false)),.p (.v (.int .i64 0)),.p (.v (.slice none 0 0))]),(11,.box [.p (.v (.string ⟨path.toArray⟩)),.p (.v (.bool d)),.p (.v (.int .i64 n)),.buf 754 CHunk 2 S4 hs]),(754,.spare hs.length 2 59),(14,.box [.buf 755 Int 1 H4 ((List.range p).map (U2 (rows.take F) n)),.p (.list Row 3 rowC R)]),(755,.spare ((List.range p).map (U2 (rows.take F) n)).length 1 3)])) (fun p=>p≤n+1) (fun p=>n+1 - p) 0 (Nat.zero_le _) (J58 ⟨le1 rfl,le1 rfl,le1 rfl,le1 rfl,le1 rfl,le1 rfl,le1 rfl,trivial⟩ ⟨rfl,rfl,rfl,rfl,rfl,rfl,trivial⟩) ?_
 intro p hpn
 dsimp only at hpn ⊢
 have hml:((List.range p).map (U2 (rows.take F) n)).length=p:=by simp
 refine k2 (k2 (A2 (A3 Z Z (A6 (A5 Z) Z (D3 Z Z Z Z (A6 (t8 Z Z) Z (A4 ?_)))))));refine k1 ?_;refine B3 rfl (fun ht=>?_) (fun ht=>?_)
 ·have hle:p≤n:=by have:=A0 ht;omega
  have hst:=G94 (rows.take F) n p
  have htl:(rows.take F).length=F:=by rw [K03];omega
  have hcm:=C67 p n
  have hcol:=A30 (rows.take F) (V9 n p) (H68 hr F) (by omega)
  refine k5 (k1 (k2 (k3 (C5 (by kernel_rfl) (by kernel_rfl) (A9 (A5 Z) Z Z (A9 (B2 Z Z Z) Z Z (A9 (A5 Z) Z Z (A9 (B2 Z Z Z) Z Z (C3 Z Z (C3 Z Z (A9 (A8 Z (.pure _ _ _ _) Z (by omega) hv) Z Z (A9 (C1 Z) Z Z (A9 (B1 Z Z) Z Z (A9 (D36 Z (.pure _ _ _ _) Z (by (first | omega | (dsimp only;omega))) (by (first | omega | (dsimp only;omega)))) Z Z (C3 Z Z (A9 (A5 Z) Z Z (A9 (B2 Z Z Z) Z Z (A9 (E3 (hcm) Z Z) Z Z (A9 (E3 (hcol) Z Z) Z Z (A9 (O8 Z (.pure _ _ _ _)) Z Z (A9 (C9 (c:=H4) (ys:=[U2 (rows.take F) n p]) (D8 Z Z Z Z F1) Z Z Z) Z Z (A96 (F8 Z Z Z (.pure _ _ _ _) (by (rw [hml];simp only [J87,J89];omega)) Z) Z Z ?_))))))))))))))))))))));refine A9 (A5 Z) Z Z (o6 (B6 TySz.out Z Z Z Z Z Z) Z (G5 ?_));refine k4 (k1 (A2 (A3 Z Z (C7 Z Z Z (A7 Z Z (A4 ?_))))));refine k1 ?_;refine ⟨p+1,by omega,by omega,?_⟩
  rw [hst]
  exact J58 ⟨le1 rfl,le1 rfl,le1 rfl,le1 rfl,le1 rfl,le1 rfl,le1 rfl,trivial⟩ ⟨rfl,rfl,rfl,rfl,rfl,rfl,trivial⟩
 have hpl:p=n+1:=by have:=A1 ht;omega
 rw [hpl]
 refine k6 (k2 (A2 (A6 (A5 Z) Z (D3 Z Z Z Z (A6 (C6 Z Z Z) Z (A6 (C9 (c:=S4) (ys:=[⟨j2 (rows.take F) n,R⟩]) (D8 Z Z Z Z F1) Z Z Z) Z (C0 (F8 Z Z Z (.pure _ _ _ _) (by (simp only [J87,J89];omega)) Z) Z (A6 (A5 Z) Z (E2 (B6 TySz.out Z Z Z Z Z Z) (A4 ?_))))))))));refine k1 (A2 (A3 Z Z (A3 Z Z (A6 (A8 Z (.pure _ _ _ _) Z (by omega) hv) Z (A6 (C1 Z) Z (A6 (B1 Z Z) Z (A7 Z Z (A4 ?_))))))));refine k4 (k1 (A2 (A3 Z Z (C7 Z Z Z (A7 Z Z (A4 ?_))))));refine k1 ?_
 exact ⟨(k+1,(T:Int),hs++[⟨j2 (rows.take F) n,R⟩]),⟨by dsimp only;omega,by dsimp only;omega,by dsimp only;rw [J86];simp;omega,hp⟩,by dsimp only;omega,J58 ⟨le1 rfl,le1 rfl,le1 rfl,le1 rfl,le1 rfl,le1 rfl,trivial⟩ ⟨rfl,rfl,rfl,rfl,trivial⟩⟩
abbrev rowV (q:Row):List Value:=[.bool q.Lost,.int .u32 q.Marks,.string ⟨q.Text.toArray⟩]
theorem row_eq (q q':Row):E43 (rowV q) (rowV q')=decide (q=q'):=by
 rw [Bool.eq_iff_iff]
 simp only [E43,eqV,ByteArray.toList_mk,J90,beq_iff_eq,decide_eq_true_eq,Bool.and_true]
 constructor
 ·rintro ⟨h1,h2,h3⟩
  obtain ⟨k,m,t⟩:=q
  obtain ⟨k',m',t'⟩:=q'
  obtain rfl:k=k':=h1
  obtain rfl:m=m':=h2
  obtain rfl:t=t':=h3
  rfl
 ·rintro rfl;exact ⟨rfl,rfl,rfl⟩
theorem J37 (a:List Row) (ha:a.length≤1099511627776):FnOk Tryz.prog 47 [pRows a,pRows a] (fun rs=>rs=[I8 true]):=by
 refine FnOk.intro Tryz.func47 (by decide) Z Z Z Z ?_
 refine k2 (A2 (A7 Z Z (A4 ?_)));refine k1 (k2 (k2 (A2 (A3 Z Z (D9 Z Z (A3 Z Z (D9 Z Z (A6 (H9 Z Z) Z (A4 ?_)))))))));refine k1 ?_;refine B3 rfl (fun ht=>?_) (fun ht=>?_)
 ·exact absurd rfl (A0 ht)
 refine k5 (k1 (k2 (k2 (A2 (A7 Z Z (A4 ?_))))));refine k1 (k3 (D1 (X:=Nat) (fun i=>([(0,C4 Row 3 rowC a),(1,C4 Row 3 rowC a),(5,B8 i)],[])) (fun i=>i≤a.length) (fun i=>a.length - i) 0 (Nat.zero_le _) (J58 ⟨le1 rfl,le1 rfl,le1 rfl,trivial⟩ trivial) ?_))
 intro i hi
 dsimp only at hi ⊢
 refine k2 (k2 (A2 (A3 Z Z (A3 Z Z (D9 Z Z (E1 Z Z Z (A4 ?_)))))));refine k1 ?_;refine B3 rfl (fun ht=>?_) (fun ht=>?_)
 ·have hlt:i < a.length:=by have:=A0 ht;omega
  have hv:a[i]?=some a[i]:=by simp [hlt]
  obtain ⟨r,hr⟩:∃r,r=a[i]:=⟨_,rfl⟩
  rw [←hr] at hv
  refine k5 (k1 (k2 (k3 (k2 (C5 (by kernel_rfl) (by kernel_rfl) (C3 Z Z (C3 Z Z (A9 (A8 Z (.pure _ _ _ _) Z (by omega) hv) Z Z (A9 (C8 Z Z) Z Z (C3 Z Z (C3 Z Z (A9 (A8 Z (.pure _ _ _ _) Z (by omega) hv) Z Z (A9 (C8 Z Z) Z Z (A9 (G57 (rowV r) (rowV r) Z Z Z Z ((row_eq r r).trans (decide_eq_true Z))) Z Z (G5 ?_)))))))))))))));refine k1 ?_;refine B3 rfl (fun ht=>?_) (fun ht=>?_)
  ·cases ht
  refine k5 (k4 (k1 (A2 (A3 Z Z (C7 Z Z Z (A7 Z Z (A4 ?_)))))));refine k1 ?_
  exact ⟨i+1,by omega,by omega,J58 ⟨le1 rfl,le1 rfl,le1 rfl,trivial⟩ trivial⟩
 ·refine k6 (k2 (A2 (A7 Z Z (A4 ?_))));refine k1 (k10 ?_)
  exact B4 (rs:=[I8 true]) (F3 rfl rfl rfl) rfl
end Go.Proofs.YtbiadkkamhpdnaaGreatDoor
namespace Go.Proofs.YtbiadkkamhpdnaaGreatDoor
open Go Go.AL
set_option maxRecDepth 100000
end Go.Proofs.YtbiadkkamhpdnaaGreatDoor
namespace Go.Proofs.YtbiadkkamhpdnaaGreatDoor
open Go Go.AL
set_option maxRecDepth 100000
set_option maxHeartbeats 4000000
set_option maxHeartbeats 1000000
set_option maxHeartbeats 4000000
set_option maxHeartbeats 4000000
section
variable {P:Program} {nt:Nat} {fr:Fr} {w:Str} {d:Bool} {n:Int} {hs:List CHunk}
end
set_option maxHeartbeats 4000000
end Go.Proofs.YtbiadkkamhpdnaaGreatDoor
