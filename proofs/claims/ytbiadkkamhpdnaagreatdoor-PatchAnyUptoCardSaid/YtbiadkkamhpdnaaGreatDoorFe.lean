/- Walks of the program's functions. -/
import Derived.Test.YtbiadkkamhpdnaaGreatDoorFc
import Derived.Test.YtbiadkkamhpdnaaGreatDoorFd
import Derived.Test.YtbiadkkamhpdnaaGreatDoorFb
set_option linter.unusedSimpArgs false
namespace Go.Proofs.YtbiadkkamhpdnaaGreatDoor
open Go Go.AL
set_option maxRecDepth 100000
set_option maxHeartbeats 1000000
theorem B91 (p:Patch) (hp:szP p.Hunks≤268435456):FnOk Tryz.prog 22 [pPatch p] (fun rs=>rs=[pPatch (L7 p).1,I8 (L7 p).2]):=by
 have hsl:=U4 p.Hunks
 have hf0:L7 p=if D9 p≠0 then (O1,D9 p) else (revP p,0):=rfl
 have hck:=x4 p hp
 obtain ⟨on,nn,H⟩:=p
 dsimp only at hp hsl
 refine FnOk.intro Tryz.func22 (by decide) Z Z Z Z ?_
 refine k2 ?_
 refine A3 (C4 (U9 1 Z Z Z) Z (C4 (F7 2 Z) Z (A2 (A5 Z Z) Z (A6 ?_))))
 refine k1 (k2 (k2 ?_))
 refine A3 (A2 (C1 Z Z Z) Z (C2 (hck) Z Z Z ?_));rintro _ rfl;refine A2 (A5 Z Z) Z (A6 ?_)
 refine k1 (k2 ?_)
 refine A3 (A2 (A4 Z Z) Z (A2 (H8 Z Z) Z (A6 ?_)))
 refine k1 ?_
 refine B4 rfl (fun ht=>?_) (fun ht=>?_)
 ·have h1:D9 ⟨on,nn,H⟩≠0:=A0 ht
  refine k2 ?_
  refine A3 (A2 (J2 Z) Z (A2 (A4 Z Z) Z (F3 (B8 TySz.out Z Z Z Z Z Z) (A2 (A5 Z Z) Z (A6 ?_)))))
  refine k1 ?_
  refine K3 (F82 PatchHunk 3 phunkC 2 2 Z Z) ?_
  refine k10 (k11 ?_)
  exact B5 (rs:=[pPatch O1,I8 (D9 ⟨on,nn,H⟩)]) (A94 rfl rfl rfl rfl rfl rfl rfl) (by rw [hf0,if_pos h1])
 have h1:¬D9 ⟨on,nn,H⟩≠0:=A1 ht
 rw [if_neg h1] at hf0
 refine k5 (k1 (k2 ?_))
 refine A3 (A2 (A7 Z) Z (A2 (A9 Z Z Z) Z (A2 (A7 Z) Z (A2 (A9 Z Z Z) Z (A2 (J2 Z) Z (C4 (F7 5 Z) Z (F3 (B8 TySz.out Z Z Z Z Z Z) (A6 ?_))))))))
 refine k1 (k2 (k2 ?_))
 refine K3 (F83 702 PatchHunk 3 phunkC 29 (kb:=5) (o:=2) Z Z Z) ?_
 skip
 refine A3 (A2 (A5 Z Z) Z (A6 ?_))
 refine k1 (k3 ?_)
 refine D8 (X:=Nat) (fun k=>([(1,.s (.one (.ref 1 0))),(2,.s (.one (.ref 2 0))),(5,.s (.one (.ref 5 0))),(6,D2 k)],[(1,.box (pPatch ⟨on,nn,H⟩).s1.cells),(2,.box [.p (.v (.string ⟨#[]⟩)),.p (.v (.string ⟨#[]⟩)),.p (.v (.slice none 0 0))]),(5,.box [.p (.v (.string ⟨nn.toArray⟩)),.p (.v (.string ⟨on.toArray⟩)),.buf 702 PatchHunk 3 phunkC ((H.take k).map z6)]),(702,.spare ((H.take k).map z6).length 3 29)])) (fun k=>k≤H.length) (fun k=>H.length - k) 0 (Nat.zero_le _) (F77 ⟨le1 rfl,le1 rfl,le1 rfl,le1 rfl,trivial⟩ ⟨rfl,rfl,rfl,rfl,trivial⟩) ?_
 intro k hk
 dsimp only at hk ⊢
 refine k2 (k2 ?_)
 refine A3 (A2 (A4 Z Z) Z (A2 (A7 Z) Z (A2 (A9 Z Z Z) Z (A2 (E1 Z (.pure _ _ _ _)) Z (A2 (E5 Z Z) Z (A6 ?_))))))
 refine k1 ?_
 refine B4 rfl (fun ht=>?_) (fun ht=>?_)
 ·have hlt:k < H.length:=by have:=A0 ht;(try dsimp only at this);omega
  have hv:H[k]?=some H[k]:=by simp [hlt]
  have hmem:=G22 hlt
  have htk:(H.take (k+1)).map z6=(H.take k).map z6++[z6 H[k]]:=by rw [G14 hlt,G27];rfl
  obtain ⟨h,hh⟩:∃h,h=H[k]:=⟨_,rfl⟩
  rw [←hh] at hv hmem htk
  have h3:=U3 hmem
  have h4:=P1 h.Lines
  unfold szH at h3
  obtain ⟨hs,hhs⟩:∃hs,hs=(H.take k).map z6:=⟨_,rfl⟩
  have hhl:hs.length=k:=by rw [hhs,G35,G17];omega
  rw [←hhs] at htk ⊢
  refine k5 (k1 (k2 (k3 (k2 ?_))))
  refine B37 [14,13] [[],[13],[14,13]] [(0,[13]),(1,[13]),(2,[13]),(3,[13]),(4,[13]),(5,[13]),(6,[13]),(7,[13]),(8,[13]),(9,[13]),(10,[13]),(11,[13]),(12,[13])] (by kernel_rfl) (by kernel_rfl) (V0 Z (A7 Z) (V0 Z (A9 Z Z Z) (V0 Z (A4 Z Z) (V0 Z (B1 Z (.pure _ _ _ _) Z (by omega) hv) (V0 Z (B7 Z) (V0 Z (B3 Z Z) (V0 Z (A7 Z) (V0 Z (A9 Z Z Z) (V0 Z (A4 Z Z) (V0 Z (B1 Z (.pure _ _ _ _) Z (by omega) hv) (V0 Z (B7 Z) (V0 Z (B3 Z Z) (V0 Z (J2 Z) (D57 7 Z Z (D58 (v8 TySz.out Z Z Z Z Z Z) ?_)))))))))))))));refine a_nil rfl ?_ ?_
  ·refine J1 Z Z (A7 Z) (J1 Z Z (A9 Z Z Z) (J1 Z Z (A4 Z Z) (J1 Z Z (B1 Z (.pure _ _ _ _) Z (by omega) hv) (J1 Z Z (B7 Z) (J1 Z Z (B3 Z Z) (J1 Z Z (A7 Z) (J1 Z Z (A9 Z Z Z) (J1 Z Z (A4 Z Z) (J1 Z Z (B1 Z (.pure _ _ _ _) Z (by omega) hv) (J1 Z Z (B7 Z) (J1 Z Z (B3 Z Z) (J1 Z Z (J2 Z) ?_))))))))))));exact o_nil
  refine k1 (k2 (k2 ?_))
  refine K3 (F83 701 PatchLine 2 plineC 36 (kb:=7) (o:=2) Z Z Z) ?_
  refine A3 (A2 (A5 Z Z) Z (A6 ?_))
  refine k1 (k3 ?_)
  refine D8 (X:=Nat) (fun i=>([(1,.s (.one (.ref 1 0))),(2,.s (.one (.ref 2 0))),(5,.s (.one (.ref 5 0))),(6,D2 k),(7,.s (.one (.ref 7 0))),(8,D2 i)],[(1,.box (pPatch ⟨on,nn,H⟩).s1.cells),(2,.box [.p (.v (.string ⟨#[]⟩)),.p (.v (.string ⟨#[]⟩)),.p (.v (.slice none 0 0))]),(5,.box [.p (.v (.string ⟨nn.toArray⟩)),.p (.v (.string ⟨on.toArray⟩)),.buf 702 PatchHunk 3 phunkC hs]),(702,.spare hs.length 3 29),(7,.box [.p (.v (.int .i64 h.New)),.p (.v (.int .i64 h.Old)),.buf 701 PatchLine 2 plineC ((h.Lines.take i).map n7)]),(701,.spare ((h.Lines.take i).map n7).length 2 36)])) (fun i=>i≤h.Lines.length) (fun i=>h.Lines.length - i) 0 (Nat.zero_le _) (F77 ⟨le1 rfl,le1 rfl,le1 rfl,le1 rfl,le1 rfl,le1 rfl,trivial⟩ ⟨rfl,rfl,rfl,rfl,rfl,rfl,trivial⟩) ?_
  intro i hi
  dsimp only at hi ⊢
  refine k2 (k2 ?_)
  refine A3 (A2 (A4 Z Z) Z (A2 (A7 Z) Z (A2 (A9 Z Z Z) Z (A2 (A4 Z Z) Z (A2 (B1 Z (.pure _ _ _ _) Z (by omega) hv) Z (A2 (B7 Z) Z (A2 (B3 Z Z) Z (A2 (E1 Z (.pure _ _ _ _)) Z (A2 (E5 Z Z) Z (A6 ?_))))))))))
  refine k1 ?_
  refine B4 rfl (fun ht=>?_) (fun ht=>?_)
  ·have hlt2:i < h.Lines.length:=by have:=A0 ht;(try dsimp only at this);omega
   have hv2:h.Lines[i]?=some h.Lines[i]:=by simp [hlt2]
   have htk2:(h.Lines.take (i+1)).map n7=(h.Lines.take i).map n7++[n7 h.Lines[i]]:=by rw [G14 hlt2,G27];rfl
   obtain ⟨q,hq⟩:∃q,q=h.Lines[i]:=⟨_,rfl⟩
   rw [←hq] at hv2 htk2
   obtain ⟨ls,hls⟩:∃ls,ls=(h.Lines.take i).map n7:=⟨_,rfl⟩
   have hll:ls.length=i:=by rw [hls,G35,G17];omega
   rw [←hls] at htk2 ⊢
   refine k5 (k1 (k2 (k3 (k2 ?_))))
   refine A3 (A2 (A7 Z) Z (A2 (A9 Z Z Z) Z (A2 (A4 Z Z) Z (A2 (B1 Z (.pure _ _ _ _) Z (by omega) hv) Z (A2 (B7 Z) Z (A2 (B3 Z Z) Z (A2 (A4 Z Z) Z (A2 (B1 Z (.pure _ _ _ _) Z (by omega) hv2) Z (A2 (D3 Z Z) Z (C4 (F7 9 Z) Z (F3 (B8 TySz.out Z Z Z Z Z Z) (A6 ?_))))))))))))
   refine k1 (k2 (k2 ?_))
   refine A3 (A2 (A7 Z) Z (A2 (A9 Z Z Z) Z (A6 ?_)))
   refine k1 (k3 (k2 ?_))
   refine A3 (A2 (J9 Z Z) Z (A2 (A5 Z Z) Z (A6 ?_)))
   refine k1 ?_
   refine B4 rfl (fun ht=>?_) (fun ht=>?_)
   ·simp only [ke45] at ht
    have e:n7 q=⟨43,q.Text⟩:=by unfold n7 C04;rw [if_pos (A0 ht)]
    skip
    refine A3 (A2 (A7 Z) Z (F3 (B8 TySz.out Z Z Z Z Z Z) (A6 ?_)))
    refine k4 (k1 ?_)
    refine A3 (A2 (A7 Z) Z (A2 (A9 Z Z Z) Z (A2 (C1 Z Z Z) Z (A2 (E3 (c:=plineC) (ys:=[⟨43,q.Text⟩]) (E6 Z Z Z Z I9) Z Z Z) Z (C4 (F4 Z Z Z (.pure _ _ _ _) (by (simp only [G10,G11];omega)) Z) Z (A2 (A7 Z) Z (F3 (B8 TySz.out Z Z Z Z Z Z) (A6 ?_))))))))
    rw [←e]
    refine k4 (k1 ?_)
    refine A3 (A2 (A4 Z Z) Z (A2 (C3 Z Z (by omega)) Z (A2 (A5 Z Z) Z (A6 ?_))))
    refine k1 ?_
    refine ⟨i+1,by omega,by omega,?_⟩
    rw [htk2]
    exact F77 ⟨le1 rfl,le1 rfl,le1 rfl,le1 rfl,le1 rfl,le1 rfl,trivial⟩ ⟨rfl,rfl,rfl,rfl,rfl,rfl,trivial⟩
   simp only [ke45] at ht
   have n1:=A1 ht
   refine k2 ?_
   refine A3 (A2 (J9 Z Z) Z (A2 (A5 Z Z) Z (A6 ?_)))
   refine k1 ?_
   refine B4 rfl (fun ht=>?_) (fun ht=>?_)
   ·simp only [ke43] at ht
    have e:n7 q=⟨45,q.Text⟩:=by unfold n7 C04;rw [if_neg n1,if_pos (A0 ht)]
    skip
    refine A3 (A2 (A7 Z) Z (F3 (B8 TySz.out Z Z Z Z Z Z) (A6 ?_)))
    refine k4 (k1 ?_)
    refine A3 (A2 (A7 Z) Z (A2 (A9 Z Z Z) Z (A2 (C1 Z Z Z) Z (A2 (E3 (c:=plineC) (ys:=[⟨45,q.Text⟩]) (E6 Z Z Z Z I9) Z Z Z) Z (C4 (F4 Z Z Z (.pure _ _ _ _) (by (simp only [G10,G11];omega)) Z) Z (A2 (A7 Z) Z (F3 (B8 TySz.out Z Z Z Z Z Z) (A6 ?_))))))))
    rw [←e]
    refine k4 (k1 ?_)
    refine A3 (A2 (A4 Z Z) Z (A2 (C3 Z Z (by omega)) Z (A2 (A5 Z Z) Z (A6 ?_))))
    refine k1 ?_
    refine ⟨i+1,by omega,by omega,?_⟩
    rw [htk2]
    exact F77 ⟨le1 rfl,le1 rfl,le1 rfl,le1 rfl,le1 rfl,le1 rfl,trivial⟩ ⟨rfl,rfl,rfl,rfl,rfl,rfl,trivial⟩
   ·simp only [ke43] at ht
    have e:n7 q=⟨q.Kind,q.Text⟩:=by unfold n7 C04;rw [if_neg n1,if_neg (A1 ht)]
    refine k5 (k4 (k1 ?_))
    refine A3 (A2 (A7 Z) Z (A2 (A9 Z Z Z) Z (A2 (C1 Z Z Z) Z (A2 (E3 (c:=plineC) (ys:=[⟨q.Kind,q.Text⟩]) (E6 Z Z Z Z I9) Z Z Z) Z (C4 (F4 Z Z Z (.pure _ _ _ _) (by (simp only [G10,G11];omega)) Z) Z (A2 (A7 Z) Z (F3 (B8 TySz.out Z Z Z Z Z Z) (A6 ?_))))))))
    rw [←e]
    refine k4 (k1 ?_)
    refine A3 (A2 (A4 Z Z) Z (A2 (C3 Z Z (by omega)) Z (A2 (A5 Z Z) Z (A6 ?_))))
    refine k1 ?_
    refine ⟨i+1,by omega,by omega,?_⟩
    rw [htk2]
    exact F77 ⟨le1 rfl,le1 rfl,le1 rfl,le1 rfl,le1 rfl,le1 rfl,trivial⟩ ⟨rfl,rfl,rfl,rfl,rfl,rfl,trivial⟩
  ·have hi':i=h.Lines.length:=by have:=A1 ht;(try dsimp only at this);omega
   rw [show (h.Lines.take i).map n7=h.Lines.map n7 by rw [hi',G23]]
   refine k6 (k7 (k7 (k8 Z (k1 ?_))))
   refine A3 (A2 (A7 Z) Z (A2 (A9 Z Z Z) Z (A2 (C1 Z Z Z) Z (A2 (E3 (c:=phunkC) (ys:=[z6 h]) (E6 Z Z Z Z I9) Z Z Z) Z (C4 (F4 Z Z Z (.pure _ _ _ _) (by (simp only [G10,G11];omega)) Z) Z (A2 (A7 Z) Z (F3 (B8 TySz.out Z Z Z Z Z Z) (A6 ?_))))))))
   refine k4 (k1 ?_)
   refine A3 (A2 (A4 Z Z) Z (A2 (C3 Z Z (by omega)) Z (A2 (A5 Z Z) Z (A6 ?_))))
   refine k1 ?_
   refine ⟨k+1,by omega,by omega,?_⟩
   rw [htk]
   exact F77 ⟨le1 rfl,le1 rfl,le1 rfl,le1 rfl,trivial⟩ ⟨rfl,rfl,rfl,rfl,trivial⟩
 ·have hk':k=H.length:=by have:=A1 ht;(try dsimp only at this);omega
  rw [show (H.take k).map z6=H.map z6 by rw [hk',G23]]
  refine k6 (k2 ?_)
  refine A3 (A2 (C1 Z Z Z) Z (F3 (B8 TySz.out Z Z Z Z Z Z) (A2 (A5 Z Z) Z (A6 ?_))))
  refine k1 (k10 ?_)
  exact B5 (rs:=[pPatch (revP ⟨on,nn,H⟩),I8 0]) (A94 rfl rfl rfl rfl rfl rfl rfl) (by rw [hf0])
theorem E78 (raw:List Int) (ctx:Int):E24 raw ctx=(⟨[111],[110],d8 [111] [110] raw (M2 ctx 4)⟩,0):=by
 have h1:=s5 raw
 have h2:=A82 raw
 obtain ⟨h3,h4⟩:=a8 ctx (n:=4) (by omega)
 obtain ⟨e1,_,_⟩:=E47 [111] [110] (P3 raw) (T3 raw) (M2 ctx 4) (by decide) (by decide) h3 (by omega) (by omega) (by omega)
 have e2:=(D31 (on:=[111]) (nn:=[110]) (by decide) (by decide) raw (c:=M2 ctx 4) (by omega)).1
 unfold E24
 rw [e1,←e2]
 unfold n8 p7
 rw [if_neg (by decide),if_neg (by omega),if_neg (by decide)]
theorem C56 (f:PatchHunk→Nat):∀(l:List PatchHunk) (i:Nat) (x:PatchHunk),((l.set i x).map f).sum≤(l.map f).sum+f x
 | [],_,_=>by simp
 | y::r,0,x=>by simp only [List.set_cons_zero,G15,G34];omega
 | y::r,i+1,x=>by
  have:=C56 f r i x
  simp only [List.set_cons_succ,G15,G34];omega
theorem B92 (f:PatchLine→Nat):∀(l:List PatchLine) (i:Nat) (x:PatchLine),((l.set i x).map f).sum≤(l.map f).sum+f x
 | [],_,_=>by simp
 | y::r,0,x=>by simp only [List.set_cons_zero,G15,G34];omega
 | y::r,i+1,x=>by
  have:=B92 f r i x
  simp only [List.set_cons_succ,G15,G34];omega
theorem szP_set (hs:List PatchHunk) (r:Nat) (h:PatchHunk):szP (hs.set r h)≤szP hs+szH h:=C56 szH hs r h
theorem F17 (o n:Int) (ls:List PatchLine) (i:Nat) (x:PatchLine):szH ⟨o,n,ls.set i x⟩≤szH ⟨o,n,ls⟩+szL x:=by
 have:=B92 szL ls i x
 unfold szH;dsimp only;omega
set_option maxHeartbeats 1000000
theorem E79 (p:Patch) (s:Str) (raw:List Int) (ctx what pos:Int) (hz:szP p.Hunks≤134217728):FnOk Tryz.prog 3 [pPatch p,I1 s,A43 raw,I8 ctx,I8 what,I8 pos] (fun rs=>rs=[O8 true]):=by
 have hal:=s5 raw
 have hm4:=a8 ctx (n:=4) (by omega)
 obtain ⟨_,hck,hsz⟩:=D31 (on:=[111]) (nn:=[110]) (by decide) (by decide) raw (c:=M2 ctx 4) (by omega)
 have hgl:=E76 hck
 have hpm:=E78 raw ctx
 have hpk:=F38 raw ctx
 have hmet:=E77 raw ctx
 rw [hpm] at hpk
 obtain ⟨hs,hhs⟩:∃hs,hs=d8 [111] [110] raw (M2 ctx 4):=⟨_,rfl⟩
 rw [←hhs] at hsz hgl hpk hmet
 dsimp only at hgl hpk
 have hsl:=U4 hs
 have hpl:=U4 p.Hunks
 have hmodw:=A60 what 4 (by omega) (by omega)
 obtain ⟨W,hW⟩:∃W,W=M2 what 4:=⟨_,rfl⟩
 rw [←hW] at hmodw
 obtain ⟨a,ha⟩:∃a,a=P3 raw:=⟨_,rfl⟩
 obtain ⟨b,hb⟩:∃b,b=T3 raw:=⟨_,rfl⟩
 rw [←ha,←hb] at hpk hmet
 rw [←ha] at hal
 refine FnOk.intro Tryz.func3 (by decide) Z Z Z Z ?_
 refine k2 ?_
 refine A3 (C4 (U9 6 Z Z Z) Z (A2 (A5 Z Z) Z (A6 ?_)))
 refine k1 (k2 (k2 ?_))
 refine A3 (A2 (A7 Z) Z (A2 (A9 Z Z Z) Z (A2 (E1 Z (.pure _ _ _ _)) Z (A2 (L1 Z Z) Z (A2 (A4 Z Z) Z (A8 Z Z Z Z (fun hg=>by rw [hg];exact A4 Z Z) ?_))))));refine A8 Z Z Z Z (fun hg=>by rw [hg];exact H7 Z) ?_;refine A8 Z Z Z Z (fun hg=>by rw [hg];exact L1 Z Z) ?_;refine A2 (B2 Z (fun h=>by first | rfl | (rw [h];rfl)) (fun h=>by first | rfl | (rw [h];rfl))) Z ?_;refine A2 (A4 Z Z) Z (A8 Z Z Z Z (fun hg=>by rw [hg];exact A7 Z) ?_);refine A8 Z Z Z Z (fun hg=>by rw [hg];exact A9 Z Z Z) ?_;refine A8 Z Z Z Z (fun hg=>by rw [hg];exact H7 Z) ?_;refine A8 Z Z Z Z (fun hg=>by rw [hg];exact L1 Z Z) ?_;refine A2 (B2 Z (fun h=>by first | rfl | (rw [h];rfl)) (fun h=>by first | rfl | (rw [h];rfl))) Z ?_;refine A2 (A4 Z Z) Z (A8 Z Z Z Z (fun hg=>by rw [hg];exact A7 Z) ?_);refine A8 Z Z Z Z (fun hg=>by rw [hg];exact A9 Z Z Z) ?_;refine A8 Z Z Z Z (fun hg=>by rw [hg];exact H7 Z) ?_;refine A8 Z Z Z Z (fun hg=>by rw [hg];exact L1 Z Z) ?_;refine A2 (B2 Z (fun h=>by first | rfl | (rw [h];rfl)) (fun h=>by first | rfl | (rw [h];rfl))) Z ?_;refine A6 ?_
 refine k1 ?_
 refine B4 rfl (fun ht=>?_) (fun ht=>?_)
 ·refine k2 ?_
  refine A3 (C2 (B15) Z Z Z ?_);rintro _ rfl;refine A2 (A5 Z Z) Z (A6 ?_)
  refine k1 (k10 (k11 ?_))
  exact B5 (F5 rfl rfl rfl) rfl
 have hsl60:s.length≤60:=by
  simp only [or_pick] at ht
  have:=A1 ht
  omega
 refine k5 (k1 (k2 (k2 ?_)))
 refine A3 (A2 (A5 Z Z) Z (A6 ?_))
 refine k1 (k3 ?_)
 refine D8 (X:=Nat) (fun k=>([(1,P8 s),(2,.s (A43 raw).s1),(3,D2 ctx),(4,D2 what),(5,D2 pos),(6,.s (.one (.ref 6 0))),(13,D2 k)],[(6,.box (pPatch p).s1.cells)])) (fun k=>k≤p.Hunks.length) (fun k=>p.Hunks.length - k) 0 (Nat.zero_le _) (F77 ⟨le1 rfl,le1 rfl,le1 rfl,le1 rfl,le1 rfl,le1 rfl,le1 rfl,trivial⟩ ⟨rfl,trivial⟩) ?_
 intro k hk
 dsimp only at hk ⊢
 refine k2 (k2 ?_)
 refine A3 (A2 (A4 Z Z) Z (A2 (A7 Z) Z (A2 (A9 Z Z Z) Z (A2 (E1 Z (.pure _ _ _ _)) Z (A2 (E5 Z Z) Z (A6 ?_))))))
 refine k1 ?_
 refine B4 rfl (fun ht=>?_) (fun ht=>?_)
 ·have hlt:k < p.Hunks.length:=by have:=A0 ht;(try dsimp only at this);omega
  have hv:p.Hunks[k]?=some p.Hunks[k]:=by simp [hlt]
  refine k5 (k1 (k2 (k3 (k2 ?_))))
  refine A3 (A2 (A7 Z) Z (A2 (A9 Z Z Z) Z (A2 (A4 Z Z) Z (A2 (B1 Z (.pure _ _ _ _) Z (by omega) hv) Z (A2 (B7 Z) Z (A2 (B3 Z Z) Z (A2 (E1 Z (.pure _ _ _ _)) Z (A2 (L1 Z Z) Z (A6 ?_)))))))))
  refine k1 ?_
  refine B4 rfl (fun ht=>?_) (fun ht=>?_)
  ·refine k2 ?_
   refine A3 (C2 (B15) Z Z Z ?_);rintro _ rfl;refine A2 (A5 Z Z) Z (A6 ?_)
   refine k1 (k10 (k12 (k11 (k11 (k12 (k11 ?_))))))
   exact B5 (F5 rfl rfl rfl) rfl
  refine k5 (k4 (k1 ?_))
  refine A3 (A2 (A4 Z Z) Z (A2 (C3 Z Z (by omega)) Z (A2 (A5 Z Z) Z (A6 ?_))))
  refine k1 ?_
  exact ⟨k+1,by omega,by omega,F77 ⟨le1 rfl,le1 rfl,le1 rfl,le1 rfl,le1 rfl,le1 rfl,le1 rfl,trivial⟩ ⟨rfl,trivial⟩⟩
 refine k6 (k2 ?_)
 refine F56 (X:=Patch) (fun q=>([(1,P8 s),(6,.s (.one (.ref 6 0))),(14,.s (.one (.ref 14 0))),(15,P8 a)],[(6,.box (pPatch p).s1.cells),(14,.box (pPatch q).s1.cells)])) (fun q=>szP q.Hunks≤1000000) ?_ ?_
 ·by_cases hne:hs=[]
  ·rw [hne] at hpk
   refine A3 (A2 (A4 Z Z) Z (A2 (A4 Z Z) Z (C2 (hpk) Z Z Z ?_)));rintro _ rfl;refine A2 (A4 Z Z) Z (A2 (C5 Z Z) Z (A2 (C5 Z Z) Z (A2 (C5 Z Z) Z (C4 (F7 14 Z) Z (F3 (B8 TySz.out Z Z Z Z Z Z) (A2 (A5 Z Z) Z (A2 (A5 Z Z) Z (A6 ?_))))))))
   refine k1 (k2 ?_)
   refine A3 (A2 (A7 Z) Z (A2 (A9 Z Z Z) Z (A2 (E1 Z (.pure _ _ _ _)) Z (A2 (L1 Z Z) Z (A6 ?_)))))
   refine k1 ?_
   refine B4 rfl (fun ht=>?_) (fun ht=>?_)
   ·exfalso;simp at ht
   refine k5 (k1 ?_)
   exact ⟨⟨[111],[110],[]⟩,by decide,F77 ⟨le1 rfl,le1 rfl,le1 rfl,le1 rfl,trivial⟩ ⟨rfl,rfl,trivial⟩⟩
  have hpos:0 < hs.length:=List.length_pos_iff.2 hne
  have hmi:=a8 pos (n:=hs.length) (by omega)
  have hmod:=A60 pos hs.length (by omega) (by omega)
  obtain ⟨R,hR⟩:∃R:Nat,M2 pos hs.length=R:=⟨(M2 pos hs.length).toNat,by omega⟩
  rw [hR] at hmi hmod
  have hRl:R < hs.length:=by omega
  have hv:hs[R]?=some hs[R]:=by simp [hRl]
  obtain ⟨gl1,gl2,gl3⟩:=hgl _ (G22 hRl)
  obtain ⟨h,hh⟩:∃h,h=hs[R]:=⟨_,rfl⟩
  have hhz:szH h≤65536:=by have:=U3 (G22 hRl);rw [hh];omega
  rw [←hh] at hv gl1 gl2 gl3
  have hmet:=hmet R hRl
  rw [F39 hv] at hmet
  obtain ⟨ho1,ho2⟩:=E30 hv
  have hmi2:=a8 pos (n:=h.Lines.length) (by omega)
  have hll:h.Lines.length≤65536:=by have:=P1 h.Lines;unfold szH at hhz;omega
  have hmod2:=A60 pos h.Lines.length (by omega) (by omega)
  obtain ⟨K,hK⟩:∃K:Nat,M2 pos h.Lines.length=K:=⟨(M2 pos h.Lines.length).toNat,by omega⟩
  rw [hK] at hmi2 hmod2
  have hKl:K < h.Lines.length:=by omega
  have hvx:h.Lines[K]?=some h.Lines[K]:=by simp [hKl]
  obtain ⟨x,hx⟩:∃x,x=h.Lines[K]:=⟨_,rfl⟩
  have hxz:x.Text.length≤65536:=by
   have h1:x.Text.length+64≤(h.Lines.map szL).sum:=x8 (by rw [hx];exact G22 hKl)
   unfold szH at hhz;omega
  rw [←hx] at hvx
  obtain ⟨ho,hn,hls⟩:=h
  dsimp only at gl1 gl2 gl3 hmet hmi2 hll hmod2 hKl hvx ho2
  have hzz:=szP_set hs R
  refine A3 (A2 (A4 Z Z) Z (A2 (A4 Z Z) Z (l_new (hmet) Z Z Z Z ?_)));rintro _ _ ⟨rfl,rfl⟩;refine ⟨E31 rfl rfl,?_⟩;refine A2 (A4 Z Z) Z (A2 (C5 Z Z) Z (A2 (C5 Z Z) Z (A2 (C5 Z Z) Z (C4 (F7 14 (by show ((H4 hs R).all (TC.free 14)&&true)=true;rw [l9 hs R rfl];rfl)) Z ?_))));refine F3 (B8 TySz.out Z Z Z Z Z Z) (A2 (A5 Z Z) Z (A2 (A5 Z Z) Z (A6 ?_)))
  refine K3 (G02 702 R hs [.p (.v (.int .i64 ho)),.p (.v (.int .i64 hn)),.mut 703] Z Z hRl Z ho1 ho2) ?_
  refine A51 [(1,P8 s),(4,D2 what),(5,D2 pos),(6,.s (.one (.ref 6 0))),(14,.s (.one (.ref 14 0))),(15,P8 a)] [(6,.box (pPatch p).s1.cells),(14,.box [.p (.v (.string ⟨([111]:Str).toArray⟩)),.p (.v (.string ⟨([110]:Str).toArray⟩)),.mut 702]),(702,.growA 29 PatchHunk 3 phunkC hs R [.p (.v (.int .i64 ho)),.p (.v (.int .i64 hn)),.mut 703]),(703,.grow 36 PatchLine 2 plineC hls)] (F77 ⟨le1 rfl,le1 rfl,le1 rfl,le1 rfl,le1 rfl,le1 rfl,trivial⟩ ⟨rfl,rfl,rfl,rfl,trivial⟩) ?_
  refine k2 ?_
  refine A3 (A2 (A7 Z) Z (A2 (A9 Z Z Z) Z (A2 (E06 Z Z) Z (A2 (L1 Z Z) Z (A6 ?_)))))
  refine k1 ?_
  refine B4 rfl (fun ht=>?_) (fun ht=>?_)
  rotate_left
  ·exfalso
   have:=A1 ht
   omega
  refine k2 ?_
  refine D7 (by kernel_rfl) (by kernel_rfl) (B0 (A7 Z) Z Z (B0 (A9 Z Z Z) Z Z (B0 (A4 Z Z) Z Z (B0 (A7 Z) Z Z (B0 (A9 Z Z Z) Z Z (B0 (E06 Z Z) Z Z (B0 (E9 (hmod) Z Z) Z Z (B0 (C44 Z Z Z (by omega) (by omega)) Z Z (B0 (A5 Z Z) Z Z (H5 ?_))))))))))
  refine k1 (k2 ?_)
  refine D7 (by kernel_rfl) (by kernel_rfl) (B0 (A4 Z Z) Z Z (B0 (M1 Z) Z Z (B0 (J5 Z) Z Z (B0 (A79 Z Z (by first | rfl | omega) Z) Z Z ?_))));refine B0 (A4 Z Z) Z Z (B0 (A4 Z Z) Z Z (B0 (M1 Z) Z Z (B0 (J5 Z) Z Z (B0 (A79 Z Z (by first | rfl | omega) Z) Z Z ?_))));refine B0 (F01 Z Z) Z Z (B0 (E9 (hmod2) Z Z) Z Z (B0 (i8 Z Z Z (by omega) (by omega)) Z Z (B0 (A5 Z Z) Z Z (H5 ?_))))
  refine k1 (k2 ?_)
  refine A3 (A2 (A4 Z Z) Z (C2 (hmodw) Z Z Z ?_));rintro _ rfl;refine A6 ?_
  refine k1 (k3 (k2 ?_))
  refine A3 (A2 (J9 Z Z) Z (A2 (A5 Z Z) Z (A6 ?_)))
  refine k1 ?_
  refine B4 rfl (fun ht=>?_) (fun ht=>?_)
  ·skip
   refine A3 (A2 (A4 Z Z) Z (A2 (M1 Z) Z (A2 (J5 Z) Z (F3 (A00 ((⟨x.Kind,[122,122,10]⟩:PatchLine)) TySz.out Z Z hvx Z Z Z Z (fun _ _ _ h=>A01 h) (by intro j h1 h2;rcases j with _ | _ | _ | _ | _ | _ | _ | j<;>first | rfl | omega)) ?_))));refine A6 ?_
   refine k4 (k1 ?_)
   refine ⟨⟨[111],[110],hs.set R ⟨ho,hn,hls.set K ⟨x.Kind,[122,122,10]⟩⟩⟩,?_,Sees.trans (Sees.freezeG (k:=703) rfl rfl) (Sees.trans (F86 702 (⟨ho,hn,hls.set K ⟨x.Kind,[122,122,10]⟩⟩:PatchHunk) rfl rfl) (Sees.trans (Sees.freezeG (k:=702) rfl rfl) (F77 ⟨le1 rfl,le1 rfl,le1 rfl,le1 rfl,trivial⟩ ⟨rfl,rfl,trivial⟩)))⟩
   have h1:=hzz ⟨ho,hn,hls.set K ⟨x.Kind,[122,122,10]⟩⟩
   have h2:=F17 ho hn hls K ⟨x.Kind,[122,122,10]⟩
   have h3:szL ⟨x.Kind,[122,122,10]⟩=67:=rfl
   dsimp only;omega
  refine k2 ?_
  refine A3 (A2 (J9 Z Z) Z (A2 (A5 Z Z) Z (A6 ?_)))
  refine k1 ?_
  refine B4 rfl (fun ht=>?_) (fun ht=>?_)
  ·skip
   refine D59 [17,14] [[],[14],[17,14]] [(14,([],[])),(17,([],[]))] [(0,[]),(1,[]),(2,[]),(3,[]),(4,[]),(5,[]),(6,[]),(7,[]),(8,[]),(9,[]),(10,[]),(11,[]),(12,[]),(13,[]),(14,[]),(15,[14]),(16,[14]),(17,[14])] [(1,[14]),(11,[14])] (by kernel_rfl) (by kernel_rfl) (o5 Z Z (by kernel_rfl) Z Z (A4 Z Z) (o5 Z Z (by kernel_rfl) Z Z (A4 Z Z) (o5 Z Z (by kernel_rfl) Z Z (A4 Z Z) (o5 Z Z (by kernel_rfl) Z Z (M1 Z) (o5 Z Z (by kernel_rfl) Z Z (J5 Z) (o5 Z Z (by kernel_rfl) Z Z (A79 Z Z (by first | rfl | omega) Z) ?_))))));refine o5 Z Z (by kernel_rfl) Z Z (C3 Z Z (by omega)) (o5 Z Z (by kernel_rfl) Z Z (A4 Z Z) (o5 Z Z (by kernel_rfl) Z Z (M1 Z) (o5 Z Z (by kernel_rfl) Z Z (J5 Z) (o5 Z Z (by kernel_rfl) Z Z (A79 Z Z (by first | rfl | omega) Z) ?_))));refine o5 Z Z (by kernel_rfl) Z Z (C3 Z Z (by omega)) (o5 Z Z (by kernel_rfl) Z Z (M1 Z) (o5 Z Z (by kernel_rfl) Z Z (J5 Z) (w_eff Z Z (by kernel_rfl) Z Z (r_eff (fun frc hU=>C45 TySz.out (opvU hU Z) Z (by first | rfl | omega) (opvU hU Z) Z Z Z)) Z ?_)));refine o5 Z Z (by kernel_rfl) Z Z (M1 Z) (o5 Z Z (by kernel_rfl) Z Z (J5 Z) (w_eff Z Z (by kernel_rfl) Z Z (r_eff (fun frc hU=>C45 TySz.out (opvU hU Z) Z (by first | rfl | omega) (opvU hU Z) Z Z Z)) Z ?_));refine w_nil (by kernel_rfl) rfl ?_ ?_
   ·refine x_neu Z Z (by kernel_rfl) Z Z (A4 Z Z) (x_neu Z Z (by kernel_rfl) Z Z (C3 Z Z (by omega)) ?_);exact x_nil
   refine k4 (k1 ?_)
   refine ⟨⟨[111],[110],hs.set R ⟨ho+1,hn+1,hls⟩⟩,?_,Sees.trans (Sees.freezeG (k:=703) rfl rfl) (Sees.trans (F86 702 (⟨ho+1,hn+1,hls⟩:PatchHunk) rfl rfl) (Sees.trans (Sees.freezeG (k:=702) rfl rfl) (F77 ⟨le1 rfl,le1 rfl,le1 rfl,le1 rfl,trivial⟩ ⟨rfl,rfl,trivial⟩)))⟩
   have h1:=hzz ⟨ho+1,hn+1,hls⟩
   have h2:szH ⟨ho+1,hn+1,hls⟩=szH ⟨ho,hn,hls⟩:=rfl
   dsimp only;omega
  refine k2 ?_
  refine A3 (A2 (J9 Z Z) Z (A2 (A5 Z Z) Z (A6 ?_)))
  refine k1 ?_
  refine B4 rfl (fun ht=>?_) (fun ht=>?_)
  ·skip
   refine A3 (A2 (A4 Z Z) Z (A2 (M1 Z) Z (A2 (J5 Z) Z (F3 (A00 ((⟨43,x.Text⟩:PatchLine)) TySz.out Z Z hvx Z Z Z Z (fun _ _ _ h=>A01 h) (by intro j h1 h2;rcases j with _ | _ | _ | _ | _ | _ | _ | j<;>first | rfl | omega)) ?_))));refine A6 ?_
   refine k4 (k1 ?_)
   refine ⟨⟨[111],[110],hs.set R ⟨ho,hn,hls.set K ⟨43,x.Text⟩⟩⟩,?_,Sees.trans (Sees.freezeG (k:=703) rfl rfl) (Sees.trans (F86 702 (⟨ho,hn,hls.set K ⟨43,x.Text⟩⟩:PatchHunk) rfl rfl) (Sees.trans (Sees.freezeG (k:=702) rfl rfl) (F77 ⟨le1 rfl,le1 rfl,le1 rfl,le1 rfl,trivial⟩ ⟨rfl,rfl,trivial⟩)))⟩
   have h1:=hzz ⟨ho,hn,hls.set K ⟨43,x.Text⟩⟩
   have h2:=F17 ho hn hls K ⟨43,x.Text⟩
   have h3:szL ⟨43,x.Text⟩=x.Text.length+64:=rfl
   dsimp only;omega
  ·skip
   refine k5 (k4 (k1 ?_))
   refine ⟨⟨[111],[110],hs.set R ⟨ho,hn,hls⟩⟩,?_,Sees.trans (Sees.freezeG (k:=703) rfl rfl) (Sees.trans (F86 702 (⟨ho,hn,hls⟩:PatchHunk) rfl rfl) (Sees.trans (Sees.freezeG (k:=702) rfl rfl) (F77 ⟨le1 rfl,le1 rfl,le1 rfl,le1 rfl,trivial⟩ ⟨rfl,rfl,trivial⟩)))⟩
   have h1:=hzz ⟨ho,hn,hls⟩
   dsimp only;omega
 intro q hq
 dsimp only at hq ⊢
 have w1:=x5 p s hz (by omega)
 have w2:=B86 p s hz (by omega)
 have w3:=B88 p (by omega)
 have w4:=B91 p (by omega)
 have w5:=x5 q a (by omega) (by omega)
 have w6:=B86 q a (by omega) (by omega)
 have w7:=B88 q (by omega)
 have w8:=B91 q (by omega)
 have z1:szP (L7 p).1.Hunks≤1099511627776:=by have:=B56 p;omega
 have z2:szP (L7 q).1.Hunks≤1099511627776:=by have:=B56 q;omega
 have g1:=D30 (L7 p).1 (L7 p).1 z1
 have g2:=D30 (L7 q).1 (L7 q).1 z2
 obtain ⟨u1,v1,e1⟩:∃u v,S9 p s=(u,v):=⟨_,_,rfl⟩
 obtain ⟨u2,v2,e2⟩:∃u v,S9 q a=(u,v):=⟨_,_,rfl⟩
 obtain ⟨u3,v3,e3⟩:∃u v,L7 p=(u,v):=⟨_,_,rfl⟩
 obtain ⟨u4,v4,e4⟩:∃u v,L7 q=(u,v):=⟨_,_,rfl⟩
 rw [e1] at w1 w2
 rw [e2] at w5 w6
 rw [e3] at w3 w4 g1
 rw [e4] at w7 w8 g2
 dsimp only at w1 w2 w3 w4 w5 w6 w7 w8 g1 g2
 refine k2 ?_
 refine A3 (A2 (C1 Z Z Z) Z (A2 (A4 Z Z) Z (C2 (w1) Z Z Z ?_)));rintro _ rfl;refine A2 (A4 Z Z) Z (A2 (C5 Z Z) Z (A2 (C5 Z Z) Z (A2 (A5 Z Z) Z (A2 (A5 Z Z) Z (A6 ?_)))))
 refine k1 (k2 ?_)
 refine A3 (A2 (C1 Z Z Z) Z (A2 (A4 Z Z) Z (C2 (w2) Z Z Z ?_)));rintro _ rfl;refine A2 (A4 Z Z) Z (A2 (C5 Z Z) Z (A2 (C5 Z Z) Z (A2 (A5 Z Z) Z (A2 (A5 Z Z) Z (A6 ?_)))))
 refine k1 (k2 ?_)
 refine A3 (A2 (C1 Z Z Z) Z (C2 (w3) Z Z Z ?_));rintro _ rfl;refine A2 (A4 Z Z) Z (A2 (C5 Z Z) Z (A2 (C5 Z Z) Z (C4 (F7 23 Z) Z (F3 (B8 TySz.out Z Z Z Z Z Z) (A2 (A5 Z Z) Z (A6 ?_))))))
 refine k1 (k2 ?_)
 refine A3 (A2 (C1 Z Z Z) Z (C2 (w4) Z Z Z ?_));rintro _ rfl;refine A2 (A4 Z Z) Z (A2 (C5 Z Z) Z (A2 (C5 Z Z) Z (C4 (F7 25 Z) Z (F3 (B8 TySz.out Z Z Z Z Z Z) (A2 (A5 Z Z) Z (A6 ?_))))))
 refine k1 (k2 ?_)
 refine A3 (A2 (C1 Z Z Z) Z (A2 (A4 Z Z) Z (C2 (w5) Z Z Z ?_)));rintro _ rfl;refine A2 (A4 Z Z) Z (A2 (C5 Z Z) Z (A2 (C5 Z Z) Z (A2 (A5 Z Z) Z (A2 (A5 Z Z) Z (A6 ?_)))))
 refine k1 (k2 ?_)
 refine A3 (A2 (C1 Z Z Z) Z (A2 (A4 Z Z) Z (C2 (w6) Z Z Z ?_)));rintro _ rfl;refine A2 (A4 Z Z) Z (A2 (C5 Z Z) Z (A2 (C5 Z Z) Z (A2 (A5 Z Z) Z (A2 (A5 Z Z) Z (A6 ?_)))))
 refine k1 (k2 ?_)
 refine A3 (A2 (C1 Z Z Z) Z (C2 (w7) Z Z Z ?_));rintro _ rfl;refine A2 (A4 Z Z) Z (A2 (C5 Z Z) Z (A2 (C5 Z Z) Z (C4 (F7 31 Z) Z (F3 (B8 TySz.out Z Z Z Z Z Z) (A2 (A5 Z Z) Z (A6 ?_))))))
 refine k1 (k2 ?_)
 refine A3 (A2 (C1 Z Z Z) Z (C2 (w8) Z Z Z ?_));rintro _ rfl;refine A2 (A4 Z Z) Z (A2 (C5 Z Z) Z (A2 (C5 Z Z) Z (C4 (F7 33 Z) Z (F3 (B8 TySz.out Z Z Z Z Z Z) (A2 (A5 Z Z) Z (A6 ?_))))))
 refine k1 (k2 ?_)
 refine A3 (A2 (A4 Z Z) Z (A2 (A4 Z Z) Z (A2 (u7 Z Z) Z (A2 (A4 Z Z) Z (A8 Z Z Z Z (fun hg=>by rw [hg];exact A4 Z Z) ?_)))));refine A8 Z Z Z Z (fun hg=>by rw [hg];exact A4 Z Z) ?_;refine A8 Z Z Z Z (fun hg=>by rw [hg];exact J9 Z Z) ?_;refine A2 (B2 Z (fun h=>by first | rfl | (rw [h];rfl)) (fun h=>by first | rfl | (rw [h];rfl))) Z ?_;refine A2 (A4 Z Z) Z (A8 Z Z Z Z (fun hg=>by rw [hg];exact C1 Z Z Z) ?_);refine A8 Z Z Z Z (fun hg=>by rw [hg];exact C1 Z Z Z) ?_;refine A8 Z Z Z Z (fun hg=>by have hq:=hg;(try simp at hq);rw [hg];exact E9 (g1) Z Z) ?_;refine A2 (B2 Z (fun h=>by first | rfl | (rw [h];rfl)) (fun h=>by first | rfl | (rw [h];rfl))) Z ?_;refine A2 (A4 Z Z) Z (A8 Z Z Z Z (fun hg=>by rw [hg];exact A4 Z Z) ?_);refine A8 Z Z Z Z (fun hg=>by rw [hg];exact A4 Z Z) ?_;refine A8 Z Z Z Z (fun hg=>by rw [hg];exact J9 Z Z) ?_;refine A2 (B2 Z (fun h=>by first | rfl | (rw [h];rfl)) (fun h=>by first | rfl | (rw [h];rfl))) Z ?_;refine A2 (A4 Z Z) Z (A8 Z Z Z Z (fun hg=>by rw [hg];exact A4 Z Z) ?_);refine A8 Z Z Z Z (fun hg=>by rw [hg];exact A4 Z Z) ?_;refine A8 Z Z Z Z (fun hg=>by rw [hg];exact u7 Z Z) ?_;refine A2 (B2 Z (fun h=>by first | rfl | (rw [h];rfl)) (fun h=>by first | rfl | (rw [h];rfl))) Z ?_;refine A2 (A4 Z Z) Z (A8 Z Z Z Z (fun hg=>by rw [hg];exact A4 Z Z) ?_);refine A8 Z Z Z Z (fun hg=>by rw [hg];exact A4 Z Z) ?_;refine A8 Z Z Z Z (fun hg=>by rw [hg];exact J9 Z Z) ?_;refine A2 (B2 Z (fun h=>by first | rfl | (rw [h];rfl)) (fun h=>by first | rfl | (rw [h];rfl))) Z ?_;refine A2 (A4 Z Z) Z (A8 Z Z Z Z (fun hg=>by rw [hg];exact C1 Z Z Z) ?_);refine A8 Z Z Z Z (fun hg=>by rw [hg];exact C1 Z Z Z) ?_;refine A8 Z Z Z Z (fun hg=>by have hq:=hg;(try simp at hq);rw [hg];exact E9 (g2) Z Z) ?_;refine A2 (B2 Z (fun h=>by first | rfl | (rw [h];rfl)) (fun h=>by first | rfl | (rw [h];rfl))) Z ?_;refine A2 (A4 Z Z) Z (A8 Z Z Z Z (fun hg=>by rw [hg];exact A4 Z Z) ?_);refine A8 Z Z Z Z (fun hg=>by rw [hg];exact A4 Z Z) ?_;refine A8 Z Z Z Z (fun hg=>by rw [hg];exact J9 Z Z) ?_;refine A2 (B2 Z (fun h=>by first | rfl | (rw [h];rfl)) (fun h=>by first | rfl | (rw [h];rfl))) Z ?_
 refine A2 (A4 Z Z) Z (A8 Z Z Z Z (fun hg=>by have hq:=hg;(try simp at hq);rw [hg];exact E9 (B15) Z Z) ?_);refine A2 (B2 Z (fun h=>by first | rfl | (rw [h];rfl)) (fun h=>by first | rfl | (rw [h];rfl))) Z ?_;refine A2 (A5 Z Z) Z (A6 ?_)
 refine k1 (k10 ?_)
 exact B5 (F5 rfl rfl rfl) (by simp)
end Go.Proofs.YtbiadkkamhpdnaaGreatDoor
