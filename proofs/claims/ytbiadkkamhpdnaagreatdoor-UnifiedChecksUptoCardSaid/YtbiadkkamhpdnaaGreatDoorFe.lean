/- Walks of the program's functions. -/
import Derived.Test.YtbiadkkamhpdnaaGreatDoorFc
import Derived.Test.YtbiadkkamhpdnaaGreatDoorFd
import Derived.Test.YtbiadkkamhpdnaaGreatDoorFb
import Derived.Test.YtbiadkkamhpdnaaGreatDoorFs
import Derived.Test.YtbiadkkamhpdnaaGreatDoorAn
set_option linter.unusedSimpArgs false
namespace Go.Proofs.YtbiadkkamhpdnaaGreatDoor
open Go Go.AL
set_option maxRecDepth 100000
theorem B81 (p:Patch) (hp:szP p.Hunks≤268435456):FnOk Tryz.prog 30 [pPatch p] (fun rs=>rs=[K6 (if H1 p≠0 then [] else M1 p),G2 (H1 p)]):=by
 refine FnOk.intro Tryz.func30 (by decide) Z Z Z Z ?_
 refine k2 ?_
 refine A4 (D1 (Y6 1 Z Z Z) Z (A2 (A5 Z Z) Z (A2 (A5 Z Z) Z (A6 ?_))))
 refine k1 (k2 (k2 ?_))
 refine A4 (A2 (D4 Z Z Z) Z (C8 (p7 p hp) Z Z Z ?_));rintro _ rfl;refine A2 (A5 Z Z) Z (A6 ?_)
 refine k1 (k2 ?_)
 refine A4 (A2 (A3 Z Z) Z (A2 (J0 Z Z) Z (A6 ?_)))
 refine k1 ?_
 refine B5 rfl (fun ht=>?_) (fun ht=>?_)
 ·have h1:H1 p≠0:=A0 ht
  rw [if_pos h1]
  refine k2 ?_
  refine A4 (A2 (A3 Z Z) Z (A2 (A5 Z Z) Z (A2 (A5 Z Z) Z (A6 ?_))))
  refine k1 (k10 (k11 ?_))
  exact B6 (x7 rfl rfl rfl rfl rfl) rfl
 ·have h1:¬H1 p≠0:=A1 ht
  have hr:=j6 (check12_good h1)
  obtain ⟨hn1,hn2⟩:=B25 (Decidable.not_not.1 h1)
  have hn3:=A0 hn1
  have hn4:=A0 hn2
  have hpf:PFit p:=⟨by omega,by omega,hp⟩
  rw [if_neg h1,Decidable.not_not.1 h1]
  refine k5 (k1 (k2 ?_))
  refine A4 (A2 (D4 Z Z Z) Z (C8 (D83 p hpf (fun x hx=>by have:=hr x hx;omega)) Z Z Z ?_));rintro _ rfl;refine A2 (A5 Z Z) Z (A2 (A5 Z Z) Z (A6 ?_))
  refine k1 (k10 ?_)
  exact B6 (x7 rfl rfl rfl rfl rfl) rfl
set_option maxHeartbeats 1000000
theorem G03 (p:Patch) (hp:szP p.Hunks≤268435456):FnOk Tryz.prog 32 [pPatch p] (fun rs=>rs=[G2 (l5 45 p.Hunks),G2 (l5 43 p.Hunks)]):=by
 obtain ⟨on,nn,hs⟩:=p
 dsimp only at hp ⊢
 have hsl:=n8 hs
 refine FnOk.intro Tryz.func32 (by decide) Z Z Z Z ?_
 refine k2 ?_
 refine A4 (D1 (Y6 1 Z Z Z) Z (A2 (A5 Z Z) Z (A2 (A5 Z Z) Z (A6 ?_))))
 refine k1 (k2 ?_)
 refine A4 (A2 (A5 Z Z) Z (A2 (A5 Z Z) Z (A6 ?_)))
 refine k1 (k2 (k2 ?_))
 refine A4 (A2 (A5 Z Z) Z (A6 ?_))
 refine k1 (k3 ?_)
 refine D9 (X:=Nat) (fun j=>([(1,.s (.one (.ref 1 0))),(4,C1 (l5 45 (hs.take j))),(5,C1 (l5 43 (hs.take j))),(6,C1 j)],[(1,.box (pPatch ⟨on,nn,hs⟩).s1.cells)])) (fun j=>j≤hs.length) (fun j=>hs.length - j) 0 (Nat.zero_le _) (G48 ⟨le1 rfl,le1 rfl,le1 rfl,le1 rfl,trivial⟩ ⟨rfl,trivial⟩) ?_
 intro j hj
 dsimp only at hj ⊢
 refine k2 (k2 ?_)
 refine A4 (A2 (A3 Z Z) Z (A2 (A8 Z) Z (A2 (A9 Z Z Z) Z (A2 (E0 Z (.pure _ _ _ _)) Z (A2 (E9 Z Z) Z (A6 ?_))))))
 refine k1 ?_
 refine B5 rfl (fun ht=>?_) (fun ht=>?_)
 ·have hlt:j < hs.length:=by have:=A0 ht;(try dsimp only at this);omega
  obtain ⟨h,hh⟩:∃h,h=hs[j]:=⟨_,rfl⟩
  have hv:hs[j]?=some h:=by rw [hh];simp [hlt]
  have n1:=A40 45 hs j h hv
  have n2:=A40 43 hs j h hv
  have hll:h.Lines.length≤268435456:=by
   have h3:=n7 (G98 hv)
   have h4:=W3 h.Lines
   unfold szH at h3;omega
  refine k5 (k1 (k2 (k3 (k2 ?_))))
  refine A4 (A2 (A5 Z Z) Z (A6 ?_))
  refine k1 (k3 ?_)
  refine D9 (X:=Nat) (fun i=>([(1,.s (.one (.ref 1 0))),(4,C1 ((l5 45 (hs.take j)+t6 45 (h.Lines.take i):Nat):Int)),(5,C1 ((l5 43 (hs.take j)+t6 43 (h.Lines.take i):Nat):Int)),(6,C1 j),(7,C1 i)],[(1,.box (pPatch ⟨on,nn,hs⟩).s1.cells)])) (fun i=>i≤h.Lines.length) (fun i=>h.Lines.length - i) 0 (Nat.zero_le _) (G48 ⟨le1 rfl,le1 rfl,le1 rfl,le1 rfl,le1 rfl,trivial⟩ ⟨rfl,trivial⟩) ?_
  intro i hi
  dsimp only at hi ⊢
  have b1:=B15 45 hs j i h hv
  have b2:=B15 43 hs j i h hv
  refine k2 (k2 ?_)
  refine A4 (A2 (A3 Z Z) Z (A2 (A8 Z) Z (A2 (A9 Z Z Z) Z (A2 (A3 Z Z) Z (A2 (B1 Z (.pure _ _ _ _) Z (by omega) hv) Z (A2 (B8 Z) Z (A2 (B3 Z Z) Z (A2 (E0 Z (.pure _ _ _ _)) Z (A2 (E9 Z Z) Z (A6 ?_))))))))))
  refine k1 ?_
  refine B5 rfl (fun ht=>?_) (fun ht=>?_)
  ·have hlt2:i < h.Lines.length:=by have:=A0 ht;(try dsimp only at this);omega
   obtain ⟨x,hx⟩:∃x,x=h.Lines[i]:=⟨_,rfl⟩
   have hvx:h.Lines[i]?=some x:=by rw [hx];simp [hlt2]
   have s1:=B14 45 h.Lines i x hvx
   have s2:=B14 43 h.Lines i x hvx
   refine k5 (k1 (k2 (k3 (k2 ?_))))
   refine A4 (A2 (A8 Z) Z (A2 (A9 Z Z Z) Z (A2 (A3 Z Z) Z (A2 (B1 Z (.pure _ _ _ _) Z (by omega) hv) Z (A2 (B8 Z) Z (A2 (B3 Z Z) Z (A2 (A3 Z Z) Z (A2 (B1 Z (.pure _ _ _ _) Z (by omega) hvx) Z (A2 (B8 Z) Z (A2 (B3 Z Z) Z (A6 ?_)))))))))))
   refine k1 (k3 (k2 ?_))
   refine A4 (A2 (I2 Z Z) Z (A2 (A5 Z Z) Z (A6 ?_)))
   refine k1 ?_
   refine B5 rfl (fun ht=>?_) (fun ht=>?_)
   ·have h3:x.Kind=45:=C64 ht
    rw [if_pos h3] at s1
    rw [if_neg (by rw [h3];decide)] at s2
    skip
    refine A4 (A2 (A3 Z Z) Z (A2 (C0 Z Z (by omega)) Z (A2 (A5 Z Z) Z (A6 ?_))))
    refine k4 (k4 (k1 ?_))
    refine A4 (A2 (A3 Z Z) Z (A2 (C0 Z Z (by omega)) Z (A2 (A5 Z Z) Z (A6 ?_))))
    refine k1 ?_
    refine ⟨i+1,hlt2,by omega,?_⟩
    rw [s1,s2,←Nat.add_assoc,Nat.add_zero,H18 (l5 45 (hs.take j)+t6 45 (h.Lines.take i)) 1]
    exact G48 ⟨le1 rfl,le1 rfl,le1 rfl,le1 rfl,le1 rfl,trivial⟩ ⟨rfl,trivial⟩
   ·have h3:¬x.Kind=45:=B80 ht
    rw [if_neg h3] at s1
    refine k2 ?_
    refine A4 (A2 (I2 Z Z) Z (A2 (A5 Z Z) Z (A6 ?_)))
    refine k1 ?_
    refine B5 rfl (fun ht=>?_) (fun ht=>?_)
    ·have h4:x.Kind=43:=C64 ht
     rw [if_pos h4] at s2
     skip
     refine A4 (A2 (A3 Z Z) Z (A2 (C0 Z Z (by omega)) Z (A2 (A5 Z Z) Z (A6 ?_))))
     refine k4 (k4 (k1 ?_))
     refine A4 (A2 (A3 Z Z) Z (A2 (C0 Z Z (by omega)) Z (A2 (A5 Z Z) Z (A6 ?_))))
     refine k1 ?_
     refine ⟨i+1,hlt2,by omega,?_⟩
     rw [s1,s2,←Nat.add_assoc,Nat.add_zero,←Nat.add_assoc,H18 (l5 43 (hs.take j)+t6 43 (h.Lines.take i)) 1]
     exact G48 ⟨le1 rfl,le1 rfl,le1 rfl,le1 rfl,le1 rfl,trivial⟩ ⟨rfl,trivial⟩
    ·have h4:¬x.Kind=43:=B80 ht
     rw [if_neg h4] at s2
     refine k5 (k4 (k4 (k1 ?_)))
     refine A4 (A2 (A3 Z Z) Z (A2 (C0 Z Z (by omega)) Z (A2 (A5 Z Z) Z (A6 ?_))))
     refine k1 ?_
     refine ⟨i+1,hlt2,by omega,?_⟩
     rw [s1,s2,Nat.add_zero,Nat.add_zero]
     exact G48 ⟨le1 rfl,le1 rfl,le1 rfl,le1 rfl,le1 rfl,trivial⟩ ⟨rfl,trivial⟩
  ·have hi2:i=h.Lines.length:=by have:=A1 ht;(try dsimp only at this);omega
   subst hi2
   rw [G95,←n1,←n2]
   refine k6 (k7 (k7 (k8 Z (k4 (k1 ?_)))))
   refine A4 (A2 (A3 Z Z) Z (A2 (C0 Z Z (by omega)) Z (A2 (A5 Z Z) Z (A6 ?_))))
   refine k1 ?_
   exact ⟨j+1,hlt,by omega,G48 ⟨le1 rfl,le1 rfl,le1 rfl,le1 rfl,trivial⟩ ⟨rfl,trivial⟩⟩
 ·have hj2:j=hs.length:=by have:=A1 ht;(try dsimp only at this);omega
  subst hj2
  rw [G95]
  refine k6 (k2 ?_)
  refine A4 (A2 (A3 Z Z) Z (A2 (A3 Z Z) Z (A2 (A5 Z Z) Z (A2 (A5 Z Z) Z (A6 ?_)))))
  refine k1 (k10 ?_)
  exact B6 (x7 rfl rfl rfl rfl rfl) rfl
theorem D08 (f:PatchHunk→Nat):∀(l:List PatchHunk) (i:Nat) (x:PatchHunk),((l.set i x).map f).sum≤(l.map f).sum+f x
 | [],_,_=>by simp
 | y::r,0,x=>by simp only [List.set_cons_zero,G87,H08];omega
 | y::r,i+1,x=>by
  have:=D08 f r i x
  simp only [List.set_cons_succ,G87,H08];omega
theorem C40 (f:PatchLine→Nat):∀(l:List PatchLine) (i:Nat) (x:PatchLine),((l.set i x).map f).sum≤(l.map f).sum+f x
 | [],_,_=>by simp
 | y::r,0,x=>by simp only [List.set_cons_zero,G87,H08];omega
 | y::r,i+1,x=>by
  have:=C40 f r i x
  simp only [List.set_cons_succ,G87,H08];omega
theorem szP_set (hs:List PatchHunk) (r:Nat) (h:PatchHunk):szP (hs.set r h)≤szP hs+szH h:=D08 szH hs r h
theorem E21 (o n:Int) (ls:List PatchLine) (i:Nat) (x:PatchLine):szH ⟨o,n,ls.set i x⟩≤szH ⟨o,n,ls⟩+szL x:=by
 have:=C40 szL ls i x
 unfold szH;dsimp only;omega
set_option maxHeartbeats 1000000
end Go.Proofs.YtbiadkkamhpdnaaGreatDoor
namespace Go.Proofs.YtbiadkkamhpdnaaGreatDoor
open Go Go.AL
set_option maxRecDepth 100000
def octOk (c:UInt8):Prop:=48≤c.toNat∧c.toNat≤55
def E79 (s:Str) (i q:Nat):Prop:=i+q < s.length∧octOk (s.getD (i+q) 0)
instance (s:Str) (i q:Nat):Decidable (E79 s i q):=by unfold E79 octOk;exact inferInstance
set_option maxHeartbeats 1000000
set_option maxHeartbeats 1000000
end Go.Proofs.YtbiadkkamhpdnaaGreatDoor
namespace Go.Proofs.YtbiadkkamhpdnaaGreatDoor
open Go Go.AL
set_option maxRecDepth 100000
theorem G39 (s:Str) (hs:s.length≤1099511627776):FnOk Tryz.prog 76 [K6 s] (fun rs=>rs=[K6 (A75 s)]):=by
 refine FnOk.intro Tryz.func76 (by decide) Z Z Z Z ?_
 refine k2 ?_
 refine A4 (A2 (A5 Z Z) Z (A6 ?_))
 refine k1 (k2 (k2 ?_))
 refine A4 (A2 (A3 Z Z) Z (C8 (C99 s hs) Z Z Z ?_));rintro _ rfl;refine A6 ?_
 refine k1 ?_
 refine B5 rfl (fun ht=>?_) (fun ht=>?_)
 ·have h:ended s=true:=ht
  have hl:1≤s.length:=by obtain ⟨a,rfl⟩:=ended_iff.1 h;simp
  refine k2 ?_
  refine A4 (A2 (A3 Z Z) Z (A2 (A3 Z Z) Z (A2 (K9 Z) Z (A2 (H8 Z Z (by omega)) Z (A2 (E02 Z Z (by omega) (by omega)) Z (A2 (A5 Z Z) Z (A6 ?_)))))))
  refine k1 (k10 (k11 ?_))
  exact B6 (rs:=[K6 s.dropLast]) (G4 rfl (by rw [show ((s.length:Int) - 1).toNat=s.length - 1 by omega,←List.dropLast_eq_take];rfl) rfl) (by unfold A75;rw [if_pos h])
 ·have h:ended s=false:=ht
  refine k5 (k1 (k2 ?_))
  refine A4 (A2 (A3 Z Z) Z (A2 (A5 Z Z) Z (A6 ?_)))
  refine k1 (k10 ?_)
  exact B6 (rs:=[K6 s]) (G4 rfl rfl rfl) (by unfold A75;rw [if_neg (by rw [h];decide)])
end Go.Proofs.YtbiadkkamhpdnaaGreatDoor
namespace Go.Proofs.YtbiadkkamhpdnaaGreatDoor
open Go Go.AL
set_option maxRecDepth 100000
theorem G04 (t:Str):(A75 t).length≤t.length:=by
 unfold A75;split
 ·rw [List.length_dropLast];omega
 ·omega
section
variable {P:Program} {nt:Nat} {fr:Fr} {o n:Str} {hs:List PatchHunk}
end
theorem G40 (hs:List PatchHunk) (h:PatchHunk):szP (hs++[h])=szP hs+szH h:=by unfold szP;simp
set_option maxHeartbeats 2000000
theorem E80 (raw:List Int) (what pos by':Int):FnOk Tryz.prog 28 [O1 raw,G2 what,G2 pos,G2 by'] (fun rs=>∃q:Patch,rs=[pPatch q]∧szP q.Hunks≤1000000):=by
 have hal:=C13 raw
 have hbl:=D85 raw
 have hm3:=j4 by' (n:=3) (by omega)
 have hm5:=j4 by' (n:=5) (by omega)
 obtain ⟨hmk0,hck,hsz⟩:=F95 (on:=[97,32,98]) (nn:=[110]) (by decide) (by decide) raw (c:=S6 by' 3) (by omega)
 have hgl:=F28 hck
 have hfn:=F94 [97,32,98] [110] (Z0 raw) (u0 raw) (S6 by' 3) false (by omega) (by omega)
 rw [hmk0] at hfn
 have hmet:=fun r hr=>F27 [97,32,98] [110] (Z0 raw) (u0 raw) (S6 by' 3) (by omega) (by omega) r hr
 rw [show (R6 [97,32,98] [110] (Z0 raw) (u0 raw) (S6 by' 3) false).1.Hunks=B46 [97,32,98] [110] raw (S6 by' 3) from rfl] at hmet
 obtain ⟨hs,hhs⟩:∃hs,hs=B46 [97,32,98] [110] raw (S6 by' 3):=⟨_,rfl⟩
 rw [←hhs] at hsz hgl hfn hmet
 dsimp only at hgl hfn
 have hsl:=n8 hs
 have hmodw:=A47 what 9 (by omega) (by omega)
 obtain ⟨W,hW⟩:∃W,W=S6 what 9:=⟨_,rfl⟩
 rw [←hW] at hmodw
 have hmod5:=A47 by' 5 (by omega) (by omega)
 obtain ⟨J,hJ⟩:∃J:Nat,S6 by' 5=J:=⟨(S6 by' 5).toNat,by omega⟩
 rw [hJ] at hm5 hmod5
 have hvk:([32,45,43,64,0]:List UInt8)[J]?=some (([32,45,43,64,0]:List UInt8).getD J 0):=by
  rw [G85,G82 (show J < ([32,45,43,64,0]:List UInt8).length by simp;omega)];rfl
 obtain ⟨kd,hkd⟩:∃kd,kd=([32,45,43,64,0]:List UInt8).getD J 0:=⟨_,rfl⟩
 rw [←hkd] at hvk
 refine FnOk.intro Tryz.func28 (by decide) Z Z Z Z ?_
 refine k2 ?_
 refine A4 (D1 (G5 8 Z) Z (A6 ?_))
 refine k1 (k2 ?_)
 refine A4 (A2 (A3 Z Z) Z (C8 (blob_ok raw 0 9 5 (by omega) (by omega) (by omega)) Z Z Z ?_));rintro _ rfl;refine A2 (A5 Z Z) Z (A6 ?_)
 rw [←F84]
 refine k1 (k2 ?_)
 by_cases hne:hs=[]
 ·rw [hne] at hfn
  refine A4 (A2 (A3 Z Z) Z (A2 (A3 Z Z) Z (A2 (A3 Z Z) Z (C8 (F62 (Z0 raw) raw 100 (by omega) (by omega)) Z Z Z ?_))));rintro _ rfl;refine A2 (A3 Z Z) Z (C8 (A47 by' 3 (by omega) (by omega)) Z Z Z ?_);rintro _ rfl;refine C8 (hfn) Z Z Z ?_;rintro _ rfl;refine A2 (A3 Z Z) Z (A2 (C6 Z Z) Z (A2 (C6 Z Z) Z (D1 (G5 10 Z) Z (F3 (B9 TySz.out Z Z Z Z Z Z) (A2 (A5 Z Z) Z (A6 ?_))))))
  refine k1 (k2 ?_)
  refine A4 (A2 (A3 Z Z) Z (C8 (hmod5) Z Z Z ?_));rintro _ rfl;refine A2 (H8 Z Z (by omega)) Z (A2 (A5 Z Z) Z (A6 ?_))
  refine k1 (k2 (k2 ?_))
  refine A4 (A2 (A8 Z) Z (A2 (A9 Z Z Z) Z (A2 (E0 Z (.pure _ _ _ _)) Z (A2 (I2 Z Z) Z (A6 ?_)))))
  refine k1 ?_
  refine B5 rfl (fun ht=>?_) (fun ht=>?_)
  ·refine k2 ?_
   refine A4 (A2 (D4 Z Z Z) Z (F3 (B9 TySz.out Z Z Z Z Z Z) (A6 ?_)))
   refine k1 (k10 (k11 ?_))
   exact B6 (rs:=[pPatch ⟨[97,32,98],[110],[]⟩]) (retc rfl rfl rfl rfl rfl) ⟨⟨[97,32,98],[110],[]⟩,rfl,by decide⟩
  ·exfalso;simp at ht
 have hpos:0 < hs.length:=List.length_pos_iff.2 hne
 have hmi:=j4 pos (n:=hs.length) (by omega)
 have hmod:=A47 pos hs.length (by omega) (by omega)
 obtain ⟨R,hR⟩:∃R:Nat,S6 pos hs.length=R:=⟨(S6 pos hs.length).toNat,by omega⟩
 rw [hR] at hmi hmod
 have hRl:R < hs.length:=by omega
 have hv:hs[R]?=some hs[R]:=by simp [hRl]
 obtain ⟨gl1,gl2,gl3⟩:=hgl _ (G97 hRl)
 obtain ⟨h,hh⟩:∃h,h=hs[R]:=⟨_,rfl⟩
 have hhz:szH h≤65536:=by have:=n7 (G97 hRl);rw [hh];omega
 rw [←hh] at hv gl1 gl2 gl3
 have hmet:=hmet R hRl
 rw [F96 hv] at hmet
 obtain ⟨ho1,ho2⟩:=E77 hv
 have hmi2:=j4 pos (n:=h.Lines.length) (by omega)
 have hll:h.Lines.length≤65536:=by have:=W3 h.Lines;unfold szH at hhz;omega
 have hmod2:=A47 pos h.Lines.length (by omega) (by omega)
 obtain ⟨K,hK⟩:∃K:Nat,S6 pos h.Lines.length=K:=⟨(S6 pos h.Lines.length).toNat,by omega⟩
 rw [hK] at hmi2 hmod2
 have hKl:K < h.Lines.length:=by omega
 have hvx:h.Lines[K]?=some h.Lines[K]:=by simp [hKl]
 obtain ⟨x,hx⟩:∃x,x=h.Lines[K]:=⟨_,rfl⟩
 have hxz:x.Text.length≤65536:=by
  have h1:x.Text.length+64≤(h.Lines.map szL).sum:=A16 (by rw [hx];exact G97 hKl)
  unfold szH at hhz;omega
 rw [←hx] at hvx
 obtain ⟨ho,hn,hls⟩:=h
 dsimp only at gl1 gl2 gl3 hmet hmi2 hll hmod2 hKl hvx ho2
 have hzz:=szP_set hs R
 have htr:=G04 x.Text
 refine A4 (A2 (A3 Z Z) Z (A2 (A3 Z Z) Z (A2 (A3 Z Z) Z (C8 (F62 (Z0 raw) raw 100 (by omega) (by omega)) Z Z Z ?_))));rintro _ rfl;refine A2 (A3 Z Z) Z (C8 (A47 by' 3 (by omega) (by omega)) Z Z Z ?_);rintro _ rfl;refine l_new (hmet) Z Z Z Z ?_;rintro _ _ ⟨rfl,rfl⟩;refine ⟨G35 rfl rfl,?_⟩;refine A2 (A3 Z Z) Z (A2 (C6 Z Z) Z (A2 (C6 Z Z) Z (D1 (G5 10 (by show ((K4 hs R).all (TC.free 10)&&true)=true;rw [A14 hs R rfl];rfl)) Z ?_)));refine F3 (B9 TySz.out Z Z Z Z Z Z) (A2 (A5 Z Z) Z (A6 ?_))
 refine J3 (G76 702 R hs [.p (.v (.int .i64 ho)),.p (.v (.int .i64 hn)),.mut 703] Z Z hRl Z ho1 ho2) ?_
 refine k2 ?_
 refine A4 (A2 (A3 Z Z) Z (C8 (hmod5) Z Z Z ?_));rintro _ rfl;refine A2 (H8 Z Z (by omega)) Z (A2 (A5 Z Z) Z (A6 ?_))
 refine k1 (k2 (k2 ?_))
 refine A4 (A2 (A8 Z) Z (A2 (A9 Z Z Z) Z (A2 (E56 Z Z) Z (A2 (I2 Z Z) Z (A6 ?_)))))
 refine k1 ?_
 refine B5 rfl (fun ht=>?_) (fun ht=>?_)
 ·exfalso
  have:=A0 ht
  omega
 refine O5 [(1,C1 what),(2,C1 pos),(3,C1 by'),(8,.s (.one (.ref 8 0))),(10,.s (.one (.ref 10 0))),(12,C1 ((J:Int) - 2))] [(8,.box [.p (.v (.string ⟨#[]⟩)),.p (.v (.string ⟨#[]⟩)),.p (.v (.slice none 0 0))]),(10,.box [.p (.v (.string ⟨([97,32,98]:Str).toArray⟩)),.p (.v (.string ⟨([110]:Str).toArray⟩)),.mut 702]),(702,.growA 29 PatchHunk 3 phunkC hs R [.p (.v (.int .i64 ho)),.p (.v (.int .i64 hn)),.mut 703]),(703,.grow 36 PatchLine 2 plineC hls)] (G48 ⟨le1 rfl,le1 rfl,le1 rfl,le1 rfl,le1 rfl,le1 rfl,trivial⟩ ⟨rfl,rfl,rfl,rfl,trivial⟩) ?_
 refine k5 (k1 (k2 ?_))
 refine C5 (by kernel_rfl) (by kernel_rfl) (A7 (A8 Z) Z Z (A7 (A9 Z Z Z) Z Z (A7 (A3 Z Z) Z Z (A7 (A8 Z) Z Z (A7 (A9 Z Z Z) Z Z (A7 (E56 Z Z) Z Z (A7 (F5 (hmod) Z Z) Z Z (A7 (C96 Z Z Z (by omega) (by omega)) Z Z (A7 (A5 Z Z) Z Z (F4 ?_))))))))))
 refine k1 (k2 ?_)
 refine C5 (by kernel_rfl) (by kernel_rfl) (A7 (A3 Z Z) Z Z (A7 (H6 Z) Z Z (A7 (E6 Z) Z Z (A7 (A34 Z Z (by first | rfl | omega) Z) Z Z ?_))));refine A7 (A3 Z Z) Z Z (A7 (A3 Z Z) Z Z (A7 (H6 Z) Z Z (A7 (E6 Z) Z Z (A7 (A34 Z Z (by first | rfl | omega) Z) Z Z ?_))));refine A7 (E08 Z Z) Z Z (A7 (F5 (hmod2) Z Z) Z Z (A7 (H4 Z Z Z (by omega) (by omega)) Z Z (A7 (A5 Z Z) Z Z (F4 ?_))))
 refine k1 (k2 (k2 ?_))
 refine A4 (A2 (A3 Z Z) Z (C8 (hmodw) Z Z Z ?_));rintro _ rfl;refine A6 ?_
 refine I1 ?_
 refine G25 (X:=Patch) (fun q=>([(8,.s (.one (.ref 8 0))),(10,.s (.one (.ref 10 0)))],[(8,.box [.p (.v (.string ⟨#[]⟩)),.p (.v (.string ⟨#[]⟩)),.p (.v (.slice none 0 0))]),(10,.box (pPatch q).s1.cells)])) (fun q=>szP q.Hunks≤1000000) ?_ ?_
 ·refine k3 (k2 ?_)
  refine A4 (A2 (I2 Z Z) Z (A2 (A5 Z Z) Z (A6 ?_)))
  refine k1 ?_
  refine B5 rfl (fun ht=>?_) (fun ht=>?_)
  ·skip
   refine A4 (A2 (A3 Z Z) Z (A2 (H6 Z) Z (A2 (E6 Z) Z (A2 (A34 Z Z (by first | rfl | omega) Z) Z ?_))));refine A2 (A3 Z Z) Z (A2 (C0 Z Z (by omega)) Z (A2 (H6 Z) Z (A2 (E6 Z) Z (F3 (B41 TySz.out Z Z (by first | rfl | omega) Z Z Z Z) ?_))));refine A6 ?_
   refine k4 (k1 ?_)
   refine ⟨⟨[97,32,98],[110],hs.set R ⟨ho+((J:Int) - 2),hn,hls⟩⟩,?_,Sees.trans (Sees.freezeG (k:=703) rfl rfl) (Sees.trans (G52 702 (⟨ho+((J:Int) - 2),hn,hls⟩:PatchHunk) rfl rfl) (Sees.trans (Sees.freezeG (k:=702) rfl rfl) (G48 ⟨le1 rfl,le1 rfl,trivial⟩ ⟨rfl,rfl,trivial⟩)))⟩
   have h1:=hzz ⟨ho+((J:Int) - 2),hn,hls⟩
   have h2:szH ⟨ho+((J:Int) - 2),hn,hls⟩=szH ⟨ho,hn,hls⟩:=rfl
   dsimp only;omega
  refine k2 ?_
  refine A4 (A2 (I2 Z Z) Z (A2 (A5 Z Z) Z (A6 ?_)))
  refine k1 ?_
  refine B5 rfl (fun ht=>?_) (fun ht=>?_)
  ·skip
   refine A4 (A2 (A3 Z Z) Z (A2 (H6 Z) Z (A2 (E6 Z) Z (A2 (A34 Z Z (by first | rfl | omega) Z) Z ?_))));refine A2 (A3 Z Z) Z (A2 (C0 Z Z (by omega)) Z (A2 (H6 Z) Z (A2 (E6 Z) Z (F3 (B41 TySz.out Z Z (by first | rfl | omega) Z Z Z Z) ?_))));refine A6 ?_
   refine k4 (k1 ?_)
   refine ⟨⟨[97,32,98],[110],hs.set R ⟨ho,hn+((J:Int) - 2),hls⟩⟩,?_,Sees.trans (Sees.freezeG (k:=703) rfl rfl) (Sees.trans (G52 702 (⟨ho,hn+((J:Int) - 2),hls⟩:PatchHunk) rfl rfl) (Sees.trans (Sees.freezeG (k:=702) rfl rfl) (G48 ⟨le1 rfl,le1 rfl,trivial⟩ ⟨rfl,rfl,trivial⟩)))⟩
   have h1:=hzz ⟨ho,hn+((J:Int) - 2),hls⟩
   have h2:szH ⟨ho,hn+((J:Int) - 2),hls⟩=szH ⟨ho,hn,hls⟩:=rfl
   dsimp only;omega
  refine k2 ?_
  refine A4 (A2 (I2 Z Z) Z (A2 (A5 Z Z) Z (A6 ?_)))
  refine k1 ?_
  refine B5 rfl (fun ht=>?_) (fun ht=>?_)
  ·skip
   refine A4 (A2 (A3 Z Z) Z (A2 (D8 (c:=u8C) (ys:=([32,45,43,64,0]:List UInt8)) (E5 Z Z Z Z (E5 Z Z Z Z (E5 Z Z Z Z (E5 Z Z Z Z (E5 Z Z Z Z G8))))) Z Z Z) Z (A2 (A3 Z Z) Z (C8 (hmod5) Z Z Z ?_))));rintro _ rfl;refine A2 (B1 Z (.pure _ _ _ _) Z (by omega) hvk) Z (A2 (B3 Z Z) Z (A2 (H6 Z) Z (A2 (E6 Z) Z (F3 (V6 ((⟨kd,x.Text⟩:PatchLine)) TySz.out Z Z hvx Z Z Z Z (fun _ _ _ h=>W8 h) (by intro j h1 h2;rcases j with _ | _ | _ | _ | _ | _ | _ | j<;>first | rfl | omega)) ?_))));refine A6 ?_
   refine k4 (k1 ?_)
   refine ⟨⟨[97,32,98],[110],hs.set R ⟨ho,hn,hls.set K ⟨kd,x.Text⟩⟩⟩,?_,Sees.trans (Sees.freezeG (k:=703) rfl rfl) (Sees.trans (G52 702 (⟨ho,hn,hls.set K ⟨kd,x.Text⟩⟩:PatchHunk) rfl rfl) (Sees.trans (Sees.freezeG (k:=702) rfl rfl) (G48 ⟨le1 rfl,le1 rfl,trivial⟩ ⟨rfl,rfl,trivial⟩)))⟩
   have h1:=hzz ⟨ho,hn,hls.set K ⟨kd,x.Text⟩⟩
   have h2:=E21 ho hn hls K ⟨kd,x.Text⟩
   have h3:szL ⟨kd,x.Text⟩=x.Text.length+64:=rfl
   dsimp only;omega
  refine k2 ?_
  refine A4 (A2 (I2 Z Z) Z (A2 (A5 Z Z) Z (A6 ?_)))
  refine k1 ?_
  refine B5 rfl (fun ht=>?_) (fun ht=>?_)
  ·skip
   refine A4 (A2 (A3 Z Z) Z (A2 (A3 Z Z) Z (A2 (H6 Z) Z (A2 (E6 Z) Z (A2 (Y9 Z Z hvx Z) Z (C8 (G39 x.Text (by omega)) Z Z Z ?_))))));rintro _ rfl;refine A2 (H6 Z) Z (A2 (E6 Z) Z (F3 (V6 ((⟨x.Kind,A75 x.Text⟩:PatchLine)) TySz.out Z Z hvx Z Z Z Z (fun _ _ _ h=>W8 h) (by intro j h1 h2;rcases j with _ | _ | _ | _ | _ | _ | _ | j<;>first | rfl | omega)) ?_));refine A6 ?_
   refine k4 (k1 ?_)
   refine ⟨⟨[97,32,98],[110],hs.set R ⟨ho,hn,hls.set K ⟨x.Kind,A75 x.Text⟩⟩⟩,?_,Sees.trans (Sees.freezeG (k:=703) rfl rfl) (Sees.trans (G52 702 (⟨ho,hn,hls.set K ⟨x.Kind,A75 x.Text⟩⟩:PatchHunk) rfl rfl) (Sees.trans (Sees.freezeG (k:=702) rfl rfl) (G48 ⟨le1 rfl,le1 rfl,trivial⟩ ⟨rfl,rfl,trivial⟩)))⟩
   have h1:=hzz ⟨ho,hn,hls.set K ⟨x.Kind,A75 x.Text⟩⟩
   have h2:=E21 ho hn hls K ⟨x.Kind,A75 x.Text⟩
   have h3:szL ⟨x.Kind,A75 x.Text⟩=(A75 x.Text).length+64:=rfl
   dsimp only;omega
  refine k2 ?_
  refine A4 (A2 (I2 Z Z) Z (A2 (A5 Z Z) Z (A6 ?_)))
  refine k1 ?_
  refine B5 rfl (fun ht=>?_) (fun ht=>?_)
  ·skip
   refine A4 (A2 (A3 Z Z) Z (A2 (A3 Z Z) Z (A2 (H6 Z) Z (A2 (E6 Z) Z (A2 (Y9 Z Z hvx Z) Z (A2 (G3 Z Z (by (simp;omega))) Z (A2 (H6 Z) Z (A2 (E6 Z) Z (F3 (V6 ((⟨x.Kind,x.Text++[121]⟩:PatchLine)) TySz.out Z Z hvx Z Z Z Z (fun _ _ _ h=>W8 h) (by intro j h1 h2;rcases j with _ | _ | _ | _ | _ | _ | _ | j<;>first | rfl | omega)) ?_)))))))));refine A6 ?_
   refine k4 (k1 ?_)
   refine ⟨⟨[97,32,98],[110],hs.set R ⟨ho,hn,hls.set K ⟨x.Kind,x.Text++[121]⟩⟩⟩,?_,Sees.trans (Sees.freezeG (k:=703) rfl rfl) (Sees.trans (G52 702 (⟨ho,hn,hls.set K ⟨x.Kind,x.Text++[121]⟩⟩:PatchHunk) rfl rfl) (Sees.trans (Sees.freezeG (k:=702) rfl rfl) (G48 ⟨le1 rfl,le1 rfl,trivial⟩ ⟨rfl,rfl,trivial⟩)))⟩
   have h1:=hzz ⟨ho,hn,hls.set K ⟨x.Kind,x.Text++[121]⟩⟩
   have h2:=E21 ho hn hls K ⟨x.Kind,x.Text++[121]⟩
   have h3:szL ⟨x.Kind,x.Text++[121]⟩=(x.Text++[121]).length+64:=rfl
   rw [G79] at h3
   have h4:([121]:Str).length=1:=rfl
   dsimp only;omega
  refine k2 ?_
  refine A4 (A2 (I2 Z Z) Z (A2 (A5 Z Z) Z (A6 ?_)))
  refine k1 ?_
  refine B5 rfl (fun ht=>?_) (fun ht=>?_)
  ·refine J3 (Sees.freezeG (k:=703) Z Z) ?_
   skip
   refine A4 (A2 (A3 Z Z) Z (A2 (A3 Z Z) Z (A2 (H6 Z) Z (A2 (E6 Z) Z (A2 (A34 Z Z (by first | rfl | omega) Z) Z ?_)))));refine A2 (C00 Z (.pure _ _ _ _) Z (by (first | omega | (dsimp only;omega))) (by (first | omega | (dsimp only;omega)))) Z (A2 (H6 Z) Z (A2 (E6 Z) Z (F3 (B41 TySz.out Z Z (by first | rfl | omega) Z Z Z Z) ?_)));refine A6 ?_
   refine k4 (k1 ?_)
   refine ⟨⟨[97,32,98],[110],hs.set R ⟨ho,hn,hls.drop 1⟩⟩,?_,Sees.trans (G52 702 (⟨ho,hn,hls.drop 1⟩:PatchHunk) rfl rfl) (Sees.trans (Sees.freezeG (k:=702) rfl rfl) (G48 ⟨le1 rfl,le1 rfl,trivial⟩ ⟨rfl,rfl,trivial⟩))⟩
   have h1:=hzz ⟨ho,hn,hls.drop 1⟩
   have h2:szH ⟨ho,hn,hls.drop 1⟩≤szH ⟨ho,hn,hls⟩:=by
    unfold szH
    dsimp only
    cases hls with
    | nil=>exact Nat.le_refl _
    | cons y r=>simp only [List.drop_succ_cons,List.drop_zero,G87,H08];omega
   dsimp only;omega
  refine k2 ?_
  refine A4 (A2 (I2 Z Z) Z (A2 (A5 Z Z) Z (A6 ?_)))
  refine k1 ?_
  refine B5 rfl (fun ht=>?_) (fun ht=>?_)
  ·skip
   refine A4 (A2 (A8 Z) Z (F3 (B9 TySz.out Z Z Z Z Z Z) (A6 ?_)))
   refine k4 (k1 ?_)
   refine ⟨⟨[],[110],hs.set R ⟨ho,hn,hls⟩⟩,?_,Sees.trans (Sees.freezeG (k:=703) rfl rfl) (Sees.trans (G52 702 (⟨ho,hn,hls⟩:PatchHunk) rfl rfl) (Sees.trans (Sees.freezeG (k:=702) rfl rfl) (G48 ⟨le1 rfl,le1 rfl,trivial⟩ ⟨rfl,rfl,trivial⟩)))⟩
   have h1:=hzz ⟨ho,hn,hls⟩
   dsimp only;omega
  refine k2 ?_
  refine A4 (A2 (I2 Z Z) Z (A2 (A5 Z Z) Z (A6 ?_)))
  refine k1 ?_
  refine B5 rfl (fun ht=>?_) (fun ht=>?_)
  ·refine J3 (Sees.trans (Sees.freezeG (k:=703) Z Z) (G52 702 (⟨ho,hn,hls⟩:PatchHunk) Z Z)) ?_
   have h1:=hzz ⟨ho,hn,hls⟩
   have hv2:(hs.set R ⟨ho,hn,hls⟩)[R]?=some ⟨ho,hn,hls⟩:=H11 hRl
   have hln:(hs.set R ⟨ho,hn,hls⟩).length=hs.length:=List.length_set
   obtain ⟨hs',hs'e⟩:∃hs',hs'=hs.set R ⟨ho,hn,hls⟩:=⟨_,rfl⟩
   rw [←hs'e] at h1 hv2 hln ⊢
   skip
   refine C5 (by kernel_rfl) (by kernel_rfl) (A7 (A8 Z) Z Z (A7 (A9 Z Z Z) Z Z (A7 (A3 Z Z) Z Z (A7 (H6 Z) Z Z (A7 (D74 Z Z hv2 Z) Z Z (A7 (D8 (c:=phunkC) (ys:=[⟨ho,hn,hls⟩]) (E5 Z Z Z Z G8) Z Z Z) Z Z (C76 (x9 Z Z Z (.pure _ _ _ _) (by (simp only [G81,G83];omega)) Z) Z Z (A7 (A8 Z) Z Z (Y5 (B9 TySz.out Z Z Z Z Z Z) Z (F4 ?_))))))))))
   refine k4 (k1 ?_)
   refine ⟨⟨[97,32,98],[110],hs'++[⟨ho,hn,hls⟩]⟩,?_,Sees.trans (Sees.freezeG (k:=702) rfl rfl) (G48 ⟨le1 rfl,le1 rfl,trivial⟩ ⟨rfl,rfl,trivial⟩)⟩
   dsimp only
   rw [G40];omega
  ·skip
   refine k5 (k4 (k1 ?_))
   refine ⟨⟨[97,32,98],[110],hs.set R ⟨ho,hn,hls⟩⟩,?_,Sees.trans (Sees.freezeG (k:=703) rfl rfl) (Sees.trans (G52 702 (⟨ho,hn,hls⟩:PatchHunk) rfl rfl) (Sees.trans (Sees.freezeG (k:=702) rfl rfl) (G48 ⟨le1 rfl,le1 rfl,trivial⟩ ⟨rfl,rfl,trivial⟩)))⟩
   have h1:=hzz ⟨ho,hn,hls⟩
   dsimp only;omega
 intro q hq
 dsimp only at hq ⊢
 refine k2 ?_
 refine A4 (A2 (D4 Z Z Z) Z (F3 (B9 TySz.out Z Z Z Z Z Z) (A6 ?_)))
 refine k1 (k10 ?_)
 exact B6 (rs:=[pPatch q]) (retc rfl rfl rfl rfl rfl) ⟨q,rfl,hq⟩
set_option maxHeartbeats 1000000
theorem D49 (p:Patch) (raw:List Int) (what pos by':Int) (hz:szP p.Hunks≤134217728):FnOk Tryz.prog 5 [pPatch p,O1 raw,G2 what,G2 pos,G2 by'] (fun rs=>rs=[O4 true]):=by
 have w1:=B47 p (by omega)
 have w2:=B81 p (by omega)
 have w3:=C12 p (by omega)
 have w4:=p7 p (by omega)
 obtain ⟨f1,hf1⟩:∃f,f=if H1 p≠0 then [] else M1 p:=⟨_,rfl⟩
 rw [←hf1] at w1 w2
 obtain ⟨ck1,hk1⟩:∃k,k=H1 p:=⟨_,rfl⟩
 rw [←hk1] at w1 w2 w3 w4
 refine FnOk.intro Tryz.func5 (by decide) Z Z Z Z ?_
 refine k2 ?_
 refine A4 (D1 (Y6 5 Z Z Z) Z (A2 (A5 Z Z) Z (A6 ?_)))
 refine k1 (k2 (k2 ?_))
 refine A4 (A2 (A8 Z) Z (A2 (A9 Z Z Z) Z (A2 (E0 Z (.pure _ _ _ _)) Z (A2 (N7 Z Z) Z (A2 (A3 Z Z) Z (B0 Z Z Z Z (fun hg=>by rw [hg];exact A8 Z) ?_))))));refine B0 Z Z Z Z (fun hg=>by rw [hg];exact A9 Z Z Z) ?_;refine B0 Z Z Z Z (fun hg=>by rw [hg];exact K9 Z) ?_;refine B0 Z Z Z Z (fun hg=>by rw [hg];exact N7 Z Z) ?_;refine A2 (B2 Z (fun h=>by first | rfl | (rw [h];rfl)) (fun h=>by first | rfl | (rw [h];rfl))) Z ?_;refine A2 (A3 Z Z) Z (B0 Z Z Z Z (fun hg=>by rw [hg];exact A8 Z) ?_);refine B0 Z Z Z Z (fun hg=>by rw [hg];exact A9 Z Z Z) ?_;refine B0 Z Z Z Z (fun hg=>by rw [hg];exact K9 Z) ?_;refine B0 Z Z Z Z (fun hg=>by rw [hg];exact N7 Z Z) ?_;refine A2 (B2 Z (fun h=>by first | rfl | (rw [h];rfl)) (fun h=>by first | rfl | (rw [h];rfl))) Z ?_;refine A6 ?_
 refine k1 ?_
 refine B5 rfl (fun ht=>?_) (fun ht=>?_)
 ·refine k2 ?_
  refine A4 (C8 (B48) Z Z Z ?_);rintro _ rfl;refine A2 (A5 Z Z) Z (A6 ?_)
  refine k1 (k10 (k11 ?_))
  exact B6 (G4 rfl rfl rfl) rfl
 refine k5 (k1 (k2 (k2 ?_)))
 refine A4 (A2 (A5 Z Z) Z (A6 ?_))
 refine k1 (k3 ?_)
 refine D9 (X:=Nat) (fun k=>([(1,.s (O1 raw).s1),(2,C1 what),(3,C1 pos),(4,C1 by'),(5,.s (.one (.ref 5 0))),(11,C1 k)],[(5,.box (pPatch p).s1.cells)])) (fun k=>k≤p.Hunks.length) (fun k=>p.Hunks.length - k) 0 (Nat.zero_le _) (G48 ⟨le1 rfl,le1 rfl,le1 rfl,le1 rfl,le1 rfl,le1 rfl,trivial⟩ ⟨rfl,trivial⟩) ?_
 have hsl:=n8 p.Hunks
 intro k hk
 dsimp only at hk ⊢
 refine k2 (k2 ?_)
 refine A4 (A2 (A3 Z Z) Z (A2 (A8 Z) Z (A2 (A9 Z Z Z) Z (A2 (E0 Z (.pure _ _ _ _)) Z (A2 (E9 Z Z) Z (A6 ?_))))))
 refine k1 ?_
 refine B5 rfl (fun ht=>?_) (fun ht=>?_)
 ·have hlt:k < p.Hunks.length:=by have:=A0 ht;(try dsimp only at this);omega
  have hv:p.Hunks[k]?=some p.Hunks[k]:=by simp [hlt]
  refine k5 (k1 (k2 (k3 (k2 ?_))))
  refine A4 (A2 (A8 Z) Z (A2 (A9 Z Z Z) Z (A2 (A3 Z Z) Z (A2 (B1 Z (.pure _ _ _ _) Z (by omega) hv) Z (A2 (B8 Z) Z (A2 (B3 Z Z) Z (A2 (E0 Z (.pure _ _ _ _)) Z (A2 (N7 Z Z) Z (A6 ?_)))))))))
  refine k1 ?_
  refine B5 rfl (fun ht=>?_) (fun ht=>?_)
  ·refine k2 ?_
   refine A4 (C8 (B48) Z Z Z ?_);rintro _ rfl;refine A2 (A5 Z Z) Z (A6 ?_)
   refine k1 (k10 (k12 (k11 (k11 (k12 (k11 ?_))))))
   exact B6 (G4 rfl rfl rfl) rfl
  refine k5 (k4 (k1 ?_))
  refine A4 (A2 (A3 Z Z) Z (A2 (C0 Z Z (by omega)) Z (A2 (A5 Z Z) Z (A6 ?_))))
  refine k1 ?_
  exact ⟨k+1,by omega,by omega,G48 ⟨le1 rfl,le1 rfl,le1 rfl,le1 rfl,le1 rfl,le1 rfl,trivial⟩ ⟨rfl,trivial⟩⟩
 refine k6 (k2 ?_)
 refine A4 (A2 (A3 Z Z) Z (A2 (A3 Z Z) Z (A2 (A3 Z Z) Z (A2 (A3 Z Z) Z (C8 (E80 raw what pos by') Z Z Z ?_)))));rintro _ ⟨q,rfl,hq⟩;refine D1 (G5 12 Z) Z (F3 (B9 TySz.out Z Z Z Z Z Z) (A6 ?_))
 have w5:=B47 q (by omega)
 have w6:=B81 q (by omega)
 have w7:=C12 q (by omega)
 have w8:=p7 q (by omega)
 have w9:=G02 q (by omega)
 have wa:=G03 q (by omega)
 obtain ⟨f2,hf2⟩:∃f,f=if H1 q≠0 then [] else M1 q:=⟨_,rfl⟩
 rw [←hf2] at w5 w6
 obtain ⟨ck2,hk2⟩:∃k,k=H1 q:=⟨_,rfl⟩
 rw [←hk2] at w5 w6 w7 w8
 obtain ⟨n1,hn1⟩:∃n:Int,n=(l5 45 q.Hunks:Int):=⟨_,rfl⟩
 obtain ⟨n2,hn2⟩:∃n:Int,n=(l5 43 q.Hunks:Int):=⟨_,rfl⟩
 rw [←hn1,←hn2] at w9 wa
 refine k1 (k2 ?_)
 refine A4 (A2 (D4 Z Z Z) Z (C8 (w1) Z Z Z ?_));rintro _ rfl;refine A2 (A3 Z Z) Z (A2 (C6 Z Z) Z (A2 (C6 Z Z) Z (A2 (A5 Z Z) Z (A2 (A5 Z Z) Z (A6 ?_)))))
 refine k1 (k2 ?_)
 refine A4 (A2 (D4 Z Z Z) Z (C8 (w2) Z Z Z ?_));rintro _ rfl;refine A2 (A3 Z Z) Z (A2 (C6 Z Z) Z (A2 (C6 Z Z) Z (A2 (A5 Z Z) Z (A2 (A5 Z Z) Z (A6 ?_)))))
 refine k1 (k2 ?_)
 refine A4 (A2 (D4 Z Z Z) Z (C8 (w5) Z Z Z ?_));rintro _ rfl;refine A2 (A3 Z Z) Z (A2 (C6 Z Z) Z (A2 (C6 Z Z) Z (A2 (A5 Z Z) Z (A2 (A5 Z Z) Z (A6 ?_)))))
 refine k1 (k2 ?_)
 refine A4 (A2 (D4 Z Z Z) Z (C8 (w6) Z Z Z ?_));rintro _ rfl;refine A2 (A3 Z Z) Z (A2 (C6 Z Z) Z (A2 (C6 Z Z) Z (A2 (A5 Z Z) Z (A2 (A5 Z Z) Z (A6 ?_)))))
 refine k1 (k2 ?_)
 refine A4 (A2 (D4 Z Z Z) Z (C8 (w9) Z Z Z ?_));rintro _ rfl;refine A2 (A3 Z Z) Z (A2 (C6 Z Z) Z (A2 (C6 Z Z) Z (A2 (A5 Z Z) Z (A2 (A5 Z Z) Z (A6 ?_)))))
 refine k1 (k2 ?_)
 refine A4 (A2 (D4 Z Z Z) Z (C8 (wa) Z Z Z ?_));rintro _ rfl;refine A2 (A3 Z Z) Z (A2 (C6 Z Z) Z (A2 (C6 Z Z) Z (A2 (A5 Z Z) Z (A2 (A5 Z Z) Z (A6 ?_)))))
 refine k1 (k2 ?_)
 refine C5 (by kernel_rfl) (by kernel_rfl) (A7 (D4 Z Z Z) Z Z (A7 (F5 (w3) Z Z) Z Z (A7 (D4 Z Z Z) Z Z (A7 (F5 (w4) Z Z) Z Z (A7 (I2 Z Z) Z Z (A7 (A3 Z Z) Z Z (B4 Z Z (fun hg=>by rw [hg];exact D4 Z Z Z) Z Z ?_)))))));refine B4 Z Z (fun hg=>by have hq:=hg;(try simp at hq);rw [hg];exact F5 (w7) Z Z) Z Z ?_;refine B4 Z Z (fun hg=>by rw [hg];exact D4 Z Z Z) Z Z ?_;refine B4 Z Z (fun hg=>by have hq:=hg;(try simp at hq);rw [hg];exact F5 (w8) Z Z) Z Z ?_;refine B4 Z Z (fun hg=>by rw [hg];exact I2 Z Z) Z Z ?_;refine A7 (B2 Z (fun h=>by first | rfl | (rw [h];rfl)) (fun h=>by first | rfl | (rw [h];rfl))) Z Z ?_;refine A7 (A3 Z Z) Z Z (B4 Z Z (fun hg=>by rw [hg];exact A3 Z Z) Z Z ?_);refine B4 Z Z (fun hg=>by rw [hg];exact A3 Z Z) Z Z ?_;refine B4 Z Z (fun hg=>by rw [hg];exact B00 Z Z) Z Z ?_;refine A7 (B2 Z (fun h=>by first | rfl | (rw [h];rfl)) (fun h=>by first | rfl | (rw [h];rfl))) Z Z ?_;refine A7 (A3 Z Z) Z Z (B4 Z Z (fun hg=>by rw [hg];exact A3 Z Z) Z Z ?_);refine B4 Z Z (fun hg=>by rw [hg];exact A3 Z Z) Z Z ?_;refine B4 Z Z (fun hg=>by rw [hg];exact I2 Z Z) Z Z ?_;refine A7 (B2 Z (fun h=>by first | rfl | (rw [h];rfl)) (fun h=>by first | rfl | (rw [h];rfl))) Z Z ?_;refine A7 (A3 Z Z) Z Z (B4 Z Z (fun hg=>by rw [hg];exact A3 Z Z) Z Z ?_);refine B4 Z Z (fun hg=>by rw [hg];exact A3 Z Z) Z Z ?_;refine B4 Z Z (fun hg=>by rw [hg];exact B00 Z Z) Z Z ?_;refine A7 (B2 Z (fun h=>by first | rfl | (rw [h];rfl)) (fun h=>by first | rfl | (rw [h];rfl))) Z Z ?_;refine A7 (A3 Z Z) Z Z (B4 Z Z (fun hg=>by rw [hg];exact A3 Z Z) Z Z ?_);refine B4 Z Z (fun hg=>by rw [hg];exact A3 Z Z) Z Z ?_;refine B4 Z Z (fun hg=>by rw [hg];exact I2 Z Z) Z Z ?_;refine A7 (B2 Z (fun h=>by first | rfl | (rw [h];rfl)) (fun h=>by first | rfl | (rw [h];rfl))) Z Z ?_;refine A7 (A3 Z Z) Z Z (B4 Z Z (fun hg=>by rw [hg];exact A3 Z Z) Z Z ?_);refine B4 Z Z (fun hg=>by rw [hg];exact A3 Z Z) Z Z ?_;refine B4 Z Z (fun hg=>by rw [hg];exact I2 Z Z) Z Z ?_;refine A7 (B2 Z (fun h=>by first | rfl | (rw [h];rfl)) (fun h=>by first | rfl | (rw [h];rfl))) Z Z ?_
 refine A7 (A3 Z Z) Z Z (B4 Z Z (fun hg=>by rw [hg];exact A3 Z Z) Z Z ?_);refine B4 Z Z (fun hg=>by rw [hg];exact A3 Z Z) Z Z ?_;refine B4 Z Z (fun hg=>by rw [hg];exact I2 Z Z) Z Z ?_;refine A7 (B2 Z (fun h=>by first | rfl | (rw [h];rfl)) (fun h=>by first | rfl | (rw [h];rfl))) Z Z ?_;refine A7 (A3 Z Z) Z Z (B4 Z Z (fun hg=>by have hq:=hg;(try simp at hq);rw [hg];exact F5 (B48) Z Z) Z Z ?_);refine A7 (B2 Z (fun h=>by first | rfl | (rw [h];rfl)) (fun h=>by first | rfl | (rw [h];rfl))) Z Z ?_;refine A7 (A5 Z Z) Z Z (F4 ?_)
 refine k1 (k10 ?_)
 exact B6 (G4 rfl rfl rfl) (by simp)
end Go.Proofs.YtbiadkkamhpdnaaGreatDoor
