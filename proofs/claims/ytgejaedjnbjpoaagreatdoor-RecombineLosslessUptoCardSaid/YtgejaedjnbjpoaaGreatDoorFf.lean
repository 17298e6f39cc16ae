/- Walks of the program's functions. -/
import Derived.Test.YtgejaedjnbjpoaaGreatDoorFe
import Derived.Test.YtgejaedjnbjpoaaGreatDoorFb
import Derived.Test.YtgejaedjnbjpoaaGreatDoorFd
import Derived.Test.YtgejaedjnbjpoaaGreatDoorFs
import Derived.Test.YtgejaedjnbjpoaaGreatDoorFc
import Derived.Test.YtgejaedjnbjpoaaGreatDoorFa
namespace Go.Proofs.YtgejaedjnbjpoaaGreatDoor
open Go Go.AL
set_option maxRecDepth 100000
theorem H70 (s:Str):FnOk Tryz.prog 93 [F3 s] (fun rs=>rs=[E0 (T0 s)]):=by
 refine FnOk.intro Tryz.func93 (by decide) Z Z Z Z ?_
 refine k2 ?_
 refine A3 (A2 (A5 Z Z) Z (A6 ?_))
 refine k1 (k2 ?_)
 refine A3 (A2 (A4 Z Z) Z (A2 (E4 Z) Z (A2 (s9 Z Z) Z (A2 (A4 Z Z) Z (A9 Z Z Z Z (fun hg=>by rw [hg];exact A4 Z Z) ?_)))));refine A9 Z Z Z Z (fun hg=>by rw [hg];exact E4 Z) ?_;refine A9 Z Z Z Z (fun hg=>by rw [hg];exact x7 Z Z) ?_;refine A2 (B4 Z (fun h=>by first | rfl | (rw [h];rfl)) (fun h=>by first | rfl | (rw [h];rfl))) Z ?_;refine A2 (A5 Z Z) Z (A6 ?_)
 refine k1 (k10 ?_)
 refine B5 (F2 Z Z Z) ?_
 rw [L2]
 unfold T0
 congr 4
 apply decide_eq_decide.2
 omega
theorem E94 (c:Comb) (hp:c.Path.length≤16777216):FnOk Tryz.prog 89 [K9 c] (fun rs=>rs=[F3 (A88 c)]):=by
 have hq:=C02 c.Path
 have hf:=F71 c.Parents
 refine FnOk.intro Tryz.func89 (by decide) Z Z Z Z ?_
 refine k2 ?_
 refine A3 (C3 (P5 1 Z Z Z) Z (A2 (A5 Z Z) Z (A6 ?_)))
 refine k1 (k2 ?_)
 refine A3 (A2 (A5 Z Z) Z (A6 ?_))
 refine k1 (k2 (k2 ?_))
 refine A3 (A2 (A7 Z) Z (A2 (B0 Z Z Z) Z (A6 ?_)))
 refine k1 ?_
 refine B1 rfl (fun ht=>?_) (fun ht=>?_)
 ·have hd:c.Dense=true:=ht
  skip
  refine A3 (A2 (A5 Z Z) Z (A6 ?_))
  refine k1 (k2 ?_)
  refine C4 (by kernel_rfl) (by kernel_rfl) (A8 (A4 Z Z) Z Z (A8 (D9 Z Z (by (simp only [J01,J02,J05];omega))) Z Z (A8 (D9 Z Z (by (simp only [J01,J02,J05];omega))) Z Z (A8 (A7 Z) Z Z (A8 (B0 Z Z Z) Z Z (A8 (G9 (C70 c.Path (by omega)) Z Z) Z Z (A8 (D9 Z Z (by (simp only [J01,J02,J05];omega))) Z Z (A8 (D9 Z Z (by (simp only [J01,J02,J05];omega))) Z Z (A8 (A7 Z) Z Z (A8 (B0 Z Z Z) Z Z (A8 (G9 (p8 c.Parents) Z Z) Z Z (A8 (D9 Z Z (by (simp only [J01,J02,J05];omega))) Z Z (A8 (D9 Z Z (by (simp only [J01,J02,J05];omega))) Z Z (A8 (A5 Z Z) Z Z (H9 ?_)))))))))))))))
  refine k1 (k10 ?_)
  exact B5 (F2 rfl rfl rfl) (by unfold A88 u9;rw [if_pos hd];simp [ccS,parS])
 ·have hd:c.Dense=false:=ht
  refine k5 (k1 (k2 ?_))
  refine C4 (by kernel_rfl) (by kernel_rfl) (A8 (A4 Z Z) Z Z (A8 (D9 Z Z (by (simp only [J01,J02,J05];omega))) Z Z (A8 (D9 Z Z (by (simp only [J01,J02,J05];omega))) Z Z (A8 (A7 Z) Z Z (A8 (B0 Z Z Z) Z Z (A8 (G9 (C70 c.Path (by omega)) Z Z) Z Z (A8 (D9 Z Z (by (simp only [J01,J02,J05];omega))) Z Z (A8 (D9 Z Z (by (simp only [J01,J02,J05];omega))) Z Z (A8 (A7 Z) Z Z (A8 (B0 Z Z Z) Z Z (A8 (G9 (p8 c.Parents) Z Z) Z Z (A8 (D9 Z Z (by (simp only [J01,J02,J05];omega))) Z Z (A8 (D9 Z Z (by (simp only [J01,J02,J05];omega))) Z Z (A8 (A5 Z Z) Z Z (H9 ?_)))))))))))))))
  refine k1 (k10 ?_)
  exact B5 (F2 rfl rfl rfl) (by unfold A88 u9;rw [hd,if_neg (by decide)];simp [combS,parS])
theorem D92 (h:CHunk) (n:Nat) (hn:n≤32) (hr:I8 h.Rows) (hl:h.Rows.length≤268435456) (ha:h.At.length=n+1) (hb:∀a∈h.At,-4611686018427387904≤a∧a≤4611686018427387904) :
  FnOk Tryz.prog 90 [A83 h,E6 n] (fun rs=>rs=[F3 (T5 n h++[10])]):=by
 have hrep:FnOk Tryz.prog 167 [F3 [64],E6 ((n:Int)+1)] (fun rs=>rs=[F3 (atS (n+1))]):=by
  have:=E93 64 (n+1) (by omega)
  rwa [show ((n+1:Nat):Int)=(n:Int)+1 by omega] at this
 obtain ⟨A,hA⟩:∃A,A=atS (n+1):=⟨_,rfl⟩
 have hAl:A.length=n+1:=by rw [hA,Z6]
 have hend:T5 n h++[10]=A++P2 n h n++([32,43]++G4 (h.At.getD n 0) (N1 h.Rows n n)++[32]++A++[10]):=by
  unfold T5
  rw [A26,hA]
  unfold A96 g9
  rw [if_pos rfl];simp
 rw [hend]
 rw [←hA] at hrep
 have hsl:=fun k=>A10 n h k
 have hcnt:=fun k=>C00 h.Rows n k
 have hgA:∀k,k < n+1→h.At[k]?=some (h.At.getD k 0):=fun k hk=>E59 (by omega)
 have hgC:∀k,k < n+1→(W0 h.Rows n)[k]?=some (N1 h.Rows n k):=fun k hk=>H13 h.Rows n k hk
 have hrA:∀k,k < n+1 → -4611686018427387904≤h.At.getD k 0∧h.At.getD k 0≤4611686018427387904:=fun k hk=>hb _ (J22 (hgA k hk))
 refine FnOk.intro Tryz.func90 (by decide) Z Z Z Z ?_
 refine k2 ?_
 refine A3 (C3 (P5 2 Z Z Z) Z (A2 (A5 Z Z) Z (A6 ?_)))
 refine k1 (k2 ?_)
 refine A3 (A2 (A7 Z) Z (A2 (B0 Z Z Z) Z (A2 (A4 Z Z) Z (l_new (D08 h.Rows n hn hr hl) Z Z Z Z ?_))));rintro _ _ ⟨rfl,rfl⟩;refine ⟨rfl,?_⟩;refine A2 (A5 Z Z) Z (A6 ?_)
 refine k1 (k2 ?_)
 refine F5 (Sees.freeze (k:=720) Z) ?_
 refine A3 (A2 (A4 Z Z) Z (A2 (C1 Z Z (by omega)) Z (B9 (hrep) Z Z Z ?_)));rintro _ rfl;refine A2 (A5 Z Z) Z (A6 ?_)
 refine k1 (k2 ?_)
 refine A3 (C3 (D62 700 Z) Z (A6 ?_))
 refine k1 (k2 ?_)
 refine F5 (I85 701 UInt8 1 u8C 5 (kb:=700) (o:=1) Z Z Z) ?_
 refine A3 (A2 (A4 Z Z) Z (V6 (O7 (xs:=[]) (s:=A) ⟨⟨_,.inl rfl,rfl⟩,rfl⟩ (by simp only [J05];omega)) Z Z Z ?_));rintro _ _ ⟨rfl,rfl⟩;refine A6 ?_
 refine k1 (k2 (k2 ?_))
 refine A3 (A2 (A4 Z Z) Z (A2 (A4 Z Z) Z (A6 ?_)))
 refine k1 (k3 ?_)
 refine D3 (X:=Nat) (fun p=>([(1,C2 n),(2,.s (.one (.ref 2 0))),(5,D1 Int 1 L1 (W0 h.Rows n)),(6,H5 A),(7,.s (.one (.ref 700 0))),(18,C2 n),(19,C2 p)],[(2,.box (A83 h).s1.cells),(700,.tbx 144 [.ref 700 0,.buf 701 UInt8 1 u8C (A++P2 n h p)]),(701,.spare (A++P2 n h p).length 1 5)])) (fun p=>p≤n) (fun p=>n - p) 0 (Nat.zero_le _) ?_ ?_
 ·rw [show P2 n h 0=[] from rfl,J25]
  exact I72 ⟨le1 rfl,le1 rfl,le1 rfl,le1 rfl,le1 rfl,le1 rfl,le1 rfl,trivial⟩ ⟨rfl,rfl,rfl,trivial⟩
 intro p hp
 dsimp only at hp ⊢
 have hsp:=hsl p
 have hsucc:=A26 n h p
 refine k2 ?_
 refine A3 (A2 (D6 Z Z) Z (A6 ?_))
 refine k1 (k2 ?_)
 refine B1 rfl (fun ht=>?_) (fun ht=>?_)
 ·have hlt:p < n:=by have:=A0 ht;omega
  have hga:=hgA p (by omega)
  have hgc:=hgC p (by omega)
  have hra:=hrA p (by omega)
  have hcp:=hcnt p
  have hsw:A96 n h p=[32,45]++G4 (h.At.getD p 0) (N1 h.Rows n p):=by
   unfold A96 g9;rw [if_neg (by omega)]
  have hrl:=A21 (h.At.getD p 0) (N1 h.Rows n p)
  rw [hsw] at hsucc
  obtain ⟨a,haa⟩:∃a,a=h.At.getD p 0:=⟨_,rfl⟩
  obtain ⟨q,hqq⟩:∃q,q=N1 h.Rows n p:=⟨_,rfl⟩
  rw [←haa] at hga hra hrl hsucc
  rw [←hqq] at hgc hcp hrl hsucc
  have hlb:(A++P2 n h p).length≤1000:=by rw [J01];omega
  obtain ⟨B,hB⟩:∃B,B=A++P2 n h p:=⟨_,rfl⟩
  rw [←hB] at hlb ⊢
  refine k5 (k1 (k2 (k3 (k2 ?_))))
  refine A3 (A2 (A4 Z Z) Z (A2 (A5 Z Z) Z (A6 ?_)))
  refine k1 ?_
  refine A29 11 (by kernel_rfl) (by kernel_rfl) Z (A8 (A7 Z) Z Z (A8 (B0 Z Z Z) Z Z (A8 (A4 Z Z) Z Z (A8 (B3 Z (.pure _ _ _ _) Z (by omega) hga) Z Z (A8 (B6 Z Z) Z Z (A8 (A4 Z Z) Z Z (A8 (A4 Z Z) Z Z (A8 (B3 Z (.pure _ _ _ _) Z (by omega) hgc) Z Z (A8 (B6 Z Z) Z Z (A8 (G9 (C69 a q hra (by omega)) Z Z) Z Z (A8 (D9 Z Z (by (simp only [J01,J02,J05];omega))) Z Z (H9 (C15 (O7 (xs:=B) (s:=[32,45]++G4 a q) ⟨⟨_,.inr rfl,rfl⟩,rfl⟩ (by simp only [J01,J02,J05];omega)) Z Z Z ?_)))))))))))));rintro _ _ ⟨rfl,rfl⟩;refine ⟨_,rfl,?_⟩;refine H9 ?_
  refine k4 (k1 ?_)
  refine A3 (A2 (C1 Z Z (by omega)) Z (A2 (A4 Z Z) Z (A6 ?_)))
  refine k1 ?_
  refine ⟨p+1,by omega,by omega,?_⟩
  have hs2:A++P2 n h (p+1)=B++([32,45]++G4 a q):=by rw [hsucc,hB,J13]
  rw [hs2]
  exact I72 ⟨le1 rfl,le1 rfl,le1 rfl,le1 rfl,le1 rfl,le1 rfl,le1 rfl,trivial⟩ ⟨rfl,rfl,rfl,trivial⟩
 ·have hpn:p=n:=by have:=A1 ht;omega
  subst hpn
  have hga:=hgA p (by omega)
  have hgc:=hgC p (by omega)
  have hra:=hrA p (by omega)
  have hcp:=hcnt p
  have hrl:=A21 (h.At.getD p 0) (N1 h.Rows p p)
  obtain ⟨a,haa⟩:∃a,a=h.At.getD p 0:=⟨_,rfl⟩
  obtain ⟨q,hqq⟩:∃q,q=N1 h.Rows p p:=⟨_,rfl⟩
  rw [←haa] at hga hra hrl ⊢
  rw [←hqq] at hgc hcp hrl ⊢
  have hlb:(A++P2 p h p).length≤1000:=by rw [J01];omega
  obtain ⟨B,hB⟩:∃B,B=A++P2 p h p:=⟨_,rfl⟩
  rw [←hB] at hlb ⊢
  refine k6 (k2 ?_)
  refine A29 15 (by kernel_rfl) (by kernel_rfl) Z (A8 (A7 Z) Z Z (A8 (B0 Z Z Z) Z Z (A8 (A4 Z Z) Z Z (A8 (B3 Z (.pure _ _ _ _) Z (by omega) hga) Z Z (A8 (B6 Z Z) Z Z (A8 (A4 Z Z) Z Z (A8 (A4 Z Z) Z Z (A8 (B3 Z (.pure _ _ _ _) Z (by omega) hgc) Z Z (A8 (B6 Z Z) Z Z (A8 (G9 (C69 a q hra (by omega)) Z Z) Z Z (A8 (D9 Z Z (by (simp only [J01,J02,J05];omega))) Z Z (A8 (D9 Z Z (by (simp only [J01,J02,J05];omega))) Z Z (A8 (A4 Z Z) Z Z (A8 (D9 Z Z (by (simp only [J01,J02,J05];omega))) Z Z (A8 (D9 Z Z (by (simp only [J01,J02,J05];omega))) Z Z (H9 (C15 (O7 (xs:=B) (s:=[32,43]++G4 a q++[32]++A++[10]) ⟨⟨_,.inr rfl,rfl⟩,rfl⟩ (by simp only [J01,J02,J05];omega)) Z Z Z ?_)))))))))))))))));rintro _ _ ⟨rfl,rfl⟩;refine ⟨_,rfl,?_⟩;refine H9 ?_
  refine k1 (k2 ?_)
  refine A3 (C63 (k:=700) (k':=701) ⟨_,rfl,rfl,rfl⟩ A30 Z Z Z Z Z (.inr Z) Z (A2 (A5 Z Z) Z (A6 ?_)))
  refine k1 (k10 ?_)
  exact B5 (F2 rfl rfl rfl) rfl
def C26 (r:Row):UInt8:=if r.Lost then 45 else 43
theorem crow_ok (r:Row) (n:Nat) (hn:n≤32) (hm:0≤r.Marks∧r.Marks < 4294967296) (hx:r.Text.length≤268435456) :
  FnOk Tryz.prog 91 [pRow r,E6 n] (fun rs=>rs=[F3 (P7 n r).flatten]):=by
 rw [E31]
 refine FnOk.intro Tryz.func91 (by decide) Z Z Z Z ?_
 refine k2 ?_
 refine A3 (C3 (P5 2 Z Z Z) Z (A2 (A5 Z Z) Z (A6 ?_)))
 refine k1 (k2 ?_)
 refine A3 (A2 (A5 Z Z) Z (A6 ?_))
 refine L5 ?_
 refine j4 [(1,C2 n),(2,.s (.one (.ref 2 0))),(5,I3 (.int .u8 (C26 r).toNat))] [(2,.box (pRow r).s1.cells)] ?_ ?_
 ·refine k2 ?_
  refine A3 (A2 (A7 Z) Z (A2 (B0 Z Z Z) Z (A6 ?_)))
  refine k1 ?_
  refine B1 rfl (fun ht=>?_) (fun ht=>?_)
  ·have h:r.Lost=true:=ht
   skip
   refine A3 (A2 (A5 Z Z) Z (A6 ?_))
   refine k1 ?_
   rw [show C26 r=45 by unfold C26;rw [h];rfl]
   exact I72 ⟨le1 rfl,le1 rfl,le1 rfl,trivial⟩ ⟨rfl,trivial⟩
  ·have h:r.Lost=false:=ht
   refine k5 (k1 ?_)
   rw [show C26 r=43 by unfold C26;rw [h];rfl]
   exact I72 ⟨le1 rfl,le1 rfl,le1 rfl,trivial⟩ ⟨rfl,trivial⟩
 refine k2 ?_
 refine A3 (A2 (A4 Z Z) Z (A2 (A7 Z) Z (A2 (B0 Z Z Z) Z (A2 (E4 Z) Z (A2 (C1 Z Z (by omega)) Z (A2 (C1 Z Z (by omega)) Z (C3 (H59 730 UInt8 u8C Z Z (by omega) (by omega) (by first | rfl | (simp [G3,I7,Ob.free,SV.free,S1.free,TC.free]<;>rfl))) Z ?_)))))));refine A2 (A5 Z Z) Z (A6 ?_)
 refine k1 (k2 (k2 ?_))
 refine A3 (A2 (A4 Z Z) Z (A2 (A4 Z Z) Z (A6 ?_)))
 refine k1 (k3 ?_)
 refine D3 (X:=Nat) (fun p=>([(1,C2 n),(2,.s (.one (.ref 2 0))),(5,I3 (.int .u8 (C26 r).toNat)),(6,.s (.one (.buf 730 UInt8 1 u8C (L4 p r)))),(17,C2 n),(18,C2 p)],[(2,.box (pRow r).s1.cells),(730,.spare (L4 p r).length 1 5)])) (fun p=>p≤n) (fun p=>n - p) 0 (Nat.zero_le _) (I72 ⟨le1 rfl,le1 rfl,le1 rfl,le1 rfl,le1 rfl,le1 rfl,trivial⟩ ⟨rfl,rfl,trivial⟩) ?_
 intro p hp
 dsimp only at hp ⊢
 have hml:=R3 p r
 have hsucc:=D28 p r
 refine k2 ?_
 refine A3 (A2 (D6 Z Z) Z (A6 ?_))
 refine k1 (k2 ?_)
 refine B1 rfl (fun ht=>?_) (fun ht=>?_)
 ·have hlt:p < n:=by have:=A0 ht;omega
  refine k5 (k1 (k2 (k3 (k2 ?_))))
  refine A3 (A2 (A4 Z Z) Z (A2 (A5 Z Z) Z (A6 ?_)))
  refine k1 (k2 ?_)
  refine A3 (A2 (A7 Z) Z (A2 (B0 Z Z Z) Z (A2 (A4 Z Z) Z (A2 (A35 Z Z (by omega)) Z (A2 (T7 Z Z Z (fun _=>rfl)) Z (A2 (F6 Z Z) Z (A6 ?_)))))))
  refine k1 ?_
  have h3:0≤r.Marks / 2 ^ p:=Int.ediv_nonneg hm.1 (Int.pow_nonneg (by decide))
  have h4:r.Marks / 2 ^ p≤r.Marks:=Int.ediv_le_self _ hm.1
  have e32:r.Marks.fdiv (2 ^ (min (p:Int).toNat IntKind.u32.bits))=r.Marks / 2 ^ p:=E05 r.Marks p (by omega)
  have e1:=B27 (r.Marks / 2 ^ p) (by omega)
  refine B1 rfl (fun ht=>?_) (fun ht=>?_)
  ·rw [e32,e1] at ht
   have hb:A19 r.Marks p=true:=by unfold A19;simpa using ht
   have hmk:c9 r p=C26 r:=by unfold c9 C26;rw [hb,if_neg (by decide)]
   rw [hmk] at hsucc
   skip
   refine A3 (A2 (A4 Z Z) Z (A2 (A4 Z Z) Z (A2 (C9 (c:=u8C) (ys:=[C26 r]) (E1 Z Z Z Z F4) Z Z Z) Z (C3 (G7 Z Z Z (.pure _ _ _ _) (by (simp only [J02,J05];omega)) Z) Z (A2 (A5 Z Z) Z (A6 ?_))))))
   refine k4 (k1 ?_)
   refine A3 (A2 (C1 Z Z (by omega)) Z (A2 (A4 Z Z) Z (A6 ?_)))
   refine k1 ?_
   refine ⟨p+1,by omega,by omega,?_⟩
   rw [hsucc]
   exact I72 ⟨le1 rfl,le1 rfl,le1 rfl,le1 rfl,le1 rfl,le1 rfl,trivial⟩ ⟨rfl,rfl,trivial⟩
  ·rw [e32,e1] at ht
   have hb:A19 r.Marks p=false:=by unfold A19;simpa using ht
   have hmk:c9 r p=32:=by unfold c9;rw [if_pos hb]
   rw [hmk] at hsucc
   skip
   refine A3 (A2 (A4 Z Z) Z (A2 (C9 (c:=u8C) (ys:=[32]) (E1 Z Z Z Z F4) Z Z Z) Z (C3 (G7 Z Z Z (.pure _ _ _ _) (by (simp only [J02,J05];omega)) Z) Z (A2 (A5 Z Z) Z (A6 ?_)))))
   refine k4 (k1 ?_)
   refine A3 (A2 (C1 Z Z (by omega)) Z (A2 (A4 Z Z) Z (A6 ?_)))
   refine k1 ?_
   refine ⟨p+1,by omega,by omega,?_⟩
   rw [hsucc]
   exact I72 ⟨le1 rfl,le1 rfl,le1 rfl,le1 rfl,le1 rfl,le1 rfl,trivial⟩ ⟨rfl,rfl,trivial⟩
 ·have hpn:p=n:=by have:=A1 ht;omega
  subst hpn
  refine k6 (k2 ?_)
  refine A3 (A2 (A4 Z Z) Z (A2 (A7 Z) Z (A2 (B0 Z Z Z) Z (C3 (A54 TyStr.out Z Z Z (by omega) Z) Z (A2 (A5 Z Z) Z (A6 ?_))))))
  refine k1 (k2 (k2 ?_))
  refine A3 (A2 (A7 Z) Z (A2 (B0 Z Z Z) Z (B9 (C68 r.Text (by omega)) Z Z Z ?_)));rintro _ rfl;refine A2 (F0 Z) Z (A6 ?_)
  refine k1 ?_
  refine B1 rfl (fun ht=>?_) (fun ht=>?_)
  ·have h:ended r.Text=false:=by simpa using ht
   skip
   refine A3 (A2 (A4 Z Z) Z (C3 (A54 TyStr.out Z Z Z (by (simp only [J01,J02,J05];omega)) Z) Z (A2 (A5 Z Z) Z (A6 ?_))))
   refine k1 (k2 ?_)
   refine A3 (A2 (A4 Z Z) Z (A2 (N5 TyStr.out Z (.buf _ _ _ _ _)) Z (A2 (A5 Z Z) Z (A6 ?_))))
   refine k1 (k10 ?_)
   exact B5 (F2 rfl rfl rfl) (by rw [h,if_neg (by decide)];rfl)
  ·have h:ended r.Text=true:=by simpa using ht
   refine k5 (k1 (k2 ?_))
   refine A3 (A2 (A4 Z Z) Z (A2 (N5 TyStr.out Z (.buf _ _ _ _ _)) Z (A2 (A5 Z Z) Z (A6 ?_))))
   refine k1 (k10 ?_)
   exact B5 (F2 rfl rfl rfl) (by rw [if_pos h,J25])
structure CFit (c:Comb):Prop where
 par:0≤c.Parents∧c.Parents≤32
 path:c.Path.length≤4194304
 sz:szC c.Hunks≤268435456
 rows:∀h∈c.Hunks,I8 h.Rows
 ats:∀h∈c.Hunks,h.At.length=c.Parents.toNat+1∧∀a∈h.At,-4611686018427387904≤a∧a≤4611686018427387904
theorem I41 (c:Comb) (hc:CFit c):FnOk Tryz.prog 96 [K9 c] (fun rs=>rs=[E6 (O9 c).length]):=by
 obtain ⟨h1,h2,h3,h4,h5⟩:=hc
 have hzl:=A25 c.Hunks
 have hm29:markS.length=29:=rfl
 obtain ⟨n,hN⟩:∃n,n=c.Parents.toNat:=⟨_,rfl⟩
 have hNc:c.Parents=(n:Int):=by omega
 have hn:n≤32:=by omega
 have hct:=fun k=>F72 c (by omega) k
 have hcs:=fun k h=>G51 c k h
 rw [←hN] at h5 hcs
 refine FnOk.intro Tryz.func96 (by decide) Z Z Z Z ?_
 refine k2 ?_
 refine A3 (C3 (P5 1 Z Z Z) Z (A2 (A5 Z Z) Z (A6 ?_)))
 refine k1 (k2 ?_)
 refine A3 (A2 (D4 Z Z Z) Z (B9 (E94 c (by omega)) Z Z Z ?_));rintro _ rfl;refine A2 (E4 Z) Z (A2 (A5 Z Z) Z (A6 ?_))
 refine k1 (k2 (k2 ?_))
 refine A3 (A2 (A7 Z) Z (A2 (B0 Z Z Z) Z (A2 (F1 Z (.pure _ _ _ _)) Z (A2 (A4 Z Z) Z (A6 ?_)))))
 refine k1 (k3 ?_)
 refine D3 (X:=Nat) (fun k=>([(1,.s (.one (.ref 1 0))),(3,C2 (cTo c k).length),(12,D1 CHunk 2 K4 c.Hunks),(13,C2 c.Hunks.length),(14,C2 k)],[(1,B23 c)])) (fun k=>k≤c.Hunks.length) (fun k=>c.Hunks.length - k) 0 (Nat.zero_le _) (by rw [E29];exact I72 ⟨le1 rfl,le1 rfl,le1 rfl,le1 rfl,le1 rfl,trivial⟩ ⟨rfl,trivial⟩) ?_
 intro k hk
 dsimp only at hk ⊢
 have hck:=hct k
 refine k2 ?_
 refine A3 (A2 (D6 Z Z) Z (A6 ?_))
 refine k1 (k2 ?_)
 refine B1 rfl (fun ht=>?_) (fun ht=>?_)
 ·have hlt:k < c.Hunks.length:=by have:=A0 ht;omega
  have hv:c.Hunks[k]?=some c.Hunks[k]:=by simp [hlt]
  have hmem:=J19 hlt
  have hrw:=h4 _ hmem
  have hat:=h5 _ hmem
  have hzm:=A87 hmem
  have hsucc:=hcs k hlt
  obtain ⟨h,hx⟩:∃x,x=c.Hunks[k]:=⟨_,rfl⟩
  rw [←hx] at hv hrw hat hzm hsucc
  have hz1:=T4 h.Rows
  have hz2:=A86 h.Rows
  unfold A51 at hzm
  have hh:=D92 h n hn hrw (by omega) hat.1 hat.2
  rw [←hNc] at hh
  have hhl:=B54 hn h
  obtain ⟨base,hbase⟩:∃base,base=(cTo c k).length:=⟨_,rfl⟩
  have hcl:=congrArg List.length hsucc
  rw [J01,F14,J01,←hbase] at hcl
  rw [←hbase] at hck ⊢
  obtain ⟨hd,hhd⟩:∃hd,hd=T5 n h++[10]:=⟨_,rfl⟩
  have hdl:hd.length≤926:=by rw [hhd,J01];simp only [J02,J05];omega
  rw [←hhd] at hh hcl
  refine k5 (k1 (k2 (k3 (k2 ?_))))
  refine A3 (A2 (B3 Z (.pure _ _ _ _) Z (by omega) hv) Z (A2 (G8 Z Z) Z (C3 (H1 5 Z) Z (E9 (C0 TySz.out Z Z Z Z Z Z) (A6 ?_)))))
  refine k1 (k2 ?_)
  refine A3 (A2 (A4 Z Z) Z (A2 (D4 Z Z Z) Z (A2 (A7 Z) Z (A2 (B0 Z Z Z) Z (B9 (hh) Z Z Z ?_)))));rintro _ rfl;refine A2 (E4 Z) Z (A2 (C1 Z Z (by omega)) Z (A2 (A5 Z Z) Z (A6 ?_)))
  refine k1 (k2 ?_)
  refine A3 (A2 (A7 Z) Z (A2 (B0 Z Z Z) Z (A2 (F1 Z (.pure _ _ _ _)) Z (A2 (A4 Z Z) Z (A6 ?_)))))
  refine k1 (k3 ?_)
  refine D3 (X:=Nat) (fun j=>([(1,.s (.one (.ref 1 0))),(3,C2 (base+hd.length+(rTo n h.Rows j).length:Nat)),(12,D1 CHunk 2 K4 c.Hunks),(13,C2 c.Hunks.length),(14,C2 k),(26,D1 Row 3 rowC h.Rows),(27,C2 h.Rows.length),(28,C2 j)],[(1,B23 c)])) (fun j=>j≤h.Rows.length) (fun j=>h.Rows.length - j) 0 (Nat.zero_le _) ?_ ?_
  ·have e:((base+hd.length+(rTo n h.Rows 0).length:Nat):Int)=(base:Int)+(hd.length:Int):=by rw [G52];simp
   rw [e]
   exact I72 ⟨le1 rfl,le1 rfl,le1 rfl,le1 rfl,le1 rfl,le1 rfl,le1 rfl,le1 rfl,trivial⟩ ⟨rfl,trivial⟩
  intro j hj
  dsimp only at hj ⊢
  have hrl:=H49 hn h.Rows j
  refine k2 ?_
  refine A3 (A2 (D6 Z Z) Z (A6 ?_))
  refine k1 (k2 ?_)
  refine B1 rfl (fun ht=>?_) (fun ht=>?_)
  ·have hlt2:j < h.Rows.length:=by have:=A0 ht;omega
   have hv2:h.Rows[j]?=some h.Rows[j]:=by simp [hlt2]
   have hrm:=B53 (J19 hlt2)
   have hsucc2:=G53 n h.Rows j hlt2
   obtain ⟨r,hy⟩:∃x,x=h.Rows[j]:=⟨_,rfl⟩
   rw [←hy] at hv2 hrm hsucc2
   have hrm:r.Text.length+96≤(h.Rows.map M9).sum:=hrm
   have hl2:=congrArg List.length hsucc2
   have hml:=R3 n r
   rw [J01,E31,J01,J01,hml] at hl2
   refine k5 (k1 (k2 (k3 (k2 ?_))))
   refine A3 (A2 (B3 Z (.pure _ _ _ _) Z (by omega) hv2) Z (A2 (G8 Z Z) Z (C3 (H1 7 Z) Z (E9 (C0 TySz.out Z Z Z Z Z Z) (A6 ?_)))))
   refine k1 (k2 ?_)
   refine A3 (A2 (A4 Z Z) Z (A2 (A7 Z) Z (A2 (B0 Z Z Z) Z (A2 (A7 Z) Z (A2 (B0 Z Z Z) Z (A2 (E4 Z) Z (A2 (C1 Z Z (by omega)) Z (A2 (C1 Z Z (by omega)) Z (A2 (A5 Z Z) Z (A6 ?_))))))))))
   refine k1 (k2 ?_)
   refine A3 (A2 (A7 Z) Z (A2 (B0 Z Z Z) Z (B9 (C68 r.Text (by omega)) Z Z Z ?_)));rintro _ rfl;refine A2 (F0 Z) Z (A6 ?_)
   refine k1 ?_
   refine B1 rfl (fun ht=>?_) (fun ht=>?_)
   ·have h2:ended r.Text=false:=by simpa using ht
    rw [h2,if_neg (by decide),hm29] at hl2
    have e:((base+hd.length+(rTo n h.Rows (j+1)).length:Nat):Int)=((base+hd.length+(rTo n h.Rows j).length:Nat):Int)+(c.Parents+(r.Text.length:Int))+29:=by omega
    skip
    refine A3 (A2 (A4 Z Z) Z (A2 (C1 Z Z (by omega)) Z (A2 (A5 Z Z) Z (A6 ?_))))
    refine k4 (k1 ?_)
    refine A3 (A2 (C1 Z Z (by omega)) Z (A2 (A4 Z Z) Z (A6 ?_)))
    refine k1 ?_
    refine ⟨j+1,by omega,by omega,?_⟩
    rw [e]
    exact I72 ⟨le1 rfl,le1 rfl,le1 rfl,le1 rfl,le1 rfl,le1 rfl,le1 rfl,le1 rfl,trivial⟩ ⟨rfl,trivial⟩
   ·have h2:ended r.Text=true:=by simpa using ht
    rw [if_pos h2,J05] at hl2
    have e:((base+hd.length+(rTo n h.Rows (j+1)).length:Nat):Int)=((base+hd.length+(rTo n h.Rows j).length:Nat):Int)+(c.Parents+(r.Text.length:Int)):=by omega
    refine k5 (k4 (k1 ?_))
    refine A3 (A2 (C1 Z Z (by omega)) Z (A2 (A4 Z Z) Z (A6 ?_)))
    refine k1 ?_
    refine ⟨j+1,by omega,by omega,?_⟩
    rw [e]
    exact I72 ⟨le1 rfl,le1 rfl,le1 rfl,le1 rfl,le1 rfl,le1 rfl,le1 rfl,le1 rfl,trivial⟩ ⟨rfl,trivial⟩
  ·have hjl:j=h.Rows.length:=by have:=A1 ht;omega
   subst hjl
   have e:base+hd.length+(rTo n h.Rows h.Rows.length).length=(cTo c (k+1)).length:=by omega
   rw [e]
   refine k6 (k7 (k7 (k8 Z (k4 (k1 ?_)))))
   refine A3 (A2 (C1 Z Z (by omega)) Z (A2 (A4 Z Z) Z (A6 ?_)))
   refine k1 ?_
   exact ⟨k+1,by omega,by omega,I72 ⟨le1 rfl,le1 rfl,le1 rfl,le1 rfl,le1 rfl,trivial⟩ ⟨rfl,trivial⟩⟩
 ·have hkl:k=c.Hunks.length:=by have:=A1 ht;omega
  subst hkl
  rw [C51]
  refine k6 (k2 ?_)
  refine A3 (A2 (A4 Z Z) Z (A2 (A5 Z Z) Z (A6 ?_)))
  refine k1 (k10 ?_)
  exact B5 (F2 rfl rfl rfl) rfl
theorem C75 {c:Comb} (hp:c.Path.length≤4194304) (hn:1≤c.Parents∧c.Parents≤32) (hz:szC c.Hunks≤268435456) (hr:∀h∈c.Hunks,I8 h.Rows) (hg:P0 c.Parents.toNat c.Hunks=true):CFit c:=by
 refine ⟨by omega,hp,hz,hr,fun h hm=>?_⟩
 unfold P0 at hg
 rw [J04] at hg
 obtain ⟨a1,a2,a3⟩:=C95 c.Hunks _ (fun k hk=>by rw [J06,List.getElem?_replicate_of_lt hk];exact Int.le_refl _) hg.1 h hm
 refine ⟨a1,fun a ha=>?_⟩
 obtain ⟨k,hk,rfl⟩:=List.getElem_of_mem ha
 have h1:=a3 k (by omega)
 have h2:=C00 h.Rows c.Parents.toNat k
 have e:h.At.getD k 0=h.At[k]:=by rw [J06,J03 hk];rfl
 rw [e] at h1
 omega
theorem C76 (c:Comb) (hz:szC c.Hunks≤268435456) (hr:∀h∈c.Hunks,I8 h.Rows):FnOk Tryz.prog 43 [K9 c] (fun rs=>rs=[E6 (G5 c)]):=by
 refine FnOk.intro Tryz.func43 (by decide) Z Z Z Z ?_
 refine k2 ?_
 refine A3 (C3 (P5 1 Z Z Z) Z (A2 (A5 Z Z) Z (A6 ?_)))
 refine k1 (k2 (k3 (k2 ?_)))
 refine A3 (A2 (A7 Z) Z (A2 (B0 Z Z Z) Z (B9 (H70 c.Path) Z Z Z ?_)));rintro _ rfl;refine A2 (F0 Z) Z (A2 (A5 Z Z) Z (A6 ?_))
 refine k1 ?_
 refine B1 rfl (fun ht=>?_) (fun ht=>?_)
 ·have h:T0 c.Path=false:=by simpa using ht
  refine k2 ?_
  refine A3 (A2 (A5 Z Z) Z (A6 ?_))
  refine k1 (k10 (k12 (k11 ?_)))
  exact B5 (F2 rfl rfl rfl) (by unfold G5;rw [if_pos h])
 have h:T0 c.Path=true:=by simpa using ht
 have hpl:=A0 h
 refine k2 ?_
 refine A3 (A2 (A7 Z) Z (A2 (B0 Z Z Z) Z (A2 (D6 Z Z) Z (A2 (A4 Z Z) Z (A9 Z Z Z Z (fun hg=>by rw [hg];exact A7 Z) ?_)))));refine A9 Z Z Z Z (fun hg=>by rw [hg];exact B0 Z Z Z) ?_;refine A9 Z Z Z Z (fun hg=>by rw [hg];exact N2 Z Z) ?_;refine A2 (B4 Z (fun h=>by first | rfl | (rw [h];rfl)) (fun h=>by first | rfl | (rw [h];rfl))) Z ?_;refine A2 (A5 Z Z) Z (A6 ?_)
 refine k1 ?_
 refine B1 rfl (fun ht=>?_) (fun ht=>?_)
 ·have h1:=A0 (or_pick.symm.trans ht)
  refine k2 ?_
  refine A3 (A2 (A5 Z Z) Z (A6 ?_))
  refine k1 (k10 (k12 (k11 ?_)))
  exact B5 (F2 rfl rfl rfl) (by unfold G5;rw [if_neg (by rw [h];decide),if_pos (by omega)])
 have h1:=A1 (or_pick.symm.trans ht)
 have hn:1≤c.Parents∧c.Parents≤32:=by omega
 refine k2 ?_
 refine A3 (A2 (D4 Z Z Z) Z (B9 (G79 c hn hr hz) Z Z Z ?_));rintro _ rfl;refine A2 (F0 Z) Z (A2 (A5 Z Z) Z (A6 ?_))
 refine k1 ?_
 refine B1 rfl (fun ht=>?_) (fun ht=>?_)
 ·have h2:V2 c.Parents.toNat c.Hunks=false:=by simpa using ht
  refine k2 ?_
  refine A3 (A2 (A5 Z Z) Z (A6 ?_))
  refine k1 (k10 (k12 (k11 ?_)))
  exact B5 (F2 rfl rfl rfl) (by unfold G5;rw [if_neg (by rw [h];decide),if_neg (by omega),if_pos h2])
 have h2:V2 c.Parents.toNat c.Hunks=true:=by simpa using ht
 have hw:=I40 c hn hr hz
 rw [G42 (by omega) h2] at hw
 refine k2 ?_
 refine A3 (A2 (D4 Z Z Z) Z (B9 (hw) Z Z Z ?_));rintro _ rfl;refine A2 (F0 Z) Z (A2 (A5 Z Z) Z (A6 ?_))
 refine k1 ?_
 refine B1 rfl (fun ht=>?_) (fun ht=>?_)
 ·have h3:P0 c.Parents.toNat c.Hunks=false:=by simpa using ht
  refine k2 ?_
  refine A3 (A2 (A5 Z Z) Z (A6 ?_))
  refine k1 (k10 (k12 (k11 ?_)))
  exact B5 (F2 rfl rfl rfl) (by unfold G5;rw [if_neg (by rw [h];decide),if_neg (by omega),if_neg (by rw [h2];decide),if_pos h3])
 have h3:P0 c.Parents.toNat c.Hunks=true:=by simpa using ht
 refine k2 ?_
 refine A3 (A2 (D4 Z Z Z) Z (B9 (I41 c (C75 (by omega) hn hz hr h3)) Z Z Z ?_));rintro _ rfl;refine A2 (N2 Z Z) Z (A2 (A5 Z Z) Z (A6 ?_))
 refine k1 ?_
 refine B1 rfl (fun ht=>?_) (fun ht=>?_)
 ·have h4:=A0 ht
  refine k2 ?_
  refine A3 (A2 (A5 Z Z) Z (A6 ?_))
  refine k1 (k10 (k12 (k11 ?_)))
  exact B5 (F2 rfl rfl rfl) (by unfold G5;rw [if_neg (by rw [h];decide),if_neg (by omega),if_neg (by rw [h2];decide),if_neg (by rw [h3];decide),if_pos (by omega)])
 have h4:=A1 ht
 refine k5 (k2 ?_)
 refine A3 (A2 (A5 Z Z) Z (A6 ?_))
 refine k1 (k10 ?_)
 exact B5 (F2 rfl rfl rfl) (by unfold G5;rw [if_neg (by rw [h];decide),if_neg (by omega),if_neg (by rw [h2];decide),if_neg (by rw [h3];decide),if_neg (by omega)])
theorem D93 {c:Comb} (h:G5 c=0) (hz:szC c.Hunks≤268435456) (hr:∀h∈c.Hunks,I8 h.Rows):CFit c:=by
 obtain ⟨h1,h2,h3,h4,h5⟩:=A85 h
 have hp:=A0 h5
 have hg:P0 c.Parents.toNat c.Hunks=true:=by
  cases hb:P0 c.Parents.toNat c.Hunks with
  | true=>rfl
  | false =>
   exfalso
   unfold G5 at h
   rw [hb] at h
   rw [if_neg (by rw [h5];decide),if_neg (by omega)] at h
   split at h
   ·cases h
   ·cases h
 exact C75 (by omega) (by omega) hz hr hg
theorem D94 (c:Comb) (hz:szC c.Hunks≤268435456) (hr:∀h∈c.Hunks,I8 h.Rows):FnOk Tryz.prog 42 [K9 c] (fun rs=>rs=if G5 c=0 then [F3 (O9 c),E6 0] else [F3 [],E6 (G5 c)]):=by
 by_cases hck:G5 c=0
 rotate_left
 ·rw [if_neg hck]
  refine FnOk.intro Tryz.func42 (by decide) Z Z Z Z ?_
  refine k2 ?_
  refine A3 (C3 (P5 1 Z Z Z) Z (A2 (A5 Z Z) Z (A2 (A5 Z Z) Z (A6 ?_))))
  refine k1 (k2 (k2 ?_))
  refine A3 (A2 (D4 Z Z Z) Z (B9 (C76 c hz hr) Z Z Z ?_));rintro _ rfl;refine A2 (A5 Z Z) Z (A6 ?_)
  refine k1 (k2 ?_)
  refine A3 (A2 (A4 Z Z) Z (A2 (M5 Z Z) Z (A6 ?_)))
  refine k1 ?_
  refine B1 rfl (fun ht=>?_) (fun ht=>?_)
  rotate_left
  ·exact absurd (Decidable.not_not.1 (A1 ht)) hck
  refine k2 ?_
  refine A3 (A2 (A4 Z Z) Z (A2 (A5 Z Z) Z (A2 (A5 Z Z) Z (A6 ?_))))
  refine k1 (k10 (k11 ?_))
  exact B5 (X6 rfl rfl rfl rfl rfl) rfl
 rw [if_pos hck]
 have hcc:=C76 c hz hr
 rw [hck] at hcc
 obtain ⟨h1,h2,_,h4,h5⟩:=D93 hck hz hr
 have hzl:=A25 c.Hunks
 obtain ⟨n,hN⟩:∃n,n=c.Parents.toNat:=⟨_,rfl⟩
 have hNc:c.Parents=(n:Int):=by omega
 have hn:n≤32:=by omega
 have hct:=fun k=>F72 c (by omega) k
 have hcs:=fun k h=>G51 c k h
 rw [←hN] at h5 hcs
 refine FnOk.intro Tryz.func42 (by decide) Z Z Z Z ?_
 refine k2 ?_
 refine A3 (C3 (P5 1 Z Z Z) Z (A2 (A5 Z Z) Z (A2 (A5 Z Z) Z (A6 ?_))))
 refine k1 (k2 (k2 ?_))
 refine A3 (A2 (D4 Z Z Z) Z (B9 (hcc) Z Z Z ?_));rintro _ rfl;refine A2 (A5 Z Z) Z (A6 ?_)
 refine k1 (k2 ?_)
 refine A3 (A2 (A4 Z Z) Z (A2 (M5 Z Z) Z (A6 ?_)))
 refine k1 ?_
 refine B1 rfl (fun ht=>?_) (fun ht=>?_)
 ·cases ht
 refine k5 (k1 (k2 ?_))
 refine A3 (C3 (D62 700 Z) Z (A6 ?_))
 refine k1 (k2 ?_)
 refine F5 (I85 701 UInt8 1 u8C 5 (kb:=700) (o:=1) Z Z Z) ?_
 have hct0:=hct 0
 rw [E29] at hct0
 refine A3 (A2 (D4 Z Z Z) Z (B9 (E94 c (by omega)) Z Z Z ?_));rintro _ rfl;refine V6 (O7 (xs:=[]) (s:=A88 c) ⟨⟨_,.inl rfl,rfl⟩,rfl⟩ (by simp only [J05];omega)) Z Z Z ?_;rintro _ _ ⟨rfl,rfl⟩;refine A6 ?_
 refine k1 (k2 (k2 ?_))
 refine A3 (A2 (A7 Z) Z (A2 (B0 Z Z Z) Z (A2 (F1 Z (.pure _ _ _ _)) Z (A2 (A4 Z Z) Z (A6 ?_)))))
 refine k1 (k3 ?_)
 refine D3 (X:=Nat) (fun k=>([(1,.s (.one (.ref 1 0))),(5,.s (.one (.ref 700 0))),(19,D1 CHunk 2 K4 c.Hunks),(20,C2 c.Hunks.length),(21,C2 k)],[(1,B23 c),(700,.tbx 144 [.ref 700 0,.buf 701 UInt8 1 u8C (cTo c k)]),(701,.spare (cTo c k).length 1 5)])) (fun k=>k≤c.Hunks.length) (fun k=>c.Hunks.length - k) 0 (Nat.zero_le _) (by rw [E29];exact I72 ⟨le1 rfl,le1 rfl,le1 rfl,le1 rfl,le1 rfl,trivial⟩ ⟨rfl,rfl,rfl,trivial⟩) ?_
 intro k hk
 dsimp only at hk ⊢
 have hck:=hct k
 refine k2 ?_
 refine A3 (A2 (D6 Z Z) Z (A6 ?_))
 refine k1 (k2 ?_)
 refine B1 rfl (fun ht=>?_) (fun ht=>?_)
 ·have hlt:k < c.Hunks.length:=by have:=A0 ht;omega
  have hv:c.Hunks[k]?=some c.Hunks[k]:=by simp [hlt]
  have hmem:=J19 hlt
  have hrw:=h4 _ hmem
  have hat:=h5 _ hmem
  have hzm:=A87 hmem
  have hsucc:=hcs k hlt
  obtain ⟨h,hx⟩:∃x,x=c.Hunks[k]:=⟨_,rfl⟩
  rw [←hx] at hv hrw hat hzm hsucc
  have hz1:=T4 h.Rows
  have hz2:=A86 h.Rows
  unfold A51 at hzm
  have hh:=D92 h n hn hrw (by omega) hat.1 hat.2
  rw [←hNc] at hh
  have hhl:=B54 hn h
  obtain ⟨base,hbase⟩:∃base,base=cTo c k:=⟨_,rfl⟩
  rw [F14,←hbase] at hsucc
  rw [←hbase] at hck ⊢
  obtain ⟨hd,hhd⟩:∃hd,hd=T5 n h++[10]:=⟨_,rfl⟩
  have hdl:hd.length≤926:=by rw [hhd,J01];simp only [J02,J05];omega
  rw [←hhd] at hh hsucc
  refine k5 (k1 (k2 (k3 (k2 ?_))))
  refine A3 (A2 (B3 Z (.pure _ _ _ _) Z (by omega) hv) Z (A2 (G8 Z Z) Z (C3 (H1 7 Z) Z (E9 (C0 TySz.out Z Z Z Z Z Z) (A6 ?_)))))
  refine k1 (k2 ?_)
  refine A3 (A2 (D4 Z Z Z) Z (A2 (A7 Z) Z (A2 (B0 Z Z Z) Z (B9 (hh) Z Z Z ?_))));rintro _ rfl;refine V6 (O7 (xs:=base) (s:=hd) ⟨⟨_,.inr rfl,rfl⟩,rfl⟩ (by omega)) Z Z Z ?_;rintro _ _ ⟨rfl,rfl⟩;refine A6 ?_
  refine k1 (k2 ?_)
  refine A3 (A2 (A7 Z) Z (A2 (B0 Z Z Z) Z (A2 (F1 Z (.pure _ _ _ _)) Z (A2 (A4 Z Z) Z (A6 ?_)))))
  refine k1 (k3 ?_)
  refine D3 (X:=Nat) (fun j=>([(1,.s (.one (.ref 1 0))),(5,.s (.one (.ref 700 0))),(19,D1 CHunk 2 K4 c.Hunks),(20,C2 c.Hunks.length),(21,C2 k),(31,D1 Row 3 rowC h.Rows),(32,C2 h.Rows.length),(33,C2 j)],[(1,B23 c),(700,.tbx 144 [.ref 700 0,.buf 701 UInt8 1 u8C (base++hd++rTo n h.Rows j)]),(701,.spare (base++hd++rTo n h.Rows j).length 1 5)])) (fun j=>j≤h.Rows.length) (fun j=>h.Rows.length - j) 0 (Nat.zero_le _) ?_ ?_
  ·rw [G52,J25]
   exact I72 ⟨le1 rfl,le1 rfl,le1 rfl,le1 rfl,le1 rfl,le1 rfl,le1 rfl,le1 rfl,trivial⟩ ⟨rfl,rfl,rfl,trivial⟩
  intro j hj
  dsimp only at hj ⊢
  have hrl:=H49 hn h.Rows j
  refine k2 ?_
  refine A3 (A2 (D6 Z Z) Z (A6 ?_))
  refine k1 (k2 ?_)
  refine B1 rfl (fun ht=>?_) (fun ht=>?_)
  ·have hlt2:j < h.Rows.length:=by have:=A0 ht;omega
   have hv2:h.Rows[j]?=some h.Rows[j]:=by simp [hlt2]
   have hmem2:=J19 hlt2
   have hrm:=B53 hmem2
   have hmm:=hrw _ hmem2
   have hsucc2:=G53 n h.Rows j hlt2
   obtain ⟨r,hy⟩:∃x,x=h.Rows[j]:=⟨_,rfl⟩
   rw [←hy] at hv2 hrm hsucc2 hmm
   have hrp:=F13 hn r
   have hrk:=crow_ok r n hn hmm (by have hrm:r.Text.length+96≤(h.Rows.map M9).sum:=hrm;omega)
   rw [←hNc] at hrk
   obtain ⟨bs,hbs⟩:∃bs,bs=base++hd++rTo n h.Rows j:=⟨_,rfl⟩
   have hbl:bs.length≤16777216+48+268435456+926+268435456:=by rw [hbs,J01,J01];omega
   rw [←hbs]
   refine k5 (k1 (k2 (k3 (k2 ?_))))
   refine A3 (A2 (B3 Z (.pure _ _ _ _) Z (by omega) hv2) Z (A2 (G8 Z Z) Z (C3 (H1 9 Z) Z (E9 (C0 TySz.out Z Z Z Z Z Z) (A6 ?_)))))
   refine k1 ?_
   refine A3 (A2 (D4 Z Z Z) Z (A2 (A7 Z) Z (A2 (B0 Z Z Z) Z (B9 (hrk) Z Z Z ?_))));rintro _ rfl;refine V6 (O7 (xs:=bs) (s:=(P7 n r).flatten) ⟨⟨_,.inr rfl,rfl⟩,rfl⟩ (by omega)) Z Z Z ?_;rintro _ _ ⟨rfl,rfl⟩;refine A6 ?_
   refine k4 (k1 ?_)
   refine A3 (A2 (C1 Z Z (by omega)) Z (A2 (A4 Z Z) Z (A6 ?_)))
   refine k1 ?_
   refine ⟨j+1,by omega,by omega,?_⟩
   rw [hsucc2,←J13,←hbs]
   exact I72 ⟨le1 rfl,le1 rfl,le1 rfl,le1 rfl,le1 rfl,le1 rfl,le1 rfl,le1 rfl,trivial⟩ ⟨rfl,rfl,rfl,trivial⟩
  ·have hjl:j=h.Rows.length:=by have:=A1 ht;omega
   subst hjl
   have e:base++hd++rTo n h.Rows h.Rows.length=cTo c (k+1):=by rw [hsucc,J13]
   rw [e]
   refine k6 (k7 (k7 (k8 Z (k4 (k1 ?_)))))
   refine A3 (A2 (C1 Z Z (by omega)) Z (A2 (A4 Z Z) Z (A6 ?_)))
   refine k1 ?_
   exact ⟨k+1,by omega,by omega,I72 ⟨le1 rfl,le1 rfl,le1 rfl,le1 rfl,le1 rfl,trivial⟩ ⟨rfl,rfl,rfl,trivial⟩⟩
 ·have hkl:k=c.Hunks.length:=by have:=A1 ht;omega
  subst hkl
  rw [C51]
  refine k6 (k2 ?_)
  refine A3 (C63 (k:=700) (k':=701) ⟨_,rfl,rfl,rfl⟩ A30 Z Z Z Z Z (.inr Z) Z (A2 (A5 Z Z) Z (A2 (A5 Z Z) Z (A6 ?_))))
  refine k1 (k10 ?_)
  exact B5 (X6 rfl rfl rfl rfl rfl) rfl
def rowR (s:Str) (n:Int):List PV:=match A12 s n with
 | some r=>[pRow r,E0 true]
 | none=>[pRow ⟨false,0,[]⟩,E0 false]
theorem A45 {s:Str} {n:Int} (h:A12 s n=none):rowR s n=[pRow ⟨false,0,[]⟩,E0 false]:=by unfold rowR;rw [h]
theorem C77 {s:Str} {n:Int} {r:Row} (h:A12 s n=some r):rowR s n=[pRow r,E0 true]:=by unfold rowR;rw [h]
theorem F43 (s:Str) (n:Int):FnOk Tryz.prog 40 [F3 s,E6 n] (fun rs=>rs=rowR s n):=by
 refine FnOk.intro Tryz.func40 (by decide) Z Z Z Z ?_
 refine k2 ?_
 refine A3 (C3 (H1 4 Z) Z (A2 (A5 Z Z) Z (A6 ?_)))
 refine k1 (k2 (k2 ?_))
 refine A3 (A2 (A4 Z Z) Z (A2 (D6 Z Z) Z (A2 (A4 Z Z) Z (A9 Z Z Z Z (fun hg=>by rw [hg];exact A4 Z Z) ?_))));refine A9 Z Z Z Z (fun hg=>by rw [hg];exact N2 Z Z) ?_;refine A2 (B4 Z (fun h=>by first | rfl | (rw [h];rfl)) (fun h=>by first | rfl | (rw [h];rfl))) Z ?_;refine A2 (A4 Z Z) Z (A9 Z Z Z Z (fun hg=>by rw [hg];exact A4 Z Z) ?_);refine A9 Z Z Z Z (fun hg=>by rw [hg];exact E4 Z) ?_;refine A9 Z Z Z Z (fun hg=>by rw [hg];exact A4 Z Z) ?_;refine A9 Z Z Z Z (fun hg=>by rw [hg];exact D6 Z Z) ?_;refine A2 (B4 Z (fun h=>by first | rfl | (rw [h];rfl)) (fun h=>by first | rfl | (rw [h];rfl))) Z ?_;refine A6 ?_
 refine k1 ?_
 refine B1 rfl (fun ht=>?_) (fun ht=>?_)
 ·simp only [or_pick] at ht
  have h:=A0 ht
  refine k2 ?_
  refine A3 (A2 (F8 Z) Z (E9 (C0 TySz.out Z Z Z Z Z Z) (A2 (A5 Z Z) Z (A6 ?_))))
  refine k1 (k10 (k11 ?_))
  exact B5 (rs:=[pRow ⟨false,0,[]⟩,E0 false]) (R6 rfl rfl rfl rfl rfl rfl rfl) (A45 (rowI_no (by omega))).symm
 simp only [or_pick] at ht
 have h:=A1 ht
 obtain ⟨N,rfl⟩:∃N:Nat,n=N:=⟨n.toNat,by omega⟩
 have hN1:1≤N∧N≤32:=by omega
 have hN2:N≤s.length:=by omega
 refine V5 [(0,H5 s),(1,C2 N),(4,.s (.one (.ref 4 0)))] [(4,.box (pRow ⟨false,0,[]⟩).s1.cells)] (I72 ⟨le1 rfl,le1 rfl,le1 rfl,trivial⟩ ⟨rfl,trivial⟩) ?_
 refine k5 (k1 (k2 ?_))
 refine A3 (A2 (A5 Z Z) Z (A2 (A5 Z Z) Z (A6 ?_)))
 refine k1 (k2 (k2 ?_))
 refine A3 (A2 (A4 Z Z) Z (A2 (A4 Z Z) Z (A6 ?_)))
 refine k1 (k3 ?_)
 refine D3 (X:=Nat) (fun p=>([(0,H5 s),(1,C2 N),(4,.s (.one (.ref 4 0))),(6,I3 (.int .u32 (H0 43 s p:Nat))),(7,I3 (.int .u32 (H0 45 s p:Nat))),(22,C2 N),(23,C2 p)],[(4,.box (pRow ⟨false,0,[]⟩).s1.cells)])) (fun p=>p≤N∧(s.take p).all A50=true) (fun p=>N - p) 0 ⟨Nat.zero_le _,rfl⟩ (I72 ⟨le1 rfl,le1 rfl,le1 rfl,le1 rfl,le1 rfl,le1 rfl,le1 rfl,trivial⟩ ⟨rfl,trivial⟩) ?_
 rintro p ⟨hp,hq⟩
 dsimp only at hp hq ⊢
 have hl3:=D47 43 s p
 have hl5:=D47 45 s p
 refine k2 ?_
 refine A3 (A2 (D6 Z Z) Z (A6 ?_))
 refine k1 (k2 ?_)
 refine B1 rfl (fun ht=>?_) (fun ht=>?_)
 ·have hlt:p < N:=by have:=A0 ht;omega
  have hv:s[p]?=some s[p]:=by simp
  have hst3:=F15 hv 43
  have hst5:=F15 hv 45
  have hsg:=I16 hv
  rw [hq,Bool.true_and] at hsg
  have hsh:=shl_nat p (by omega)
  have ho3:=or_bit hl3 (by omega)
  have ho5:=or_bit hl5 (by omega)
  have hno:A50 s[p]=false→(s.take N).all A50=false:=fun hc=>sign_no hlt hv hc
  obtain ⟨c,hcc⟩:∃c,c=s[p]:=⟨_,rfl⟩
  rw [←hcc] at hv hst3 hst5 hsg hno
  refine k5 (k1 (k2 (k3 (k2 ?_))))
  refine A3 (A2 (A4 Z Z) Z (A2 (A5 Z Z) Z (A6 ?_)))
  refine k1 (k2 ?_)
  refine A3 (A2 (A4 Z Z) Z (A2 (A4 Z Z) Z (A2 (I6 Z Z (by omega) hv) Z (A6 ?_))))
  refine k1 (k3 (k2 ?_))
  refine A3 (A2 (F6 Z Z) Z (A2 (A5 Z Z) Z (A6 ?_)))
  refine k1 ?_
  refine B1 rfl (fun ht=>?_) (fun ht=>?_)
  ·have hc:c=43:=by simpa only [ke43,decide_eq_true_eq] using ht
   rw [if_pos hc] at hst3
   rw [if_neg (by rw [hc];decide),Nat.add_zero (H0 45 s p)] at hst5
   skip
   refine A3 (A2 (A4 Z Z) Z (A2 (A4 Z Z) Z (A2 (E63 Z Z (by omega)) Z (A2 (T7 Z Z Z (fun _=>rfl)) Z (A2 (A5 Z Z) Z (A6 ?_))))))
   refine k4 (k4 (k1 ?_))
   refine A3 (A2 (C1 Z Z (by omega)) Z (A2 (A4 Z Z) Z (A6 ?_)))
   refine k1 ?_
   refine ⟨p+1,⟨by omega,by rw [hsg,hc];rfl⟩,by omega,?_⟩
   rw [hst3,hst5,←ho3,←hsh]
   exact I72 ⟨le1 rfl,le1 rfl,le1 rfl,le1 rfl,le1 rfl,le1 rfl,le1 rfl,trivial⟩ ⟨rfl,trivial⟩
  have hc3:c≠43:=by simpa only [ke43,decide_eq_false_iff_not] using ht
  rw [if_neg hc3,Nat.add_zero (H0 43 s p)] at hst3
  refine k2 ?_
  refine A3 (A2 (F6 Z Z) Z (A2 (A5 Z Z) Z (A6 ?_)))
  refine k1 ?_
  refine B1 rfl (fun ht=>?_) (fun ht=>?_)
  ·have hc:c=45:=by simpa only [ke45,decide_eq_true_eq] using ht
   rw [if_pos hc] at hst5
   skip
   refine A3 (A2 (A4 Z Z) Z (A2 (A4 Z Z) Z (A2 (E63 Z Z (by omega)) Z (A2 (T7 Z Z Z (fun _=>rfl)) Z (A2 (A5 Z Z) Z (A6 ?_))))))
   refine k4 (k4 (k1 ?_))
   refine A3 (A2 (C1 Z Z (by omega)) Z (A2 (A4 Z Z) Z (A6 ?_)))
   refine k1 ?_
   refine ⟨p+1,⟨by omega,by rw [hsg,hc];rfl⟩,by omega,?_⟩
   rw [hst3,hst5,←ho5,←hsh]
   exact I72 ⟨le1 rfl,le1 rfl,le1 rfl,le1 rfl,le1 rfl,le1 rfl,le1 rfl,trivial⟩ ⟨rfl,trivial⟩
  have hc5:c≠45:=by simpa only [ke45,decide_eq_false_iff_not] using ht
  rw [if_neg hc5,Nat.add_zero (H0 45 s p)] at hst5
  refine k2 ?_
  refine A3 (A2 (F6 Z Z) Z (A2 (A5 Z Z) Z (A6 ?_)))
  refine k1 ?_
  refine B1 rfl (fun ht=>?_) (fun ht=>?_)
  ·have hc:c=32:=by simpa only [ke32,decide_eq_true_eq] using ht
   refine k5 (k4 (k4 (k1 ?_)))
   refine A3 (A2 (C1 Z Z (by omega)) Z (A2 (A4 Z Z) Z (A6 ?_)))
   refine k1 ?_
   refine ⟨p+1,⟨by omega,by rw [hsg,hc];rfl⟩,by omega,?_⟩
   rw [hst3,hst5]
   exact I72 ⟨le1 rfl,le1 rfl,le1 rfl,le1 rfl,le1 rfl,le1 rfl,le1 rfl,trivial⟩ ⟨rfl,trivial⟩
  have hc2:c≠32:=by simpa only [ke32,decide_eq_false_iff_not] using ht
  refine k2 ?_
  refine A3 (A2 (F8 Z) Z (E9 (C0 TySz.out Z Z Z Z Z Z) (A2 (A5 Z Z) Z (A6 ?_))))
  refine k1 (k10 (k12 (k12 (k11 (k11 (k12 (k11 ?_)))))))
  exact B5 (rs:=[pRow ⟨false,0,[]⟩,E0 false]) (R6 rfl rfl rfl rfl rfl rfl rfl) (A45 (I17 (hno (by unfold A50;simp [hc2,hc3,hc5])))).symm
 ·have hpN:p=N:=by have:=A1 ht;omega
  subst hpN
  refine k6 (k2 (k2 ?_))
  refine A3 (A2 (A4 Z Z) Z (A2 (M5 Z Z) Z (A2 (A4 Z Z) Z (A9 Z Z Z Z (fun hg=>by rw [hg];exact A4 Z Z) ?_))));refine A9 Z Z Z Z (fun hg=>by rw [hg];exact M5 Z Z) ?_;refine A2 (B4 Z (fun h=>by first | rfl | (rw [h];rfl)) (fun h=>by first | rfl | (rw [h];rfl))) Z ?_;refine A6 ?_
  refine k1 ?_
  refine B1 rfl (fun ht=>?_) (fun ht=>?_)
  ·simp only [L2] at ht
   have h2:=A0 ht
   refine k2 ?_
   refine A3 (A2 (F8 Z) Z (E9 (C0 TySz.out Z Z Z Z Z Z) (A2 (A5 Z Z) Z (A6 ?_))))
   refine k1 (k10 (k11 ?_))
   exact B5 (rs:=[pRow ⟨false,0,[]⟩,E0 false]) (R6 rfl rfl rfl rfl rfl rfl rfl) (A45 (I18 (by omega))).symm
  ·simp only [L2] at ht
   have h2:=A1 ht
   have h2':¬(H0 43 s p≠0∧H0 45 s p≠0):=by omega
   have hor:=bits_or hN1.2 h2'
   have hyes:=I65 hN1 hN2 hq h2'
   refine k5 (k1 (k2 ?_))
   refine A3 (A2 (A4 Z Z) Z (A2 (M5 Z Z) Z (A2 (A4 Z Z) Z (A2 (A4 Z Z) Z (A2 (T7 Z Z Z (fun _=>rfl)) Z (A2 (A4 Z Z) Z (A2 (A4 Z Z) Z (A2 (y3 Z Z (by omega) (by omega)) Z (A2 (F8 Z) Z (E9 (C0 TySz.out Z Z Z Z Z Z) (A2 (A5 Z Z) Z (A6 ?_))))))))))))
   refine k1 (k10 ?_)
   refine B5 (rs:=[pRow ⟨decide ((H0 45 s p:Int)≠0),S2 (H0 43 s p:Nat) (H0 45 s p:Nat),s.drop p⟩,E0 true]) (R6 Z Z Z Z Z Z Z) ?_
   rw [C77 hyes,hor]
   congr 3
   exact decide_eq_decide.2 (by omega)
theorem B90 (k n:Nat):FnOk Tryz.prog 117 [E6 k,E6 n] (fun rs=>rs=[E6 (R1 n k)]):=by
 refine FnOk.intro Tryz.func117 (by decide) Z Z Z Z ?_
 refine k2 ?_
 refine A3 (A2 (A5 Z Z) Z (A6 ?_))
 refine k1 (k2 (k2 ?_))
 refine A3 (A2 (A4 Z Z) Z (A2 (A4 Z Z) Z (A2 (F6 Z Z) Z (A6 ?_))))
 refine k1 ?_
 refine B1 rfl (fun ht=>?_) (fun ht=>?_)
 ·have h:=A0 ht
  refine k2 ?_
  refine A3 (A2 (A5 Z Z) Z (A6 ?_))
  refine k1 (k10 (k11 ?_))
  exact B5 (rs:=[E6 (-1)]) (F2 rfl rfl rfl) (by unfold R1;rw [if_pos (by omega)])
 ·have h:=A1 ht
  refine k5 (k1 (k2 ?_))
  refine A3 (A2 (A4 Z Z) Z (A2 (A5 Z Z) Z (A6 ?_)))
  refine k1 (k10 ?_)
  exact B5 (F2 rfl rfl rfl) (by unfold R1;rw [if_neg (by omega)])
theorem G05 (c:Comb) (hn:0≤c.Parents∧c.Parents≤32) (hr:∀h∈c.Hunks,I8 h.Rows) (hz:szC c.Hunks≤268435456):FnOk Tryz.prog 101 [K9 c] (fun rs=>rs=[E0 (V2 c.Parents.toNat c.Hunks)]):=by
 obtain ⟨n,hN⟩:∃n,n=c.Parents.toNat:=⟨_,rfl⟩
 rw [←hN]
 have hzl:=A25 c.Hunks
 refine FnOk.intro Tryz.func101 (by decide) Z Z Z Z ?_
 refine k2 ?_
 refine A3 (C3 (P5 1 Z Z Z) Z (A2 (A5 Z Z) Z (A6 ?_)))
 refine k1 (k2 (k2 ?_))
 refine A3 (A2 (A5 Z Z) Z (A6 ?_))
 refine k1 (k3 ?_)
 refine D3 (X:=Nat) (fun k=>([(1,.s (.one (.ref 1 0))),(3,C2 k)],[(1,B23 c)])) (fun k=>k≤c.Hunks.length∧V2 n c.Hunks=V2 n (c.Hunks.drop k)) (fun k=>c.Hunks.length - k) 0 ⟨Nat.zero_le _,rfl⟩ (I72 ⟨le1 rfl,le1 rfl,trivial⟩ ⟨rfl,trivial⟩) ?_
 rintro k ⟨hk,hp⟩
 dsimp only at hk hp ⊢
 refine k2 (k2 ?_)
 refine A3 (A2 (A4 Z Z) Z (A2 (A7 Z) Z (A2 (B0 Z Z Z) Z (A2 (F1 Z (.pure _ _ _ _)) Z (A2 (D6 Z Z) Z (A6 ?_))))))
 refine k1 ?_
 refine B1 rfl (fun ht=>?_) (fun ht=>?_)
 ·have hlt:k < c.Hunks.length:=by have:=A0 ht;omega
  have hv:c.Hunks[k]?=some c.Hunks[k]:=by simp [hlt]
  have hrw:=hr _ (J19 hlt)
  rw [J07 hlt] at hp
  obtain ⟨h,hx⟩:∃x,x=c.Hunks[k]:=⟨_,rfl⟩
  rw [←hx] at hv hrw hp
  have hp:V2 n c.Hunks=(M4 h.Rows n&&V2 n (c.Hunks.drop (k+1))):=hp
  have hm:=D81 h.Rows c.Parents hn hrw
  rw [←hN] at hm
  refine k5 (k1 (k2 (k3 (k2 ?_))))
  refine C4 (by kernel_rfl) (by kernel_rfl) (A8 (A7 Z) Z Z (A8 (B0 Z Z Z) Z Z (A8 (A4 Z Z) Z Z (A8 (B3 Z (.pure _ _ _ _) Z (by omega) hv) Z Z (A8 (D7 Z) Z Z (A8 (B6 Z Z) Z Z (A8 (A7 Z) Z Z (A8 (B0 Z Z Z) Z Z (A8 (G9 (hm) Z Z) Z Z (A8 (F0 Z) Z Z (H9 ?_)))))))))))
  refine k1 ?_
  refine B1 rfl (fun ht=>?_) (fun ht=>?_)
  ·have h2:M4 h.Rows n=false:=by simpa using ht
   rw [h2,Bool.false_and] at hp
   refine k2 ?_
   refine A3 (A2 (A5 Z Z) Z (A6 ?_))
   refine k1 (k10 (k12 (k11 (k11 (k12 (k11 ?_))))))
   exact B5 (F2 rfl rfl rfl) (by rw [hp])
  ·have h2:M4 h.Rows n=true:=by simpa using ht
   rw [h2,Bool.true_and] at hp
   refine k5 (k4 (k1 ?_))
   refine A3 (A2 (A4 Z Z) Z (A2 (C1 Z Z (by omega)) Z (A2 (A5 Z Z) Z (A6 ?_))))
   refine k1 ?_
   exact ⟨k+1,⟨by omega,hp⟩,by omega,I72 ⟨le1 rfl,le1 rfl,trivial⟩ ⟨rfl,trivial⟩⟩
 ·have hkl:k=c.Hunks.length:=by have:=A1 ht;omega
  rw [hkl,J11 (Nat.le_refl _)] at hp
  refine k6 (k2 ?_)
  refine A3 (A2 (A5 Z Z) Z (A6 ?_))
  refine k1 (k10 ?_)
  exact B5 (F2 rfl rfl rfl) (by rw [hp];rfl)
def U1 (n:Nat) (ends:List Int) (h:CHunk) (k:Nat):List Int:=(List.range (n+1)).map fun j=>if j < k then h.At.getD j 0+N1 h.Rows n j else ends.getD j 0
theorem D09 (n:Nat) (ends:List Int) (h:CHunk) (k:Nat):(U1 n ends h k).length=n+1:=by unfold U1;simp
theorem F44 {n:Nat} {ends:List Int} (h:CHunk) (hl:ends.length=n+1):U1 n ends h 0=ends:=by
 unfold U1
 refine List.ext_getElem (by simp [hl]) fun k h1 h2=>?_
 rw [List.getElem_map,List.getElem_range,if_neg (by omega),J06,J03 h2];rfl
theorem G06 (n:Nat) (ends:List Int) (h:CHunk) (k:Nat) (hk:k < n+1):(U1 n ends h k)[k]?=some (ends.getD k 0):=by
 unfold U1
 rw [J34,J38 hk];simp
theorem F45 (n:Nat) (ends:List Int) (h:CHunk) (k:Nat) (hk:k < n+1):(U1 n ends h (k+1))[k]?=some (h.At.getD k 0+N1 h.Rows n k):=by
 unfold U1
 rw [J34,J38 hk];simp
theorem G07 (n:Nat) (ends:List Int) (h:CHunk) (k:Nat):(U1 n ends h k).set k (h.At.getD k 0+N1 h.Rows n k)=U1 n ends h (k+1):=by
 unfold U1
 rw [C01]
 refine List.map_congr_left fun j hj=>?_
 by_cases e:j=k
 ·subst e;rw [if_pos rfl,if_pos (by omega)]
 ·rw [if_neg e]
  by_cases h3:j < k
  ·rw [if_pos h3,if_pos (by omega)]
  ·rw [if_neg h3,if_neg (by omega)]
theorem F46 (n:Nat) (ends:List Int) (h:CHunk):U1 n ends h (n+1)=T3 n h:=by
 unfold U1 T3
 refine List.map_congr_left fun k hk=>?_
 rw [if_pos (List.mem_range.1 hk)]
theorem G80 (n:Nat) (ends:List Int) (h:CHunk):A34 n ends h=true↔(h.At.length=n+1∧h.Rows≠[])∧∀k,k < n+1→(ends.getD k 0≤h.At.getD k 0∧h.At.getD k 0≤4096)∧h.At.getD k 0+N1 h.Rows n k≤4096:=by
 unfold A34
 simp only [J04,decide_eq_true_eq,List.all_eq_true,List.mem_range]
theorem B91:∀(hs:List CHunk),((J1 hs).map M9).sum≤szC hs
 | []=>by simp [J1,szC]
 | h::r=>by
  have ih:=B91 r
  have e1:J1 (h::r)=h.Rows++J1 r:=by simp [J1]
  have e2:szC (h::r)=A51 h+szC r:=by simp [szC]
  have e3:(h.Rows.map M9).sum≤A51 h:=by unfold A51;exact Nat.le_add_left _ _
  rw [e1,e2,J17,J40]
  exact Nat.add_le_add e3 ih
theorem F47 (hs:List CHunk) (k:Nat) (h:k < hs.length):J1 (hs.take (k+1))=J1 (hs.take k)++hs[k].Rows:=by
 unfold J1
 rw [J10 h,J17,J27];simp
theorem G08 (c:Comb) (hn:1≤c.Parents∧c.Parents≤32) (hr:∀h∈c.Hunks,I8 h.Rows) (hz:szC c.Hunks≤268435456) :
  FnOk Tryz.prog 102 [K9 c] (fun rs=>rs=[E0 (P0 c.Parents.toNat c.Hunks)]):=by
 obtain ⟨n,hN⟩:∃n,n=c.Parents.toNat:=⟨_,rfl⟩
 have hNc:c.Parents=(n:Int):=by omega
 rw [←hN]
 have e0:(c.Parents+1).toNat=n+1:=by omega
 have hzl:=A25 c.Hunks
 have hsa:=B91 c.Hunks
 have hfalse:∀{A B:Bool} {Y:Prop},A=false→[E0 false]=[E0 (A&&B)]:=fun h=>by rw [h];rfl
 refine FnOk.intro Tryz.func102 (by decide) Z Z Z Z ?_
 refine k2 ?_
 refine A3 (C3 (P5 1 Z Z Z) Z (A2 (A5 Z Z) Z (A6 ?_)))
 refine k1 (k2 ?_)
 refine A3 (C3 (V4 721 _ rowC Z) Z (A6 ?_))
 refine k1 (k2 ?_)
 refine A3 (A2 (A7 Z) Z (A2 (B0 Z Z Z) Z (A2 (C1 Z Z (by omega)) Z (C3 (j5 720 Int L1 0 Z Z (by omega) (by omega) (fun _=>by first | exact ⟨⟨rfl,rfl⟩,trivial⟩ | exact ⟨O1 _ _ _,trivial⟩) (by first | rfl | (simp [G3,I7,Ob.free,SV.free,S1.free,TC.free]<;>rfl))) Z ?_))));refine A2 (A5 Z Z) Z (A6 ?_)
 rw [e0]
 refine k1 (k2 (k2 ?_))
 refine A3 (A2 (A5 Z Z) Z (A6 ?_))
 refine k1 (k3 ?_)
 refine D3 (X:=Nat × List Int) (fun x=>([(1,.s (.one (.ref 1 0))),(3,.s (.one (.buf 721 Row 3 rowC (J1 (c.Hunks.take x.1))))),(4,.s (.one (.mut 720))),(5,C2 x.1)],[(1,B23 c),(720,.arr Int 1 L1 x.2),(721,.spare (J1 (c.Hunks.take x.1)).length 3 69)])) (fun x=>x.1≤c.Hunks.length∧x.2.length=n+1∧(∀e∈x.2,0≤e)∧U5 n (List.replicate (n+1) 0) c.Hunks=U5 n x.2 (c.Hunks.drop x.1)) (fun x=>c.Hunks.length - x.1) (0,List.replicate (n+1) 0) ⟨Nat.zero_le _,by simp,fun e he=>by have:=(List.mem_replicate.1 he).2;omega,rfl⟩ (I72 ⟨le1 rfl,le1 rfl,le1 rfl,le1 rfl,trivial⟩ ⟨rfl,rfl,rfl,trivial⟩) ?_
 rintro ⟨k,ends⟩ ⟨hk,hel,he0,hp⟩
 dsimp only at hk hel he0 hp ⊢
 refine k2 (k2 ?_)
 refine A3 (A2 (A4 Z Z) Z (A2 (A7 Z) Z (A2 (B0 Z Z Z) Z (A2 (F1 Z (.pure _ _ _ _)) Z (A2 (D6 Z Z) Z (A6 ?_))))))
 refine k1 ?_
 refine B1 rfl (fun ht=>?_) (fun ht=>?_)
 ·have hlt:k < c.Hunks.length:=by have:=A0 ht;omega
  have hv:c.Hunks[k]?=some c.Hunks[k]:=by simp [hlt]
  have hmem:=J19 hlt
  have hrw:=hr _ hmem
  have hzm:=A87 hmem
  have hat:=F47 c.Hunks k hlt
  have hst:=B91 (c.Hunks.take k)
  have hst2:=E27 c.Hunks k
  have hst3:=T4 (J1 (c.Hunks.take k))
  rw [J07 hlt,U5] at hp
  obtain ⟨h,hx⟩:∃x,x=c.Hunks[k]:=⟨_,rfl⟩
  rw [←hx] at hv hrw hzm hp hat
  have hz1:=T4 h.Rows
  unfold A51 at hzm
  have hno:A34 n ends h=false→[E0 false]=[E0 (P0 n c.Hunks)]:=fun e=>by
   unfold P0;rw [hp,e];rfl
  have hiff:=G80 n ends h
  refine k5 (k1 (k2 (k3 (k2 ?_))))
  refine A3 (A2 (A7 Z) Z (A2 (B0 Z Z Z) Z (A2 (A4 Z Z) Z (A2 (B3 Z (.pure _ _ _ _) Z (by omega) hv) Z (A2 (G8 Z Z) Z (C3 (H1 6 Z) Z (E9 (C0 TySz.out Z Z Z Z Z Z) (A6 ?_))))))))
  refine k1 (k2 (k2 ?_))
  refine A3 (A2 (A7 Z) Z (A2 (B0 Z Z Z) Z (A2 (F1 Z (.pure _ _ _ _)) Z (A2 (A7 Z) Z (A2 (B0 Z Z Z) Z (A2 (C1 Z Z (by omega)) Z (A2 (M5 Z Z) Z (A2 (A4 Z Z) Z (A9 Z Z Z Z (fun hg=>by rw [hg];exact A7 Z) ?_)))))))));refine A9 Z Z Z Z (fun hg=>by rw [hg];exact B0 Z Z Z) ?_;refine A9 Z Z Z Z (fun hg=>by rw [hg];exact F1 Z (.pure _ _ _ _)) ?_;refine A9 Z Z Z Z (fun hg=>by rw [hg];exact F6 Z Z) ?_;refine A2 (B4 Z (fun h=>by first | rfl | (rw [h];rfl)) (fun h=>by first | rfl | (rw [h];rfl))) Z ?_;refine A6 ?_
  refine k1 ?_
  refine B1 rfl (fun ht=>?_) (fun ht=>?_)
  ·have h1:=A0 (or_pick.symm.trans ht)
   refine k2 ?_
   refine A3 (A2 (A5 Z Z) Z (A6 ?_))
   refine k1 (k10 (k11 (k12 (k11 (k11 (k12 (k11 ?_)))))))
   refine B5 (F2 rfl rfl rfl) (hno ?_)
   rw [Bool.eq_false_iff]
   intro hq
   have h2:=(hiff.1 hq).1
   rcases h1 with h1 | h1
   ·omega
   ·exact h2.2 (List.length_eq_zero_iff.1 (by omega))
  have h1:=A1 (or_pick.symm.trans ht)
  simp only [not_or,Decidable.not_not] at h1
  have hal:h.At.length=n+1:=by omega
  have hne:h.Rows≠[]:=fun e=>h1.2 (by rw [e];rfl)
  refine V5 [(1,.s (.one (.ref 1 0))),(3,.s (.one (.buf 721 Row 3 rowC (J1 (c.Hunks.take k))))),(4,.s (.one (.mut 720))),(5,C2 k),(6,.s (.one (.ref 6 0)))] [(1,B23 c),(720,.arr Int 1 L1 ends),(721,.spare (J1 (c.Hunks.take k)).length 3 69),(6,.box (A83 h).s1.cells)] (I72 ⟨le1 rfl,le1 rfl,le1 rfl,le1 rfl,le1 rfl,trivial⟩ ⟨rfl,rfl,rfl,rfl,trivial⟩) ?_
  refine k5 (k1 (k2 (k2 ?_)))
  refine A3 (A2 (A5 Z Z) Z (A6 ?_))
  refine k1 (k3 ?_)
  refine D3 (X:=Nat) (fun j=>([(1,.s (.one (.ref 1 0))),(3,.s (.one (.buf 721 Row 3 rowC (J1 (c.Hunks.take k))))),(4,.s (.one (.mut 720))),(5,C2 k),(6,.s (.one (.ref 6 0))),(7,C2 j)],[(1,B23 c),(720,.arr Int 1 L1 (U1 n ends h j)),(721,.spare (J1 (c.Hunks.take k)).length 3 69),(6,.box (A83 h).s1.cells)])) (fun j=>j≤n+1∧∀i,i < j→(ends.getD i 0≤h.At.getD i 0∧h.At.getD i 0≤4096)∧h.At.getD i 0+N1 h.Rows n i≤4096) (fun j=>n+1 - j) 0 ⟨Nat.zero_le _,fun i hi=>by omega⟩ (by rw [F44 h hel];exact I72 ⟨le1 rfl,le1 rfl,le1 rfl,le1 rfl,le1 rfl,le1 rfl,trivial⟩ ⟨rfl,rfl,rfl,rfl,trivial⟩) ?_
  rintro j ⟨hj,hq⟩
  dsimp only at hj hq ⊢
  have hml:=D09 n ends h j
  refine k2 (k2 ?_)
  refine A3 (A2 (A4 Z Z) Z (A2 (A7 Z) Z (A2 (B0 Z Z Z) Z (A2 (x7 Z Z) Z (A6 ?_)))))
  refine k1 ?_
  refine B1 rfl (fun ht=>?_) (fun ht=>?_)
  ·have hlt2:j < n+1:=by have:=A0 ht;omega
   have hva:=E59 (l:=h.At) (i:=j) (by omega)
   have hge:=G06 n ends h j hlt2
   have hge1:=F45 n ends h j hlt2
   have hset:=G07 n ends h j
   have hml1:=D09 n ends h (j+1)
   have hej:0≤ends.getD j 0:=he0 _ (J22 (E59 (l:=ends) (i:=j) (by omega)))
   have hcl:=C00 h.Rows n j
   have hcol:=A17 h.Rows (R1 n j) hrw (by omega)
   have hcn:=B90 j n
   rw [←hNc] at hcn
   have hcc:((N8 h.Rows (R1 n j)).length:Int)=N1 h.Rows n j:=rfl
   obtain ⟨a,ha⟩:∃a,a=h.At.getD j 0:=⟨_,rfl⟩
   obtain ⟨e,hee⟩:∃e,e=ends.getD j 0:=⟨_,rfl⟩
   obtain ⟨q,hqq⟩:∃q,q=N1 h.Rows n j:=⟨_,rfl⟩
   have hno2:¬((e≤a∧a≤4096)∧a+q≤4096)→A34 n ends h=false:=fun hc=>by
    rw [Bool.eq_false_iff]
    intro hqq2
    have:=(hiff.1 hqq2).2 j hlt2
    rw [←ha,←hee,←hqq] at this
    exact hc this
   rw [←ha] at hva hge1 hset
   rw [←hee] at hge hej
   rw [←hqq] at hge1 hset hcl hcc
   refine k5 (k1 (k2 (k3 (k2 (k2 ?_)))))
   refine C4 (by kernel_rfl) (by kernel_rfl) (A8 (A7 Z) Z Z (A8 (B0 Z Z Z) Z Z (A8 (A4 Z Z) Z Z (A8 (B3 Z (.pure _ _ _ _) Z (by omega) hva) Z Z (A8 (B6 Z Z) Z Z (A8 (A4 Z Z) Z Z (A8 (A4 Z Z) Z Z (A8 (E5 Z Z Z (by omega) (by (rw [hml];omega))) Z Z ?_))))))));refine A8 (R5 Z Z hge Z) Z Z (A8 (D6 Z Z) Z Z (A8 (A4 Z Z) Z Z (C6 Z Z (fun hg=>by rw [hg];exact A7 Z) Z Z ?_)));refine C6 Z Z (fun hg=>by rw [hg];exact B0 Z Z Z) Z Z ?_;refine C6 Z Z (fun hg=>by rw [hg];exact A4 Z Z) Z Z ?_;refine C6 Z Z (fun hg=>by have hq:=hg;(try simp at hq);rw [hg];exact B3 Z (.pure _ _ _ _) Z (by omega) hva) Z Z ?_;refine C6 Z Z (fun hg=>by rw [hg];exact B6 Z Z) Z Z ?_;refine C6 Z Z (fun hg=>by rw [hg];exact N2 Z Z) Z Z ?_;refine A8 (B4 Z (fun h=>by first | rfl | (rw [h];rfl)) (fun h=>by first | rfl | (rw [h];rfl))) Z Z ?_;refine H9 ?_
   refine k1 ?_
   refine B1 rfl (fun ht=>?_) (fun ht=>?_)
   ·have h2:=A0 (or_pick.symm.trans ht)
    refine k2 ?_
    refine A3 (A2 (A5 Z Z) Z (A6 ?_))
    refine k1 (k10 (k11 (k12 (k11 (k11 (k12 (k11 (k12 (k11 (k11 (k12 (k11 ?_))))))))))))
    exact B5 (F2 rfl rfl rfl) (hno (hno2 (by omega)))
   have h2:=A1 (or_pick.symm.trans ht)
   refine V5 [(1,.s (.one (.ref 1 0))),(3,.s (.one (.buf 721 Row 3 rowC (J1 (c.Hunks.take k))))),(4,.s (.one (.mut 720))),(5,C2 k),(6,.s (.one (.ref 6 0))),(7,C2 j)] [(1,B23 c),(720,.arr Int 1 L1 (U1 n ends h j)),(721,.spare (J1 (c.Hunks.take k)).length 3 69),(6,.box (A83 h).s1.cells)] (I72 ⟨le1 rfl,le1 rfl,le1 rfl,le1 rfl,le1 rfl,le1 rfl,trivial⟩ ⟨rfl,rfl,rfl,rfl,trivial⟩) ?_
   refine k5 (k1 (k2 ?_))
   refine C4 (by kernel_rfl) (by kernel_rfl) (A8 (A4 Z Z) Z Z (A8 (A4 Z Z) Z Z (A8 (A7 Z) Z Z (A8 (B0 Z Z Z) Z Z (A8 (A4 Z Z) Z Z (A8 (B3 Z (.pure _ _ _ _) Z (by omega) hva) Z Z (A8 (B6 Z Z) Z Z (A8 (A7 Z) Z Z (A8 (B0 Z Z Z) Z Z (A8 (A4 Z Z) Z Z (A8 (A7 Z) Z Z (A8 (B0 Z Z Z) Z Z (A8 (G9 (hcn) Z Z) Z Z (A8 (G9 (hcol) Z Z) Z Z (A8 (F1 Z (.pure _ _ _ _)) Z Z (A8 (C1 Z Z (by omega)) Z Z (A8 (E5 Z Z Z (by omega) (by (rw [hml];omega))) Z Z ?_)))))))))))))))));refine C10 (H3 TySz.out Z Z (by (rw [hml];omega)) Z Z) Z ?_;refine H9 ?_
   rw [hcc,J09,hset]
   refine k1 (k2 ?_)
   refine A3 (A2 (A4 Z Z) Z (A2 (A4 Z Z) Z (A2 (E5 Z Z Z (by omega) (by (rw [hml1];omega))) Z ?_)));refine A2 (R5 Z Z hge1 Z) Z (A2 (N2 Z Z) Z (A6 ?_))
   refine k1 ?_
   refine B1 rfl (fun ht=>?_) (fun ht=>?_)
   ·have h3:=A0 ht
    refine k2 ?_
    refine A3 (A2 (A5 Z Z) Z (A6 ?_))
    refine k1 (k10 (k12 (k11 (k11 (k12 (k11 (k12 (k11 (k11 (k12 (k11 ?_)))))))))))
    exact B5 (F2 rfl rfl rfl) (hno (hno2 (by omega)))
   have h3:=A1 ht
   refine k5 (k4 (k1 ?_))
   refine A3 (A2 (A4 Z Z) Z (A2 (C1 Z Z (by omega)) Z (A2 (A5 Z Z) Z (A6 ?_))))
   refine k1 ?_
   refine ⟨j+1,⟨by omega,fun i hi=>?_⟩,by omega,I72 ⟨le1 rfl,le1 rfl,le1 rfl,le1 rfl,le1 rfl,le1 rfl,trivial⟩ ⟨rfl,rfl,rfl,rfl,trivial⟩⟩
   by_cases e1:i=j
   ·subst e1;rw [←ha,←hee,←hqq];omega
   ·exact hq i (by omega)
  ·have hjn:j=n+1:=by have:=A1 ht;omega
   subst hjn
   rw [F46]
   have hok:A34 n ends h=true:=hiff.2 ⟨⟨hal,hne⟩,hq⟩
   rw [hok,Bool.true_and] at hp
   refine k6 (k7 (k7 (k8 Z (k1 ?_))))
   refine A3 (A2 (A4 Z Z) Z (A2 (A7 Z) Z (A2 (B0 Z Z Z) Z (C3 (G7 Z Z Z (.pure _ _ _ _) (by omega) Z) Z (A2 (A5 Z Z) Z (A6 ?_))))))
   refine k4 (k1 ?_)
   refine A3 (A2 (A4 Z Z) Z (A2 (C1 Z Z (by omega)) Z (A2 (A5 Z Z) Z (A6 ?_))))
   refine k1 ?_
   refine ⟨(k+1,T3 n h),⟨by dsimp only;omega,A84 n h,?_,hp⟩,by dsimp only;omega,?_⟩
   ·intro e hm
    obtain ⟨i,hi,rfl⟩:=List.mem_map.1 hm
    have hi:=List.mem_range.1 hi
    have h4:=hq i hi
    have h5:=he0 _ (J22 (E59 (l:=ends) (i:=i) (by omega)))
    have h6:=C00 h.Rows n i
    omega
   ·dsimp only
    rw [hat]
    exact I72 ⟨le1 rfl,le1 rfl,le1 rfl,le1 rfl,trivial⟩ ⟨rfl,rfl,rfl,trivial⟩
 ·have hkl:k=c.Hunks.length:=by have:=A1 ht;omega
  rw [hkl,J11 (Nat.le_refl _)] at hp
  rw [hkl,J23]
  have hp:U5 n (List.replicate (n+1) 0) c.Hunks=true:=hp
  have hl1:=T4 (J1 c.Hunks)
  have hl2:=A86 (J1 c.Hunks)
  have hri:I8 (J1 c.Hunks):=by
   intro r hrm
   obtain ⟨l,h1,h2⟩:=List.mem_flatten.1 hrm
   obtain ⟨x,hx,rfl⟩:=List.mem_map.1 h1
   exact hr x hx r h2
  have htx:=D82 (J1 c.Hunks) c.Parents (by omega) hri (by omega) (by omega)
  rw [←hN] at htx
  refine k6 (k2 ?_)
  refine A3 (A2 (A4 Z Z) Z (A2 (A7 Z) Z (A2 (B0 Z Z Z) Z (B9 (htx) Z Z Z ?_))));rintro _ rfl;refine A2 (A5 Z Z) Z (A6 ?_)
  refine k1 (k10 ?_)
  exact B5 (F2 rfl rfl rfl) (by unfold P0;rw [hp];rfl)
theorem rats_ok (n:Nat) (hn:n≤1048576):FnOk Tryz.prog 156 [E6 n] (fun rs=>rs=[F3 (atS n)]):=by
 refine FnOk.intro Tryz.func156 (by decide) Z Z Z Z ?_
 refine k2 ?_
 refine A3 (A2 (A5 Z Z) Z (A6 ?_))
 refine k1 (k2 ?_)
 refine A3 (A2 (A5 Z Z) Z (A6 ?_))
 refine k1 (k2 (k2 ?_))
 refine A3 (A2 (A5 Z Z) Z (A6 ?_))
 refine k1 (k3 ?_)
 refine D3 (X:=Nat) (fun i=>([(0,C2 n),(3,H5 (atS i)),(4,C2 i)],[])) (fun i=>i≤n) (fun i=>n - i) 0 (Nat.zero_le _) (I72 ⟨le1 rfl,le1 rfl,le1 rfl,trivial⟩ trivial) ?_
 intro i hi
 dsimp only at hi ⊢
 have hl:=Z6 i
 refine k2 (k2 ?_)
 refine A3 (A2 (A4 Z Z) Z (A2 (A4 Z Z) Z (A2 (D6 Z Z) Z (A6 ?_))))
 refine k1 ?_
 refine B1 rfl (fun ht=>?_) (fun ht=>?_)
 ·have hlt:i < n:=by have:=A0 ht;omega
  refine k5 (k1 (k2 (k3 ?_)))
  refine A3 (A2 (A4 Z Z) Z (A2 (D9 Z Z (by (first | omega | (simp only [J01,J02,J05];omega)))) Z (A2 (A5 Z Z) Z (A6 ?_))))
  refine k4 (k1 ?_)
  refine A3 (A2 (A4 Z Z) Z (A2 (C1 Z Z (by omega)) Z (A2 (A5 Z Z) Z (A6 ?_))))
  refine k1 ?_
  refine ⟨i+1,by omega,by omega,?_⟩
  rw [show atS (i+1)=atS i++[64] by unfold atS;exact List.replicate_succ']
  exact I72 ⟨le1 rfl,le1 rfl,le1 rfl,trivial⟩ trivial
 ·have hin:i=n:=by have:=A1 ht;omega
  subst hin
  refine k6 (k2 ?_)
  refine A3 (A2 (A4 Z Z) Z (A2 (A5 Z Z) Z (A6 ?_)))
  refine k1 (k10 ?_)
  exact B5 (F2 rfl rfl rfl) rfl
theorem F48 (r:Row) (n:Nat) (hn:n≤32) (hm:0≤r.Marks∧r.Marks < 4294967296):FnOk Tryz.prog 157 [pRow r,E6 n] (fun rs=>rs=[F3 (L4 n r)]):=by
 refine FnOk.intro Tryz.func157 (by decide) Z Z Z Z ?_
 refine k2 ?_
 refine A3 (C3 (P5 2 Z Z Z) Z (A2 (A5 Z Z) Z (A6 ?_)))
 refine k1 (k2 ?_)
 refine A3 (C3 (V4 730 _ u8C Z) Z (A6 ?_))
 refine k1 (k2 (k2 ?_))
 refine A3 (A2 (A5 Z Z) Z (A6 ?_))
 refine k1 (k3 ?_)
 refine D3 (X:=Nat) (fun p=>([(1,C2 n),(2,.s (.one (.ref 2 0))),(5,.s (.one (.buf 730 UInt8 1 u8C (L4 p r)))),(6,C2 p)],[(2,.box (pRow r).s1.cells),(730,.spare (L4 p r).length 1 5)])) (fun p=>p≤n) (fun p=>n - p) 0 (Nat.zero_le _) (I72 ⟨le1 rfl,le1 rfl,le1 rfl,le1 rfl,trivial⟩ ⟨rfl,rfl,trivial⟩) ?_
 intro p hp
 dsimp only at hp ⊢
 have hml:=R3 p r
 have hsucc:=D28 p r
 refine k2 (k2 ?_)
 refine A3 (A2 (A4 Z Z) Z (A2 (A4 Z Z) Z (A2 (D6 Z Z) Z (A6 ?_))))
 refine k1 ?_
 refine B1 rfl (fun ht=>?_) (fun ht=>?_)
 ·have hlt:p < n:=by have:=A0 ht;omega
  have hu:=B92 (n:=(p:Int)) (by omega)
  have h3:0≤r.Marks / 2 ^ p:=Int.ediv_nonneg hm.1 (Int.pow_nonneg (by decide))
  have h4:r.Marks / 2 ^ p≤r.Marks:=Int.ediv_le_self _ hm.1
  have e32:r.Marks.fdiv (2 ^ (min (p:Int).toNat IntKind.u32.bits))=r.Marks / 2 ^ p:=E05 r.Marks p (by omega)
  have e1:=B27 (r.Marks / 2 ^ p) (by omega)
  refine k5 (k1 (k2 (k3 (k3 (k2 ?_)))))
  refine A3 (A2 (A7 Z) Z (A2 (B0 Z Z Z) Z (A2 (A4 Z Z) Z (A2 (J4 Z) Z (A2 (A35 Z Z (by (rw [hu];omega))) Z ?_)))));refine A2 (T7 Z Z Z (fun _=>rfl)) Z (A2 (F6 Z Z) Z (A2 (A5 Z Z) Z (A6 ?_)))
  rw [hu,e32,e1]
  refine k1 ?_
  refine B1 rfl (fun ht=>?_) (fun ht=>?_)
  ·have ht:=A0 ht
   have hb:A19 r.Marks p=false:=by unfold A19;simp;omega
   have hmk:c9 r p=32:=by unfold c9;rw [if_pos hb]
   rw [hmk] at hsucc
   skip
   refine A3 (A2 (A4 Z Z) Z (A2 (C9 (c:=u8C) (ys:=[32]) (E1 Z Z Z Z F4) Z Z Z) Z (C3 (G7 Z Z Z (.pure _ _ _ _) (by (simp only [J02,J05];omega)) Z) Z (A2 (A5 Z Z) Z (A6 ?_)))))
   refine k4 (k4 (k1 ?_))
   refine A3 (A2 (A4 Z Z) Z (A2 (C1 Z Z (by omega)) Z (A2 (A5 Z Z) Z (A6 ?_))))
   refine k1 ?_
   refine ⟨p+1,by omega,by omega,?_⟩
   rw [hsucc]
   exact I72 ⟨le1 rfl,le1 rfl,le1 rfl,le1 rfl,trivial⟩ ⟨rfl,rfl,trivial⟩
  have ht:=A1 ht
  have hb:A19 r.Marks p=true:=by unfold A19;simp;omega
  refine k2 ?_
  refine A3 (A2 (A7 Z) Z (A2 (B0 Z Z Z) Z (A2 (A5 Z Z) Z (A6 ?_))))
  refine k1 ?_
  refine B1 rfl (fun ht=>?_) (fun ht=>?_)
  ·have hl:r.Lost=true:=ht
   have hmk:c9 r p=45:=by unfold c9;rw [hb,if_neg (by decide),if_pos hl]
   rw [hmk] at hsucc
   skip
   refine A3 (A2 (A4 Z Z) Z (A2 (C9 (c:=u8C) (ys:=[45]) (E1 Z Z Z Z F4) Z Z Z) Z (C3 (G7 Z Z Z (.pure _ _ _ _) (by (simp only [J02,J05];omega)) Z) Z (A2 (A5 Z Z) Z (A6 ?_)))))
   refine k4 (k4 (k1 ?_))
   refine A3 (A2 (A4 Z Z) Z (A2 (C1 Z Z (by omega)) Z (A2 (A5 Z Z) Z (A6 ?_))))
   refine k1 ?_
   refine ⟨p+1,by omega,by omega,?_⟩
   rw [hsucc]
   exact I72 ⟨le1 rfl,le1 rfl,le1 rfl,le1 rfl,trivial⟩ ⟨rfl,rfl,trivial⟩
  ·have hl:r.Lost=false:=ht
   have hmk:c9 r p=43:=by unfold c9;rw [hb,if_neg (by decide),hl,if_neg (by decide)]
   rw [hmk] at hsucc
   skip
   refine A3 (A2 (A4 Z Z) Z (A2 (C9 (c:=u8C) (ys:=[43]) (E1 Z Z Z Z F4) Z Z Z) Z (C3 (G7 Z Z Z (.pure _ _ _ _) (by (simp only [J02,J05];omega)) Z) Z (A2 (A5 Z Z) Z (A6 ?_)))))
   refine k4 (k4 (k1 ?_))
   refine A3 (A2 (A4 Z Z) Z (A2 (C1 Z Z (by omega)) Z (A2 (A5 Z Z) Z (A6 ?_))))
   refine k1 ?_
   refine ⟨p+1,by omega,by omega,?_⟩
   rw [hsucc]
   exact I72 ⟨le1 rfl,le1 rfl,le1 rfl,le1 rfl,trivial⟩ ⟨rfl,rfl,trivial⟩
 ·have hpn:p=n:=by have:=A1 ht;omega
  subst hpn
  refine k6 (k2 ?_)
  refine A3 (A2 (A4 Z Z) Z (A2 (N5 TyStr.out Z (.buf _ _ _ _ _)) Z (A2 (A5 Z Z) Z (A6 ?_))))
  refine k1 (k10 ?_)
  exact B5 (F2 rfl rfl rfl) rfl
def y7 (c:Comb):List Str:=[u9 c.Dense++H2 c.Path++[10],parS++H4 c.Parents++[10]]
theorem H71 (n:Nat) (r:Row):(P7 n r).length≤2:=by unfold P7;split<;>simp
theorem D95 (n:Nat) (rs:List Row):(rs.map (P7 n)).flatten.length≤(rs.map M9).sum:=by
 induction rs with
 | nil=>simp
 | cons x r ih =>
  have h1:=H71 n x
  have h2:2≤M9 x:=by unfold M9;omega
  simp only [J08,J14,J01,J28];omega
theorem F49 (n:Nat) (hs:List CHunk):(hs.map (L0 n)).flatten.length≤szC hs:=by
 unfold szC
 induction hs with
 | nil=>simp
 | cons x r ih =>
  have h1:=D95 n x.Rows
  have h2:(L0 n x).length≤A51 x:=by unfold L0 A51;rw [J02];omega
  rw [J08,J14,J01,J08,J28]
  exact Nat.add_le_add h2 ih
set_option maxHeartbeats 1000000
theorem D10 (c:Comb) (hc:CFit c):FnOk Tryz.prog 82 [K9 c] (fun rs=>rs=[F3 (O9 c)]):=by
 obtain ⟨h1,h2,h3,h4,h5⟩:=hc
 have hzl:=A25 c.Hunks
 have hm29:markS.length=29:=rfl
 have hq:=C02 c.Path
 have hf:=F71 c.Parents
 have hkl:(u9 c.Dense).length≤16:=by cases c.Dense<;>decide
 have hpl:parS.length=8:=rfl
 obtain ⟨n,hN⟩:∃n,n=c.Parents.toNat:=⟨_,rfl⟩
 have hNc:c.Parents=(n:Int):=by omega
 have hn:n≤32:=by omega
 have hct:=F72 c (by omega) c.Hunks.length
 have hats:FnOk Tryz.prog 156 [E6 (c.Parents+1)] (fun rs=>rs=[F3 (atS (n+1))]):=by
  have:=rats_ok (n+1) (by omega)
  rwa [show ((n+1:Nat):Int)=c.Parents+1 by omega] at this
 have hal:=Z6 (n+1)
 rw [←hN] at h5
 have htl:(y7 c).length=2:=rfl
 refine FnOk.intro Tryz.func82 (by decide) Z Z Z Z ?_
 refine k2 ?_
 refine A3 (C3 (P5 1 Z Z Z) Z (A2 (A5 Z Z) Z (A6 ?_)))
 refine k1 (k2 ?_)
 refine A3 (A2 (A5 Z Z) Z (A6 ?_))
 refine L5 ?_
 refine j4 [(1,.s (.one (.ref 1 0))),(3,H5 (u9 c.Dense))] [(1,B23 c)] ?_ ?_
 ·refine k2 ?_
  refine A3 (A2 (A7 Z) Z (A2 (B0 Z Z Z) Z (A6 ?_)))
  refine k1 ?_
  refine B1 rfl (fun ht=>?_) (fun ht=>?_)
  ·have h:c.Dense=true:=ht
   skip
   refine A3 (A2 (A5 Z Z) Z (A6 ?_))
   refine k1 ?_
   rw [show u9 c.Dense=ccS by unfold u9;rw [if_pos h]]
   exact I72 ⟨le1 rfl,le1 rfl,trivial⟩ ⟨rfl,trivial⟩
  ·have h:c.Dense=false:=ht
   refine k5 (k1 ?_)
   rw [show u9 c.Dense=combS by unfold u9;rw [h,if_neg (by decide)]]
   exact I72 ⟨le1 rfl,le1 rfl,trivial⟩ ⟨rfl,trivial⟩
 refine k2 ?_
 refine A29 11 (by kernel_rfl) (by kernel_rfl) Z (A8 (A4 Z Z) Z Z (A8 (A7 Z) Z Z (A8 (B0 Z Z Z) Z Z (A8 (G9 (H62 c.Path (by omega)) Z Z) Z Z (A8 (D9 Z Z (by (first | omega | (simp only [J01,J02,J05];omega)))) Z Z (A8 (D9 Z Z (by (first | omega | (simp only [J01,J02,J05];omega)))) Z Z (A8 (A7 Z) Z Z (A8 (B0 Z Z Z) Z Z (A8 (G9 (A04 c.Parents) Z Z) Z Z (A8 (D9 Z Z (by (first | omega | (simp only [J01,J02,J05];omega)))) Z Z (A8 (D9 Z Z (by (first | omega | (simp only [J01,J02,J05];omega)))) Z Z (H9 (d_turn (A57 722 (c:=K1) (ys:=(y7 c)) (E1 Z Z Z Z (E1 Z Z Z Z F4)) Z Z Z (by first | rfl | (simp [G3,I7,Ob.free,SV.free,S1.free,TC.free]<;>rfl))) Z ?_)))))))))))));refine A8 (A5 Z Z) Z Z (H9 ?_)
 refine k1 (k2 (k2 ?_))
 refine A3 (A2 (A5 Z Z) Z (A6 ?_))
 refine k1 (k3 ?_)
 refine D3 (X:=Nat) (fun k=>([(1,.s (.one (.ref 1 0))),(4,.s (.one (.buf 722 Str 1 K1 (y7 c++((c.Hunks.take k).map (L0 n)).flatten)))),(5,C2 k)],[(1,B23 c),(722,.spare (y7 c++((c.Hunks.take k).map (L0 n)).flatten).length 1 9)])) (fun k=>k≤c.Hunks.length) (fun k=>c.Hunks.length - k) 0 (Nat.zero_le _) (I72 ⟨le1 rfl,le1 rfl,le1 rfl,trivial⟩ ⟨rfl,rfl,trivial⟩) ?_
 intro k hk
 dsimp only at hk ⊢
 have hcp:=F49 n (c.Hunks.take k)
 have hct2:=E27 c.Hunks k
 refine k2 (k2 ?_)
 refine A3 (A2 (A4 Z Z) Z (A2 (A7 Z) Z (A2 (B0 Z Z Z) Z (A2 (F1 Z (.pure _ _ _ _)) Z (A2 (D6 Z Z) Z (A6 ?_))))))
 refine k1 ?_
 refine B1 rfl (fun ht=>?_) (fun ht=>?_)
 ·have hlt:k < c.Hunks.length:=by have:=A0 ht;omega
  have hv:c.Hunks[k]?=some c.Hunks[k]:=by simp [hlt]
  have hmem:=J19 hlt
  have hrw:=h4 _ hmem
  have hat:=h5 _ hmem
  have hzm:=A87 hmem
  have hsucc:((c.Hunks.take (k+1)).map (L0 n)).flatten=((c.Hunks.take k).map (L0 n)).flatten++L0 n c.Hunks[k]:=by
   rw [J10 hlt]
   simp only [J17,J08,J37,J27,J14,J44,J25]
  obtain ⟨h,hx⟩:∃x,x=c.Hunks[k]:=⟨_,rfl⟩
  rw [←hx] at hv hrw hat hzm hsucc
  have hz1:=T4 h.Rows
  unfold A51 at hzm
  have hhl:=B54 hn h
  have hgA:∀j,j < n+1→h.At[j]?=some (h.At.getD j 0):=fun j hj=>E59 (by omega)
  have hrA:∀j,j < n+1 → -4611686018427387904≤h.At.getD j 0∧h.At.getD j 0≤4611686018427387904:=fun j hj=>hat.2 _ (J22 (hgA j hj))
  obtain ⟨base,hbase⟩:∃base,base=y7 c++((c.Hunks.take k).map (L0 n)).flatten:=⟨_,rfl⟩
  have hbl:base.length≤2+268435456:=by rw [hbase,J01];omega
  rw [←hbase]
  refine k5 (k1 (k2 (k3 (k2 ?_))))
  refine A3 (A2 (A7 Z) Z (A2 (B0 Z Z Z) Z (A2 (A4 Z Z) Z (A2 (B3 Z (.pure _ _ _ _) Z (by omega) hv) Z (A2 (G8 Z Z) Z (C3 (H1 6 Z) Z (E9 (C0 TySz.out Z Z Z Z Z Z) (A6 ?_))))))))
  refine k1 (k2 ?_)
  refine A3 (A2 (A7 Z) Z (A2 (B0 Z Z Z) Z (A2 (C1 Z Z (by omega)) Z (B9 (hats) Z Z Z ?_))));rintro _ rfl;refine A2 (A5 Z Z) Z (A6 ?_)
  refine k1 (k2 (k2 ?_))
  refine A3 (A2 (A5 Z Z) Z (A6 ?_))
  refine k1 (k3 ?_)
  refine D3 (X:=Nat) (fun j=>([(1,.s (.one (.ref 1 0))),(4,.s (.one (.buf 722 Str 1 K1 base))),(5,C2 k),(6,.s (.one (.ref 6 0))),(7,H5 (atS (n+1)++P2 n h j)),(8,C2 j)],[(1,B23 c),(722,.spare base.length 1 9),(6,.box (A83 h).s1.cells)])) (fun j=>j≤n+1) (fun j=>n+1 - j) 0 (Nat.zero_le _) ?_ ?_
  ·rw [show P2 n h 0=[] from rfl,J25]
   exact I72 ⟨le1 rfl,le1 rfl,le1 rfl,le1 rfl,le1 rfl,le1 rfl,trivial⟩ ⟨rfl,rfl,rfl,trivial⟩
  intro j hj
  dsimp only at hj ⊢
  have hsl:=A10 n h j
  have hss:=A26 n h j
  refine k2 (k2 ?_)
  refine A3 (A2 (A4 Z Z) Z (A2 (A7 Z) Z (A2 (B0 Z Z Z) Z (A2 (x7 Z Z) Z (A6 ?_)))))
  refine k1 ?_
  refine B1 rfl (fun ht=>?_) (fun ht=>?_)
  ·have hlt2:j < n+1:=by have:=A0 ht;omega
   have hga:=hgA j hlt2
   have hra:=hrA j hlt2
   have hcl:=C83 h.Rows (R1 n j)
   have hrl:=A21 (h.At.getD j 0) (N1 h.Rows n j)
   have hcol:=A17 h.Rows (R1 n j) hrw (by omega)
   have hcn:=B90 j n
   rw [←hNc] at hcn
   have hrr:=H61 (h.At.getD j 0) ((N8 h.Rows (R1 n j)).length:Int) hra (by omega)
   have hsw:A96 n h j=[32,g9 n j]++G4 (h.At.getD j 0) ((N8 h.Rows (R1 n j)).length:Int):=rfl
   have hrl:(G4 (h.At.getD j 0) ((N8 h.Rows (R1 n j)).length:Int)).length≤21:=hrl
   obtain ⟨S,hS⟩:∃S,S=atS (n+1)++P2 n h j:=⟨_,rfl⟩
   have hSl:S.length≤1000:=by rw [hS,J01];omega
   have hSs:atS (n+1)++P2 n h (j+1)=S++[32,g9 n j]++G4 (h.At.getD j 0) ((N8 h.Rows (R1 n j)).length:Int):=by rw [hss,hS,hsw];simp
   rw [←hS]
   refine k5 (k1 (k2 (k3 (k2 ?_))))
   refine A3 (A2 (A5 Z Z) Z (A6 ?_))
   refine k1 (k2 (k2 ?_))
   refine A3 (A2 (A4 Z Z) Z (A2 (A7 Z) Z (A2 (B0 Z Z Z) Z (A2 (F6 Z Z) Z (A6 ?_)))))
   refine k1 ?_
   refine B1 rfl (fun ht=>?_) (fun ht=>?_)
   ·have hjn:=A0 ht
    have hsg:g9 n j=43:=by unfold g9;rw [if_pos (by omega)]
    rw [hsg] at hSs
    skip
    refine A3 (A2 (A5 Z Z) Z (A6 ?_))
    refine k1 ?_
    refine C4 (by kernel_rfl) (by kernel_rfl) (A8 (A4 Z Z) Z Z (A8 (A4 Z Z) Z Z (A8 (D9 Z Z (by (first | omega | (simp only [J01,J02,J05];omega)))) Z Z (A8 (A7 Z) Z Z (A8 (B0 Z Z Z) Z Z (A8 (A4 Z Z) Z Z (A8 (B3 Z (.pure _ _ _ _) Z (by omega) hga) Z Z (A8 (B6 Z Z) Z Z (A8 (A7 Z) Z Z (A8 (B0 Z Z Z) Z Z (A8 (A4 Z Z) Z Z (A8 (A7 Z) Z Z (A8 (B0 Z Z Z) Z Z (A8 (G9 (hcn) Z Z) Z Z (A8 (G9 (hcol) Z Z) Z Z (A8 (F1 Z (.pure _ _ _ _)) Z Z (A8 (G9 (hrr) Z Z) Z Z (A8 (D9 Z Z (by (first | omega | (simp only [J01,J02,J05];omega)))) Z Z (A8 (A5 Z Z) Z Z (H9 ?_))))))))))))))))))))
    refine k4 (k1 ?_)
    refine A3 (A2 (A4 Z Z) Z (A2 (C1 Z Z (by omega)) Z (A2 (A5 Z Z) Z (A6 ?_))))
    refine k1 ?_
    refine ⟨j+1,by omega,by omega,?_⟩
    rw [hSs]
    exact I72 ⟨le1 rfl,le1 rfl,le1 rfl,le1 rfl,le1 rfl,le1 rfl,trivial⟩ ⟨rfl,rfl,rfl,trivial⟩
   ·have hjn:=A1 ht
    have hsg:g9 n j=45:=by unfold g9;rw [if_neg (by omega)]
    rw [hsg] at hSs
    refine k5 (k1 ?_)
    refine C4 (by kernel_rfl) (by kernel_rfl) (A8 (A4 Z Z) Z Z (A8 (A4 Z Z) Z Z (A8 (D9 Z Z (by (first | omega | (simp only [J01,J02,J05];omega)))) Z Z (A8 (A7 Z) Z Z (A8 (B0 Z Z Z) Z Z (A8 (A4 Z Z) Z Z (A8 (B3 Z (.pure _ _ _ _) Z (by omega) hga) Z Z (A8 (B6 Z Z) Z Z (A8 (A7 Z) Z Z (A8 (B0 Z Z Z) Z Z (A8 (A4 Z Z) Z Z (A8 (A7 Z) Z Z (A8 (B0 Z Z Z) Z Z (A8 (G9 (hcn) Z Z) Z Z (A8 (G9 (hcol) Z Z) Z Z (A8 (F1 Z (.pure _ _ _ _)) Z Z (A8 (G9 (hrr) Z Z) Z Z (A8 (D9 Z Z (by (first | omega | (simp only [J01,J02,J05];omega)))) Z Z (A8 (A5 Z Z) Z Z (H9 ?_))))))))))))))))))))
    refine k4 (k1 ?_)
    refine A3 (A2 (A4 Z Z) Z (A2 (C1 Z Z (by omega)) Z (A2 (A5 Z Z) Z (A6 ?_))))
    refine k1 ?_
    refine ⟨j+1,by omega,by omega,?_⟩
    rw [hSs]
    exact I72 ⟨le1 rfl,le1 rfl,le1 rfl,le1 rfl,le1 rfl,le1 rfl,trivial⟩ ⟨rfl,rfl,rfl,trivial⟩
  ·have hjn:j=n+1:=by have:=A1 ht;omega
   subst hjn
   obtain ⟨S,hS⟩:∃S,S=atS (n+1)++P2 n h (n+1):=⟨_,rfl⟩
   have hSl:S.length≤1000:=by rw [hS,J01];omega
   have hhd:T5 n h++[10]=S++[32]++atS (n+1)++[10]:=by unfold T5;rw [hS]
   rw [←hS]
   refine k6 (k2 ?_)
   refine A3 (A2 (A4 Z Z) Z (A2 (A4 Z Z) Z (A2 (D9 Z Z (by (first | omega | (simp only [J01,J02,J05];omega)))) Z (A2 (A7 Z) Z (A2 (B0 Z Z Z) Z (A2 (C1 Z Z (by omega)) Z (B9 (hats) Z Z Z ?_)))))));rintro _ rfl;refine A2 (D9 Z Z (by (first | omega | (simp only [J01,J02,J05];omega)))) Z (A2 (D9 Z Z (by (first | omega | (simp only [J01,J02,J05];omega)))) Z (A2 (C9 (c:=K1) (ys:=[_]) (E1 Z Z Z Z F4) Z Z Z) Z (C3 (G7 Z Z Z (.pure _ _ _ _) (by (simp only [J02,J05];omega)) Z) Z (A2 (A5 Z Z) Z (A6 ?_)))))
   rw [←hhd]
   refine k1 (k2 ?_)
   refine A3 (A2 (A5 Z Z) Z (A6 ?_))
   refine k1 (k3 ?_)
   obtain ⟨hd,hhd2⟩:∃hd,hd=T5 n h++[10]:=⟨_,rfl⟩
   rw [←hhd2]
   refine D3 (X:=Nat) (fun i=>([(1,.s (.one (.ref 1 0))),(4,.s (.one (.buf 722 Str 1 K1 (base++(hd::((h.Rows.take i).map (P7 n)).flatten))))),(5,C2 k),(6,.s (.one (.ref 6 0))),(10,C2 i)],[(1,B23 c),(722,.spare (base++(hd::((h.Rows.take i).map (P7 n)).flatten)).length 1 9),(6,.box (A83 h).s1.cells)])) (fun i=>i≤h.Rows.length) (fun i=>h.Rows.length - i) 0 (Nat.zero_le _) (I72 ⟨le1 rfl,le1 rfl,le1 rfl,le1 rfl,le1 rfl,trivial⟩ ⟨rfl,rfl,rfl,trivial⟩) ?_
   intro i hi
   dsimp only at hi ⊢
   have hrp:=D95 n (h.Rows.take i)
   have hrt:=E26 h.Rows i
   refine k2 (k2 ?_)
   refine A3 (A2 (A4 Z Z) Z (A2 (A7 Z) Z (A2 (B0 Z Z Z) Z (A2 (F1 Z (.pure _ _ _ _)) Z (A2 (D6 Z Z) Z (A6 ?_))))))
   refine k1 ?_
   refine B1 rfl (fun ht=>?_) (fun ht=>?_)
   ·have hlt2:i < h.Rows.length:=by have:=A0 ht;omega
    have hv2:h.Rows[i]?=some h.Rows[i]:=by simp [hlt2]
    have hmem2:=J19 hlt2
    have hrm:=B53 hmem2
    have hmm:=hrw _ hmem2
    have hsucc2:((h.Rows.take (i+1)).map (P7 n)).flatten=((h.Rows.take i).map (P7 n)).flatten++P7 n h.Rows[i]:=by
     rw [J10 hlt2]
     simp only [J17,J08,J37,J27,J14,J44,J25]
    obtain ⟨r,hy⟩:∃x,x=h.Rows[i]:=⟨_,rfl⟩
    rw [←hy] at hv2 hrm hmm hsucc2
    have hrm:r.Text.length+96≤(h.Rows.map M9).sum:=hrm
    have hml:=R3 n r
    have hmk:=F48 r n hn hmm
    rw [←hNc] at hmk
    obtain ⟨bs,hbs⟩:∃bs,bs=base++(hd::((h.Rows.take i).map (P7 n)).flatten):=⟨_,rfl⟩
    have hbsl:bs.length≤2+268435456+1+268435456:=by rw [hbs,J01,J02];omega
    have hsucc3:base++(hd::((h.Rows.take (i+1)).map (P7 n)).flatten)=bs++P7 n r:=by rw [hsucc2,hbs];simp
    rw [←hbs]
    refine k5 (k1 (k2 (k3 (k2 ?_))))
    refine C4 (by kernel_rfl) (by kernel_rfl) (A8 (A4 Z Z) Z Z (A8 (A7 Z) Z Z (A8 (B0 Z Z Z) Z Z (A8 (A4 Z Z) Z Z (A8 (B3 Z (.pure _ _ _ _) Z (by omega) hv2) Z Z (A8 (G8 Z Z) Z Z (A8 (A7 Z) Z Z (A8 (B0 Z Z Z) Z Z (A8 (G9 (hmk) Z Z) Z Z (A8 (A7 Z) Z Z (A8 (B0 Z Z Z) Z Z (A8 (A4 Z Z) Z Z (A8 (B3 Z (.pure _ _ _ _) Z (by omega) hv2) Z Z (A8 (D7 Z) Z Z (A8 (B6 Z Z) Z Z (A8 (D9 Z Z (by (first | omega | (simp only [J01,J02,J05];omega)))) Z Z (A8 (C9 (c:=K1) (ys:=[_]) (E1 Z Z Z Z F4) Z Z Z) Z Z (D59 (G7 Z Z Z (.pure _ _ _ _) (by (simp only [J02,J05];omega)) Z) Z Z (A8 (A5 Z Z) Z Z (H9 ?_))))))))))))))))))))
    refine k1 (k2 ?_)
    refine A3 (A2 (A7 Z) Z (A2 (B0 Z Z Z) Z (A2 (A4 Z Z) Z (A2 (B3 Z (.pure _ _ _ _) Z (by omega) hv2) Z (A2 (D7 Z) Z (A2 (B6 Z Z) Z (B9 (F92 r.Text (by omega)) Z Z Z ?_)))))));rintro _ rfl;refine A2 (F0 Z) Z (A6 ?_)
    refine k1 ?_
    refine B1 rfl (fun ht=>?_) (fun ht=>?_)
    ·have he:ended r.Text=false:=by simpa using ht
     have e:P7 n r=[L4 n r++r.Text]++[markS]:=by unfold P7;rw [he,if_neg (by decide)];rfl
     skip
     refine A3 (A2 (A4 Z Z) Z (A2 (C9 (c:=K1) (ys:=[markS]) (E1 Z Z Z Z F4) Z Z Z) Z (C3 (G7 Z Z Z (.pure _ _ _ _) (by (first | omega | (simp only [J01,J02,J05];omega))) Z) Z (A2 (A5 Z Z) Z (A6 ?_)))))
     refine k4 (k1 ?_)
     refine A3 (A2 (A4 Z Z) Z (A2 (C1 Z Z (by omega)) Z (A2 (A5 Z Z) Z (A6 ?_))))
     refine k1 ?_
     refine ⟨i+1,by omega,by omega,?_⟩
     rw [hsucc3,e,←J13]
     exact I72 ⟨le1 rfl,le1 rfl,le1 rfl,le1 rfl,le1 rfl,trivial⟩ ⟨rfl,rfl,rfl,trivial⟩
    ·have he:ended r.Text=true:=by simpa using ht
     have e:P7 n r=[L4 n r++r.Text]:=by unfold P7;rw [if_pos he]
     refine k5 (k4 (k1 ?_))
     refine A3 (A2 (A4 Z Z) Z (A2 (C1 Z Z (by omega)) Z (A2 (A5 Z Z) Z (A6 ?_))))
     refine k1 ?_
     refine ⟨i+1,by omega,by omega,?_⟩
     rw [hsucc3,e]
     exact I72 ⟨le1 rfl,le1 rfl,le1 rfl,le1 rfl,le1 rfl,trivial⟩ ⟨rfl,rfl,rfl,trivial⟩
   ·have hil:i=h.Rows.length:=by have:=A1 ht;omega
    subst hil
    rw [J23]
    have e:y7 c++((c.Hunks.take (k+1)).map (L0 n)).flatten=base++(hd::(h.Rows.map (P7 n)).flatten):=by
     rw [hsucc,←J13,←hbase,hhd2];rfl
    refine k6 (k7 (k7 (k8 Z (k4 (k1 ?_)))))
    refine A3 (A2 (A4 Z Z) Z (A2 (C1 Z Z (by omega)) Z (A2 (A5 Z Z) Z (A6 ?_))))
    refine k1 ?_
    refine ⟨k+1,by omega,by omega,?_⟩
    rw [e]
    exact I72 ⟨le1 rfl,le1 rfl,le1 rfl,trivial⟩ ⟨rfl,rfl,trivial⟩
 ·have hkl:k=c.Hunks.length:=by have:=A1 ht;omega
  subst hkl
  have e:(y7 c++((c.Hunks.take c.Hunks.length).map (L0 n)).flatten).flatten=O9 c:=by
   rw [J23,hN];unfold O9 F67 y7;simp
  rw [C51] at hct
  have hao:=all_ok (y7 c++((c.Hunks.take c.Hunks.length).map (L0 n)).flatten) (by rw [e];omega)
  rw [e] at hao
  refine k6 (k2 ?_)
  refine A3 (A2 (A4 Z Z) Z (B9 (hao) Z Z Z ?_));rintro _ rfl;refine A2 (A5 Z Z) Z (A6 ?_)
  refine k1 (k10 ?_)
  exact B5 (F2 rfl rfl rfl) rfl
theorem G09 (c:Comb) (hz:szC c.Hunks≤268435456) (hr:∀h∈c.Hunks,I8 h.Rows):FnOk Tryz.prog 50 [K9 c] (fun rs=>rs=[E6 (G5 c)]):=by
 refine FnOk.intro Tryz.func50 (by decide) Z Z Z Z ?_
 refine k2 ?_
 refine A3 (C3 (P5 1 Z Z Z) Z (A2 (A5 Z Z) Z (A6 ?_)))
 refine k1 (k2 (k3 (k2 ?_)))
 refine A3 (A2 (A7 Z) Z (A2 (B0 Z Z Z) Z (B9 (D88 c.Path) Z Z Z ?_)));rintro _ rfl;refine A2 (F0 Z) Z (A2 (A5 Z Z) Z (A6 ?_))
 refine k1 ?_
 refine B1 rfl (fun ht=>?_) (fun ht=>?_)
 ·have h:T0 c.Path=false:=by simpa using ht
  refine k2 ?_
  refine A3 (A2 (A5 Z Z) Z (A6 ?_))
  refine k1 (k10 (k12 (k11 ?_)))
  exact B5 (F2 rfl rfl rfl) (by unfold G5;rw [if_pos h])
 have h:T0 c.Path=true:=by simpa using ht
 have hpl:=A0 h
 refine k2 ?_
 refine A3 (A2 (A7 Z) Z (A2 (B0 Z Z Z) Z (A2 (D6 Z Z) Z (A2 (A4 Z Z) Z (A9 Z Z Z Z (fun hg=>by rw [hg];exact A7 Z) ?_)))));refine A9 Z Z Z Z (fun hg=>by rw [hg];exact B0 Z Z Z) ?_;refine A9 Z Z Z Z (fun hg=>by rw [hg];exact N2 Z Z) ?_;refine A2 (B4 Z (fun h=>by first | rfl | (rw [h];rfl)) (fun h=>by first | rfl | (rw [h];rfl))) Z ?_;refine A2 (A5 Z Z) Z (A6 ?_)
 refine k1 ?_
 refine B1 rfl (fun ht=>?_) (fun ht=>?_)
 ·have h1:=A0 (or_pick.symm.trans ht)
  refine k2 ?_
  refine A3 (A2 (A5 Z Z) Z (A6 ?_))
  refine k1 (k10 (k12 (k11 ?_)))
  exact B5 (F2 rfl rfl rfl) (by unfold G5;rw [if_neg (by rw [h];decide),if_pos (by omega)])
 have h1:=A1 (or_pick.symm.trans ht)
 have hn:1≤c.Parents∧c.Parents≤32:=by omega
 refine k2 ?_
 refine A3 (A2 (D4 Z Z Z) Z (B9 (G05 c (by omega) hr hz) Z Z Z ?_));rintro _ rfl;refine A2 (F0 Z) Z (A2 (A5 Z Z) Z (A6 ?_))
 refine k1 ?_
 refine B1 rfl (fun ht=>?_) (fun ht=>?_)
 ·have h2:V2 c.Parents.toNat c.Hunks=false:=by simpa using ht
  refine k2 ?_
  refine A3 (A2 (A5 Z Z) Z (A6 ?_))
  refine k1 (k10 (k12 (k11 ?_)))
  exact B5 (F2 rfl rfl rfl) (by unfold G5;rw [if_neg (by rw [h];decide),if_neg (by omega),if_pos h2])
 have h2:V2 c.Parents.toNat c.Hunks=true:=by simpa using ht
 refine k2 ?_
 refine A3 (A2 (D4 Z Z Z) Z (B9 (G08 c hn hr hz) Z Z Z ?_));rintro _ rfl;refine A2 (F0 Z) Z (A2 (A5 Z Z) Z (A6 ?_))
 refine k1 ?_
 refine B1 rfl (fun ht=>?_) (fun ht=>?_)
 ·have h3:P0 c.Parents.toNat c.Hunks=false:=by simpa using ht
  refine k2 ?_
  refine A3 (A2 (A5 Z Z) Z (A6 ?_))
  refine k1 (k10 (k12 (k11 ?_)))
  exact B5 (F2 rfl rfl rfl) (by unfold G5;rw [if_neg (by rw [h];decide),if_neg (by omega),if_neg (by rw [h2];decide),if_pos h3])
 have h3:P0 c.Parents.toNat c.Hunks=true:=by simpa using ht
 refine k2 ?_
 refine A3 (A2 (D4 Z Z Z) Z (B9 (D10 c (C75 (by omega) hn hz hr h3)) Z Z Z ?_));rintro _ rfl;refine A2 (E4 Z) Z (A2 (N2 Z Z) Z (A2 (A5 Z Z) Z (A6 ?_)))
 refine k1 ?_
 refine B1 rfl (fun ht=>?_) (fun ht=>?_)
 ·have h4:=A0 ht
  refine k2 ?_
  refine A3 (A2 (A5 Z Z) Z (A6 ?_))
  refine k1 (k10 (k12 (k11 ?_)))
  exact B5 (F2 rfl rfl rfl) (by unfold G5;rw [if_neg (by rw [h];decide),if_neg (by omega),if_neg (by rw [h2];decide),if_neg (by rw [h3];decide),if_pos (by omega)])
 have h4:=A1 ht
 refine k5 (k2 ?_)
 refine A3 (A2 (A5 Z Z) Z (A6 ?_))
 refine k1 (k10 ?_)
 exact B5 (F2 rfl rfl rfl) (by unfold G5;rw [if_neg (by rw [h];decide),if_neg (by omega),if_neg (by rw [h2];decide),if_neg (by rw [h3];decide),if_neg (by omega)])
abbrev pSpan (s:Span):PV:=.agg [.v (.int .i64 s.From),.v (.int .i64 s.To)]
theorem H72 (r:Row):FnOk Tryz.prog 266 [pRow r] (fun rs=>rs=[E0 (blankB r)]):=by
 refine FnOk.intro Tryz.func266 (by decide) Z Z Z Z ?_
 refine k2 ?_
 refine A3 (C3 (P5 1 Z Z Z) Z (A2 (A5 Z Z) Z (A6 ?_)))
 refine k1 (k2 ?_)
 refine A3 (A2 (A7 Z) Z (A2 (B0 Z Z Z) Z (A2 (F0 Z) Z (A2 (A4 Z Z) Z (A9 Z Z Z Z (fun hg=>by rw [hg];exact A7 Z) ?_)))));refine A9 Z Z Z Z (fun hg=>by rw [hg];exact B0 Z Z Z) ?_;refine A9 Z Z Z Z (fun hg=>by rw [hg];exact F6 Z Z) ?_;refine A2 (B4 Z (fun h=>by first | rfl | (rw [h];rfl)) (fun h=>by first | rfl | (rw [h];rfl))) Z ?_;refine A2 (A5 Z Z) Z (A6 ?_)
 refine k1 (k10 ?_)
 refine B5 (F2 Z Z Z) ?_
 unfold blankB
 cases r.Lost<;>simp
theorem E95 (l:List Bool) (hl:l.length≤536870912):FnOk Tryz.prog 181 [pBools l] (fun rs=>rs=[pSpans (B55 l)]):=by
 obtain ⟨W,hW⟩:∃W,W=B55 l:=⟨_,rfl⟩
 rw [←hW]
 refine FnOk.intro Tryz.func181 (by decide) Z Z Z Z ?_
 refine k2 ?_
 refine A3 (A2 (A5 Z Z) Z (A6 ?_))
 refine k1 (k2 ?_)
 refine A3 (C3 (I28 750 _ spanC Z) Z (A6 ?_))
 refine k1 (k2 (k2 ?_))
 refine A3 (A2 (A5 Z Z) Z (A6 ?_))
 refine k1 (k3 ?_)
 refine D3 (X:=Nat × List Span) (fun x=>([(0,D1 Bool 1 D29 l),(3,.s (.one (.mut 750))),(4,C2 x.1)],[(750,.grow 95 Span 2 spanC x.2)])) (fun x=>x.1≤l.length∧C03 x.1 x.2∧(D31 l x.1=true→x.2≠[])∧W=spGo (l.drop x.1) x.1 (D31 l x.1) x.2) (fun x=>l.length - x.1) (0,[]) ⟨Nat.zero_le _,⟨Nat.le_refl _,(fun s hs=>by cases hs)⟩,(fun h=>by cases h),hW⟩ (I72 ⟨le1 rfl,le1 rfl,le1 rfl,trivial⟩ ⟨rfl,trivial⟩) ?_
 rintro ⟨i,out⟩ ⟨hi,hin,hne,hp⟩
 dsimp only at hi hin hne hp ⊢
 refine k2 (k2 ?_)
 refine A3 (A2 (A4 Z Z) Z (A2 (A4 Z Z) Z (A2 (F1 Z (.pure _ _ _ _)) Z (A2 (D6 Z Z) Z (A6 ?_)))))
 refine k1 ?_
 refine B1 rfl (fun ht=>?_) (fun ht=>?_)
 rotate_left
 ·have hil:i=l.length:=by have:=A1 ht;omega
  rw [hil,J11 (Nat.le_refl _)] at hp
  have hp:W=out:=hp
  refine F5 (Sees.freezeG (k:=750) Z Z) ?_
  refine k6 (k2 ?_)
  refine A3 (A2 (A4 Z Z) Z (A2 (A5 Z Z) Z (A6 ?_)))
  refine k1 (k10 ?_)
  exact B5 (F2 rfl rfl rfl) (by rw [hp])
 have hlt:i < l.length:=by have:=A0 ht;omega
 have hv:l[i]?=some (l.getD i false):=by simp [hlt]
 rw [I20 hlt] at hp
 have hpn:D31 l (i+1)=l.getD i false:=by unfold D31;rw [if_neg (by omega)];rfl
 have hst:=H50 (l.getD i false) (D31 l i) hin
 rw [←hpn] at hp hst
 obtain ⟨b,hb⟩:∃b,b=l.getD i false:=⟨_,rfl⟩
 rw [←hb] at hv hpn
 rw [hpn] at hp hst
 have hlen:=hin.1
 cases b with
 | false =>
  rw [if_neg (by decide)] at hp hst
  refine k5 (k1 (k2 (k3 (k2 (k2 ?_)))))
  refine A3 (A2 (A4 Z Z) Z (A2 (A4 Z Z) Z (A2 (B3 Z (.pure _ _ _ _) Z (by omega) hv) Z (A2 (B6 Z Z) Z (A2 (A4 Z Z) Z (o3 Z Z Z (by decide) Z (o3 Z Z Z (by decide) Z (o3 Z Z Z (by decide) Z (F7 (s:=.any) Z Z Z .un Z (fun h=>absurd h (by decide)) (F7 (s:=.any) Z Z Z .un Z (fun h=>absurd h (by decide)) (F7 (s:=.any) Z Z Z .un Z (fun h=>absurd h (by decide)) (F7 (s:=.any) Z Z Z .un Z (fun h=>absurd h (by decide)) (F7 (s:=.any) Z Z Z .un Z (fun h=>absurd h (by decide)) (F7 (s:=.any) Z Z Z .un Z (fun h=>absurd h (by decide)) (o3 Z Z Z (by decide) Z (A2 (B14 Z (rfl) Z) Z (A6 ?_)))))))))))))))))
  refine k1 ?_
  refine B1 rfl (fun ht=>?_) (fun ht=>?_)
  ·cases ht
  refine k5 (k1 (k2 ?_))
  refine A3 (A2 (A4 Z Z) Z (A2 (A4 Z Z) Z (A2 (B3 Z (.pure _ _ _ _) Z (by omega) hv) Z (A2 (B6 Z Z) Z (A6 ?_)))))
  refine k1 ?_
  refine B1 rfl (fun ht=>?_) (fun ht=>?_)
  ·cases ht
  refine k5 (k4 (k1 ?_))
  refine A3 (A2 (A4 Z Z) Z (A2 (C1 Z Z (by omega)) Z (A2 (A5 Z Z) Z (A6 ?_))))
  refine k1 ?_
  exact ⟨(i+1,out),⟨by dsimp only;omega,hst,(fun h=>by rw [hpn] at h;cases h),by rw [hpn];exact hp⟩,by dsimp only;omega,I72 ⟨le1 rfl,le1 rfl,le1 rfl,trivial⟩ ⟨rfl,trivial⟩⟩
 | true =>
  rw [if_pos rfl] at hp hst
  have hlast:∀(q:List Span) (s:Span),q.getLast?=some s→q[((q.length:Int) - 1).toNat]?=some s∧∀v:Int,q.set (((q.length:Int) - 1).toNat) ⟨s.From,v⟩=A97 q v:=by
   intro q s hq
   have hqne:q≠[]:=fun e=>by rw [e] at hq;cases hq
   have hq1:=List.length_pos_iff.2 hqne
   rw [show ((q.length:Int) - 1).toNat=q.length - 1 by omega]
   refine ⟨by rw [←List.getLast?_eq_getElem?];exact hq,fun v=>?_⟩
   unfold A97
   rw [hq]
   dsimp only
   have hd:=List.dropLast_concat_getLast hqne
   conv=>lhs;rw [←hd]
   rw [List.set_append_right _ _ (by rw [List.length_dropLast,J01,List.length_dropLast];simp)]
   simp
  by_cases hpv:D31 l i=true
  ·rw [if_pos hpv] at hp hst
   have hne:=hne hpv
   obtain ⟨s,hs⟩:∃s,out.getLast?=some s:=⟨_,List.getLast?_eq_some_getLast hne⟩
   obtain ⟨hv2,hset⟩:=hlast out s hs
   have hset:=hset ((i:Int)+1)
   have hi0:i≠0:=fun e=>by rw [e] at hpv;cases hpv
   have hvp:l[((i:Int) - 1).toNat]?=some true:=by
    unfold D31 at hpv
    rw [if_neg hi0] at hpv
    rw [show ((i:Int) - 1).toNat=i - 1 by omega,←hpv]
    simp [show i - 1 < l.length by omega]
   have h0:decide ((i:Int)=0)=false:=decide_eq_false (by omega)
   have hq1:=List.length_pos_iff.2 hne
   refine k5 (k1 (k2 (k3 (k2 (k2 ?_)))))
   refine A3 (A2 (A4 Z Z) Z (A2 (A4 Z Z) Z (A2 (B3 Z (.pure _ _ _ _) Z (by omega) hv) Z (A2 (B6 Z Z) Z (A2 (A4 Z Z) Z (S5 Z Z Z Z (A2 (A4 Z Z) Z (S5 Z Z Z Z (A2 (F6 Z Z) Z (S5 Z Z Z Z (A2 (A4 Z Z) Z (S5 Z Z Z h0 (A2 (A4 Z Z) Z (S5 Z Z Z h0 (A2 (A4 Z Z) Z (S5 Z Z Z h0 (A2 (Q7 Z Z (by omega)) Z (S5 Z Z Z h0 (A2 (B3 Z (.pure _ _ _ _) Z (by omega) hvp) Z (S5 Z Z Z h0 (A2 (B6 Z Z) Z (S5 Z Z Z h0 (A2 (F0 Z) Z ?_)))))))))))))))))))))));refine S5 Z Z Z Z (A2 (B14 Z (h0) Z) Z (A2 (B13 Z (rfl) Z) Z (A6 ?_)))
   refine k1 ?_
   refine B1 rfl (fun ht=>?_) (fun ht=>?_)
   ·cases ht
   refine k5 (k1 (k2 ?_))
   refine A3 (A2 (A4 Z Z) Z (A2 (A4 Z Z) Z (A2 (B3 Z (.pure _ _ _ _) Z (by omega) hv) Z (A2 (B6 Z Z) Z (A6 ?_)))))
   refine k1 ?_
   refine B1 rfl (fun ht=>?_) (fun ht=>?_)
   rotate_left
   ·cases ht
   skip
   refine A3 (A2 (A4 Z Z) Z (A2 (A4 Z Z) Z (A2 (A61 Z Z) Z (A2 (Q7 Z Z (by omega)) Z (A2 (A4 Z Z) Z (A2 (C1 Z Z (by omega)) Z (A2 (s7 Z Z Z (by omega) (by omega)) Z (A2 (K0 Z) Z (E9 (B45 (⟨s.From,(i:Int)+1⟩) TySz.out Z Z hv2 Z Z Z Z (fun _ _ _ h=>B12 h) (by intro j h1 h2;rcases j with _ | _ | _ | _ | _ | _ | _ | j<;>first | rfl | omega)) ?_)))))))));refine A6 ?_
   rw [hset]
   refine k4 (k1 ?_)
   refine A3 (A2 (A4 Z Z) Z (A2 (C1 Z Z (by omega)) Z (A2 (A5 Z Z) Z (A6 ?_))))
   refine k1 ?_
   refine ⟨(i+1,A97 out ((i:Int)+1)),⟨by dsimp only;omega,hst,(fun _ h=>?_),by rw [hpn];exact hp⟩,by dsimp only;omega,I72 ⟨le1 rfl,le1 rfl,le1 rfl,trivial⟩ ⟨rfl,trivial⟩⟩
   dsimp only at h
   unfold A97 at h
   rw [hs] at h
   simp at h
  ·rw [if_neg hpv] at hp hst
   obtain ⟨o2,ho2⟩:∃o2,o2=out++[(⟨i,i⟩:Span)]:=⟨_,rfl⟩
   obtain ⟨hv2,hset⟩:=hlast o2 ⟨i,i⟩ (by rw [ho2];simp)
   have hset:=hset ((i:Int)+1)
   have ho2l:o2.length=out.length+1:=by rw [ho2];simp
   rw [←ho2] at hp hst
   have hne2:A97 o2 ((i:Int)+1)≠[]:=by rw [←hset];intro h;have:=congrArg List.length h;rw [List.length_set,J05] at this;omega
   by_cases hi0:i=0
   ·have h0:decide ((i:Int)=0)=true:=decide_eq_true (by omega)
    refine k5 (k1 (k2 (k3 (k2 (k2 ?_)))))
    refine A3 (A2 (A4 Z Z) Z (A2 (A4 Z Z) Z (A2 (B3 Z (.pure _ _ _ _) Z (by omega) hv) Z (A2 (B6 Z Z) Z (A2 (A4 Z Z) Z (S5 Z Z Z Z (A2 (A4 Z Z) Z (S5 Z Z Z Z (A2 (F6 Z Z) Z (S5 Z Z Z Z (A2 (A4 Z Z) Z (o3 Z Z Z (by rw [h0];decide) Z ?_))))))))))));refine o3 Z Z Z (by rw [h0];decide) Z ?_;refine o3 Z Z Z (by rw [h0];decide) Z ?_;refine o3 Z Z Z (by rw [h0];decide) Z ?_;refine o3 Z Z Z (by rw [h0];decide) Z ?_;refine o3 Z Z Z (by rw [h0];decide) Z ?_;refine S5 Z Z Z Z (A2 (B13 Z (h0) Z) Z (A2 (B13 Z (rfl) Z) Z (A6 ?_)))
    refine k1 ?_
    refine B1 rfl (fun ht=>?_) (fun ht=>?_)
    rotate_left
    ·cases ht
    skip
    refine A3 (A2 (A4 Z Z) Z (A2 (A4 Z Z) Z (A2 (A4 Z Z) Z (A2 (F8 Z) Z (A2 (C9 (c:=spanC) (ys:=[⟨i,i⟩]) (E1 Z Z Z Z F4) Z Z Z) Z (C3 (o7 Z Z Z (.pure _ _ _ _) (by (simp;omega)) Z) Z (A2 (A5 Z Z) Z (A6 ?_))))))))
    rw [←ho2]
    refine k1 (k2 ?_)
    refine A3 (A2 (A4 Z Z) Z (A2 (A4 Z Z) Z (A2 (B3 Z (.pure _ _ _ _) Z (by omega) hv) Z (A2 (B6 Z Z) Z (A6 ?_)))))
    refine k1 ?_
    refine B1 rfl (fun ht=>?_) (fun ht=>?_)
    rotate_left
    ·cases ht
    skip
    refine A3 (A2 (A4 Z Z) Z (A2 (A4 Z Z) Z (A2 (A61 Z Z) Z (A2 (Q7 Z Z (by omega)) Z (A2 (A4 Z Z) Z (A2 (C1 Z Z (by omega)) Z (A2 (s7 Z Z Z (by omega) (by omega)) Z (A2 (K0 Z) Z (E9 (B45 (⟨i,(i:Int)+1⟩) TySz.out Z Z hv2 Z Z Z Z (fun _ _ _ h=>B12 h) (by intro j h1 h2;rcases j with _ | _ | _ | _ | _ | _ | _ | j<;>first | rfl | omega)) ?_)))))))));refine A6 ?_
    rw [hset]
    refine k4 (k1 ?_)
    refine A3 (A2 (A4 Z Z) Z (A2 (C1 Z Z (by omega)) Z (A2 (A5 Z Z) Z (A6 ?_))))
    refine k1 ?_
    exact ⟨(i+1,A97 o2 ((i:Int)+1)),⟨by dsimp only;omega,hst,(fun _=>hne2),by rw [hpn];exact hp⟩,by dsimp only;omega,I72 ⟨le1 rfl,le1 rfl,le1 rfl,trivial⟩ ⟨rfl,trivial⟩⟩
   ·have h0:decide ((i:Int)=0)=false:=decide_eq_false (by omega)
    have hvp:l[((i:Int) - 1).toNat]?=some false:=by
     unfold D31 at hpv
     rw [if_neg hi0] at hpv
     rw [show ((i:Int) - 1).toNat=i - 1 by omega]
     have hlt2:i - 1 < l.length:=by omega
     rw [J06,J03 hlt2] at hpv
     rw [J03 hlt2]
     simpa using hpv
    refine k5 (k1 (k2 (k3 (k2 (k2 ?_)))))
    refine A3 (A2 (A4 Z Z) Z (A2 (A4 Z Z) Z (A2 (B3 Z (.pure _ _ _ _) Z (by omega) hv) Z (A2 (B6 Z Z) Z (A2 (A4 Z Z) Z (S5 Z Z Z Z (A2 (A4 Z Z) Z (S5 Z Z Z Z (A2 (F6 Z Z) Z (S5 Z Z Z Z (A2 (A4 Z Z) Z (S5 Z Z Z h0 (A2 (A4 Z Z) Z (S5 Z Z Z h0 (A2 (A4 Z Z) Z (S5 Z Z Z h0 (A2 (Q7 Z Z (by omega)) Z (S5 Z Z Z h0 (A2 (B3 Z (.pure _ _ _ _) Z (by omega) hvp) Z (S5 Z Z Z h0 (A2 (B6 Z Z) Z (S5 Z Z Z h0 (A2 (F0 Z) Z ?_)))))))))))))))))))))));refine S5 Z Z Z Z (A2 (B14 Z (h0) Z) Z (A2 (B13 Z (rfl) Z) Z (A6 ?_)))
    refine k1 ?_
    refine B1 rfl (fun ht=>?_) (fun ht=>?_)
    rotate_left
    ·cases ht
    skip
    refine A3 (A2 (A4 Z Z) Z (A2 (A4 Z Z) Z (A2 (A4 Z Z) Z (A2 (F8 Z) Z (A2 (C9 (c:=spanC) (ys:=[⟨i,i⟩]) (E1 Z Z Z Z F4) Z Z Z) Z (C3 (o7 Z Z Z (.pure _ _ _ _) (by (simp;omega)) Z) Z (A2 (A5 Z Z) Z (A6 ?_))))))))
    rw [←ho2]
    refine k1 (k2 ?_)
    refine A3 (A2 (A4 Z Z) Z (A2 (A4 Z Z) Z (A2 (B3 Z (.pure _ _ _ _) Z (by omega) hv) Z (A2 (B6 Z Z) Z (A6 ?_)))))
    refine k1 ?_
    refine B1 rfl (fun ht=>?_) (fun ht=>?_)
    rotate_left
    ·cases ht
    skip
    refine A3 (A2 (A4 Z Z) Z (A2 (A4 Z Z) Z (A2 (A61 Z Z) Z (A2 (Q7 Z Z (by omega)) Z (A2 (A4 Z Z) Z (A2 (C1 Z Z (by omega)) Z (A2 (s7 Z Z Z (by omega) (by omega)) Z (A2 (K0 Z) Z (E9 (B45 (⟨i,(i:Int)+1⟩) TySz.out Z Z hv2 Z Z Z Z (fun _ _ _ h=>B12 h) (by intro j h1 h2;rcases j with _ | _ | _ | _ | _ | _ | _ | j<;>first | rfl | omega)) ?_)))))))));refine A6 ?_
    rw [hset]
    refine k4 (k1 ?_)
    refine A3 (A2 (A4 Z Z) Z (A2 (C1 Z Z (by omega)) Z (A2 (A5 Z Z) Z (A6 ?_))))
    refine k1 ?_
    exact ⟨(i+1,A97 o2 ((i:Int)+1)),⟨by dsimp only;omega,hst,(fun _=>hne2),by rw [hpn];exact hp⟩,by dsimp only;omega,I72 ⟨le1 rfl,le1 rfl,le1 rfl,trivial⟩ ⟨rfl,trivial⟩⟩
theorem I42 (t:Table) (hr:I8 t.Rows) (hl:t.Rows.length≤268435456) (hx:N9 t.Rows≤536870912):FnOk Tryz.prog 236 [pTable t] (fun rs=>rs=[pSpans (a8 t).1,E6 (a8 t).2]):=by
 refine FnOk.intro Tryz.func236 (by decide) Z Z Z Z ?_
 refine k2 ?_
 refine A3 (C3 (P5 1 Z Z Z) Z (A2 (A5 Z Z) Z (A2 (A5 Z Z) Z (A6 ?_))))
 refine k1 (k2 (k2 ?_))
 refine A3 (A2 (D4 Z Z Z) Z (B9 (D83 t hr (by omega) hx) Z Z Z ?_));rintro _ rfl;refine A2 (A5 Z Z) Z (A6 ?_)
 refine k1 (k2 ?_)
 refine A3 (A2 (A4 Z Z) Z (A2 (M5 Z Z) Z (A6 ?_)))
 refine k1 ?_
 refine B1 rfl (fun ht=>?_) (fun ht=>?_)
 ·have h:=A0 ht
  refine k2 ?_
  refine A3 (A2 (A4 Z Z) Z (A2 (J9 _ 2 spanC) Z (A2 (A5 Z Z) Z (A6 ?_))))
  refine k1 (k10 (k11 ?_))
  exact B5 (X6 rfl rfl rfl rfl rfl) (by unfold a8;rw [if_pos h])
 have h:=A1 ht
 refine k5 (k1 (k2 ?_))
 refine A3 (C3 (V4 751 _ D29 Z) Z (A6 ?_))
 refine k1 (k2 (k2 ?_))
 refine A3 (A2 (A5 Z Z) Z (A6 ?_))
 refine k1 (k3 ?_)
 refine D3 (X:=Nat) (fun i=>([(1,.s (.one (.ref 1 0))),(5,.s (.one (.buf 751 Bool 1 D29 ((t.Rows.take i).map fun r=>!blankB r)))),(6,C2 i)],[(1,.box (pTable t).s1.cells),(751,.spare ((t.Rows.take i).map fun r=>!blankB r).length 1 4)])) (fun i=>i≤t.Rows.length) (fun i=>t.Rows.length - i) 0 (Nat.zero_le _) (I72 ⟨le1 rfl,le1 rfl,le1 rfl,trivial⟩ ⟨rfl,rfl,trivial⟩) ?_
 intro i hi
 dsimp only at hi ⊢
 have hml:((t.Rows.take i).map fun r=>!blankB r).length=i:=by simp;omega
 refine k2 (k2 ?_)
 refine A3 (A2 (A4 Z Z) Z (A2 (A7 Z) Z (A2 (B0 Z Z Z) Z (A2 (F1 Z (.pure _ _ _ _)) Z (A2 (D6 Z Z) Z (A6 ?_))))))
 refine k1 ?_
 refine B1 rfl (fun ht=>?_) (fun ht=>?_)
 ·have hlt:i < t.Rows.length:=by have:=A0 ht;omega
  have hv:t.Rows[i]?=some t.Rows[i]:=by simp [hlt]
  have hst:((t.Rows.take (i+1)).map fun r=>!blankB r)=((t.Rows.take i).map fun r=>!blankB r)++[!blankB t.Rows[i]]:=by
   rw [J10 hlt];simp only [J17,J08,J37]
  obtain ⟨r,hrr⟩:∃r,r=t.Rows[i]:=⟨_,rfl⟩
  rw [←hrr] at hv hst
  refine k5 (k1 (k2 (k3 ?_)))
  refine A3 (A2 (A4 Z Z) Z (A2 (A7 Z) Z (A2 (B0 Z Z Z) Z (A2 (A4 Z Z) Z (A2 (B3 Z (.pure _ _ _ _) Z (by omega) hv) Z (A2 (G8 Z Z) Z (B9 (H72 r) Z Z Z ?_)))))));rintro _ rfl;refine A2 (F0 Z) Z (A2 (C9 (c:=D29) (ys:=[!blankB r]) (E1 Z Z Z Z F4) Z Z Z) Z (C3 (G7 Z Z Z (.pure _ _ _ _) (by (rw [hml];simp only [J02,J05];omega)) Z) Z ?_));refine A2 (A5 Z Z) Z (A6 ?_)
  refine k4 (k1 ?_)
  refine A3 (A2 (A4 Z Z) Z (A2 (C1 Z Z (by omega)) Z (A2 (A5 Z Z) Z (A6 ?_))))
  refine k1 ?_
  refine ⟨i+1,by omega,by omega,?_⟩
  rw [hst]
  exact I72 ⟨le1 rfl,le1 rfl,le1 rfl,trivial⟩ ⟨rfl,rfl,trivial⟩
 ·have hil:i=t.Rows.length:=by have:=A1 ht;omega
  rw [hil,J23]
  have hml2:(t.Rows.map fun r=>!blankB r).length=t.Rows.length:=by simp
  refine k6 (k2 ?_)
  refine A3 (A2 (A4 Z Z) Z (B9 (E95 (t.Rows.map fun r=>!blankB r) (by omega)) Z Z Z ?_));rintro _ rfl;refine A2 (A5 Z Z) Z (A2 (A5 Z Z) Z (A6 ?_))
  refine k1 (k10 ?_)
  exact B5 (X6 rfl rfl rfl rfl rfl) (by unfold a8;rw [if_neg h])
theorem H73 (t:Table) (s:Span) (hn:0≤t.Parents∧t.Parents≤64) (h1:0≤s.From∧s.From≤t.Rows.length) (h2:0≤s.To∧s.To≤t.Rows.length) (hl:t.Rows.length≤268435456) :
  FnOk Tryz.prog 237 [pTable t,pSpan s] (fun rs=>rs=[E0 (A27 t s)]):=by
 obtain ⟨F,hF⟩:∃F:Nat,s.From=F:=⟨s.From.toNat,by omega⟩
 obtain ⟨T,hT⟩:∃T:Nat,s.To=T:=⟨s.To.toNat,by omega⟩
 obtain ⟨R,hR⟩:∃R,R=(t.Rows.drop F).take (T - F):=⟨_,rfl⟩
 have hRl:R.length=T - F:=by rw [hR,J15,J12];omega
 have hD:A27 t s=(List.range t.Parents.toNat).all fun p=>!decide (C52 R / 2 ^ p % 2=0):=by unfold A27;rw [hF,hT,J09,J09,←hR]
 have hain:∀q:List Row,0≤C52 q∧C52 q < 4294967296:=by
  have key:∀(q:List Row) (a:Int),(0≤a∧a < 4294967296)→0≤q.foldl (fun a r=>S2 a r.Marks) a∧q.foldl (fun a r=>S2 a r.Marks) a < 4294967296:=by
   intro q
   induction q with
   | nil=>intro a h;exact h
   | cons x r ih=>intro a _;exact ih _ (E06 _)
  exact fun q=>key q 0 (by decide)
 refine FnOk.intro Tryz.func237 (by decide) Z Z Z Z ?_
 refine k2 ?_
 refine A3 (C3 (P5 2 Z Z Z) Z (C3 (P5 3 Z Z Z) Z (A2 (A5 Z Z) Z (A6 ?_))))
 refine k1 (k2 ?_)
 refine A3 (A2 (A5 Z Z) Z (A6 ?_))
 refine k1 (k2 (k2 ?_))
 refine A3 (A2 (A7 Z) Z (A2 (B0 Z Z Z) Z (A2 (A5 Z Z) Z (A6 ?_))))
 refine k1 (k3 ?_)
 rw [hF]
 refine D3 (X:=Nat) (fun k=>([(2,.s (.one (.ref 2 0))),(3,.s (.one (.ref 3 0))),(5,I3 (.int .u32 (C52 (R.take k)))),(6,C2 ((F+k:Nat):Int))],[(2,.box (pTable t).s1.cells),(3,.box (pSpan s).s1.cells)])) (fun k=>k≤R.length) (fun k=>R.length - k) 0 (Nat.zero_le _) (I72 ⟨le1 rfl,le1 rfl,le1 rfl,le1 rfl,trivial⟩ ⟨rfl,rfl,trivial⟩) ?_
 intro k hk
 dsimp only at hk ⊢
 refine k2 (k2 ?_)
 refine A3 (A2 (A4 Z Z) Z (A2 (A7 Z) Z (A2 (B0 Z Z Z) Z (A2 (D6 Z Z) Z (A6 ?_)))))
 refine k1 ?_
 refine B1 rfl (fun ht=>?_) (fun ht=>?_)
 ·have hlt:k < R.length:=by have:=A0 ht;omega
  have hv:t.Rows[((F+k:Nat):Int).toNat]?=some R[k]:=by
   have e1:R[k]?=some R[k]:=by simp
   have e2:R[k]?=t.Rows[F+k]?:=by rw [hR,J20 (by omega),J26]
   rw [J09,←e2]
   exact e1
  have hst:C52 (R.take (k+1))=S2 (C52 (R.take k)) R[k].Marks:=by
   unfold C52
   rw [J10 hlt,J42];rfl
  obtain ⟨r,hrr⟩:∃r,r=R[k]:=⟨_,rfl⟩
  rw [←hrr] at hv hst
  refine k5 (k1 (k2 (k3 ?_)))
  refine A3 (A2 (A4 Z Z) Z (A2 (A7 Z) Z (A2 (B0 Z Z Z) Z (A2 (A4 Z Z) Z (A2 (B3 Z (.pure _ _ _ _) Z (by omega) hv) Z (A2 (D7 Z) Z (A2 (B6 Z Z) Z (A2 (T7 Z Z Z (fun _=>rfl)) Z (A2 (A5 Z Z) Z (A6 ?_))))))))))
  refine k4 (k1 ?_)
  refine A3 (A2 (A4 Z Z) Z (A2 (C1 Z Z (by omega)) Z (A2 (A5 Z Z) Z (A6 ?_))))
  refine k1 ?_
  refine ⟨k+1,by omega,by omega,?_⟩
  rw [hst,show ((F+(k+1):Nat):Int)=((F+k:Nat):Int)+1 by omega]
  exact I72 ⟨le1 rfl,le1 rfl,le1 rfl,le1 rfl,trivial⟩ ⟨rfl,rfl,trivial⟩
 have hkl:k=R.length∨True:=.inr trivial
 have hT2:(T:Int)≤((F+k:Nat):Int):=by have:=A1 ht;omega
 have hkR:R.take k=R:=J45 (by omega)
 rw [hkR]
 obtain ⟨A,hA⟩:∃A,A=C52 R:=⟨_,rfl⟩
 have hAin:=hain R
 rw [←hA] at hAin hD ⊢
 obtain ⟨n,hn2⟩:∃n:Nat,t.Parents=n:=⟨t.Parents.toNat,by omega⟩
 rw [hn2,J09] at hD
 refine k6 (k2 (k2 ?_))
 refine A3 (A2 (A5 Z Z) Z (A6 ?_))
 refine k1 (k3 ?_)
 refine D3 (X:=Nat) (fun p=>([(2,.s (.one (.ref 2 0))),(5,I3 (.int .u32 A)),(7,C2 p)],[(2,.box (pTable t).s1.cells)])) (fun p=>p≤n∧∀q,q < p→¬A / 2 ^ q % 2=0) (fun p=>n - p) 0 ⟨Nat.zero_le _,fun q hq=>by omega⟩ (I72 ⟨le1 rfl,le1 rfl,le1 rfl,trivial⟩ ⟨rfl,trivial⟩) ?_
 rintro p ⟨hp,hq⟩
 dsimp only at hp hq ⊢
 refine k2 (k2 ?_)
 refine A3 (A2 (A4 Z Z) Z (A2 (A7 Z) Z (A2 (B0 Z Z Z) Z (A2 (D6 Z Z) Z (A6 ?_)))))
 refine k1 ?_
 refine B1 rfl (fun ht=>?_) (fun ht=>?_)
 ·have hlt:p < n:=by have:=A0 ht;omega
  have hu:=B92 (n:=(p:Int)) (by omega)
  have h3:0≤A / 2 ^ p:=Int.ediv_nonneg hAin.1 (Int.pow_nonneg (by decide))
  have h4:A / 2 ^ p≤A:=Int.ediv_le_self _ hAin.1
  have e1:=B27 (A / 2 ^ p) (by omega)
  have e32:A.fdiv (2 ^ (min (p:Int).toNat IntKind.u32.bits))=A / 2 ^ p∨32 < p:=by
   by_cases h:p≤32
   ·exact .inl (E05 A p (by omega))
   ·exact .inr (by omega)
  have e33:A.fdiv (2 ^ (min (p:Int).toNat IntKind.u32.bits))=A / 2 ^ p:=by
   rcases e32 with h | h
   ·exact h
   ·have h5:min (p:Int).toNat IntKind.u32.bits=32:=by rw [J09];exact Nat.min_eq_right (by show 32≤p;omega)
    rw [h5,Int.fdiv_eq_ediv_of_nonneg _ (Int.pow_nonneg (by decide))]
    have h6:A / 2 ^ 32=0:=Int.ediv_eq_zero_of_lt hAin.1 (by have:(2:Int) ^ 32=4294967296:=rfl;omega)
    have h7:A / 2 ^ p=0:=Int.ediv_eq_zero_of_lt hAin.1 (by
     have h8:(2:Nat) ^ 32≤2 ^ p:=Nat.pow_le_pow_right (by decide) (by omega)
     have h9:((2 ^ p:Nat):Int)=2 ^ p:=by simp
     have h10:(2:Nat) ^ 32=4294967296:=rfl
     omega)
    rw [h6,h7]
  refine k5 (k1 (k2 (k3 (k2 ?_))))
  refine A3 (A2 (A4 Z Z) Z (A2 (A4 Z Z) Z (A2 (J4 Z) Z (A2 (A35 Z Z (by (rw [hu];omega))) Z ?_))));refine A2 (T7 Z Z Z (fun _=>rfl)) Z (A2 (F6 Z Z) Z (A6 ?_))
  rw [hu,e33,e1]
  refine k1 ?_
  refine B1 rfl (fun ht=>?_) (fun ht=>?_)
  ·have h:=A0 ht
   refine k2 ?_
   refine A3 (A2 (A5 Z Z) Z (A6 ?_))
   refine k1 (k10 (k12 (k11 (k11 (k12 (k11 ?_))))))
   refine B5 (rs:=[E0 false]) (F2 Z Z Z) ?_
   rw [hD,Eq.comm]
   congr 3
   rw [Bool.eq_false_iff]
   intro hall
   have:=List.all_eq_true.1 hall p (List.mem_range.2 hlt)
   simp [h] at this
  ·have h:=A1 ht
   refine k5 (k4 (k1 ?_))
   refine A3 (A2 (A4 Z Z) Z (A2 (C1 Z Z (by omega)) Z (A2 (A5 Z Z) Z (A6 ?_))))
   refine k1 ?_
   refine ⟨p+1,⟨by omega,fun q hq2=>?_⟩,by omega,I72 ⟨le1 rfl,le1 rfl,le1 rfl,trivial⟩ ⟨rfl,trivial⟩⟩
   by_cases e:q=p
   ·subst e;exact h
   ·exact hq q (by omega)
 ·have hpn:p=n:=by have:=A1 ht;omega
  subst hpn
  refine k6 (k2 ?_)
  refine A3 (A2 (A5 Z Z) Z (A6 ?_))
  refine k1 (k10 ?_)
  refine B5 (rs:=[E0 true]) (F2 Z Z Z) ?_
  rw [hD,Eq.comm]
  congr 3
  rw [List.all_eq_true]
  intro q hq2
  have:=hq q (List.mem_range.1 hq2)
  simp [this]
theorem I43 {t:Table} (h:(a8 t).2=0):R7 t=0∧(1≤t.Parents∧t.Parents≤32):=by
 unfold a8 at h
 by_cases hc:R7 t=0
 ·refine ⟨hc,?_⟩
  unfold R7 at hc
  split at hc
  ·cases hc
  ·omega
 ·rw [if_pos hc] at h;exact absurd h hc
theorem G10 {α:Type} (L:List α) (p:α→Bool) (k:Nat) (h:k < L.length):(L.take (k+1)).filter p=(L.take k).filter p++if p L[k]=true then [L[k]] else []:=by
 rw [J10 h,J51]
 congr 1
 rw [List.filter_cons];split<;>rfl
theorem D35 (t:Table) (d:Bool) (hr:I8 t.Rows) (hl:t.Rows.length≤134217728) (hx:N9 t.Rows≤536870912) :
  FnOk Tryz.prog 180 [pTable t,E0 d] (fun rs=>rs=[pSpans (J3 t d).1,E6 (J3 t d).2]):=by
 refine FnOk.intro Tryz.func180 (by decide) Z Z Z Z ?_
 refine k2 ?_
 refine A3 (C3 (P5 2 Z Z Z) Z (A2 (A5 Z Z) Z (A2 (A5 Z Z) Z (A6 ?_))))
 refine k1 (k2 ?_)
 refine A3 (A2 (D4 Z Z Z) Z (B9 (I42 t hr (by omega) hx) Z Z Z ?_));rintro _ rfl;refine A2 (A4 Z Z) Z (A2 (B2 Z Z) Z (A2 (B2 Z Z) Z (A2 (A5 Z Z) Z (A2 (A5 Z Z) Z (A6 ?_)))))
 refine k1 (k2 (k2 ?_))
 refine A3 (A2 (A4 Z Z) Z (A2 (M5 Z Z) Z (A6 ?_)))
 refine k1 ?_
 refine B1 rfl (fun ht=>?_) (fun ht=>?_)
 ·have h:=A0 ht
  refine k2 ?_
  refine A3 (A2 (A4 Z Z) Z (A2 (J9 _ 2 spanC) Z (A2 (A5 Z Z) Z (A6 ?_))))
  refine k1 (k10 (k11 ?_))
  exact B5 (X6 rfl rfl rfl rfl rfl) (by unfold J3;rw [if_pos h])
 have h:=A1 ht
 have h0:(a8 t).2=0:=by omega
 have hres:J3 t d=((a8 t).1.filter fun s=>!d||A27 t s,0):=by unfold J3;rw [if_neg (by omega)]
 rw [hres]
 obtain ⟨_,hn1,hn2⟩:=I43 h0
 obtain ⟨L,hL⟩:∃L,L=(a8 t).1:=⟨_,rfl⟩
 have hin:=H52 t
 rw [←hL] at hin ⊢
 obtain ⟨hin1,hin2⟩:=hin
 obtain ⟨p,hp⟩:∃p:Span→Bool,p=fun s=>!d||A27 t s:=⟨_,rfl⟩
 rw [←hp]
 refine k5 (k1 (k2 ?_))
 refine A3 (C3 (V4 752 _ spanC Z) Z (A6 ?_))
 refine k1 (k2 (k2 ?_))
 refine A3 (A2 (A5 Z Z) Z (A6 ?_))
 refine k1 (k3 ?_)
 refine D3 (X:=Nat) (fun k=>([(1,U2 d),(2,.s (.one (.ref 2 0))),(6,D1 Span 2 spanC L),(8,.s (.one (.buf 752 Span 2 spanC ((L.take k).filter p)))),(9,C2 k)],[(2,.box (pTable t).s1.cells),(752,.spare ((L.take k).filter p).length 2 95)])) (fun k=>k≤L.length) (fun k=>L.length - k) 0 (Nat.zero_le _) (I72 ⟨le1 rfl,le1 rfl,le1 rfl,le1 rfl,le1 rfl,trivial⟩ ⟨rfl,rfl,trivial⟩) ?_
 intro k hk
 dsimp only at hk ⊢
 have hfl:=List.length_filter_le p (L.take k)
 have htl:(L.take k).length=k:=by rw [J15];omega
 refine k2 (k2 ?_)
 refine A3 (A2 (A4 Z Z) Z (A2 (A4 Z Z) Z (A2 (F1 Z (.pure _ _ _ _)) Z (A2 (D6 Z Z) Z (A6 ?_)))))
 refine k1 ?_
 refine B1 rfl (fun ht=>?_) (fun ht=>?_)
 rotate_left
 ·have hkl:k=L.length:=by have:=A1 ht;omega
  rw [hkl,J23]
  refine k6 (k2 ?_)
  refine A3 (A2 (A4 Z Z) Z (A2 (A5 Z Z) Z (A2 (A5 Z Z) Z (A6 ?_))))
  refine k1 (k10 ?_)
  exact B5 (X6 rfl rfl rfl rfl rfl) rfl
 have hlt:k < L.length:=by have:=A0 ht;omega
 have hst:=G10 L p k hlt
 have hv:L[k]?=some L[k]:=by simp [hlt]
 have hs:=hin2 _ (J19 hlt)
 obtain ⟨s,hsd⟩:∃s,s=L[k]:=⟨_,rfl⟩
 rw [←hsd] at hst hv hs
 have hps:p s=(!d||A27 t s):=by rw [hp]
 refine k5 (k1 (k2 (k3 (k2 ?_))))
 refine C4 (by kernel_rfl) (by kernel_rfl) (A8 (A4 Z Z) Z Z (A8 (F0 Z) Z Z (A8 (A4 Z Z) Z Z (C6 Z Z (fun hg=>by rw [hg];exact D4 Z Z Z) Z Z ?_))));refine C6 Z Z (fun hg=>by rw [hg];exact A4 Z Z) Z Z ?_;refine C6 Z Z (fun hg=>by rw [hg];exact A4 Z Z) Z Z ?_;refine C6 Z Z (fun hg=>by have hq:=hg;(try simp at hq);rw [hg];exact B3 Z (.pure _ _ _ _) Z (by omega) hv) Z Z ?_;refine C6 Z Z (fun hg=>by rw [hg];exact G8 Z Z) Z Z ?_;refine C6 Z Z (fun hg=>by have hq:=hg;(try simp at hq);rw [hg];exact G9 (H73 t s (by omega) hs.1 hs.2 (by omega)) Z Z) Z Z ?_;refine A8 (B4 Z (fun h=>by first | rfl | (rw [h];rfl)) (fun h=>by first | rfl | (rw [h];rfl))) Z Z ?_;refine H9 ?_
 refine k1 ?_
 refine B1 rfl (fun ht=>?_) (fun ht=>?_)
 ·have hpt:p s=true:=by rw [hps];cases d<;>simp_all
  rw [if_pos hpt] at hst
  skip
  refine A3 (A2 (A4 Z Z) Z (A2 (A4 Z Z) Z (A2 (A4 Z Z) Z (A2 (B3 Z (.pure _ _ _ _) Z (by omega) hv) Z (A2 (G8 Z Z) Z (A2 (C9 (c:=spanC) (ys:=[s]) (E1 Z Z Z Z F4) Z Z Z) Z (C3 (G7 Z Z Z (.pure _ _ _ _) (by (simp only [J02,J05];omega)) Z) Z (A2 (A5 Z Z) Z (A6 ?_)))))))))
  refine k4 (k1 ?_)
  refine A3 (A2 (A4 Z Z) Z (A2 (C1 Z Z (by omega)) Z (A2 (A5 Z Z) Z (A6 ?_))))
  refine k1 ?_
  refine ⟨k+1,by omega,by omega,?_⟩
  rw [hst]
  exact I72 ⟨le1 rfl,le1 rfl,le1 rfl,le1 rfl,le1 rfl,trivial⟩ ⟨rfl,rfl,trivial⟩
 ·have hpt:¬p s=true:=by rw [hps];cases d<;>simp_all
  rw [if_neg hpt,J25] at hst
  refine k5 (k4 (k1 ?_))
  refine A3 (A2 (A4 Z Z) Z (A2 (C1 Z Z (by omega)) Z (A2 (A5 Z Z) Z (A6 ?_))))
  refine k1 ?_
  refine ⟨k+1,by omega,by omega,?_⟩
  rw [hst]
  exact I72 ⟨le1 rfl,le1 rfl,le1 rfl,le1 rfl,le1 rfl,trivial⟩ ⟨rfl,rfl,trivial⟩
def B59 (L:List Span) (ctx:Int) (i k q:Nat):Bool:=if q < i then b8 L ctx q else if q=i then b8 (L.take k) ctx i else false
theorem H74 (L:List Span) (ctx:Int) (n:Nat):List.replicate n false=(List.range n).map (B59 L ctx 0 0):=by
 refine List.ext_getElem (by simp) fun q h1 h2=>?_
 simp only [List.getElem_replicate,List.getElem_map,List.getElem_range]
 unfold B59
 rw [if_neg (by omega)]
 split<;>simp [b8]
theorem H75 (L:List Span) (ctx:Int) (i n:Nat):(List.range n).map (B59 L ctx i L.length)=(List.range n).map (B59 L ctx (i+1) 0):=by
 refine List.map_congr_left fun q _=>?_
 unfold B59
 rw [J23]
 by_cases h1:q < i
 ·rw [if_pos h1,if_pos (by omega)]
 ·rw [if_neg h1]
  by_cases h2:q=i
  ·rw [if_pos h2,if_pos (by omega),h2]
  ·rw [if_neg h2,if_neg (by omega)]
   split<;>simp [b8]
theorem H76 (L:List Span) (ctx:Int) (n:Nat):(List.range n).map (B59 L ctx n 0)=(List.range n).map (b8 L ctx):=by
 refine List.map_congr_left fun q hq=>?_
 unfold B59
 rw [if_pos (by simpa using hq)]
theorem G11 (L:List Span) (ctx:Int) (i k:Nat) (h:k < L.length):b8 (L.take (k+1)) ctx i=(b8 (L.take k) ctx i||decide (L[k].From - ctx≤i∧(i:Int) < L[k].To+ctx)):=by
 unfold b8
 rw [J10 h,List.any_append];simp
theorem G12 (t:Table) (ctx:Int) (d:Bool) (hr:I8 t.Rows) (hl:t.Rows.length≤134217728) (hx:N9 t.Rows≤536870912) :
  FnOk Tryz.prog 100 [pTable t,E6 ctx,E0 d] (fun rs=>rs=[pSpans (S4 t ctx d).1,E6 (S4 t ctx d).2]):=by
 refine FnOk.intro Tryz.func100 (by decide) Z Z Z Z ?_
 refine k2 ?_
 refine A3 (C3 (P5 3 Z Z Z) Z (A2 (A5 Z Z) Z (A2 (A5 Z Z) Z (A6 ?_))))
 refine k1 (k2 ?_)
 refine A3 (A2 (D4 Z Z Z) Z (A2 (A4 Z Z) Z (B9 (D35 t d hr hl hx) Z Z Z ?_)));rintro _ rfl;refine A2 (A4 Z Z) Z (A2 (B2 Z Z) Z (A2 (B2 Z Z) Z (A2 (A5 Z Z) Z (A2 (A5 Z Z) Z (A6 ?_)))))
 refine k1 (k2 (k2 ?_))
 refine A3 (A2 (A4 Z Z) Z (A2 (M5 Z Z) Z (A6 ?_)))
 refine k1 ?_
 refine B1 rfl (fun ht=>?_) (fun ht=>?_)
 ·have h:=A0 ht
  refine k2 ?_
  refine A3 (A2 (A4 Z Z) Z (A2 (J9 _ 2 spanC) Z (A2 (A5 Z Z) Z (A6 ?_))))
  refine k1 (k10 (k11 ?_))
  exact B5 (X6 rfl rfl rfl rfl rfl) (by unfold S4;rw [if_pos h])
 have h:=A1 ht
 refine k5 (k1 (k2 (k2 ?_)))
 refine A3 (A2 (A4 Z Z) Z (A2 (D6 Z Z) Z (A2 (A4 Z Z) Z (A9 Z Z Z Z (fun hg=>by rw [hg];exact A4 Z Z) ?_))));refine A9 Z Z Z Z (fun hg=>by rw [hg];exact N2 Z Z) ?_;refine A2 (B4 Z (fun h=>by first | rfl | (rw [h];rfl)) (fun h=>by first | rfl | (rw [h];rfl))) Z ?_;refine A6 ?_
 refine k1 ?_
 refine B1 rfl (fun ht=>?_) (fun ht=>?_)
 ·have h1:=A0 (or_pick.symm.trans ht)
  refine k2 ?_
  refine A3 (A2 (J9 _ 2 spanC) Z (A2 (A5 Z Z) Z (A6 ?_)))
  refine k1 (k10 (k11 ?_))
  exact B5 (X6 rfl rfl rfl rfl rfl) (by unfold S4;rw [if_neg h,if_pos (by omega)])
 have h1:=A1 (or_pick.symm.trans ht)
 have hres:S4 t ctx d=(B55 ((List.range t.Rows.length).map (b8 (J3 t d).1 ctx)),0):=by unfold S4;rw [if_neg h,if_neg (by omega)]
 rw [hres]
 obtain ⟨L,hL⟩:∃L,L=(J3 t d).1:=⟨_,rfl⟩
 have hin:=E35 t d
 rw [←hL] at hin ⊢
 obtain ⟨hin1,hin2⟩:=hin
 obtain ⟨n,hn⟩:∃n,n=t.Rows.length:=⟨_,rfl⟩
 rw [←hn] at hin1 hin2 hl ⊢
 refine V5 [(1,C2 ctx),(3,.s (.one (.ref 3 0))),(8,D1 Span 2 spanC L)] [(3,.box (pTable t).s1.cells)] (I72 ⟨le1 rfl,le1 rfl,le1 rfl,trivial⟩ ⟨rfl,trivial⟩) ?_
 refine k5 (k1 (k2 ?_))
 refine A3 (A2 (A7 Z) Z (A2 (B0 Z Z Z) Z (A2 (F1 Z (.pure _ _ _ _)) Z (C3 (j5 753 Bool D29 false Z Z (by omega) (by omega) (fun _=>by first | exact ⟨⟨rfl,rfl⟩,trivial⟩ | exact ⟨O1 _ _ _,trivial⟩) (by first | rfl | (simp [G3,I7,Ob.free,SV.free,S1.free,TC.free]<;>rfl))) Z ?_))));refine A2 (A5 Z Z) Z (A6 ?_)
 rw [←hn,J09,H74 L ctx n]
 refine k1 (k2 (k2 ?_))
 refine A3 (A2 (A5 Z Z) Z (A6 ?_))
 refine k1 (k3 ?_)
 refine D3 (X:=Nat) (fun i=>([(1,C2 ctx),(8,D1 Span 2 spanC L),(10,.s (.one (.mut 753))),(11,C2 i)],[(753,.arr Bool 1 D29 ((List.range n).map (B59 L ctx i 0)))])) (fun i=>i≤n) (fun i=>n - i) 0 (Nat.zero_le _) (I72 ⟨le1 rfl,le1 rfl,le1 rfl,le1 rfl,trivial⟩ ⟨rfl,trivial⟩) ?_
 intro i hi
 dsimp only at hi ⊢
 have hlen:∀k,((List.range n).map (B59 L ctx i k)).length=n:=fun k=>by simp
 have hlen0:=hlen 0
 refine k2 (k2 ?_)
 refine A3 (A2 (A4 Z Z) Z (A2 (A4 Z Z) Z (A2 (H53 Z Z) Z (A2 (D6 Z Z) Z (A6 ?_)))))
 refine k1 ?_
 refine B1 rfl (fun ht=>?_) (fun ht=>?_)
 rotate_left
 ·have hin:i=n:=by have:=A1 ht;omega
  rw [hin,H76]
  refine F5 (Sees.freeze (k:=753) Z) ?_
  refine k6 (k2 ?_)
  refine A3 (A2 (A4 Z Z) Z (B9 (E95 ((List.range n).map (b8 L ctx)) (by simp;omega)) Z Z Z ?_));rintro _ rfl;refine A2 (A5 Z Z) Z (A2 (A5 Z Z) Z (A6 ?_))
  refine k1 (k10 ?_)
  exact B5 (X6 rfl rfl rfl rfl rfl) rfl
 have hlt:i < n:=by have:=A0 ht;omega
 refine k5 (k1 (k2 (k3 (k2 ?_))))
 refine A3 (A2 (A5 Z Z) Z (A6 ?_))
 refine k1 (k3 ?_)
 refine D3 (X:=Nat) (fun k=>([(1,C2 ctx),(8,D1 Span 2 spanC L),(10,.s (.one (.mut 753))),(11,C2 i),(12,C2 k)],[(753,.arr Bool 1 D29 ((List.range n).map (B59 L ctx i k)))])) (fun k=>k≤L.length) (fun k=>L.length - k) 0 (Nat.zero_le _) (I72 ⟨le1 rfl,le1 rfl,le1 rfl,le1 rfl,le1 rfl,trivial⟩ ⟨rfl,trivial⟩) ?_
 intro k hk
 dsimp only at hk ⊢
 have hlenk:=hlen k
 refine k2 (k2 ?_)
 refine A3 (A2 (A4 Z Z) Z (A2 (A4 Z Z) Z (A2 (F1 Z (.pure _ _ _ _)) Z (A2 (D6 Z Z) Z (A6 ?_)))))
 refine k1 ?_
 refine B1 rfl (fun ht=>?_) (fun ht=>?_)
 rotate_left
 ·have hkl:k=L.length:=by have:=A1 ht;omega
  rw [hkl,H75]
  refine k6 (k7 (k7 (k8 Z (k4 (k1 ?_)))))
  refine A3 (A2 (A4 Z Z) Z (A2 (C1 Z Z (by omega)) Z (A2 (A5 Z Z) Z (A6 ?_))))
  refine k1 ?_
  exact ⟨i+1,by omega,by omega,I72 ⟨le1 rfl,le1 rfl,le1 rfl,le1 rfl,trivial⟩ ⟨rfl,trivial⟩⟩
 have hltk:k < L.length:=by have:=A0 ht;omega
 have hst:=G11 L ctx i k hltk
 have hv:L[k]?=some L[k]:=by simp [hltk]
 have hs:=hin2 _ (J19 hltk)
 obtain ⟨s,hsd⟩:∃s,s=L[k]:=⟨_,rfl⟩
 rw [←hsd] at hst hv hs
 have hg:((List.range n).map (B59 L ctx i k))[(i:Int).toNat]?=some (b8 (L.take k) ctx i):=by
  rw [J09,C82 n i _ hlt];unfold B59;rw [if_neg (by omega),if_pos rfl]
 have hset:((List.range n).map (B59 L ctx i k)).set (i:Int).toNat (if b8 (L.take k) ctx i=true then true else if decide ((i:Int)≥s.From - ctx)=true then decide ((i:Int) < s.To+ctx) else false)=(List.range n).map (B59 L ctx i (k+1)):=by
  rw [J09]
  refine C81 n i _ _ _ (fun _=>?_) (fun q _ hq=>?_)
  ·unfold B59
   rw [if_neg (by omega),if_pos rfl,hst]
   cases b8 (L.take k) ctx i
   ·by_cases h1:s.From - ctx≤(i:Int)
    ·by_cases h2:(i:Int) < s.To+ctx<;>simp [h1,h2]
    ·simp [h1]
   ·simp
  ·unfold B59
   by_cases h1:q < i
   ·rw [if_pos h1,if_pos h1]
   ·rw [if_neg h1,if_neg h1,if_neg hq,if_neg hq]
 refine k5 (k1 (k2 (k3 ?_)))
 refine A3 (A2 (A4 Z Z) Z (A2 (A4 Z Z) Z (A2 (A4 Z Z) Z (A2 (A4 Z Z) Z (A2 (E5 Z Z Z (by omega) (by (rw [hlenk];omega))) Z ?_)))));refine A2 (R5 Z Z hg Z) Z (A2 (A4 Z Z) Z (A9 Z Z Z Z (fun hg=>by rw [hg];exact A4 Z Z) ?_));refine A9 Z Z Z Z (fun hg=>by rw [hg];exact A4 Z Z) ?_;refine A9 Z Z Z Z (fun hg=>by rw [hg];exact A4 Z Z) ?_;refine A9 Z Z Z Z (fun hg=>by have hq:=hg;(try simp at hq);rw [hg];exact B3 Z (.pure _ _ _ _) Z (by omega) hv) ?_;refine A9 Z Z Z Z (fun hg=>by rw [hg];exact D7 Z) ?_;refine A9 Z Z Z Z (fun hg=>by rw [hg];exact B6 Z Z) ?_;refine A9 Z Z Z Z (fun hg=>by rw [hg];exact A4 Z Z) ?_;refine A9 Z Z Z Z (fun hg=>by have hq:=hg;(try simp at hq);rw [hg];exact Q7 Z Z (by omega)) ?_;refine A9 Z Z Z Z (fun hg=>by rw [hg];exact s9 Z Z) ?_;refine A9 Z Z Z Z (fun hg=>by rw [hg];exact A4 Z Z) ?_;refine F7 Z Z Z (.gd (.val _)) Z (fun hg=>by obtain ⟨hg1,hg2⟩:=K6 hg;(try rw [hg1]);(try rw [hg2]);exact A4 Z Z) ?_;refine F7 Z Z Z (.gd (.val _)) Z (fun hg=>by obtain ⟨hg1,hg2⟩:=K6 hg;(try rw [hg1]);(try rw [hg2]);exact A4 Z Z) ?_;refine F7 Z Z Z (.gd (.val _)) Z (fun hg=>by obtain ⟨hg1,hg2⟩:=K6 hg;(try rw [hg1]);(try rw [hg2]);exact A4 Z Z) ?_;refine F7 Z Z Z (.gd (.val _)) Z (fun hg=>by have hq:=hg;(try simp at hq);obtain ⟨hg1,hg2⟩:=K6 hg;(try rw [hg1]);(try rw [hg2]);exact B3 Z (.pure _ _ _ _) Z (by omega) hv) ?_;refine F7 Z Z Z (.gd (.val _)) Z (fun hg=>by obtain ⟨hg1,hg2⟩:=K6 hg;(try rw [hg1]);(try rw [hg2]);exact D7 Z) ?_;refine F7 Z Z Z (.gd (.val _)) Z (fun hg=>by obtain ⟨hg1,hg2⟩:=K6 hg;(try rw [hg1]);(try rw [hg2]);exact B6 Z Z) ?_;refine F7 Z Z Z (.gd (.val _)) Z (fun hg=>by obtain ⟨hg1,hg2⟩:=K6 hg;(try rw [hg1]);(try rw [hg2]);exact A4 Z Z) ?_;refine F7 Z Z Z (.gd (.val _)) Z (fun hg=>by have hq:=hg;(try simp at hq);obtain ⟨hg1,hg2⟩:=K6 hg;(try rw [hg1]);(try rw [hg2]);exact C1 Z Z (by omega)) ?_;refine F7 Z Z Z (.gd (.val _)) Z (fun hg=>by obtain ⟨hg1,hg2⟩:=K6 hg;(try rw [hg1]);(try rw [hg2]);exact D6 Z Z) ?_;refine A9 Z Z Z Z (fun hg=>by rw [hg];exact B4 Z (fun h=>by first | rfl | (rw [h];rfl)) (fun h=>by first | rfl | (rw [h];rfl))) ?_;refine A2 (B4 Z (fun h=>by first | rfl | (rw [h];rfl)) (fun h=>by first | rfl | (rw [h];rfl))) Z ?_
 refine A2 (E5 Z Z Z (by omega) (by (rw [hlenk];omega))) Z ?_;refine E9 (H3 TySz.out Z Z (by (rw [hlenk];omega)) Z Z) ?_;refine A6 ?_
 refine k4 (k1 ?_)
 refine A3 (A2 (A4 Z Z) Z (A2 (C1 Z Z (by omega)) Z (A2 (A5 Z Z) Z (A6 ?_))))
 refine k1 ?_
 refine ⟨k+1,by omega,by omega,?_⟩
 rw [←hset]
 exact I72 ⟨le1 rfl,le1 rfl,le1 rfl,le1 rfl,le1 rfl,trivial⟩ ⟨rfl,trivial⟩
theorem B71 {b:Str} (h:b.length≤200):C27 b=0:=by
 have:=Q1 b
 rw [C27,if_neg (by omega)]
theorem H77 {m r:Nat} {z:TC} (h:r < m):(Q8 m m z)[r]?=some (.mut (r+1000)):=by
 unfold Q8;rw [J34,J38 h];simp [h]
def A92 (f:Int→Int) (l:List Int) (k:Nat):List Int:=(l.take k).map f++l.drop k
theorem F50 (f:Int→Int) (l:List Int) (k:Nat):(A92 f l k).length=l.length:=by simp [A92];omega
theorem H78 (f:Int→Int) (l:List Int) (k:Nat) (h:k < l.length):(A92 f l k)[k]?=some (l.getD k 0):=by
 unfold A92
 rw [J18 (by simp;omega)]
 simp [show k - min k l.length=0 by omega,J03 h,J06]
theorem H79 (f:Int→Int) (l:List Int) (k:Nat) (h:k < l.length):(A92 f l k).set k (f (l.getD k 0))=A92 f l (k+1):=by
 unfold A92
 rw [List.set_append_right _ _ (by simp;omega),J07 h,J10 h]
 have e:k - min k l.length=0:=by omega
 simp only [J35,J15,e,List.set_cons_zero,J17,J08,J37,J13,J47,J06,J03 h,Option.getD_some]
theorem G81 (f:Int→Int) (l:List Int):A92 f l 0=l:=by simp [A92]
theorem G82 (f:Int→Int) (l:List Int):A92 f l l.length=l.map f:=by simp [A92]
set_option maxHeartbeats 1000000
theorem H80 (result:Str) (parents:List Str) (h0:result.length≤200) (h1:∀b∈parents,b.length≤200):FnOk Tryz.prog 51 [F3 result,j2 parents] (fun rs=>rs=[pTable (I9 result parents).1,E6 (I9 result parents).2]):=by
 refine FnOk.intro Tryz.func51 (by decide) Z Z Z Z ?_
 refine A14 (t:=1) rfl (.pure _ _ _ _) fun hplen=>?_
 refine k2 ?_
 refine A3 (C3 (H1 4 Z) Z (A2 (A5 Z Z) Z (A6 ?_)))
 refine k1 (k2 ?_)
 refine A3 (A2 (A4 Z Z) Z (A2 (F1 Z (.pure _ _ _ _)) Z (A2 (A5 Z Z) Z (A6 ?_))))
 refine k1 (k2 (k2 ?_))
 refine A3 (A2 (A4 Z Z) Z (A2 (D6 Z Z) Z (A2 (A4 Z Z) Z (A9 Z Z Z Z (fun hg=>by rw [hg];exact A4 Z Z) ?_))));refine A9 Z Z Z Z (fun hg=>by rw [hg];exact N2 Z Z) ?_;refine A2 (B4 Z (fun h=>by first | rfl | (rw [h];rfl)) (fun h=>by first | rfl | (rw [h];rfl))) Z ?_;refine A6 ?_
 refine k1 ?_
 refine B1 rfl (fun ht=>?_) (fun ht=>?_)
 ·have h:=A0 (or_pick.symm.trans ht)
  refine k2 ?_
  refine A3 (A2 (F8 Z) Z (E9 (C0 TySz.out Z Z Z Z Z Z) (A2 (A5 Z Z) Z (A6 ?_))))
  refine k1 ?_
  refine F5 (I73 Row 3 rowC 4 1 Z Z) ?_
  refine k10 (k11 ?_)
  exact B5 (rs:=[pTable ⟨0,[]⟩,E6 2]) (R6 rfl rfl rfl rfl rfl rfl rfl) (by rw [I9,if_pos (by omega)])
 ·have h := A1 (or_pick.symm.trans ht)
  refine V5 [(0,H5 result),(1,D1 Str 1 K1 parents),(4,.s (.one (.ref 4 0))),(6,C2 parents.length)] [(4,.box [.p (.v (.int .i64 0)),.p (.v (.slice none 0 0))])] (I72 ⟨le1 rfl,le1 rfl,le1 rfl,le1 rfl,trivial⟩ ⟨rfl,trivial⟩) ?_
  refine k5 (k1 (k2 ?_))
  refine A3 (A2 (A4 Z Z) Z (B9 (C22 result (by omega)) Z Z Z ?_));rintro _ rfl;refine C3 (A57 39 (c:=strsC) (ys:=[_]) (E1 Z Z Z Z F4) Z Z Z (by first | rfl | (simp [G3,I7,Ob.free,SV.free,S1.free,TC.free]<;>rfl))) Z ?_;refine A2 (A5 Z Z) Z (A6 ?_)
  refine k1 (k2 (k2 ?_))
  refine A3 (A2 (A4 Z Z) Z (B9 (F93 result (by omega)) Z Z Z ?_));rintro _ rfl;refine A2 (A5 Z Z) Z (A6 ?_)
  refine k1 (k2 ?_)
  rw [B71 h0]
  refine A3 (A2 (A4 Z Z) Z (A2 (M5 Z Z) Z (A6 ?_)))
  refine k1 ?_
  refine B1 rfl (fun ht=>?_) (fun ht=>?_)
  ·cases A0 ht rfl
  ·refine k5 (k1 (k2 (k2 ?_)))
   refine A3 (A2 (A5 Z Z) Z (A6 ?_))
   refine k1 (k3 ?_)
   obtain ⟨n,hn⟩:∃n,n=parents.length:=⟨_,rfl⟩
   rw [←hn] at h
   refine D3 (X:=Nat) (fun p=>([(1,D1 Str 1 K1 parents),(4,.s (.one (.ref 4 0))),(6,C2 n),(7,.s (.one (.buf 39 (List Str) 1 strsC (C8 result::(parents.take p).map C8)))),(9,C2 p)],[(4,.box [.p (.v (.int .i64 0)),.p (.v (.slice none 0 0))]),(39,.spare (C8 result::(parents.take p).map C8).length 1 76)])) (fun p=>p≤n) (fun p=>n - p) 0 (Nat.zero_le _) (by rw [hn];exact I72 ⟨le1 rfl,le1 rfl,le1 rfl,le1 rfl,le1 rfl,trivial⟩ ⟨rfl,rfl,trivial⟩) ?_
   intro p hp
   dsimp only at hp ⊢
   have hfl:(C8 result::(parents.take p).map C8).length=p+1:=by simp;omega
   refine k2 (k2 ?_)
   refine A3 (A2 (A4 Z Z) Z (A2 (A4 Z Z) Z (A2 (D6 Z Z) Z (A6 ?_))))
   refine k1 ?_
   refine B1 rfl (fun ht=>?_) (fun ht=>?_)
   ·have hlt:p < parents.length:=by have:=A0 ht;omega
    have hv:parents[p]?=some parents[p]:=by simp [hlt]
    have hb:=h1 _ (J19 hlt)
    have hst:C8 result::(parents.take (p+1)).map C8=(C8 result::(parents.take p).map C8)++[C8 parents[p]]:=by
     rw [List.take_add_one,hv,Option.toList_some,J17];rfl
    refine k5 (k1 (k2 (k3 (k2 (k2 ?_)))))
    refine A3 (A2 (A4 Z Z) Z (A2 (A4 Z Z) Z ?_));refine A2 (B3 rfl (.pure _ _ _ _) rfl (by omega) (J03 (by omega))) rfl ?_;refine A2 (B6 Z Z) Z (B9 (F93 parents[p] (by omega)) Z Z Z ?_);rintro _ rfl;refine A2 (A5 Z Z) Z (A6 ?_)
    refine k1 (k2 ?_)
    rw [B71 hb]
    refine A3 (A2 (A4 Z Z) Z (A2 (M5 Z Z) Z (A6 ?_)))
    refine k1 ?_
    refine B1 rfl (fun ht=>?_) (fun ht=>?_)
    ·cases A0 ht rfl
    ·refine k5 (k1 ?_)
     refine A3 (A2 (A4 Z Z) Z (A2 (A4 Z Z) Z (A2 (A4 Z Z) Z ?_)));refine A2 (B3 rfl (.pure _ _ _ _) rfl (by omega) (J03 (by omega))) rfl ?_;refine A2 (B6 Z Z) Z (B9 (C22 parents[p] (by omega)) Z Z Z ?_);rintro _ rfl;refine A2 (C9 (c:=strsC) (ys:=[_]) (E1 Z Z Z Z F4) Z Z Z) Z (C3 (G7 Z Z Z (.pure _ _ _ _) (by (rw [hfl];simp only [J02,J05];omega)) Z) Z ?_);refine A2 (A5 Z Z) Z (A6 ?_)
     refine k4 (k1 ?_)
     refine A3 (A2 (A4 Z Z) Z (A2 (C1 Z Z (by omega)) Z (A2 (A5 Z Z) Z (A6 ?_))))
     refine k1 ?_
     refine ⟨p+1,by omega,by omega,?_⟩
     rw [hst]
     exact I72 ⟨le1 rfl,le1 rfl,le1 rfl,le1 rfl,le1 rfl,trivial⟩ ⟨rfl,rfl,trivial⟩
   ·have hp':p=n:=by have:=A1 ht;omega
    rw [hp',hn,J23]
    rw [hp',hn,J23] at hfl
    rw [←hn] at hfl ⊢
    obtain ⟨fs,hfs⟩:∃fs,fs=C8 result::parents.map C8:=⟨_,rfl⟩
    rw [←hfs] at hfl ⊢
    have hfsB:∀f∈fs,f.length≤200∧f.flatten.length≤200:=by
     intro f hf
     rw [hfs] at hf
     rcases List.mem_cons.1 hf with rfl | hf
     ·have:=Q1 result;rw [U3];omega
     ·obtain ⟨b,hb,rfl⟩:=List.mem_map.1 hf
      have:=Q1 b;have:=h1 b hb;rw [U3];omega
    have hmk:I9 result parents=if ∃k,k < (C8 result).length+1∧(I2 ((A32 (fs.map (S7 (G2 fs))) (C8 result).length n n).2 k)).2≠0 then (⟨0,[]⟩,1) else (⟨n,x2 (G2 fs) (C8 result) (A32 (fs.map (S7 (G2 fs))) (C8 result).length n n) ((C8 result).length+1)⟩,0):=by
     rw [I9,if_neg (by omega),hn,hfs]
    have hn1:fs.length=n+1:=by rw [hfl]
    have hf0:fs[0]?=some (C8 result):=by rw [hfs];rfl
    have hflat:fs.flatten.length≤6600:=by
     have key:∀l:List (List Str),(∀f∈l,f.length≤200∧f.flatten.length≤200)→l.flatten.length≤200*l.length:=by
      intro l hl
      induction l with
      | nil=>simp
      | cons x r ih=>have:=ih (fun f hf=>hl f (by simp [hf]));have:=(hl x (by simp)).1;simp only [J14,J01,J02];omega
     have:=key fs hfsB;omega
    obtain ⟨names,hnames⟩:∃names,names=G2 fs:=⟨_,rfl⟩
    obtain ⟨ids,hids⟩:∃ids,ids=fs.map (S7 names):=⟨_,rfl⟩
    obtain ⟨L,hL⟩:∃L,L=(C8 result).length:=⟨_,rfl⟩
    have hLB:L≤200:=by rw [hL];exact (hfsB _ (by rw [hfs];simp)).1
    have hidsl:ids.length=n+1:=by rw [hids,J35,hn1]
    have hidB:∀x∈ids,x.length≤200∧∀v∈x,0≤v∧v < (names.length:Int):=by
     intro x hx
     rw [hids,hnames] at hx
     have h2:=ids_in fs x hx
     obtain ⟨f,hf,rfl⟩:=List.mem_map.1 hx
     exact ⟨by rw [S7,J35];exact (hfsB f hf).1,by rw [hnames];exact h2⟩
    have hid0:(ids.getD 0 []).length=L:=by rw [hids,J06,J34,hf0,hL];simp [S7]
    have hv0:ids[0]?=some (ids.getD 0 []):=by rw [J06,J03 (by omega)];rfl
    refine V5 [(4,.s (.one (.ref 4 0))),(6,C2 n),(7,D1 (List Str) 1 strsC fs)] [(4,.box [.p (.v (.int .i64 0)),.p (.v (.slice none 0 0))])] (I72 ⟨le1 rfl,le1 rfl,leL rfl,trivial⟩ ⟨rfl,trivial⟩) ?_
    refine k6 (k2 ?_)
    refine A3 (A2 (A4 Z Z) Z (B9 (F95 fs (by omega)) Z Z Z ?_));rintro _ rfl;refine A2 (A4 Z Z) Z (B9 (ids_ok fs (by omega) (by omega)) Z Z Z ?_);rintro _ rfl;refine A2 (A5 Z Z) Z (A2 (A5 Z Z) Z (A6 ?_))
    rw [←hnames,←hids]
    refine k1 (k2 ?_)
    refine A3 (A2 (A4 Z Z) Z (A2 (B3 Z (.pure _ _ _ _) Z (by omega) hf0) Z (A2 (B6 Z Z) Z (A2 (F1 Z (.pure _ _ _ _)) Z (A2 (A5 Z Z) Z (A6 ?_))))))
    rw [←hL]
    refine k1 (k2 ?_)
    refine A3 (A2 (A4 Z Z) Z (C3 (j5 14 Int B05 0 Z Z (by omega) (by omega) (fun _=>by first | exact ⟨⟨rfl,rfl⟩,trivial⟩ | exact ⟨O1 _ _ _,trivial⟩) (by first | rfl | (simp [G3,I7,Ob.free,SV.free,S1.free,TC.free]<;>rfl))) Z ?_));refine A2 (A5 Z Z) Z (A6 ?_)
    refine k1 (k2 ?_)
    refine A3 (A2 (A4 Z Z) Z (A2 (C1 Z Z (by omega)) Z (C3 (j5 15 (List (List Int)) intssC [] Z Z (by omega) (by omega) (fun _=>by first | exact ⟨⟨rfl,rfl⟩,trivial⟩ | exact ⟨O1 _ _ _,trivial⟩) (by first | rfl | (simp [G3,I7,Ob.free,SV.free,S1.free,TC.free]<;>rfl))) Z ?_)));refine A2 (A5 Z Z) Z (A6 ?_)
    refine k1 (k2 (k2 ?_))
    refine A3 (A2 (A5 Z Z) Z (A6 ?_))
    refine k1 (k3 ?_)
    refine F5 (I90 15 Z) ?_
    obtain ⟨z,hz⟩:∃z:TC,z=.p (intssC [] 0):=⟨_,rfl⟩
    have hzf:∀k,z.free k=true:=fun k=>by rw [hz];rfl
    have hrep:(List.replicate ((L:Int)+1).toNat ([]:List (List Int))).map (fun x=>TC.p (intssC x 0))=Q8 (L+1) 0 z:=by
     rw [←G62,hz];simp
    refine D3 (X:=Nat) (fun k=>([(4,.s (.one (.ref 4 0))),(6,C2 n),(7,D1 (List Str) 1 strsC fs),(11,D1 Str 1 K1 names),(12,D1 (List Int) 1 intsC ids),(13,C2 L),(14,.s (.one (.mut 14))),(15,.s (.one (.mut 15))),(16,C2 k)],
     (4,.box [.p (.v (.int .i64 0)),.p (.v (.slice none 0 0))])::(14,.arr Int 1 B05 (List.replicate L 0))::(15,.tarr (L+1) 1 (Q8 (L+1) k z))::N0 intsC (fun _=>List.replicate n []) (List.range k))) (fun k=>k≤L+1) (fun k=>L+1 - k) 0 (Nat.zero_le _) ?_ ?_
    ·refine I72 ⟨⟨_,rfl,.same _⟩,⟨_,rfl,.same _⟩,⟨_,rfl,.same _⟩,⟨_,rfl,.same _⟩,⟨_,rfl,.same _⟩,⟨_,rfl,.same _⟩,⟨_,rfl,.same _⟩,⟨_,rfl,.same _⟩,⟨_,rfl,.same _⟩,trivial⟩ ⟨rfl,rfl,?_,trivial⟩
     rw [←hrep];simp [C7,List.length_replicate]
    ·intro k hk
     dsimp only at hk ⊢
     refine k2 (k2 ?_)
     refine A3 (A2 (A4 Z Z) Z (A2 (A4 Z Z) Z (A2 (x7 Z Z) Z (A6 ?_))))
     refine k1 ?_
     refine B1 rfl (fun ht=>?_) (fun ht=>?_)
     ·have hlt:k < L+1:=by have:=A0 ht;omega
      have hfree:I7 (k+1000) ((4,.box [.p (.v (.int .i64 0)),.p (.v (.slice none 0 0))])::(14,.arr Int 1 B05 (List.replicate L 0))::(15,.tarr (L+1) 1 (Q8 (L+1) k z))::N0 intsC (fun _=>List.replicate n ([]:List Int)) (List.range k))=true:=by
       have h1:=D60 (k:=k+1000) (by omega) (List.range k) (fun r hr=>by have:=List.mem_range.1 hr;omega) (c:=intsC) (g:=fun _=>List.replicate n ([]:List Int))
       have h2:=G64 (m:=L+1) (k:=k) (hzf (k+1000))
       simp only [I7,Ob.free,h1,h2,K5 (show 4≠k+1000 by omega),K5 (show 14≠k+1000 by omega),K5 (show 15≠k+1000 by omega)]
       rfl
      refine k5 (k1 (k2 (k3 ?_)))
      refine A3 (A2 (A4 Z Z) Z (A2 (A4 Z Z) Z (A2 (A4 Z Z) Z (C3 (j5 (k+1000) (List Int) intsC [] Z Z (by omega) (by omega) (fun _=>by first | exact ⟨⟨rfl,rfl⟩,trivial⟩ | exact ⟨O1 _ _ _,trivial⟩) (by simp only [G3,SV.free,S1.free,TC.free,hfree,K5 (show 4≠k+1000 by omega),K5 (show 14≠k+1000 by omega),K5 (show 15≠k+1000 by omega)];rfl)) Z ?_))));refine A2 (J2 Z (by rw [B8 (by omega)];rfl) Z (by omega) (by omega)) Z ?_;refine E9 (B07 TySz.out Z (by rw [B8 (by omega)];rfl) (by (rw [C11];omega)) Z Z) ?_;refine A6 ?_
      refine k4 (k1 ?_)
      refine A3 (A2 (A4 Z Z) Z (A2 (C1 Z Z (by omega)) Z (A2 (A5 Z Z) Z (A6 ?_))))
      refine k1 ?_
      refine ⟨k+1,by omega,by omega,?_⟩
      refine I77 ⟨⟨_,rfl,.same _⟩,⟨_,rfl,.same _⟩,⟨_,rfl,.same _⟩,⟨_,rfl,.same _⟩,⟨_,rfl,.same _⟩,⟨_,rfl,.same _⟩,⟨_,rfl,.same _⟩,⟨_,rfl,.same _⟩,⟨_,rfl,.eq (by simp)⟩,trivial⟩ ?_
      refine I27 (g:=fun _=>List.replicate n ([]:List Int)) (pre:=[(4,.box [.p (.v (.int .i64 0)),.p (.v (.slice none 0 0))]),(14,.arr Int 1 B05 (List.replicate L 0)),(15,.tarr (L+1) 1 (Q8 (L+1) k z))])
       (pre':=[(4,.box [.p (.v (.int .i64 0)),.p (.v (.slice none 0 0))]),(14,.arr Int 1 B05 (List.replicate L 0)),(15,.tarr (L+1) 1 (Q8 (L+1) (k+1) z))]) (top:=[(15,.tarr (L+1) 1 ((Q8 (L+1) k z).set k (.mut (k+1000))))]) rfl rfl ?_ rfl
      intro k' o ho
      rw [H56]
      by_cases h15:15=k'
      ·subst h15;exact ho
      ·by_cases h4:4=k'
       ·subst h4;rw [J47,B8 (by omega),B8 (by omega)];exact ho
       ·by_cases h14:14=k'
        ·subst h14;rw [J47,B8 (by omega),B8 (by omega)];exact ho
        ·rw [B8 h4,B8 h14,B8 h15] at ho;cases ho
     ·have hkL:k=L+1:=by have:=A1 ht;omega
      rw [hkL]
      clear hkL ht hk k
      refine V5 [(4,.s (.one (.ref 4 0))),(6,C2 n),(7,D1 (List Str) 1 strsC fs),(11,D1 Str 1 K1 names),(12,D1 (List Int) 1 intsC ids),(13,C2 L),(14,.s (.one (.mut 14))),(15,.s (.one (.mut 15)))]
       ((4,.box [.p (.v (.int .i64 0)),.p (.v (.slice none 0 0))])::(14,.arr Int 1 B05 (List.replicate L 0))::(15,.tarr (L+1) 1 (Q8 (L+1) (L+1) z))::N0 intsC (fun _=>List.replicate n []) (List.range (L+1))) (I77 ⟨⟨_,rfl,.same _⟩,⟨_,rfl,.same _⟩,⟨_,rfl,.same _⟩,⟨_,rfl,.same _⟩,⟨_,rfl,.same _⟩,⟨_,rfl,.same _⟩,⟨_,rfl,.same _⟩,⟨_,rfl,.same _⟩,trivial⟩ (fun _ _ h=>h)) ?_
      refine k6 (k2 (k2 ?_))
      refine A3 (A2 (A5 Z Z) Z (A6 ?_))
      refine k1 (k3 ?_)
      obtain ⟨s,hs⟩:∃s:Nat→Loom,s=fun p=>A32 ids L n p:=⟨_,rfl⟩
      have hok:∀p,LoomOk (fun v=>0≤v∧v < (names.length:Int)) 200 L n (s p):=fun p=>by rw [hs];exact C84 hidB p
      refine D3 (X:=Nat) (fun p=>([(4,.s (.one (.ref 4 0))),(6,C2 n),(7,D1 (List Str) 1 strsC fs),(11,D1 Str 1 K1 names),(12,D1 (List Int) 1 intsC ids),(13,C2 L),(14,.s (.one (.mut 14))),(15,.s (.one (.mut 15))),(17,C2 p)],
       (4,.box [.p (.v (.int .i64 0)),.p (.v (.slice none 0 0))])::(14,.arr Int 1 B05 (s p).1)::(15,.tarr (L+1) 1 (Q8 (L+1) (L+1) z))::N0 intsC (s p).2 (List.range (L+1)))) (fun p=>p≤n) (fun p=>n - p) 0 (Nat.zero_le _) ?_ ?_
      ·have h0s:s 0=G26 L n:=by rw [hs];rfl
       rw [h0s]
       exact I77 ⟨⟨_,rfl,.same _⟩,⟨_,rfl,.same _⟩,⟨_,rfl,.same _⟩,⟨_,rfl,.same _⟩,⟨_,rfl,.same _⟩,⟨_,rfl,.same _⟩,⟨_,rfl,.same _⟩,⟨_,rfl,.same _⟩,⟨_,rfl,.same _⟩,trivial⟩ (fun _ _ h=>h)
      intro p hp
      dsimp only at hp ⊢
      have hsp:=hok p
      refine k2 (k2 ?_)
      refine A3 (A2 (A4 Z Z) Z (A2 (A4 Z Z) Z (A2 (D6 Z Z) Z (A6 ?_))))
      refine k1 ?_
      refine B1 rfl (fun ht=>?_) (fun ht=>?_)
      ·have hlt:p < n:=by have:=A0 ht;omega
       have hv1:ids[p+1]?=some (ids.getD (p+1) []):=by rw [J06,J03 (by omega)];rfl
       have hstep:s (p+1)=p9 ids (s p) p:=by rw [hs];exact D15 ids L n p
       have hfB:=hidB _ (J22 hv1)
       obtain ⟨file,hfile⟩:∃f,f=ids.getD (p+1) []:=⟨_,rfl⟩
       obtain ⟨base,hbase⟩:∃f,f=ids.getD 0 []:=⟨_,rfl⟩
       rw [←hbase] at hid0 hv0
       rw [←hfile] at hv1 hfB
       have hwb:=C33 file base
       have hmw:=C32 file base
       have hwg:=C23 file base 0 0
       have hwl:=s8 0 0 file base
       have hml:=B72 (I1 0 0 file base) 0 0 file.length base.length
       obtain ⟨sc,hsc⟩:∃sc,sc=l5 file base:=⟨_,rfl⟩
       have hscl:sc.length≤201:=by rw [hsc];have h2:(l5 file base).length=(W9 0 0 (I1 0 0 file base) file.length base.length).length:=rfl;omega
       rw [←hsc] at hwb hmw
       refine k5 (k1 (k2 (k3 (k2 ?_))))
       refine C4 (by kernel_rfl) (by kernel_rfl) (A8 (A4 Z Z) Z Z (A8 (A4 Z Z) Z Z (A8 (C1 Z Z (by omega)) Z Z (A8 (B3 Z (.pure _ _ _ _) Z (by omega) (by rw [show ((p:Int)+1).toNat=p+1 by omega];exact hv1)) Z Z ?_))));refine A8 (B6 Z Z) Z Z (A8 (A4 Z Z) Z Z (A8 (B3 Z (.pure _ _ _ _) Z (by omega) hv0) Z Z (A8 (B6 Z Z) Z Z (A8 (G9 (H32 file base (by omega) (by omega)) Z Z) Z Z (A8 (A5 Z Z) Z Z (H9 ?_))))))
       rw [←hsc]
       obtain ⟨m0,hm0⟩:∃m0,m0=(s p).1:=⟨_,rfl⟩
       have hm0l:m0.length=L:=by rw [hm0];exact hsp.len
       have hbit:=B86 p
       refine k1 (k2 (k2 ?_))
       refine A3 (A2 (A5 Z Z) Z (A6 ?_))
       refine k1 (k3 ?_)
       refine D3 (X:=Nat) (fun k=>([(4,.s (.one (.ref 4 0))),(6,C2 n),(7,D1 (List Str) 1 strsC fs),(11,D1 Str 1 K1 names),(12,D1 (List Int) 1 intsC ids),(13,C2 L),(14,.s (.one (.mut 14))),(15,.s (.one (.mut 15))),(17,C2 p),(18,D1 Change 4 changeC sc),(19,C2 k)],(4,.box [.p (.v (.int .i64 0)),.p (.v (.slice none 0 0))])::(14,.arr Int 1 B05 (A92 (S2 · (Q9 p)) m0 k))::(15,.tarr (L+1) 1 (Q8 (L+1) (L+1) z))::N0 intsC (s p).2 (List.range (L+1)))) (fun k=>k≤L) (fun k=>L - k) 0 (Nat.zero_le _) ?_ ?_
       ·rw [G81,hm0]
        exact I77 ⟨⟨_,rfl,.same _⟩,⟨_,rfl,.same _⟩,⟨_,rfl,.same _⟩,⟨_,rfl,.same _⟩,⟨_,rfl,.same _⟩,⟨_,rfl,.same _⟩,⟨_,rfl,.same _⟩,⟨_,rfl,.same _⟩,⟨_,rfl,.same _⟩,⟨_,rfl,.same _⟩,⟨_,rfl,.same _⟩,trivial⟩ (fun _ _ h=>h)
       intro k hk
       dsimp only at hk ⊢
       refine k2 (k2 ?_)
       refine A3 (A2 (A4 Z Z) Z (A2 (A4 Z Z) Z (A2 (D6 Z Z) Z (A6 ?_))))
       refine k1 ?_
       refine B1 rfl (fun ht=>?_) (fun ht=>?_)
       ·have hkl:k < m0.length:=by have:=A0 ht;omega
        have hget:=H78 (S2 · (Q9 p)) m0 k hkl
        have hset:=H79 (S2 · (Q9 p)) m0 k hkl
        have hml':=F50 (S2 · (Q9 p)) m0 k
        refine k5 (k1 (k2 (k3 ?_)))
        refine A3 (A2 (A4 Z Z) Z (A2 (A4 Z Z) Z (A2 (A4 Z Z) Z (A2 (A4 Z Z) Z (A2 (E5 Z Z Z (by omega) (by (rw [hml'];omega))) Z ?_)))));refine A2 (R5 Z Z hget Z) Z (A2 (A4 Z Z) Z (A2 (J4 Z) Z (A2 (E63 Z Z (by (exact hbit))) Z ?_)));refine A2 (T7 Z Z Z (fun _=>rfl)) Z (A2 (E5 Z Z Z (by omega) (by (rw [hml'];omega))) Z ?_);refine E9 (H3 TySz.out Z Z (by (rw [hml'];exact hkl)) Z Z) ?_;refine A6 ?_
        refine k4 (k1 ?_)
        refine A3 (A2 (A4 Z Z) Z (A2 (C1 Z Z (by omega)) Z (A2 (A5 Z Z) Z (A6 ?_))))
        refine k1 ?_
        refine ⟨k+1,by omega,by omega,?_⟩
        rw [←hset]
        exact I77 ⟨⟨_,rfl,.same _⟩,⟨_,rfl,.same _⟩,⟨_,rfl,.same _⟩,⟨_,rfl,.same _⟩,⟨_,rfl,.same _⟩,⟨_,rfl,.same _⟩,⟨_,rfl,.same _⟩,⟨_,rfl,.same _⟩,⟨_,rfl,.same _⟩,⟨_,rfl,.same _⟩,⟨_,rfl,.eq (by simp)⟩,trivial⟩ (E68 rfl trivial trivial)
       ·have hkL:k=m0.length:=by have:=A1 ht;omega
        rw [hkL,G82]
        clear hkL ht hk k
        obtain ⟨m1,hm1⟩:∃m1,m1=m0.map (S2 · (Q9 p)):=⟨_,rfl⟩
        have hm1l:m1.length=L:=by rw [hm1,J35,hm0l]
        rw [←hm1]
        refine k6 (k2 ?_)
        refine A3 (A2 (A4 Z Z) Z (A2 (A4 Z Z) Z (A2 (A4 Z Z) Z (A2 (C1 Z Z (by omega)) Z (A2 (B3 Z (.pure _ _ _ _) Z (by omega) (by rw [show ((p:Int)+1).toNat=p+1 by omega];exact hv1)) Z ?_)))));refine A2 (B6 Z Z) Z (A2 (F1 Z (.pure _ _ _ _)) Z (B9 (D79 sc file.length (by omega) (by omega) (fun c hc=>by have:=hwb c hc;omega)) Z Z Z ?_));rintro _ rfl;refine A2 (A5 Z Z) Z (A6 ?_)
        rw [hmw]
        obtain ⟨ps,hps⟩:∃ps,ps=I1 0 0 file base:=⟨_,rfl⟩
        rw [←hps] at hwg hwl hmw ⊢
        refine k1 (k2 (k2 ?_))
        refine A3 (A2 (A5 Z Z) Z (A6 ?_))
        refine k1 (k3 ?_)
        have hcl:∀k,((ps.take k).foldl (M6 p) m1).length=L:=fun k=>by
         have key:∀(l:List Span) (ms:List Int),(l.foldl (M6 p) ms).length=ms.length:=by
          intro l;induction l with
          | nil=>intro ms;rfl
          | cons x r ih=>intro ms;rw [J39,ih];simp [M6]
         rw [key,hm1l]
        refine D3 (X:=Nat) (fun k=>([(4,.s (.one (.ref 4 0))),(6,C2 n),(7,D1 (List Str) 1 strsC fs),(11,D1 Str 1 K1 names),(12,D1 (List Int) 1 intsC ids),(13,C2 L),(14,.s (.one (.mut 14))),(15,.s (.one (.mut 15))),(17,C2 p),(18,D1 Change 4 changeC sc),(20,D1 Span 2 spanC ps),(21,C2 k)],(4,.box [.p (.v (.int .i64 0)),.p (.v (.slice none 0 0))])::(14,.arr Int 1 B05 ((ps.take k).foldl (M6 p) m1))::(15,.tarr (L+1) 1 (Q8 (L+1) (L+1) z))::N0 intsC (s p).2 (List.range (L+1)))) (fun k=>k≤ps.length) (fun k=>ps.length - k) 0 (Nat.zero_le _) ?_ ?_
        ·exact I77 ⟨⟨_,rfl,.same _⟩,⟨_,rfl,.same _⟩,⟨_,rfl,.same _⟩,⟨_,rfl,.same _⟩,⟨_,rfl,.same _⟩,⟨_,rfl,.same _⟩,⟨_,rfl,.same _⟩,⟨_,rfl,.same _⟩,⟨_,rfl,.same _⟩,⟨_,rfl,.same _⟩,⟨_,rfl,.same _⟩,⟨_,rfl,.same _⟩,trivial⟩ (fun _ _ h=>h)
        intro k hk
        dsimp only at hk ⊢
        refine k2 (k2 ?_)
        refine A3 (A2 (A4 Z Z) Z (A2 (A4 Z Z) Z (A2 (F1 Z (.pure _ _ _ _)) Z (A2 (D6 Z Z) Z (A6 ?_)))))
        refine k1 ?_
        refine B1 rfl (fun ht=>?_) (fun ht=>?_)
        ·have hkl:k < ps.length:=by have:=A0 ht;omega
         have hpv:ps[k]?=some ps[k]:=by simp [hkl]
         have hpb:=hwg ps[k] (J19 hkl)
         have hclk:=hcl k
         have hlt2:ps[k].To.toNat < ((ps.take k).foldl (M6 p) m1).length:=by omega
         have hget:((ps.take k).foldl (M6 p) m1)[ps[k].To.toNat]?=some (((ps.take k).foldl (M6 p) m1).getD ps[k].To.toNat 0):=by rw [J06,J03 hlt2];rfl
         have hset:(ps.take (k+1)).foldl (M6 p) m1=((ps.take k).foldl (M6 p) m1).set ps[k].To.toNat (clrBit (((ps.take k).foldl (M6 p) m1).getD ps[k].To.toNat 0) (Q9 p)):=by
          rw [J10 hkl,J42];rfl
         refine k5 (k1 (k2 (k3 ?_)))
         refine C4 (by kernel_rfl) (by kernel_rfl) (A8 (A4 Z Z) Z Z (A8 (A4 Z Z) Z Z (A8 (A4 Z Z) Z Z (A8 (B3 Z (.pure _ _ _ _) Z (by omega) hpv) Z Z (A8 (D7 Z) Z Z (A8 (B6 Z Z) Z Z (A8 (A4 Z Z) Z Z (A8 (A4 Z Z) Z Z (A8 (A4 Z Z) Z Z (A8 (B3 Z (.pure _ _ _ _) Z (by omega) hpv) Z Z (A8 (D7 Z) Z Z (A8 (B6 Z Z) Z Z (A8 (E5 Z Z Z (by omega) (by omega)) Z Z (A8 (R5 Z Z hget Z) Z Z (A8 (A4 Z Z) Z Z (A8 (J4 Z) Z Z (A8 (E63 Z Z (by (exact hbit))) Z Z ?_)))))))))))))))));refine A8 (T7 Z Z Z (fun _=>rfl)) Z Z (A8 (E5 Z Z Z (by omega) (by omega)) Z Z (C10 (H3 TySz.out Z Z (by (exact hlt2)) Z Z) Z ?_));refine H9 ?_
         refine k4 (k1 ?_)
         refine A3 (A2 (A4 Z Z) Z (A2 (C1 Z Z (by omega)) Z (A2 (A5 Z Z) Z (A6 ?_))))
         refine k1 ?_
         refine ⟨k+1,by omega,by omega,?_⟩
         rw [hset]
         exact I77 ⟨⟨_,rfl,.same _⟩,⟨_,rfl,.same _⟩,⟨_,rfl,.same _⟩,⟨_,rfl,.same _⟩,⟨_,rfl,.same _⟩,⟨_,rfl,.same _⟩,⟨_,rfl,.same _⟩,⟨_,rfl,.same _⟩,⟨_,rfl,.same _⟩,⟨_,rfl,.same _⟩,⟨_,rfl,.same _⟩,⟨_,rfl,.eq (by simp)⟩,trivial⟩ (E68 rfl trivial trivial)
        ·have hkL:k=ps.length:=by have:=A1 ht;omega
         rw [hkL,J23]
         clear hkL ht hk k
         have hcl':=hcl ps.length
         rw [J23] at hcl'
         clear hcl
         obtain ⟨m2,hm2⟩:∃m2,m2=ps.foldl (M6 p) m1:=⟨_,rfl⟩
         rw [←hm2] at hcl' ⊢
         have hgl:∀k q,((sc.take k).foldl (R0 p file) (s p).2 q).length=n:=fun k q=>(A71 hfB (sc.take k) hsp.gaps q).1
         refine k6 (k2 ?_)
         refine A3 (A2 (A5 Z Z) Z (A6 ?_))
         refine k1 (k3 ?_)
         refine D3 (X:=Nat) (fun k=>([(4,.s (.one (.ref 4 0))),(6,C2 n),(7,D1 (List Str) 1 strsC fs),(11,D1 Str 1 K1 names),(12,D1 (List Int) 1 intsC ids),(13,C2 L),(14,.s (.one (.mut 14))),(15,.s (.one (.mut 15))),(17,C2 p),(18,D1 Change 4 changeC sc),(22,C2 k)],(4,.box [.p (.v (.int .i64 0)),.p (.v (.slice none 0 0))])::(14,.arr Int 1 B05 m2)::(15,.tarr (L+1) 1 (Q8 (L+1) (L+1) z))::N0 intsC ((sc.take k).foldl (R0 p file) (s p).2) (List.range (L+1)))) (fun k=>k≤sc.length) (fun k=>sc.length - k) 0 (Nat.zero_le _) ?_ ?_
         ·exact I77 ⟨⟨_,rfl,.same _⟩,⟨_,rfl,.same _⟩,⟨_,rfl,.same _⟩,⟨_,rfl,.same _⟩,⟨_,rfl,.same _⟩,⟨_,rfl,.same _⟩,⟨_,rfl,.same _⟩,⟨_,rfl,.same _⟩,⟨_,rfl,.same _⟩,⟨_,rfl,.same _⟩,⟨_,rfl,.same _⟩,trivial⟩ (fun _ _ h=>h)
         intro k hk
         dsimp only at hk ⊢
         refine k2 (k2 ?_)
         refine A3 (A2 (A4 Z Z) Z (A2 (A4 Z Z) Z (A2 (F1 Z (.pure _ _ _ _)) Z (A2 (D6 Z Z) Z (A6 ?_)))))
         refine k1 ?_
         refine B1 rfl (fun ht=>?_) (fun ht=>?_)
         ·have hkl:k < sc.length:=by have:=A0 ht;omega
          have hcv:sc[k]?=some sc[k]:=by simp [hkl]
          have hcb:=hwb sc[k] (J19 hkl)
          have hgk:=hgl k sc[k].New.toNat
          have hN:sc[k].New.toNat < L+1:=by omega
          have hrow:(Q8 (L+1) (L+1) z)[sc[k].New.toNat]?=some (.mut (sc[k].New.toNat+1000)):=H77 hN
          have hrl:(Q8 (L+1) (L+1) z).length=L+1:=C11
          have hob:C7 ((4,.box [.p (.v (.int .i64 0)),.p (.v (.slice none 0 0))])::(14,.arr Int 1 B05 m2)::(15,.tarr (L+1) 1 (Q8 (L+1) (L+1) z))::N0 intsC ((sc.take k).foldl (R0 p file) (s p).2) (List.range (L+1))) (sc[k].New.toNat+1000)=some (.arr (List Int) 1 intsC ((sc.take k).foldl (R0 p file) (s p).2 sc[k].New.toNat)):=by
           rw [B8 (by omega),B8 (by omega),B8 (by omega)]
           exact B43 (List.mem_range.2 hN)
          have hnew:((sc.take k).foldl (R0 p file) (s p).2 sc[k].New.toNat).set p ((file.drop sc[k].Old.toNat).take ((sc[k].Old+sc[k].OldLen).toNat - sc[k].Old.toNat))=(sc.take (k+1)).foldl (R0 p file) (s p).2 sc[k].New.toNat:=by
           rw [J10 hkl,J42]
           show _=R0 p file _ sc[k] _
           rw [R0,if_pos rfl]
          have hsame:∀q,q≠sc[k].New.toNat→(sc.take (k+1)).foldl (R0 p file) (s p).2 q=(sc.take k).foldl (R0 p file) (s p).2 q:=by
           intro q hq
           rw [J10 hkl,J42]
           show R0 p file _ sc[k] _=_
           rw [R0,if_neg hq]
          refine k5 (k1 (k2 (k3 ?_)))
          refine C4 (by kernel_rfl) (by kernel_rfl) (A8 (A4 Z Z) Z Z (A8 (A4 Z Z) Z Z (A8 (A4 Z Z) Z Z (A8 (B3 Z (.pure _ _ _ _) Z (by omega) hcv) Z Z (A8 (D7 Z) Z Z (A8 (B6 Z Z) Z Z (A8 (J2 Z Z Z (by omega) (by omega)) Z Z (A8 (P6 Z Z hrow) Z Z (A8 (A4 Z Z) Z Z (A8 (A4 Z Z) Z Z (A8 (A4 Z Z) Z Z (A8 (C1 Z Z (by omega)) Z Z (A8 (B3 Z (.pure _ _ _ _) Z (by omega) (by rw [show ((p:Int)+1).toNat=p+1 by omega];exact hv1)) Z Z ?_)))))))))))));refine A8 (B6 Z Z) Z Z (A8 (A4 Z Z) Z Z (A8 (A4 Z Z) Z Z (A8 (B3 Z (.pure _ _ _ _) Z (by omega) hcv) Z Z (A8 (D7 Z) Z Z (A8 (B6 Z Z) Z Z (A8 (A4 Z Z) Z Z (A8 (A4 Z Z) Z Z (A8 (B3 Z (.pure _ _ _ _) Z (by omega) hcv) Z Z (A8 (D7 Z) Z Z (A8 (B6 Z Z) Z Z (A8 (A4 Z Z) Z Z (A8 (A4 Z Z) Z Z (A8 (B3 Z (.pure _ _ _ _) Z (by omega) hcv) Z Z (A8 (D7 Z) Z Z (A8 (B6 Z Z) Z Z (A8 (C1 Z Z (by omega)) Z Z (A8 (B79 Z (.pure _ _ _ _) Z Z (by omega) (by omega) (by omega)) Z Z (A8 (E5 Z hob Z (by omega) (by omega)) Z Z (C10 (H3 TySz.out Z hob (by omega) Z Z) Z (H9 ?_))))))))))))))))))))
          refine k4 (k1 ?_)
          refine A3 (A2 (A4 Z Z) Z (A2 (C1 Z Z (by omega)) Z (A2 (A5 Z Z) Z (A6 ?_))))
          refine k1 ?_
          refine ⟨k+1,by omega,by omega,?_⟩
          refine I77 ⟨⟨_,rfl,.same _⟩,⟨_,rfl,.same _⟩,⟨_,rfl,.same _⟩,⟨_,rfl,.same _⟩,⟨_,rfl,.same _⟩,⟨_,rfl,.same _⟩,⟨_,rfl,.same _⟩,⟨_,rfl,.same _⟩,⟨_,rfl,.same _⟩,⟨_,rfl,.same _⟩,⟨_,rfl,.eq (by simp)⟩,trivial⟩ ?_
          show ∀k' o,_→C7 ((sc[k].New.toNat+1000,.arr (List Int) 1 intsC (((sc.take k).foldl (R0 p file) (s p).2 sc[k].New.toNat).set p ((file.drop sc[k].Old.toNat).take ((sc[k].Old+sc[k].OldLen).toNat - sc[k].Old.toNat))))::((4,.box [.p (.v (.int .i64 0)),.p (.v (.slice none 0 0))])::(14,.arr Int 1 B05 m2)::(15,.tarr (L+1) 1 (Q8 (L+1) (L+1) z))::N0 intsC ((sc.take k).foldl (R0 p file) (s p).2) (List.range (L+1)))) k'=some o
          rw [hnew]
          exact I26 (pre:=[(4,.box [.p (.v (.int .i64 0)),.p (.v (.slice none 0 0))]),(14,.arr Int 1 B05 m2),(15,.tarr (L+1) 1 (Q8 (L+1) (L+1) z))]) rfl (List.mem_range.2 hN) hsame
         ·have hkL:k=sc.length:=by have:=A1 ht;omega
          rw [hkL,J23]
          have hs1:s (p+1)=(m2,sc.foldl (R0 p file) (s p).2):=by
           have e:p9 ids (s p) p=((c8 (l5 (ids.getD (p+1) []) (ids.getD 0 [])) (ids.getD (p+1) []).length).foldl (M6 p) ((s p).1.map (S2 · (Q9 p))),(l5 (ids.getD (p+1) []) (ids.getD 0 [])).foldl (R0 p (ids.getD (p+1) [])) (s p).2):=rfl
           rw [hstep,e,←hfile,←hbase,←hsc,hmw,←hm0,←hm1,←hm2]
          refine k6 (k7 (k7 (k8 Z (k4 (k1 ?_)))))
          refine A3 (A2 (A4 Z Z) Z (A2 (C1 Z Z (by omega)) Z (A2 (A5 Z Z) Z (A6 ?_))))
          refine k1 ?_
          refine ⟨p+1,by omega,by omega,?_⟩
          rw [hs1]
          exact I77 ⟨⟨_,rfl,.same _⟩,⟨_,rfl,.same _⟩,⟨_,rfl,.same _⟩,⟨_,rfl,.same _⟩,⟨_,rfl,.same _⟩,⟨_,rfl,.same _⟩,⟨_,rfl,.same _⟩,⟨_,rfl,.same _⟩,⟨_,rfl,.eq (by simp)⟩,trivial⟩ (fun _ _ h=>h)
      ·have hpn:p=n:=by have:=A1 ht;omega
       rw [hpn] at hsp ⊢
       clear hpn ht hp p
       obtain ⟨ms,hms⟩:∃ms,ms=(s n).1:=⟨_,rfl⟩
       obtain ⟨g,hg⟩:∃g,g=(s n).2:=⟨_,rfl⟩
       refine V5 [(4,.s (.one (.ref 4 0))),(6,C2 n),(7,D1 (List Str) 1 strsC fs),(11,D1 Str 1 K1 names),(13,C2 L),(14,.s (.one (.mut 14))),(15,.s (.one (.mut 15)))] ([(4,.box [.p (.v (.int .i64 0)),.p (.v (.slice none 0 0))]),(14,.arr Int 1 B05 ms)]++((15,.tarr (L+1) 1 (U0 intsC (L+1) 0 g))::N0 intsC g (List.range (L+1)))) ?_ ?_
       ·rw [hms,hg,←G63 (z:=z)]
        exact I77 ⟨⟨_,rfl,.same _⟩,⟨_,rfl,.same _⟩,⟨_,rfl,.same _⟩,⟨_,rfl,.same _⟩,⟨_,rfl,.same _⟩,⟨_,rfl,.same _⟩,⟨_,rfl,.same _⟩,trivial⟩ (fun _ _ h=>h)
       refine F5 (I92 (by omega) rfl rfl (fun r _=>?_) (fun r _=>rfl)) ?_
       ·simp only [G3,SV.free,S1.free,TC.free,K5 (show 4≠r+1000 by omega),K5 (show 14≠r+1000 by omega),K5 (show 15≠r+1000 by omega)];rfl
       obtain ⟨gs,hgs⟩:∃gs,gs=(List.range (L+1)).map g:=⟨_,rfl⟩
       rw [←hgs]
       refine F5 (Sees.freeze (k:=14) Z) ?_
       refine F5 (Sees.freeze (k:=15) Z) ?_
       refine V5 [(4,.s (.one (.ref 4 0))),(6,C2 n),(7,D1 (List Str) 1 strsC fs),(11,D1 Str 1 K1 names),(13,C2 L),(14,D1 Int 1 B05 ms),(15,D1 (List (List Int)) 1 intssC gs)] [(4,.box [.p (.v (.int .i64 0)),.p (.v (.slice none 0 0))])] (I72 ⟨le1 rfl,le1 rfl,le1 rfl,le1 rfl,le1 rfl,le1 rfl,le1 rfl,trivial⟩ ⟨rfl,trivial⟩) ?_
       obtain ⟨f0,hf0'⟩:∃f0,f0=C8 result:=⟨_,rfl⟩
       rw [←hf0'] at hL hf0 hmk
       obtain ⟨R,hR⟩:∃R:Nat→List Row,R=fun k=>x2 names f0 (s n) k:=⟨_,rfl⟩
       obtain ⟨F,hF⟩:∃F:Merged→Row,F=fun m=>⟨true,m.Parents,names.getD m.Line.toNat []⟩:=⟨_,rfl⟩
       have hcs:∀k,(I2 (g k)).1.length≤6400∧∀m∈(I2 (g k)).1,(0≤m.Parents∧m.Parents < 4294967296)∧0≤m.Line∧m.Line < (names.length:Int):=fun k=>by
        have h2:=hsp.gaps k
        have h3:=B74 (fun v=>0≤v∧v < (names.length:Int)) 200 (g k) (by rw [hg];exact h2.2)
        rw [show (g k).length=n by rw [hg];exact h2.1] at h3
        exact ⟨by omega,h3.2⟩
       have hR1:∀k,R (k+1)=R k++((I2 (g k)).1.map F++(if k < f0.length then [⟨false,ms.getD k 0,f0.getD k []⟩] else [])):=fun k=>by
        rw [hR];dsimp only;rw [D14,r8,hF,hg,hms]
       have hRl:∀k,(R k).length≤k*6401:=fun k=>by
        induction k with
        | zero=>rw [hR];simp [x2]
        | succ k ih=>rw [hR1];have:=(hcs k).1;simp only [J01,J35];split<;>simp<;>omega
       have hmsl:ms.length=L:=by rw [hms];exact hsp.len
       refine k6 (k2 ?_)
       refine A3 (A2 (A4 Z Z) Z (A2 (F8 Z) Z (C3 (H1 23 Z) Z (E9 (C0 TySz.out Z Z Z Z Z Z) (A6 ?_)))))
       refine k1 (k2 (k2 ?_))
       refine A3 (A2 (A5 Z Z) Z (A6 ?_))
       refine k1 (k3 ?_)
       refine F5 (I83 88 Row 3 rowC 69 (kb:=23) (o:=1) Z Z Z) ?_
       refine D3 (X:=Nat) (fun k=>([(4,.s (.one (.ref 4 0))),(6,C2 n),(7,D1 (List Str) 1 strsC fs),(11,D1 Str 1 K1 names),(13,C2 L),(14,D1 Int 1 B05 ms),(15,D1 (List (List Int)) 1 intssC gs),(23,.s (.one (.ref 23 0))),(24,C2 k)],[(4,.box [.p (.v (.int .i64 0)),.p (.v (.slice none 0 0))]),(23,.box [.p (.v (.int .i64 n)),.buf 88 Row 3 rowC (R k)]),(88,.spare (R k).length 3 69)])) (fun k=>k≤L+1∧∀q,q < k→(I2 (g q)).2=0) (fun k=>L+1 - k) 0 ⟨Nat.zero_le _,fun q hq=>by omega⟩ (by rw [show R 0=[] by rw [hR];rfl];exact I72 ⟨le1 rfl,le1 rfl,le1 rfl,le1 rfl,le1 rfl,le1 rfl,le1 rfl,le1 rfl,le1 rfl,trivial⟩ ⟨rfl,rfl,rfl,trivial⟩) ?_
       rintro k ⟨hk,hz0⟩
       dsimp only at hk hz0 ⊢
       have hRk:=hRl k
       refine k2 (k2 ?_)
       refine A3 (A2 (A4 Z Z) Z (A2 (A4 Z Z) Z (A2 (x7 Z Z) Z (A6 ?_))))
       refine k1 ?_
       refine B1 rfl (fun ht=>?_) (fun ht=>?_)
       ·have hlt:k < L+1:=by have:=A0 ht;omega
        have hgv:gs[k]?=some (g k):=by rw [hgs,J34,J38 hlt];rfl
        have hck:=hcs k
        refine k5 (k1 (k2 (k3 (k2 ?_))))
        refine A3 (A2 (A4 Z Z) Z (A2 (A4 Z Z) Z (A2 (B3 Z (.pure _ _ _ _) Z (by omega) hgv) Z (A2 (B6 Z Z) Z (B9 (F96 (g k)) Z Z Z ?_)))));rintro _ rfl;refine A2 (A4 Z Z) Z (A2 (B2 Z Z) Z (A2 (B2 Z Z) Z (A2 (A5 Z Z) Z (A2 (A5 Z Z) Z (A6 ?_)))))
        obtain ⟨l,hl⟩:∃l,l=(I2 (g k)).1:=⟨_,rfl⟩
        obtain ⟨e,he⟩:∃e,e=(I2 (g k)).2:=⟨_,rfl⟩
        rw [←hl,←he]
        rw [←hl] at hck
        refine k1 (k2 (k2 ?_))
        refine A3 (A2 (A4 Z Z) Z (A2 (M5 Z Z) Z (A6 ?_)))
        refine k1 ?_
        refine B1 rfl (fun ht=>?_) (fun ht=>?_)
        ·have hne:=A0 ht
         refine k2 ?_
         refine A3 (A2 (F8 Z) Z (E9 (C0 TySz.out Z Z Z Z Z Z) (A2 (A5 Z Z) Z (A6 ?_))))
         refine k1 ?_
         refine F5 (I73 Row 3 rowC 4 1 Z Z) ?_
         refine k10 (k11 (k12 (k11 (k11 (k12 (k11 ?_))))))
         exact B5 (rs:=[pTable ⟨0,[]⟩,E6 1]) (R6 rfl rfl rfl rfl rfl rfl rfl) (by rw [hmk,if_pos];refine ⟨k,by omega,?_⟩;rw [←hnames,←hids,←hL];rw [hg,hs] at he;dsimp only at he;rw [←he];exact hne)
        ·have he0:e=0:=by simpa using A1 ht
         refine k5 (k1 (k2 (k2 ?_)))
         refine A3 (A2 (A5 Z Z) Z (A6 ?_))
         refine k1 (k3 ?_)
         refine D3 (X:=Nat) (fun i=>([(4,.s (.one (.ref 4 0))),(6,C2 n),(7,D1 (List Str) 1 strsC fs),(11,D1 Str 1 K1 names),(13,C2 L),(14,D1 Int 1 B05 ms),(15,D1 (List (List Int)) 1 intssC gs),(23,.s (.one (.ref 23 0))),(24,C2 k),(25,D1 Merged 2 mergedC l),(27,C2 i)],[(4,.box [.p (.v (.int .i64 0)),.p (.v (.slice none 0 0))]),(23,.box [.p (.v (.int .i64 n)),.buf 88 Row 3 rowC (R k++(l.take i).map F)]),(88,.spare (R k++(l.take i).map F).length 3 69)])) (fun i=>i≤l.length) (fun i=>l.length - i) 0 (Nat.zero_le _) (by have e0:R k++(l.take 0).map F=R k:=(by simp);dsimp only;rw [e0];exact I72 ⟨le1 rfl,le1 rfl,le1 rfl,le1 rfl,le1 rfl,le1 rfl,le1 rfl,le1 rfl,le1 rfl,le1 rfl,le1 rfl,trivial⟩ ⟨rfl,rfl,rfl,trivial⟩) ?_
         intro i hi
         dsimp only at hi ⊢
         have hil:(R k++(l.take i).map F).length≤k*6401+6400:=by simp only [J01,J35,J15];omega
         refine k2 (k2 ?_)
         refine A3 (A2 (A4 Z Z) Z (A2 (A4 Z Z) Z (A2 (F1 Z (.pure _ _ _ _)) Z (A2 (D6 Z Z) Z (A6 ?_)))))
         refine k1 ?_
         refine B1 rfl (fun ht=>?_) (fun ht=>?_)
         ·have hli:i < l.length:=by have:=A0 ht;omega
          have hlv:l[i]?=some l[i]:=by simp [hli]
          have hlb:=hck.2 l[i] (J19 hli)
          have hnv:names[l[i].Line.toNat]?=some (names.getD l[i].Line.toNat []):=by rw [J06,J03 (by omega)];rfl
          have hFi:F l[i]=⟨true,l[i].Parents,names.getD l[i].Line.toNat []⟩:=by rw [hF]
          refine k5 (k1 (k2 (k3 ?_)))
          refine C4 (by kernel_rfl) (by kernel_rfl) (A8 (A7 Z) Z Z (A8 (B0 Z Z Z) Z Z (A8 (A4 Z Z) Z Z (A8 (A4 Z Z) Z Z (A8 (B3 Z (.pure _ _ _ _) Z (by omega) hlv) Z Z (A8 (D7 Z) Z Z (A8 (B6 Z Z) Z Z (A8 (A4 Z Z) Z Z (A8 (A4 Z Z) Z Z (A8 (A4 Z Z) Z Z (A8 (B3 Z (.pure _ _ _ _) Z (by omega) hlv) Z Z (A8 (D7 Z) Z Z (A8 (B6 Z Z) Z Z (A8 (B3 Z (.pure _ _ _ _) Z (by omega) hnv) Z Z (A8 (B6 Z Z) Z Z (A8 (F8 Z) Z Z (A8 (C9 (c:=rowC) (ys:=[⟨true,l[i].Parents,names.getD l[i].Line.toNat []⟩]) (E1 Z Z Z Z F4) Z Z Z) Z Z (D59 (G7 Z Z Z (.pure _ _ _ _) (by (simp only [J02,J05];omega)) Z) Z Z (A8 (A7 Z) Z Z (C10 (C0 TySz.out Z Z Z Z Z Z) Z (H9 ?_)))))))))))))))))))))
          refine k4 (k1 ?_)
          refine A3 (A2 (A4 Z Z) Z (A2 (C1 Z Z (by omega)) Z (A2 (A5 Z Z) Z (A6 ?_))))
          refine k1 ?_
          refine ⟨i+1,by omega,by omega,?_⟩
          have e1:R k++(l.take (i+1)).map F=R k++(l.take i).map F++[⟨true,l[i].Parents,names.getD l[i].Line.toNat []⟩]:=by rw [J10 hli,J17,J08,J37,←J13,hFi]
          rw [e1]
          exact I72 ⟨le1 rfl,le1 rfl,le1 rfl,le1 rfl,le1 rfl,le1 rfl,le1 rfl,le1 rfl,le1 rfl,le1 rfl,le1 rfl,trivial⟩ ⟨rfl,rfl,rfl,trivial⟩
         ·have hli:i=l.length:=by have:=A1 ht;omega
          rw [hli,J23] at hil ⊢
          refine k6 (k2 ?_)
          refine A3 (A2 (A4 Z Z) Z (A2 (A4 Z Z) Z (A2 (D6 Z Z) Z (A6 ?_))))
          refine k1 ?_
          refine B1 rfl (fun ht=>?_) (fun ht=>?_)
          ·have hkL:k < f0.length:=by have:=A0 ht;omega
           have hmv:ms[k]?=some (ms.getD k 0):=by rw [J06,J03 (by omega)];rfl
           have hfv:f0[k]?=some (f0.getD k []):=by rw [J06,J03 (by omega)];rfl
           have hR2:=hR1 k
           rw [if_pos hkL,←hl,←J13] at hR2
           skip
           refine C4 (by kernel_rfl) (by kernel_rfl) (A8 (A7 Z) Z Z (A8 (B0 Z Z Z) Z Z (A8 (A4 Z Z) Z Z (A8 (A4 Z Z) Z Z (A8 (B3 Z (.pure _ _ _ _) Z (by omega) hmv) Z Z (A8 (B6 Z Z) Z Z (A8 (A4 Z Z) Z Z (A8 (B3 Z (.pure _ _ _ _) Z (by omega) hf0) Z Z (A8 (B6 Z Z) Z Z (A8 (A4 Z Z) Z Z (A8 (B3 Z (.pure _ _ _ _) Z (by omega) hfv) Z Z (A8 (B6 Z Z) Z Z (A8 (F8 Z) Z Z (A8 (C9 (c:=rowC) (ys:=[⟨false,ms.getD k 0,f0.getD k []⟩]) (E1 Z Z Z Z F4) Z Z Z) Z Z (D59 (G7 Z Z Z (.pure _ _ _ _) (by (simp only [J02,J05];omega)) Z) Z Z (A8 (A7 Z) Z Z (C10 (C0 TySz.out Z Z Z Z Z Z) Z (H9 ?_))))))))))))))))))
           refine k4 (k1 ?_)
           refine A3 (A2 (A4 Z Z) Z (A2 (C1 Z Z (by omega)) Z (A2 (A5 Z Z) Z (A6 ?_))))
           refine k1 ?_
           refine ⟨k+1,⟨by omega,fun q hq=>?_⟩,by omega,?_⟩
           ·by_cases h2:q=k
            ·rw [h2,←he,he0]
            ·exact hz0 q (by omega)
           rw [hR2]
           exact I72 ⟨le1 rfl,le1 rfl,le1 rfl,le1 rfl,le1 rfl,le1 rfl,le1 rfl,le1 rfl,le1 rfl,trivial⟩ ⟨rfl,rfl,rfl,trivial⟩
          ·have hkL:¬k < f0.length:=by have:=A1 ht;omega
           have hR2:=hR1 k
           rw [if_neg hkL,←hl,J25] at hR2
           refine k5 (k4 (k1 ?_))
           refine A3 (A2 (A4 Z Z) Z (A2 (C1 Z Z (by omega)) Z (A2 (A5 Z Z) Z (A6 ?_))))
           refine k1 ?_
           refine ⟨k+1,⟨by omega,fun q hq=>?_⟩,by omega,?_⟩
           ·by_cases h2:q=k
            ·rw [h2,←he,he0]
            ·exact hz0 q (by omega)
           rw [hR2]
           exact I72 ⟨le1 rfl,le1 rfl,le1 rfl,le1 rfl,le1 rfl,le1 rfl,le1 rfl,le1 rfl,le1 rfl,trivial⟩ ⟨rfl,rfl,rfl,trivial⟩
       ·have hkL:k=L+1:=by have:=A1 ht;omega
        refine k6 (k2 ?_)
        refine A3 (A2 (D4 Z Z Z) Z (E9 (C0 TySz.out Z Z Z Z Z Z) (A2 (A5 Z Z) Z (A6 ?_))))
        refine k1 (k10 ?_)
        refine B5 (rs:=[pTable ⟨n,R k⟩,E6 0]) (R6 Z Z Z Z Z Z Z) ?_
        have hno:¬∃q,q < f0.length+1∧(I2 ((A32 (fs.map (S7 (G2 fs))) f0.length n n).2 q)).2≠0:=by
         rintro ⟨q,hq1,hq2⟩
         refine hq2 ?_
         have:=hz0 q (by omega)
         rw [hg,hs,hids,hnames,hL] at this
         exact this
        rw [hmk,if_neg hno,hkL,hR,hs,hids,hnames,hL]
end Go.Proofs.YtgejaedjnbjpoaaGreatDoor
