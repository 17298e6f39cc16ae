/- Walks of the program's functions. -/
import Derived.Test.YtgejaedjnbjpoaaGreatDoorFe
import Derived.Test.YtgejaedjnbjpoaaGreatDoorFb
import Derived.Test.YtgejaedjnbjpoaaGreatDoorFd
import Derived.Test.YtgejaedjnbjpoaaGreatDoorFs
import Derived.Test.YtgejaedjnbjpoaaGreatDoorFc
import Derived.Test.YtgejaedjnbjpoaaGreatDoorFa
namespace Go.Proofs.YtgejaedjnbjpoaaGreatDoor
open Go Go.AL
set_option maxRecDepth 100000
theorem I45 (s:Str):FnOk Tryz.prog 93 [F5 s] (fun rs=>rs=[D3 (V9 s)]):=by
 refine FnOk.intro Tryz.func93 (by decide) Z Z Z Z ?_
 refine k2 ?_
 refine A3 (A2 (A5 Z Z) Z (A6 ?_))
 refine k1 (k2 ?_)
 refine A3 (A2 (A4 Z Z) Z (A2 (D5 Z) Z (A2 (Z1 Z Z) Z (A2 (A4 Z Z) Z (A9 Z Z Z Z (fun hg=>by rw [hg];exact A4 Z Z) ?_)))));refine A9 Z Z Z Z (fun hg=>by rw [hg];exact D5 Z) ?_;refine A9 Z Z Z Z (fun hg=>by rw [hg];exact m8 Z Z) ?_;refine A2 (B4 Z (fun h=>by first | rfl | (rw [h];rfl)) (fun h=>by first | rfl | (rw [h];rfl))) Z ?_;refine A2 (A5 Z Z) Z (A6 ?_)
 refine k1 (k10 ?_)
 refine B5 (F8 Z Z Z) ?_
 rw [I3]
 unfold V9
 congr 4
 apply decide_eq_decide.2
 omega
theorem F56 (c:Comb) (hp:c.Path.length≤16777216):FnOk Tryz.prog 89 [I5 c] (fun rs=>rs=[F5 (B26 c)]):=by
 have hq:=C44 c.Path
 have hf:=G33 c.Parents
 refine FnOk.intro Tryz.func89 (by decide) Z Z Z Z ?_
 refine k2 ?_
 refine A3 (C2 (P6 1 Z Z Z) Z (A2 (A5 Z Z) Z (A6 ?_)))
 refine k1 (k2 ?_)
 refine A3 (A2 (A5 Z Z) Z (A6 ?_))
 refine k1 (k2 (k2 ?_))
 refine A3 (A2 (A7 Z) Z (A2 (B0 Z Z Z) Z (A6 ?_)))
 refine k1 ?_
 refine B2 rfl (fun ht=>?_) (fun ht=>?_)
 ·have hd:c.Dense=true:=ht
  skip
  refine A3 (A2 (A5 Z Z) Z (A6 ?_))
  refine k1 (k2 ?_)
  refine C4 (by kernel_rfl) (by kernel_rfl) (A8 (A4 Z Z) Z Z (A8 (E7 Z Z (by (simp only [J77,J78,J81];omega))) Z Z (A8 (E7 Z Z (by (simp only [J77,J78,J81];omega))) Z Z (A8 (A7 Z) Z Z (A8 (B0 Z Z Z) Z Z (A8 (G7 (D24 c.Path (by omega)) Z Z) Z Z (A8 (E7 Z Z (by (simp only [J77,J78,J81];omega))) Z Z (A8 (E7 Z Z (by (simp only [J77,J78,J81];omega))) Z Z (A8 (A7 Z) Z Z (A8 (B0 Z Z Z) Z Z (A8 (G7 (x1 c.Parents) Z Z) Z Z (A8 (E7 Z Z (by (simp only [J77,J78,J81];omega))) Z Z (A8 (E7 Z Z (by (simp only [J77,J78,J81];omega))) Z Z (A8 (A5 Z Z) Z Z (H9 ?_)))))))))))))))
  refine k1 (k10 ?_)
  exact B5 (F8 rfl rfl rfl) (by unfold B26 W1;rw [if_pos hd];simp [ccS,parS])
 ·have hd:c.Dense=false:=ht
  refine k5 (k1 (k2 ?_))
  refine C4 (by kernel_rfl) (by kernel_rfl) (A8 (A4 Z Z) Z Z (A8 (E7 Z Z (by (simp only [J77,J78,J81];omega))) Z Z (A8 (E7 Z Z (by (simp only [J77,J78,J81];omega))) Z Z (A8 (A7 Z) Z Z (A8 (B0 Z Z Z) Z Z (A8 (G7 (D24 c.Path (by omega)) Z Z) Z Z (A8 (E7 Z Z (by (simp only [J77,J78,J81];omega))) Z Z (A8 (E7 Z Z (by (simp only [J77,J78,J81];omega))) Z Z (A8 (A7 Z) Z Z (A8 (B0 Z Z Z) Z Z (A8 (G7 (x1 c.Parents) Z Z) Z Z (A8 (E7 Z Z (by (simp only [J77,J78,J81];omega))) Z Z (A8 (E7 Z Z (by (simp only [J77,J78,J81];omega))) Z Z (A8 (A5 Z Z) Z Z (H9 ?_)))))))))))))))
  refine k1 (k10 ?_)
  exact B5 (F8 rfl rfl rfl) (by unfold B26 W1;rw [hd,if_neg (by decide)];simp [combS,parS])
theorem E45 (h:CHunk) (n:Nat) (hn:n≤32) (hr:I9 h.Rows) (hl:h.Rows.length≤268435456) (ha:h.At.length=n+1) (hb:∀a∈h.At,-4611686018427387904≤a∧a≤4611686018427387904) :
  FnOk Tryz.prog 90 [B21 h,E2 n] (fun rs=>rs=[F5 (S0 n h++[10])]):=by
 have hrep:FnOk Tryz.prog 167 [F5 [64],E2 ((n:Int)+1)] (fun rs=>rs=[F5 (atS (n+1))]):=by
  have:=F55 64 (n+1) (by omega)
  rwa [show ((n+1:Nat):Int)=(n:Int)+1 by omega] at this
 obtain ⟨A,hA⟩:∃A,A=atS (n+1):=⟨_,rfl⟩
 have hAl:A.length=n+1:=by rw [hA,j9]
 have hend:S0 n h++[10]=A++R1 n h n++([32,43]++G4 (h.At.getD n 0) (M3 h.Rows n n)++[32]++A++[10]):=by
  unfold S0
  rw [A54,hA]
  unfold A52 L8
  rw [if_pos rfl];simp
 rw [hend]
 rw [←hA] at hrep
 have hsl:=fun k=>A36 n h k
 have hcnt:=fun k=>C43 h.Rows n k
 have hgA:∀k,k < n+1→h.At[k]?=some (h.At.getD k 0):=fun k hk=>D04 (by omega)
 have hgC:∀k,k < n+1→(K6 h.Rows n)[k]?=some (M3 h.Rows n k):=fun k hk=>H88 h.Rows n k hk
 have hrA:∀k,k < n+1 → -4611686018427387904≤h.At.getD k 0∧h.At.getD k 0≤4611686018427387904:=fun k hk=>hb _ (J93 (hgA k hk))
 refine FnOk.intro Tryz.func90 (by decide) Z Z Z Z ?_
 refine k2 ?_
 refine A3 (C2 (P6 2 Z Z Z) Z (A2 (A5 Z Z) Z (A6 ?_)))
 refine k1 (k2 ?_)
 refine A3 (A2 (A7 Z) Z (A2 (B0 Z Z Z) Z (A2 (A4 Z Z) Z (I07 (D60 h.Rows n hn hr hl) Z Z Z Z ?_))));rintro _ _ ⟨rfl,rfl⟩;refine ⟨rfl,?_⟩;refine A2 (A5 Z Z) Z (A6 ?_)
 refine k1 (k2 ?_)
 refine F4 (Sees.freeze (k:=720) Z) ?_
 refine A3 (A2 (A4 Z Z) Z (A2 (C1 Z Z (by omega)) Z (B9 (hrep) Z Z Z ?_)));rintro _ rfl;refine A2 (A5 Z Z) Z (A6 ?_)
 refine k1 (k2 ?_)
 refine A3 (C2 (E14 700 Z) Z (A6 ?_))
 refine k1 (k2 ?_)
 refine F4 (J61 701 UInt8 1 u8C 5 (kb:=700) (o:=1) Z Z Z) ?_
 refine A3 (A2 (A4 Z Z) Z (X3 (Q4 (xs:=[]) (s:=A) ⟨⟨_,.inl rfl,rfl⟩,rfl⟩ (by simp only [J81];omega)) Z Z Z ?_));rintro _ _ ⟨rfl,rfl⟩;refine A6 ?_
 refine k1 (k2 (k2 ?_))
 refine A3 (A2 (A4 Z Z) Z (A2 (A4 Z Z) Z (A6 ?_)))
 refine k1 (k3 ?_)
 refine D1 (X:=Nat) (fun p=>([(1,C3 n),(2,.s (.one (.ref 2 0))),(5,C8 Int 1 H1 (K6 h.Rows n)),(6,H4 A),(7,.s (.one (.ref 700 0))),(18,C3 n),(19,C3 p)],[(2,.box (B21 h).s1.cells),(700,.tbx 144 [.ref 700 0,.buf 701 UInt8 1 u8C (A++R1 n h p)]),(701,.spare (A++R1 n h p).length 1 5)])) (fun p=>p≤n) (fun p=>n - p) 0 (Nat.zero_le _) ?_ ?_
 ·rw [show R1 n h 0=[] from rfl,K02]
  exact J48 ⟨le1 rfl,le1 rfl,le1 rfl,le1 rfl,le1 rfl,le1 rfl,le1 rfl,trivial⟩ ⟨rfl,rfl,rfl,trivial⟩
 intro p hp
 dsimp only at hp ⊢
 have hsp:=hsl p
 have hsucc:=A54 n h p
 refine k2 ?_
 refine A3 (A2 (D6 Z Z) Z (A6 ?_))
 refine k1 (k2 ?_)
 refine B2 rfl (fun ht=>?_) (fun ht=>?_)
 ·have hlt:p < n:=by have:=A0 ht;omega
  have hga:=hgA p (by omega)
  have hgc:=hgC p (by omega)
  have hra:=hrA p (by omega)
  have hcp:=hcnt p
  have hsw:A52 n h p=[32,45]++G4 (h.At.getD p 0) (M3 h.Rows n p):=by
   unfold A52 L8;rw [if_neg (by omega)]
  have hrl:=A48 (h.At.getD p 0) (M3 h.Rows n p)
  rw [hsw] at hsucc
  obtain ⟨a,haa⟩:∃a,a=h.At.getD p 0:=⟨_,rfl⟩
  obtain ⟨q,hqq⟩:∃q,q=M3 h.Rows n p:=⟨_,rfl⟩
  rw [←haa] at hga hra hrl hsucc
  rw [←hqq] at hgc hcp hrl hsucc
  have hlb:(A++R1 n h p).length≤1000:=by rw [J77];omega
  obtain ⟨B,hB⟩:∃B,B=A++R1 n h p:=⟨_,rfl⟩
  rw [←hB] at hlb ⊢
  refine k5 (k1 (k2 (k3 (k2 ?_))))
  refine A3 (A2 (A4 Z Z) Z (A2 (A5 Z Z) Z (A6 ?_)))
  refine k1 ?_
  refine A57 11 (by kernel_rfl) (by kernel_rfl) Z (A8 (A7 Z) Z Z (A8 (B0 Z Z Z) Z Z (A8 (A4 Z Z) Z Z (A8 (B3 Z (.pure _ _ _ _) Z (by omega) hga) Z Z (A8 (B6 Z Z) Z Z (A8 (A4 Z Z) Z Z (A8 (A4 Z Z) Z Z (A8 (B3 Z (.pure _ _ _ _) Z (by omega) hgc) Z Z (A8 (B6 Z Z) Z Z (A8 (G7 (D23 a q hra (by omega)) Z Z) Z Z (A8 (E7 Z Z (by (simp only [J77,J78,J81];omega))) Z Z (H9 (C58 (Q4 (xs:=B) (s:=[32,45]++G4 a q) ⟨⟨_,.inr rfl,rfl⟩,rfl⟩ (by simp only [J77,J78,J81];omega)) Z Z Z ?_)))))))))))));rintro _ _ ⟨rfl,rfl⟩;refine ⟨_,rfl,?_⟩;refine H9 ?_
  refine k4 (k1 ?_)
  refine A3 (A2 (C1 Z Z (by omega)) Z (A2 (A4 Z Z) Z (A6 ?_)))
  refine k1 ?_
  refine ⟨p+1,by omega,by omega,?_⟩
  have hs2:A++R1 n h (p+1)=B++([32,45]++G4 a q):=by rw [hsucc,hB,J89]
  rw [hs2]
  exact J48 ⟨le1 rfl,le1 rfl,le1 rfl,le1 rfl,le1 rfl,le1 rfl,le1 rfl,trivial⟩ ⟨rfl,rfl,rfl,trivial⟩
 ·have hpn:p=n:=by have:=A1 ht;omega
  subst hpn
  have hga:=hgA p (by omega)
  have hgc:=hgC p (by omega)
  have hra:=hrA p (by omega)
  have hcp:=hcnt p
  have hrl:=A48 (h.At.getD p 0) (M3 h.Rows p p)
  obtain ⟨a,haa⟩:∃a,a=h.At.getD p 0:=⟨_,rfl⟩
  obtain ⟨q,hqq⟩:∃q,q=M3 h.Rows p p:=⟨_,rfl⟩
  rw [←haa] at hga hra hrl ⊢
  rw [←hqq] at hgc hcp hrl ⊢
  have hlb:(A++R1 p h p).length≤1000:=by rw [J77];omega
  obtain ⟨B,hB⟩:∃B,B=A++R1 p h p:=⟨_,rfl⟩
  rw [←hB] at hlb ⊢
  refine k6 (k2 ?_)
  refine A57 15 (by kernel_rfl) (by kernel_rfl) Z (A8 (A7 Z) Z Z (A8 (B0 Z Z Z) Z Z (A8 (A4 Z Z) Z Z (A8 (B3 Z (.pure _ _ _ _) Z (by omega) hga) Z Z (A8 (B6 Z Z) Z Z (A8 (A4 Z Z) Z Z (A8 (A4 Z Z) Z Z (A8 (B3 Z (.pure _ _ _ _) Z (by omega) hgc) Z Z (A8 (B6 Z Z) Z Z (A8 (G7 (D23 a q hra (by omega)) Z Z) Z Z (A8 (E7 Z Z (by (simp only [J77,J78,J81];omega))) Z Z (A8 (E7 Z Z (by (simp only [J77,J78,J81];omega))) Z Z (A8 (A4 Z Z) Z Z (A8 (E7 Z Z (by (simp only [J77,J78,J81];omega))) Z Z (A8 (E7 Z Z (by (simp only [J77,J78,J81];omega))) Z Z (H9 (C58 (Q4 (xs:=B) (s:=[32,43]++G4 a q++[32]++A++[10]) ⟨⟨_,.inr rfl,rfl⟩,rfl⟩ (by simp only [J77,J78,J81];omega)) Z Z Z ?_)))))))))))))))));rintro _ _ ⟨rfl,rfl⟩;refine ⟨_,rfl,?_⟩;refine H9 ?_
  refine k1 (k2 ?_)
  refine A3 (D17 (k:=700) (k':=701) ⟨_,rfl,rfl,rfl⟩ A58 Z Z Z Z Z (.inr Z) Z (A2 (A5 Z Z) Z (A6 ?_)))
  refine k1 (k10 ?_)
  exact B5 (F8 rfl rfl rfl) rfl
def C74 (r:Row):UInt8:=if r.Lost then 45 else 43
theorem crow_ok (r:Row) (n:Nat) (hn:n≤32) (hm:0≤r.Marks∧r.Marks < 4294967296) (hx:r.Text.length≤268435456) :
  FnOk Tryz.prog 91 [pRow r,E2 n] (fun rs=>rs=[F5 (S2 n r).flatten]):=by
 rw [E84]
 refine FnOk.intro Tryz.func91 (by decide) Z Z Z Z ?_
 refine k2 ?_
 refine A3 (C2 (P6 2 Z Z Z) Z (A2 (A5 Z Z) Z (A6 ?_)))
 refine k1 (k2 ?_)
 refine A3 (A2 (A5 Z Z) Z (A6 ?_))
 refine H8 ?_
 refine U6 [(1,C3 n),(2,.s (.one (.ref 2 0))),(5,J4 (.int .u8 (C74 r).toNat))] [(2,.box (pRow r).s1.cells)] ?_ ?_
 ·refine k2 ?_
  refine A3 (A2 (A7 Z) Z (A2 (B0 Z Z Z) Z (A6 ?_)))
  refine k1 ?_
  refine B2 rfl (fun ht=>?_) (fun ht=>?_)
  ·have h:r.Lost=true:=ht
   skip
   refine A3 (A2 (A5 Z Z) Z (A6 ?_))
   refine k1 ?_
   rw [show C74 r=45 by unfold C74;rw [h];rfl]
   exact J48 ⟨le1 rfl,le1 rfl,le1 rfl,trivial⟩ ⟨rfl,trivial⟩
  ·have h:r.Lost=false:=ht
   refine k5 (k1 ?_)
   rw [show C74 r=43 by unfold C74;rw [h];rfl]
   exact J48 ⟨le1 rfl,le1 rfl,le1 rfl,trivial⟩ ⟨rfl,trivial⟩
 refine k2 ?_
 refine A3 (A2 (A4 Z Z) Z (A2 (A7 Z) Z (A2 (B0 Z Z Z) Z (A2 (D5 Z) Z (A2 (C1 Z Z (by omega)) Z (A2 (C1 Z Z (by omega)) Z (C2 (I38 730 UInt8 u8C Z Z (by omega) (by omega) (by first | rfl | (simp [H3,J8,Ob.free,SV.free,S1.free,TC.free]<;>rfl))) Z ?_)))))));refine A2 (A5 Z Z) Z (A6 ?_)
 refine k1 (k2 (k2 ?_))
 refine A3 (A2 (A4 Z Z) Z (A2 (A4 Z Z) Z (A6 ?_)))
 refine k1 (k3 ?_)
 refine D1 (X:=Nat) (fun p=>([(1,C3 n),(2,.s (.one (.ref 2 0))),(5,J4 (.int .u8 (C74 r).toNat)),(6,.s (.one (.buf 730 UInt8 1 u8C (K4 p r)))),(17,C3 n),(18,C3 p)],[(2,.box (pRow r).s1.cells),(730,.spare (K4 p r).length 1 5)])) (fun p=>p≤n) (fun p=>n - p) 0 (Nat.zero_le _) (J48 ⟨le1 rfl,le1 rfl,le1 rfl,le1 rfl,le1 rfl,le1 rfl,trivial⟩ ⟨rfl,rfl,trivial⟩) ?_
 intro p hp
 dsimp only at hp ⊢
 have hml:=T8 p r
 have hsucc:=D86 p r
 refine k2 ?_
 refine A3 (A2 (D6 Z Z) Z (A6 ?_))
 refine k1 (k2 ?_)
 refine B2 rfl (fun ht=>?_) (fun ht=>?_)
 ·have hlt:p < n:=by have:=A0 ht;omega
  refine k5 (k1 (k2 (k3 (k2 ?_))))
  refine A3 (A2 (A4 Z Z) Z (A2 (A5 Z Z) Z (A6 ?_)))
  refine k1 (k2 ?_)
  refine A3 (A2 (A7 Z) Z (A2 (B0 Z Z Z) Z (A2 (A4 Z Z) Z (A2 (A38 Z Z (by omega)) Z (A2 (T4 Z Z Z (fun _=>rfl)) Z (A2 (F1 Z Z) Z (A6 ?_)))))))
  refine k1 ?_
  have h3:0≤r.Marks / 2 ^ p:=Int.ediv_nonneg hm.1 (Int.pow_nonneg (by decide))
  have h4:r.Marks / 2 ^ p≤r.Marks:=Int.ediv_le_self _ hm.1
  have e32:r.Marks.fdiv (2 ^ (min (p:Int).toNat IntKind.u32.bits))=r.Marks / 2 ^ p:=D68 r.Marks p (by omega)
  have e1:=A79 (r.Marks / 2 ^ p) (by omega)
  refine B2 rfl (fun ht=>?_) (fun ht=>?_)
  ·rw [e32,e1] at ht
   have hb:A46 r.Marks p=true:=by unfold A46;simpa using ht
   have hmk:n6 r p=C74 r:=by unfold n6 C74;rw [hb,if_neg (by decide)]
   rw [hmk] at hsucc
   skip
   refine A3 (A2 (A4 Z Z) Z (A2 (A4 Z Z) Z (A2 (C6 (c:=u8C) (ys:=[C74 r]) (D8 Z Z Z Z F0) Z Z Z) Z (C2 (F9 Z Z Z (.pure _ _ _ _) (by (simp only [J78,J81];omega)) Z) Z (A2 (A5 Z Z) Z (A6 ?_))))))
   refine k4 (k1 ?_)
   refine A3 (A2 (C1 Z Z (by omega)) Z (A2 (A4 Z Z) Z (A6 ?_)))
   refine k1 ?_
   refine ⟨p+1,by omega,by omega,?_⟩
   rw [hsucc]
   exact J48 ⟨le1 rfl,le1 rfl,le1 rfl,le1 rfl,le1 rfl,le1 rfl,trivial⟩ ⟨rfl,rfl,trivial⟩
  ·rw [e32,e1] at ht
   have hb:A46 r.Marks p=false:=by unfold A46;simpa using ht
   have hmk:n6 r p=32:=by unfold n6;rw [if_pos hb]
   rw [hmk] at hsucc
   skip
   refine A3 (A2 (A4 Z Z) Z (A2 (C6 (c:=u8C) (ys:=[32]) (D8 Z Z Z Z F0) Z Z Z) Z (C2 (F9 Z Z Z (.pure _ _ _ _) (by (simp only [J78,J81];omega)) Z) Z (A2 (A5 Z Z) Z (A6 ?_)))))
   refine k4 (k1 ?_)
   refine A3 (A2 (C1 Z Z (by omega)) Z (A2 (A4 Z Z) Z (A6 ?_)))
   refine k1 ?_
   refine ⟨p+1,by omega,by omega,?_⟩
   rw [hsucc]
   exact J48 ⟨le1 rfl,le1 rfl,le1 rfl,le1 rfl,le1 rfl,le1 rfl,trivial⟩ ⟨rfl,rfl,trivial⟩
 ·have hpn:p=n:=by have:=A1 ht;omega
  subst hpn
  refine k6 (k2 ?_)
  refine A3 (A2 (A4 Z Z) Z (A2 (A7 Z) Z (A2 (B0 Z Z Z) Z (C2 (A87 TyStr.out Z Z Z (by omega) Z) Z (A2 (A5 Z Z) Z (A6 ?_))))))
  refine k1 (k2 (k2 ?_))
  refine A3 (A2 (A7 Z) Z (A2 (B0 Z Z Z) Z (B9 (D22 r.Text (by omega)) Z Z Z ?_)));rintro _ rfl;refine A2 (E4 Z) Z (A6 ?_)
  refine k1 ?_
  refine B2 rfl (fun ht=>?_) (fun ht=>?_)
  ·have h:ended r.Text=false:=by simpa using ht
   skip
   refine A3 (A2 (A4 Z Z) Z (C2 (A87 TyStr.out Z Z Z (by (simp only [J77,J78,J81];omega)) Z) Z (A2 (A5 Z Z) Z (A6 ?_))))
   refine k1 (k2 ?_)
   refine A3 (A2 (A4 Z Z) Z (A2 (M4 TyStr.out Z (.buf _ _ _ _ _)) Z (A2 (A5 Z Z) Z (A6 ?_))))
   refine k1 (k10 ?_)
   exact B5 (F8 rfl rfl rfl) (by rw [h,if_neg (by decide)];rfl)
  ·have h:ended r.Text=true:=by simpa using ht
   refine k5 (k1 (k2 ?_))
   refine A3 (A2 (A4 Z Z) Z (A2 (M4 TyStr.out Z (.buf _ _ _ _ _)) Z (A2 (A5 Z Z) Z (A6 ?_))))
   refine k1 (k10 ?_)
   exact B5 (F8 rfl rfl rfl) (by rw [if_pos h,K02])
structure CFit (c:Comb):Prop where
 par:0≤c.Parents∧c.Parents≤32
 path:c.Path.length≤4194304
 sz:szC c.Hunks≤268435456
 rows:∀h∈c.Hunks,I9 h.Rows
 ats:∀h∈c.Hunks,h.At.length=c.Parents.toNat+1∧∀a∈h.At,-4611686018427387904≤a∧a≤4611686018427387904
theorem J12 (c:Comb) (hc:CFit c):FnOk Tryz.prog 96 [I5 c] (fun rs=>rs=[E2 (O3 c).length]):=by
 obtain ⟨h1,h2,h3,h4,h5⟩:=hc
 have hzl:=A14 c.Hunks
 have hm29:markS.length=29:=rfl
 obtain ⟨n,hN⟩:∃n,n=c.Parents.toNat:=⟨_,rfl⟩
 have hNc:c.Parents=(n:Int):=by omega
 have hn:n≤32:=by omega
 have hct:=fun k=>G34 c (by omega) k
 have hcs:=fun k h=>H21 c k h
 rw [←hN] at h5 hcs
 refine FnOk.intro Tryz.func96 (by decide) Z Z Z Z ?_
 refine k2 ?_
 refine A3 (C2 (P6 1 Z Z Z) Z (A2 (A5 Z Z) Z (A6 ?_)))
 refine k1 (k2 ?_)
 refine A3 (A2 (C7 Z Z Z) Z (B9 (F56 c (by omega)) Z Z Z ?_));rintro _ rfl;refine A2 (D5 Z) Z (A2 (A5 Z Z) Z (A6 ?_))
 refine k1 (k2 (k2 ?_))
 refine A3 (A2 (A7 Z) Z (A2 (B0 Z Z Z) Z (A2 (F2 Z (.pure _ _ _ _)) Z (A2 (A4 Z Z) Z (A6 ?_)))))
 refine k1 (k3 ?_)
 refine D1 (X:=Nat) (fun k=>([(1,.s (.one (.ref 1 0))),(3,C3 (cTo c k).length),(12,C8 CHunk 2 J0 c.Hunks),(13,C3 c.Hunks.length),(14,C3 k)],[(1,A59 c)])) (fun k=>k≤c.Hunks.length) (fun k=>c.Hunks.length - k) 0 (Nat.zero_le _) (by rw [E82];exact J48 ⟨le1 rfl,le1 rfl,le1 rfl,le1 rfl,le1 rfl,trivial⟩ ⟨rfl,trivial⟩) ?_
 intro k hk
 dsimp only at hk ⊢
 have hck:=hct k
 refine k2 ?_
 refine A3 (A2 (D6 Z Z) Z (A6 ?_))
 refine k1 (k2 ?_)
 refine B2 rfl (fun ht=>?_) (fun ht=>?_)
 ·have hlt:k < c.Hunks.length:=by have:=A0 ht;omega
  have hv:c.Hunks[k]?=some c.Hunks[k]:=by simp [hlt]
  have hmem:=J96 hlt
  have hrw:=h4 _ hmem
  have hat:=h5 _ hmem
  have hzm:=A53 hmem
  have hsucc:=hcs k hlt
  obtain ⟨h,hx⟩:∃x,x=c.Hunks[k]:=⟨_,rfl⟩
  rw [←hx] at hv hrw hat hzm hsucc
  have hz1:=T9 h.Rows
  have hz2:=B24 h.Rows
  unfold A65 at hzm
  have hh:=E45 h n hn hrw (by omega) hat.1 hat.2
  rw [←hNc] at hh
  have hhl:=B95 hn h
  obtain ⟨base,hbase⟩:∃base,base=(cTo c k).length:=⟨_,rfl⟩
  have hcl:=congrArg List.length hsucc
  rw [J77,F78,J77,←hbase] at hcl
  rw [←hbase] at hck ⊢
  obtain ⟨hd,hhd⟩:∃hd,hd=S0 n h++[10]:=⟨_,rfl⟩
  have hdl:hd.length≤926:=by rw [hhd,J77];simp only [J78,J81];omega
  rw [←hhd] at hh hcl
  refine k5 (k1 (k2 (k3 (k2 ?_))))
  refine A3 (A2 (B3 Z (.pure _ _ _ _) Z (by omega) hv) Z (A2 (H2 Z Z) Z (C2 (G1 5 Z) Z (E3 (B7 TySz.out Z Z Z Z Z Z) (A6 ?_)))))
  refine k1 (k2 ?_)
  refine A3 (A2 (A4 Z Z) Z (A2 (C7 Z Z Z) Z (A2 (A7 Z) Z (A2 (B0 Z Z Z) Z (B9 (hh) Z Z Z ?_)))));rintro _ rfl;refine A2 (D5 Z) Z (A2 (C1 Z Z (by omega)) Z (A2 (A5 Z Z) Z (A6 ?_)))
  refine k1 (k2 ?_)
  refine A3 (A2 (A7 Z) Z (A2 (B0 Z Z Z) Z (A2 (F2 Z (.pure _ _ _ _)) Z (A2 (A4 Z Z) Z (A6 ?_)))))
  refine k1 (k3 ?_)
  refine D1 (X:=Nat) (fun j=>([(1,.s (.one (.ref 1 0))),(3,C3 (base+hd.length+(rTo n h.Rows j).length:Nat)),(12,C8 CHunk 2 J0 c.Hunks),(13,C3 c.Hunks.length),(14,C3 k),(26,C8 Row 3 rowC h.Rows),(27,C3 h.Rows.length),(28,C3 j)],[(1,A59 c)])) (fun j=>j≤h.Rows.length) (fun j=>h.Rows.length - j) 0 (Nat.zero_le _) ?_ ?_
  ·have e:((base+hd.length+(rTo n h.Rows 0).length:Nat):Int)=(base:Int)+(hd.length:Int):=by rw [H22];simp
   rw [e]
   exact J48 ⟨le1 rfl,le1 rfl,le1 rfl,le1 rfl,le1 rfl,le1 rfl,le1 rfl,le1 rfl,trivial⟩ ⟨rfl,trivial⟩
  intro j hj
  dsimp only at hj ⊢
  have hrl:=I25 hn h.Rows j
  refine k2 ?_
  refine A3 (A2 (D6 Z Z) Z (A6 ?_))
  refine k1 (k2 ?_)
  refine B2 rfl (fun ht=>?_) (fun ht=>?_)
  ·have hlt2:j < h.Rows.length:=by have:=A0 ht;omega
   have hv2:h.Rows[j]?=some h.Rows[j]:=by simp [hlt2]
   have hrm:=B94 (J96 hlt2)
   have hsucc2:=H23 n h.Rows j hlt2
   obtain ⟨r,hy⟩:∃x,x=h.Rows[j]:=⟨_,rfl⟩
   rw [←hy] at hv2 hrm hsucc2
   have hrm:r.Text.length+96≤(h.Rows.map N0).sum:=hrm
   have hl2:=congrArg List.length hsucc2
   have hml:=T8 n r
   rw [J77,E84,J77,J77,hml] at hl2
   refine k5 (k1 (k2 (k3 (k2 ?_))))
   refine A3 (A2 (B3 Z (.pure _ _ _ _) Z (by omega) hv2) Z (A2 (H2 Z Z) Z (C2 (G1 7 Z) Z (E3 (B7 TySz.out Z Z Z Z Z Z) (A6 ?_)))))
   refine k1 (k2 ?_)
   refine A3 (A2 (A4 Z Z) Z (A2 (A7 Z) Z (A2 (B0 Z Z Z) Z (A2 (A7 Z) Z (A2 (B0 Z Z Z) Z (A2 (D5 Z) Z (A2 (C1 Z Z (by omega)) Z (A2 (C1 Z Z (by omega)) Z (A2 (A5 Z Z) Z (A6 ?_))))))))))
   refine k1 (k2 ?_)
   refine A3 (A2 (A7 Z) Z (A2 (B0 Z Z Z) Z (B9 (D22 r.Text (by omega)) Z Z Z ?_)));rintro _ rfl;refine A2 (E4 Z) Z (A6 ?_)
   refine k1 ?_
   refine B2 rfl (fun ht=>?_) (fun ht=>?_)
   ·have h2:ended r.Text=false:=by simpa using ht
    rw [h2,if_neg (by decide),hm29] at hl2
    have e:((base+hd.length+(rTo n h.Rows (j+1)).length:Nat):Int)=((base+hd.length+(rTo n h.Rows j).length:Nat):Int)+(c.Parents+(r.Text.length:Int))+29:=by omega
    skip
    refine A3 (A2 (A4 Z Z) Z (A2 (C1 Z Z (by omega)) Z (A2 (A5 Z Z) Z (A6 ?_))))
    refine k4 (k1 ?_)
    refine A3 (A2 (C1 Z Z (by omega)) Z (A2 (A4 Z Z) Z (A6 ?_)))
    refine k1 ?_
    refine ⟨j+1,by omega,by omega,?_⟩
    rw [e]
    exact J48 ⟨le1 rfl,le1 rfl,le1 rfl,le1 rfl,le1 rfl,le1 rfl,le1 rfl,le1 rfl,trivial⟩ ⟨rfl,trivial⟩
   ·have h2:ended r.Text=true:=by simpa using ht
    rw [if_pos h2,J81] at hl2
    have e:((base+hd.length+(rTo n h.Rows (j+1)).length:Nat):Int)=((base+hd.length+(rTo n h.Rows j).length:Nat):Int)+(c.Parents+(r.Text.length:Int)):=by omega
    refine k5 (k4 (k1 ?_))
    refine A3 (A2 (C1 Z Z (by omega)) Z (A2 (A4 Z Z) Z (A6 ?_)))
    refine k1 ?_
    refine ⟨j+1,by omega,by omega,?_⟩
    rw [e]
    exact J48 ⟨le1 rfl,le1 rfl,le1 rfl,le1 rfl,le1 rfl,le1 rfl,le1 rfl,le1 rfl,trivial⟩ ⟨rfl,trivial⟩
  ·have hjl:j=h.Rows.length:=by have:=A1 ht;omega
   subst hjl
   have e:base+hd.length+(rTo n h.Rows h.Rows.length).length=(cTo c (k+1)).length:=by omega
   rw [e]
   refine k6 (k7 (k7 (k8 Z (k4 (k1 ?_)))))
   refine A3 (A2 (C1 Z Z (by omega)) Z (A2 (A4 Z Z) Z (A6 ?_)))
   refine k1 ?_
   exact ⟨k+1,by omega,by omega,J48 ⟨le1 rfl,le1 rfl,le1 rfl,le1 rfl,le1 rfl,trivial⟩ ⟨rfl,trivial⟩⟩
 ·have hkl:k=c.Hunks.length:=by have:=A1 ht;omega
  subst hkl
  rw [D05]
  refine k6 (k2 ?_)
  refine A3 (A2 (A4 Z Z) Z (A2 (A5 Z Z) Z (A6 ?_)))
  refine k1 (k10 ?_)
  exact B5 (F8 rfl rfl rfl) rfl
theorem D30 {c:Comb} (hp:c.Path.length≤4194304) (hn:1≤c.Parents∧c.Parents≤32) (hz:szC c.Hunks≤268435456) (hr:∀h∈c.Hunks,I9 h.Rows) (hg:Q6 c.Parents.toNat c.Hunks=true):CFit c:=by
 refine ⟨by omega,hp,hz,hr,fun h hm=>?_⟩
 unfold Q6 at hg
 rw [J80] at hg
 obtain ⟨a1,a2,a3⟩:=D46 c.Hunks _ (fun k hk=>by rw [J82,List.getElem?_replicate_of_lt hk];exact Int.le_refl _) hg.1 h hm
 refine ⟨a1,fun a ha=>?_⟩
 obtain ⟨k,hk,rfl⟩:=List.getElem_of_mem ha
 have h1:=a3 k (by omega)
 have h2:=C43 h.Rows c.Parents.toNat k
 have e:h.At.getD k 0=h.At[k]:=by rw [J82,J79 hk];rfl
 rw [e] at h1
 omega
theorem F57 (c:Comb) (hz:szC c.Hunks≤268435456) (hr:∀h∈c.Hunks,I9 h.Rows):FnOk Tryz.prog 43 [I5 c] (fun rs=>rs=[E2 (G8 c)]):=by
 refine FnOk.intro Tryz.func43 (by decide) Z Z Z Z ?_
 refine k2 ?_
 refine A3 (C2 (P6 1 Z Z Z) Z (A2 (A5 Z Z) Z (A6 ?_)))
 refine k1 (k2 (k3 (k2 ?_)))
 refine A3 (A2 (A7 Z) Z (A2 (B0 Z Z Z) Z (B9 (I45 c.Path) Z Z Z ?_)));rintro _ rfl;refine A2 (E4 Z) Z (A2 (A5 Z Z) Z (A6 ?_))
 refine k1 ?_
 refine B2 rfl (fun ht=>?_) (fun ht=>?_)
 ·have h:V9 c.Path=false:=by simpa using ht
  refine k2 ?_
  refine A3 (A2 (A5 Z Z) Z (A6 ?_))
  refine k1 (k10 (k12 (k11 ?_)))
  exact B5 (F8 rfl rfl rfl) (by unfold G8;rw [if_pos h])
 have h:V9 c.Path=true:=by simpa using ht
 have hpl:=A0 h
 refine k2 ?_
 refine A3 (A2 (A7 Z) Z (A2 (B0 Z Z Z) Z (A2 (D6 Z Z) Z (A2 (A4 Z Z) Z (A9 Z Z Z Z (fun hg=>by rw [hg];exact A7 Z) ?_)))));refine A9 Z Z Z Z (fun hg=>by rw [hg];exact B0 Z Z Z) ?_;refine A9 Z Z Z Z (fun hg=>by rw [hg];exact L9 Z Z) ?_;refine A2 (B4 Z (fun h=>by first | rfl | (rw [h];rfl)) (fun h=>by first | rfl | (rw [h];rfl))) Z ?_;refine A2 (A5 Z Z) Z (A6 ?_)
 refine k1 ?_
 refine B2 rfl (fun ht=>?_) (fun ht=>?_)
 ·have h1:=A0 (or_pick.symm.trans ht)
  refine k2 ?_
  refine A3 (A2 (A5 Z Z) Z (A6 ?_))
  refine k1 (k10 (k12 (k11 ?_)))
  exact B5 (F8 rfl rfl rfl) (by unfold G8;rw [if_neg (by rw [h];decide),if_pos (by omega)])
 have h1:=A1 (or_pick.symm.trans ht)
 have hn:1≤c.Parents∧c.Parents≤32:=by omega
 refine k2 ?_
 refine A3 (A2 (C7 Z Z Z) Z (B9 (H49 c hn hr hz) Z Z Z ?_));rintro _ rfl;refine A2 (E4 Z) Z (A2 (A5 Z Z) Z (A6 ?_))
 refine k1 ?_
 refine B2 rfl (fun ht=>?_) (fun ht=>?_)
 ·have h2:Y3 c.Parents.toNat c.Hunks=false:=by simpa using ht
  refine k2 ?_
  refine A3 (A2 (A5 Z Z) Z (A6 ?_))
  refine k1 (k10 (k12 (k11 ?_)))
  exact B5 (F8 rfl rfl rfl) (by unfold G8;rw [if_neg (by rw [h];decide),if_neg (by omega),if_pos h2])
 have h2:Y3 c.Parents.toNat c.Hunks=true:=by simpa using ht
 have hw:=J11 c hn hr hz
 rw [H10 (by omega) h2] at hw
 refine k2 ?_
 refine A3 (A2 (C7 Z Z Z) Z (B9 (hw) Z Z Z ?_));rintro _ rfl;refine A2 (E4 Z) Z (A2 (A5 Z Z) Z (A6 ?_))
 refine k1 ?_
 refine B2 rfl (fun ht=>?_) (fun ht=>?_)
 ·have h3:Q6 c.Parents.toNat c.Hunks=false:=by simpa using ht
  refine k2 ?_
  refine A3 (A2 (A5 Z Z) Z (A6 ?_))
  refine k1 (k10 (k12 (k11 ?_)))
  exact B5 (F8 rfl rfl rfl) (by unfold G8;rw [if_neg (by rw [h];decide),if_neg (by omega),if_neg (by rw [h2];decide),if_pos h3])
 have h3:Q6 c.Parents.toNat c.Hunks=true:=by simpa using ht
 refine k2 ?_
 refine A3 (A2 (C7 Z Z Z) Z (B9 (J12 c (D30 (by omega) hn hz hr h3)) Z Z Z ?_));rintro _ rfl;refine A2 (L9 Z Z) Z (A2 (A5 Z Z) Z (A6 ?_))
 refine k1 ?_
 refine B2 rfl (fun ht=>?_) (fun ht=>?_)
 ·have h4:=A0 ht
  refine k2 ?_
  refine A3 (A2 (A5 Z Z) Z (A6 ?_))
  refine k1 (k10 (k12 (k11 ?_)))
  exact B5 (F8 rfl rfl rfl) (by unfold G8;rw [if_neg (by rw [h];decide),if_neg (by omega),if_neg (by rw [h2];decide),if_neg (by rw [h3];decide),if_pos (by omega)])
 have h4:=A1 ht
 refine k5 (k2 ?_)
 refine A3 (A2 (A5 Z Z) Z (A6 ?_))
 refine k1 (k10 ?_)
 exact B5 (F8 rfl rfl rfl) (by unfold G8;rw [if_neg (by rw [h];decide),if_neg (by omega),if_neg (by rw [h2];decide),if_neg (by rw [h3];decide),if_neg (by omega)])
theorem C30 {c:Comb} (h:G8 c=0) (hz:szC c.Hunks≤268435456) (hr:∀h∈c.Hunks,I9 h.Rows):CFit c:=by
 obtain ⟨h1,h2,h3,h4,h5⟩:=A33 h
 have hp:=A0 h5
 have hg:Q6 c.Parents.toNat c.Hunks=true:=by
  cases hb:Q6 c.Parents.toNat c.Hunks with
  | true=>rfl
  | false =>
   exfalso
   unfold G8 at h
   rw [hb] at h
   rw [if_neg (by rw [h5];decide),if_neg (by omega)] at h
   split at h
   ·cases h
   ·cases h
 exact D30 (by omega) (by omega) hz hr hg
theorem H50 (c:Comb) (hz:szC c.Hunks≤268435456) (hr:∀h∈c.Hunks,I9 h.Rows):FnOk Tryz.prog 42 [I5 c] (fun rs=>rs=if G8 c=0 then [F5 (O3 c),E2 0] else [F5 [],E2 (G8 c)]):=by
 by_cases hck:G8 c=0
 rotate_left
 ·rw [if_neg hck]
  refine FnOk.intro Tryz.func42 (by decide) Z Z Z Z ?_
  refine k2 ?_
  refine A3 (C2 (P6 1 Z Z Z) Z (A2 (A5 Z Z) Z (A2 (A5 Z Z) Z (A6 ?_))))
  refine k1 (k2 (k2 ?_))
  refine A3 (A2 (C7 Z Z Z) Z (B9 (F57 c hz hr) Z Z Z ?_));rintro _ rfl;refine A2 (A5 Z Z) Z (A6 ?_)
  refine k1 (k2 ?_)
  refine A3 (A2 (A4 Z Z) Z (A2 (L4 Z Z) Z (A6 ?_)))
  refine k1 ?_
  refine B2 rfl (fun ht=>?_) (fun ht=>?_)
  rotate_left
  ·exact absurd (Decidable.not_not.1 (A1 ht)) hck
  refine k2 ?_
  refine A3 (A2 (A4 Z Z) Z (A2 (A5 Z Z) Z (A2 (A5 Z Z) Z (A6 ?_))))
  refine k1 (k10 (k11 ?_))
  exact B5 (X2 rfl rfl rfl rfl rfl) rfl
 rw [if_pos hck]
 have hcc:=F57 c hz hr
 rw [hck] at hcc
 obtain ⟨h1,h2,_,h4,h5⟩:=C30 hck hz hr
 have hzl:=A14 c.Hunks
 obtain ⟨n,hN⟩:∃n,n=c.Parents.toNat:=⟨_,rfl⟩
 have hNc:c.Parents=(n:Int):=by omega
 have hn:n≤32:=by omega
 have hct:=fun k=>G34 c (by omega) k
 have hcs:=fun k h=>H21 c k h
 rw [←hN] at h5 hcs
 refine FnOk.intro Tryz.func42 (by decide) Z Z Z Z ?_
 refine k2 ?_
 refine A3 (C2 (P6 1 Z Z Z) Z (A2 (A5 Z Z) Z (A2 (A5 Z Z) Z (A6 ?_))))
 refine k1 (k2 (k2 ?_))
 refine A3 (A2 (C7 Z Z Z) Z (B9 (hcc) Z Z Z ?_));rintro _ rfl;refine A2 (A5 Z Z) Z (A6 ?_)
 refine k1 (k2 ?_)
 refine A3 (A2 (A4 Z Z) Z (A2 (L4 Z Z) Z (A6 ?_)))
 refine k1 ?_
 refine B2 rfl (fun ht=>?_) (fun ht=>?_)
 ·cases ht
 refine k5 (k1 (k2 ?_))
 refine A3 (C2 (E14 700 Z) Z (A6 ?_))
 refine k1 (k2 ?_)
 refine F4 (J61 701 UInt8 1 u8C 5 (kb:=700) (o:=1) Z Z Z) ?_
 have hct0:=hct 0
 rw [E82] at hct0
 refine A3 (A2 (C7 Z Z Z) Z (B9 (F56 c (by omega)) Z Z Z ?_));rintro _ rfl;refine X3 (Q4 (xs:=[]) (s:=B26 c) ⟨⟨_,.inl rfl,rfl⟩,rfl⟩ (by simp only [J81];omega)) Z Z Z ?_;rintro _ _ ⟨rfl,rfl⟩;refine A6 ?_
 refine k1 (k2 (k2 ?_))
 refine A3 (A2 (A7 Z) Z (A2 (B0 Z Z Z) Z (A2 (F2 Z (.pure _ _ _ _)) Z (A2 (A4 Z Z) Z (A6 ?_)))))
 refine k1 (k3 ?_)
 refine D1 (X:=Nat) (fun k=>([(1,.s (.one (.ref 1 0))),(5,.s (.one (.ref 700 0))),(19,C8 CHunk 2 J0 c.Hunks),(20,C3 c.Hunks.length),(21,C3 k)],[(1,A59 c),(700,.tbx 144 [.ref 700 0,.buf 701 UInt8 1 u8C (cTo c k)]),(701,.spare (cTo c k).length 1 5)])) (fun k=>k≤c.Hunks.length) (fun k=>c.Hunks.length - k) 0 (Nat.zero_le _) (by rw [E82];exact J48 ⟨le1 rfl,le1 rfl,le1 rfl,le1 rfl,le1 rfl,trivial⟩ ⟨rfl,rfl,rfl,trivial⟩) ?_
 intro k hk
 dsimp only at hk ⊢
 have hck:=hct k
 refine k2 ?_
 refine A3 (A2 (D6 Z Z) Z (A6 ?_))
 refine k1 (k2 ?_)
 refine B2 rfl (fun ht=>?_) (fun ht=>?_)
 ·have hlt:k < c.Hunks.length:=by have:=A0 ht;omega
  have hv:c.Hunks[k]?=some c.Hunks[k]:=by simp [hlt]
  have hmem:=J96 hlt
  have hrw:=h4 _ hmem
  have hat:=h5 _ hmem
  have hzm:=A53 hmem
  have hsucc:=hcs k hlt
  obtain ⟨h,hx⟩:∃x,x=c.Hunks[k]:=⟨_,rfl⟩
  rw [←hx] at hv hrw hat hzm hsucc
  have hz1:=T9 h.Rows
  have hz2:=B24 h.Rows
  unfold A65 at hzm
  have hh:=E45 h n hn hrw (by omega) hat.1 hat.2
  rw [←hNc] at hh
  have hhl:=B95 hn h
  obtain ⟨base,hbase⟩:∃base,base=cTo c k:=⟨_,rfl⟩
  rw [F78,←hbase] at hsucc
  rw [←hbase] at hck ⊢
  obtain ⟨hd,hhd⟩:∃hd,hd=S0 n h++[10]:=⟨_,rfl⟩
  have hdl:hd.length≤926:=by rw [hhd,J77];simp only [J78,J81];omega
  rw [←hhd] at hh hsucc
  refine k5 (k1 (k2 (k3 (k2 ?_))))
  refine A3 (A2 (B3 Z (.pure _ _ _ _) Z (by omega) hv) Z (A2 (H2 Z Z) Z (C2 (G1 7 Z) Z (E3 (B7 TySz.out Z Z Z Z Z Z) (A6 ?_)))))
  refine k1 (k2 ?_)
  refine A3 (A2 (C7 Z Z Z) Z (A2 (A7 Z) Z (A2 (B0 Z Z Z) Z (B9 (hh) Z Z Z ?_))));rintro _ rfl;refine X3 (Q4 (xs:=base) (s:=hd) ⟨⟨_,.inr rfl,rfl⟩,rfl⟩ (by omega)) Z Z Z ?_;rintro _ _ ⟨rfl,rfl⟩;refine A6 ?_
  refine k1 (k2 ?_)
  refine A3 (A2 (A7 Z) Z (A2 (B0 Z Z Z) Z (A2 (F2 Z (.pure _ _ _ _)) Z (A2 (A4 Z Z) Z (A6 ?_)))))
  refine k1 (k3 ?_)
  refine D1 (X:=Nat) (fun j=>([(1,.s (.one (.ref 1 0))),(5,.s (.one (.ref 700 0))),(19,C8 CHunk 2 J0 c.Hunks),(20,C3 c.Hunks.length),(21,C3 k),(31,C8 Row 3 rowC h.Rows),(32,C3 h.Rows.length),(33,C3 j)],[(1,A59 c),(700,.tbx 144 [.ref 700 0,.buf 701 UInt8 1 u8C (base++hd++rTo n h.Rows j)]),(701,.spare (base++hd++rTo n h.Rows j).length 1 5)])) (fun j=>j≤h.Rows.length) (fun j=>h.Rows.length - j) 0 (Nat.zero_le _) ?_ ?_
  ·rw [H22,K02]
   exact J48 ⟨le1 rfl,le1 rfl,le1 rfl,le1 rfl,le1 rfl,le1 rfl,le1 rfl,le1 rfl,trivial⟩ ⟨rfl,rfl,rfl,trivial⟩
  intro j hj
  dsimp only at hj ⊢
  have hrl:=I25 hn h.Rows j
  refine k2 ?_
  refine A3 (A2 (D6 Z Z) Z (A6 ?_))
  refine k1 (k2 ?_)
  refine B2 rfl (fun ht=>?_) (fun ht=>?_)
  ·have hlt2:j < h.Rows.length:=by have:=A0 ht;omega
   have hv2:h.Rows[j]?=some h.Rows[j]:=by simp [hlt2]
   have hmem2:=J96 hlt2
   have hrm:=B94 hmem2
   have hmm:=hrw _ hmem2
   have hsucc2:=H23 n h.Rows j hlt2
   obtain ⟨r,hy⟩:∃x,x=h.Rows[j]:=⟨_,rfl⟩
   rw [←hy] at hv2 hrm hsucc2 hmm
   have hrp:=F77 hn r
   have hrk:=crow_ok r n hn hmm (by have hrm:r.Text.length+96≤(h.Rows.map N0).sum:=hrm;omega)
   rw [←hNc] at hrk
   obtain ⟨bs,hbs⟩:∃bs,bs=base++hd++rTo n h.Rows j:=⟨_,rfl⟩
   have hbl:bs.length≤16777216+48+268435456+926+268435456:=by rw [hbs,J77,J77];omega
   rw [←hbs]
   refine k5 (k1 (k2 (k3 (k2 ?_))))
   refine A3 (A2 (B3 Z (.pure _ _ _ _) Z (by omega) hv2) Z (A2 (H2 Z Z) Z (C2 (G1 9 Z) Z (E3 (B7 TySz.out Z Z Z Z Z Z) (A6 ?_)))))
   refine k1 ?_
   refine A3 (A2 (C7 Z Z Z) Z (A2 (A7 Z) Z (A2 (B0 Z Z Z) Z (B9 (hrk) Z Z Z ?_))));rintro _ rfl;refine X3 (Q4 (xs:=bs) (s:=(S2 n r).flatten) ⟨⟨_,.inr rfl,rfl⟩,rfl⟩ (by omega)) Z Z Z ?_;rintro _ _ ⟨rfl,rfl⟩;refine A6 ?_
   refine k4 (k1 ?_)
   refine A3 (A2 (C1 Z Z (by omega)) Z (A2 (A4 Z Z) Z (A6 ?_)))
   refine k1 ?_
   refine ⟨j+1,by omega,by omega,?_⟩
   rw [hsucc2,←J89,←hbs]
   exact J48 ⟨le1 rfl,le1 rfl,le1 rfl,le1 rfl,le1 rfl,le1 rfl,le1 rfl,le1 rfl,trivial⟩ ⟨rfl,rfl,rfl,trivial⟩
  ·have hjl:j=h.Rows.length:=by have:=A1 ht;omega
   subst hjl
   have e:base++hd++rTo n h.Rows h.Rows.length=cTo c (k+1):=by rw [hsucc,J89]
   rw [e]
   refine k6 (k7 (k7 (k8 Z (k4 (k1 ?_)))))
   refine A3 (A2 (C1 Z Z (by omega)) Z (A2 (A4 Z Z) Z (A6 ?_)))
   refine k1 ?_
   exact ⟨k+1,by omega,by omega,J48 ⟨le1 rfl,le1 rfl,le1 rfl,le1 rfl,le1 rfl,trivial⟩ ⟨rfl,rfl,rfl,trivial⟩⟩
 ·have hkl:k=c.Hunks.length:=by have:=A1 ht;omega
  subst hkl
  rw [D05]
  refine k6 (k2 ?_)
  refine A3 (D17 (k:=700) (k':=701) ⟨_,rfl,rfl,rfl⟩ A58 Z Z Z Z Z (.inr Z) Z (A2 (A5 Z Z) Z (A2 (A5 Z Z) Z (A6 ?_))))
  refine k1 (k10 ?_)
  exact B5 (X2 rfl rfl rfl rfl rfl) rfl
def rowR (s:Str) (n:Int):List PV:=match x7 s n with
 | some r=>[pRow r,D3 true]
 | none=>[pRow ⟨false,0,[]⟩,D3 false]
theorem b9 {s:Str} {n:Int} (h:x7 s n=none):rowR s n=[pRow ⟨false,0,[]⟩,D3 false]:=by unfold rowR;rw [h]
theorem A77 {s:Str} {n:Int} {r:Row} (h:x7 s n=some r):rowR s n=[pRow r,D3 true]:=by unfold rowR;rw [h]
theorem G05 (s:Str) (n:Int):FnOk Tryz.prog 40 [F5 s,E2 n] (fun rs=>rs=rowR s n):=by
 refine FnOk.intro Tryz.func40 (by decide) Z Z Z Z ?_
 refine k2 ?_
 refine A3 (C2 (G1 4 Z) Z (A2 (A5 Z Z) Z (A6 ?_)))
 refine k1 (k2 (k2 ?_))
 refine A3 (A2 (A4 Z Z) Z (A2 (D6 Z Z) Z (A2 (A4 Z Z) Z (A9 Z Z Z Z (fun hg=>by rw [hg];exact A4 Z Z) ?_))));refine A9 Z Z Z Z (fun hg=>by rw [hg];exact L9 Z Z) ?_;refine A2 (B4 Z (fun h=>by first | rfl | (rw [h];rfl)) (fun h=>by first | rfl | (rw [h];rfl))) Z ?_;refine A2 (A4 Z Z) Z (A9 Z Z Z Z (fun hg=>by rw [hg];exact A4 Z Z) ?_);refine A9 Z Z Z Z (fun hg=>by rw [hg];exact D5 Z) ?_;refine A9 Z Z Z Z (fun hg=>by rw [hg];exact A4 Z Z) ?_;refine A9 Z Z Z Z (fun hg=>by rw [hg];exact D6 Z Z) ?_;refine A2 (B4 Z (fun h=>by first | rfl | (rw [h];rfl)) (fun h=>by first | rfl | (rw [h];rfl))) Z ?_;refine A6 ?_
 refine k1 ?_
 refine B2 rfl (fun ht=>?_) (fun ht=>?_)
 ·simp only [or_pick] at ht
  have h:=A0 ht
  refine k2 ?_
  refine A3 (A2 (F6 Z) Z (E3 (B7 TySz.out Z Z Z Z Z Z) (A2 (A5 Z Z) Z (A6 ?_))))
  refine k1 (k10 (k11 ?_))
  exact B5 (rs:=[pRow ⟨false,0,[]⟩,D3 false]) (L5 rfl rfl rfl rfl rfl rfl rfl) (b9 (I28 (by omega))).symm
 simp only [or_pick] at ht
 have h:=A1 ht
 obtain ⟨N,rfl⟩:∃N:Nat,n=N:=⟨n.toNat,by omega⟩
 have hN1:1≤N∧N≤32:=by omega
 have hN2:N≤s.length:=by omega
 refine R6 [(0,H4 s),(1,C3 N),(4,.s (.one (.ref 4 0)))] [(4,.box (pRow ⟨false,0,[]⟩).s1.cells)] (J48 ⟨le1 rfl,le1 rfl,le1 rfl,trivial⟩ ⟨rfl,trivial⟩) ?_
 refine k5 (k1 (k2 ?_))
 refine A3 (A2 (A5 Z Z) Z (A2 (A5 Z Z) Z (A6 ?_)))
 refine k1 (k2 (k2 ?_))
 refine A3 (A2 (A4 Z Z) Z (A2 (A4 Z Z) Z (A6 ?_)))
 refine k1 (k3 ?_)
 refine D1 (X:=Nat) (fun p=>([(0,H4 s),(1,C3 N),(4,.s (.one (.ref 4 0))),(6,J4 (.int .u32 (G3 43 s p:Nat))),(7,J4 (.int .u32 (G3 45 s p:Nat))),(22,C3 N),(23,C3 p)],[(4,.box (pRow ⟨false,0,[]⟩).s1.cells)])) (fun p=>p≤N∧(s.take p).all u5=true) (fun p=>N - p) 0 ⟨Nat.zero_le _,rfl⟩ (J48 ⟨le1 rfl,le1 rfl,le1 rfl,le1 rfl,le1 rfl,le1 rfl,le1 rfl,trivial⟩ ⟨rfl,trivial⟩) ?_
 rintro p ⟨hp,hq⟩
 dsimp only at hp hq ⊢
 have hl3:=E01 43 s p
 have hl5:=E01 45 s p
 refine k2 ?_
 refine A3 (A2 (D6 Z Z) Z (A6 ?_))
 refine k1 (k2 ?_)
 refine B2 rfl (fun ht=>?_) (fun ht=>?_)
 ·have hlt:p < N:=by have:=A0 ht;omega
  have hv:s[p]?=some s[p]:=by simp
  have hst3:=B96 hv 43
  have hst5:=B96 hv 45
  have hsg:=F79 hv
  rw [hq,Bool.true_and] at hsg
  have hsh:=I26 p (by omega)
  have ho3:=H93 hl3 (by omega)
  have ho5:=H93 hl5 (by omega)
  have hno:u5 s[p]=false→(s.take N).all u5=false:=fun hc=>I27 hlt hv hc
  obtain ⟨c,hcc⟩:∃c,c=s[p]:=⟨_,rfl⟩
  rw [←hcc] at hv hst3 hst5 hsg hno
  refine k5 (k1 (k2 (k3 (k2 ?_))))
  refine A3 (A2 (A4 Z Z) Z (A2 (A5 Z Z) Z (A6 ?_)))
  refine k1 (k2 ?_)
  refine A3 (A2 (A4 Z Z) Z (A2 (A4 Z Z) Z (A2 (E9 Z Z (by omega) hv) Z (A6 ?_))))
  refine k1 (k3 (k2 ?_))
  refine A3 (A2 (F1 Z Z) Z (A2 (A5 Z Z) Z (A6 ?_)))
  refine k1 ?_
  refine B2 rfl (fun ht=>?_) (fun ht=>?_)
  ·have hc:c=43:=by simpa only [ke43,decide_eq_true_eq] using ht
   rw [if_pos hc] at hst3
   rw [if_neg (by rw [hc];decide),Nat.add_zero (G3 45 s p)] at hst5
   skip
   refine A3 (A2 (A4 Z Z) Z (A2 (A4 Z Z) Z (A2 (D50 Z Z (by omega)) Z (A2 (T4 Z Z Z (fun _=>rfl)) Z (A2 (A5 Z Z) Z (A6 ?_))))))
   refine k4 (k4 (k1 ?_))
   refine A3 (A2 (C1 Z Z (by omega)) Z (A2 (A4 Z Z) Z (A6 ?_)))
   refine k1 ?_
   refine ⟨p+1,⟨by omega,by rw [hsg,hc];rfl⟩,by omega,?_⟩
   rw [hst3,hst5,←ho3,←hsh]
   exact J48 ⟨le1 rfl,le1 rfl,le1 rfl,le1 rfl,le1 rfl,le1 rfl,le1 rfl,trivial⟩ ⟨rfl,trivial⟩
  have hc3:c≠43:=by simpa only [ke43,decide_eq_false_iff_not] using ht
  rw [if_neg hc3,Nat.add_zero (G3 43 s p)] at hst3
  refine k2 ?_
  refine A3 (A2 (F1 Z Z) Z (A2 (A5 Z Z) Z (A6 ?_)))
  refine k1 ?_
  refine B2 rfl (fun ht=>?_) (fun ht=>?_)
  ·have hc:c=45:=by simpa only [ke45,decide_eq_true_eq] using ht
   rw [if_pos hc] at hst5
   skip
   refine A3 (A2 (A4 Z Z) Z (A2 (A4 Z Z) Z (A2 (D50 Z Z (by omega)) Z (A2 (T4 Z Z Z (fun _=>rfl)) Z (A2 (A5 Z Z) Z (A6 ?_))))))
   refine k4 (k4 (k1 ?_))
   refine A3 (A2 (C1 Z Z (by omega)) Z (A2 (A4 Z Z) Z (A6 ?_)))
   refine k1 ?_
   refine ⟨p+1,⟨by omega,by rw [hsg,hc];rfl⟩,by omega,?_⟩
   rw [hst3,hst5,←ho5,←hsh]
   exact J48 ⟨le1 rfl,le1 rfl,le1 rfl,le1 rfl,le1 rfl,le1 rfl,le1 rfl,trivial⟩ ⟨rfl,trivial⟩
  have hc5:c≠45:=by simpa only [ke45,decide_eq_false_iff_not] using ht
  rw [if_neg hc5,Nat.add_zero (G3 45 s p)] at hst5
  refine k2 ?_
  refine A3 (A2 (F1 Z Z) Z (A2 (A5 Z Z) Z (A6 ?_)))
  refine k1 ?_
  refine B2 rfl (fun ht=>?_) (fun ht=>?_)
  ·have hc:c=32:=by simpa only [ke32,decide_eq_true_eq] using ht
   refine k5 (k4 (k4 (k1 ?_)))
   refine A3 (A2 (C1 Z Z (by omega)) Z (A2 (A4 Z Z) Z (A6 ?_)))
   refine k1 ?_
   refine ⟨p+1,⟨by omega,by rw [hsg,hc];rfl⟩,by omega,?_⟩
   rw [hst3,hst5]
   exact J48 ⟨le1 rfl,le1 rfl,le1 rfl,le1 rfl,le1 rfl,le1 rfl,le1 rfl,trivial⟩ ⟨rfl,trivial⟩
  have hc2:c≠32:=by simpa only [ke32,decide_eq_false_iff_not] using ht
  refine k2 ?_
  refine A3 (A2 (F6 Z) Z (E3 (B7 TySz.out Z Z Z Z Z Z) (A2 (A5 Z Z) Z (A6 ?_))))
  refine k1 (k10 (k12 (k12 (k11 (k11 (k12 (k11 ?_)))))))
  exact B5 (rs:=[pRow ⟨false,0,[]⟩,D3 false]) (L5 rfl rfl rfl rfl rfl rfl rfl) (b9 (F80 (hno (by unfold u5;simp [hc2,hc3,hc5])))).symm
 ·have hpN:p=N:=by have:=A1 ht;omega
  subst hpN
  refine k6 (k2 (k2 ?_))
  refine A3 (A2 (A4 Z Z) Z (A2 (L4 Z Z) Z (A2 (A4 Z Z) Z (A9 Z Z Z Z (fun hg=>by rw [hg];exact A4 Z Z) ?_))));refine A9 Z Z Z Z (fun hg=>by rw [hg];exact L4 Z Z) ?_;refine A2 (B4 Z (fun h=>by first | rfl | (rw [h];rfl)) (fun h=>by first | rfl | (rw [h];rfl))) Z ?_;refine A6 ?_
  refine k1 ?_
  refine B2 rfl (fun ht=>?_) (fun ht=>?_)
  ·simp only [I3] at ht
   have h2:=A0 ht
   refine k2 ?_
   refine A3 (A2 (F6 Z) Z (E3 (B7 TySz.out Z Z Z Z Z Z) (A2 (A5 Z Z) Z (A6 ?_))))
   refine k1 (k10 (k11 ?_))
   exact B5 (rs:=[pRow ⟨false,0,[]⟩,D3 false]) (L5 rfl rfl rfl rfl rfl rfl rfl) (b9 (F81 (by omega))).symm
  ·simp only [I3] at ht
   have h2:=A1 ht
   have h2':¬(G3 43 s p≠0∧G3 45 s p≠0):=by omega
   have hor:=bits_or hN1.2 h2'
   have hyes:=H24 hN1 hN2 hq h2'
   refine k5 (k1 (k2 ?_))
   refine A3 (A2 (A4 Z Z) Z (A2 (L4 Z Z) Z (A2 (A4 Z Z) Z (A2 (A4 Z Z) Z (A2 (T4 Z Z Z (fun _=>rfl)) Z (A2 (A4 Z Z) Z (A2 (A4 Z Z) Z (A2 (V2 Z Z (by omega) (by omega)) Z (A2 (F6 Z) Z (E3 (B7 TySz.out Z Z Z Z Z Z) (A2 (A5 Z Z) Z (A6 ?_))))))))))))
   refine k1 (k10 ?_)
   refine B5 (rs:=[pRow ⟨decide ((G3 45 s p:Int)≠0),V0 (G3 43 s p:Nat) (G3 45 s p:Nat),s.drop p⟩,D3 true]) (L5 Z Z Z Z Z Z Z) ?_
   rw [A77 hyes,hor]
   congr 3
   exact decide_eq_decide.2 (by omega)
theorem rRow_ok (s:Str) (n:Int):FnOk Tryz.prog 41 [F5 s,E2 n] (fun rs=>rs=rowR s n):=by
 refine FnOk.intro Tryz.func41 (by decide) Z Z Z Z ?_
 refine k2 ?_
 refine A3 (C2 (G1 4 Z) Z (A2 (A5 Z Z) Z (A6 ?_)))
 refine k1 (k2 (k2 ?_))
 refine A3 (A2 (A4 Z Z) Z (A2 (D6 Z Z) Z (A2 (A4 Z Z) Z (A9 Z Z Z Z (fun hg=>by rw [hg];exact A4 Z Z) ?_))));refine A9 Z Z Z Z (fun hg=>by rw [hg];exact L9 Z Z) ?_;refine A2 (B4 Z (fun h=>by first | rfl | (rw [h];rfl)) (fun h=>by first | rfl | (rw [h];rfl))) Z ?_;refine A2 (A4 Z Z) Z (A9 Z Z Z Z (fun hg=>by rw [hg];exact A4 Z Z) ?_);refine A9 Z Z Z Z (fun hg=>by rw [hg];exact D5 Z) ?_;refine A9 Z Z Z Z (fun hg=>by rw [hg];exact A4 Z Z) ?_;refine A9 Z Z Z Z (fun hg=>by rw [hg];exact D6 Z Z) ?_;refine A2 (B4 Z (fun h=>by first | rfl | (rw [h];rfl)) (fun h=>by first | rfl | (rw [h];rfl))) Z ?_;refine A6 ?_
 refine k1 ?_
 refine B2 rfl (fun ht=>?_) (fun ht=>?_)
 ·simp only [or_pick] at ht
  have h:=A0 ht
  refine k2 ?_
  refine A3 (A2 (F6 Z) Z (E3 (B7 TySz.out Z Z Z Z Z Z) (A2 (A5 Z Z) Z (A6 ?_))))
  refine k1 (k10 (k11 ?_))
  exact B5 (rs:=[pRow ⟨false,0,[]⟩,D3 false]) (L5 rfl rfl rfl rfl rfl rfl rfl) (b9 (I28 (by omega))).symm
 simp only [or_pick] at ht
 have h:=A1 ht
 obtain ⟨N,rfl⟩:∃N:Nat,n=N:=⟨n.toNat,by omega⟩
 have hN1:1≤N∧N≤32:=by omega
 have hN2:N≤s.length:=by omega
 refine R6 [(0,H4 s),(1,C3 N),(4,.s (.one (.ref 4 0)))] [(4,.box (pRow ⟨false,0,[]⟩).s1.cells)] (J48 ⟨le1 rfl,le1 rfl,le1 rfl,trivial⟩ ⟨rfl,trivial⟩) ?_
 refine k5 (k1 (k2 ?_))
 refine A3 (A2 (A4 Z Z) Z (A2 (A4 Z Z) Z (A2 (V2 Z Z (by omega) (by omega)) Z (A2 (F6 Z) Z (C2 (G1 6 Z) Z (E3 (B7 TySz.out Z Z Z Z Z Z) (A6 ?_)))))))
 refine k1 (k2 ?_)
 refine A3 (A2 (A5 Z Z) Z (A6 ?_))
 refine k1 (k2 (k2 ?_))
 refine A3 (A2 (A5 Z Z) Z (A6 ?_))
 refine k1 (k3 ?_)
 refine D1 (X:=Nat) (fun p=>([(0,H4 s),(1,C3 N),(4,.s (.one (.ref 4 0))),(6,.s (.one (.ref 6 0))),(7,Q5 (decide (G3 43 s p≠0))),(8,C3 p)],[(4,.box (pRow ⟨false,0,[]⟩).s1.cells),(6,.box (pRow ⟨decide (G3 45 s p≠0),((G3 43 s p+G3 45 s p:Nat):Int),s.drop N⟩).s1.cells)])) (fun p=>p≤N∧(s.take p).all u5=true) (fun p=>N - p) 0 ⟨Nat.zero_le _,rfl⟩ (J48 ⟨le1 rfl,le1 rfl,le1 rfl,le1 rfl,le1 rfl,le1 rfl,trivial⟩ ⟨rfl,rfl,trivial⟩) ?_
 rintro p ⟨hp,hq⟩
 dsimp only at hp hq ⊢
 have hlb:=E71 (c:=43) (d:=45) (by decide) s p
 refine k2 (k2 ?_)
 refine A3 (A2 (A4 Z Z) Z (A2 (A4 Z Z) Z (A2 (D6 Z Z) Z (A6 ?_))))
 refine k1 ?_
 refine B2 rfl (fun ht=>?_) (fun ht=>?_)
 ·have hlt:p < N:=by have:=A0 ht;omega
  have hv:s[p]?=some s[p]:=by simp
  have hst3:=B96 hv 43
  have hst5:=B96 hv 45
  have hsg:=F79 hv
  rw [hq,Bool.true_and] at hsg
  have hbt:=H92 p (by omega)
  have hob:=H93 hlb (by omega)
  have hpos:0 < 2 ^ p:=Nat.pow_pos (by decide)
  have hno:u5 s[p]=false→(s.take N).all u5=false:=fun hc=>I27 hlt hv hc
  have hu:=A61 (n:=(p:Int)) (by omega)
  obtain ⟨c,hcc⟩:∃c,c=s[p]:=⟨_,rfl⟩
  rw [←hcc] at hv hst3 hst5 hsg hno
  refine k5 (k1 (k2 (k3 (k2 (k2 ?_)))))
  refine A3 (A2 (A4 Z Z) Z (A2 (A4 Z Z) Z (A2 (E9 Z Z (by omega) hv) Z (A6 ?_))))
  refine k1 (k3 (k2 ?_))
  refine A3 (A2 (F1 Z Z) Z (A2 (A5 Z Z) Z (A6 ?_)))
  refine k1 ?_
  refine B2 rfl (fun ht=>?_) (fun ht=>?_)
  ·have hc:c=32:=by simpa only [ke32,decide_eq_true_eq] using ht
   rw [if_neg (by rw [hc];decide),Nat.add_zero (G3 43 s p)] at hst3
   rw [if_neg (by rw [hc];decide),Nat.add_zero (G3 45 s p)] at hst5
   refine k6 (k9 Z (k7 (k8 Z (k1 ?_))))
   refine A3 (A2 (A4 Z Z) Z (A2 (C1 Z Z (by omega)) Z (A2 (A5 Z Z) Z (A6 ?_))))
   refine k1 ?_
   refine ⟨p+1,⟨by omega,by rw [hsg,hc];rfl⟩,by omega,?_⟩
   rw [hst3,hst5]
   exact J48 ⟨le1 rfl,le1 rfl,le1 rfl,le1 rfl,le1 rfl,le1 rfl,trivial⟩ ⟨rfl,rfl,trivial⟩
  have hc2:c≠32:=by simpa only [ke32,decide_eq_false_iff_not] using ht
  refine k2 ?_
  refine A3 (A2 (F1 Z Z) Z (A2 (A5 Z Z) Z (A6 ?_)))
  refine k1 ?_
  refine B2 rfl (fun ht=>?_) (fun ht=>?_)
  ·have hc:c=43:=by simpa only [ke43,decide_eq_true_eq] using ht
   rw [if_pos hc] at hst3
   rw [if_neg (by rw [hc];decide),Nat.add_zero (G3 45 s p)] at hst5
   skip
   refine A3 (A2 (A5 Z Z) Z (A6 ?_))
   refine k4 (k1 ?_)
   refine A3 (A2 (A7 Z) Z (A2 (B0 Z Z Z) Z (A2 (A4 Z Z) Z (A2 (I1 Z) Z (A2 (D50 Z Z (by (rw [hu];omega))) Z ?_)))));refine A2 (T4 Z Z Z (fun _=>rfl)) Z (A2 (A7 Z) Z (E3 (B7 TySz.out Z Z Z Z Z Z) (A6 ?_)))
   refine k4 (k1 ?_)
   refine A3 (A2 (A4 Z Z) Z (A2 (C1 Z Z (by omega)) Z (A2 (A5 Z Z) Z (A6 ?_))))
   refine k1 ?_
   refine ⟨p+1,⟨by omega,by rw [hsg,hc];rfl⟩,by omega,?_⟩
   rw [hst3,hst5,show G3 43 s p+2 ^ p+G3 45 s p=G3 43 s p+G3 45 s p+2 ^ p by omega,←hob,←hbt,show decide (G3 43 s p+2 ^ p≠0)=true from decide_eq_true (by omega)]
   exact J48 ⟨le1 rfl,le1 rfl,le1 rfl,le1 rfl,le1 rfl,le1 rfl,trivial⟩ ⟨rfl,rfl,trivial⟩
  have hc3:c≠43:=by simpa only [ke43,decide_eq_false_iff_not] using ht
  rw [if_neg hc3,Nat.add_zero (G3 43 s p)] at hst3
  refine k2 ?_
  refine A3 (A2 (F1 Z Z) Z (A2 (A5 Z Z) Z (A6 ?_)))
  refine k1 ?_
  refine B2 rfl (fun ht=>?_) (fun ht=>?_)
  ·have hc:c=45:=by simpa only [ke45,decide_eq_true_eq] using ht
   rw [if_pos hc] at hst5
   skip
   refine A3 (A2 (A7 Z) Z (E3 (B7 TySz.out Z Z Z Z Z Z) (A6 ?_)))
   refine k4 (k1 ?_)
   refine A3 (A2 (A7 Z) Z (A2 (B0 Z Z Z) Z (A2 (A4 Z Z) Z (A2 (I1 Z) Z (A2 (D50 Z Z (by (rw [hu];omega))) Z ?_)))));refine A2 (T4 Z Z Z (fun _=>rfl)) Z (A2 (A7 Z) Z (E3 (B7 TySz.out Z Z Z Z Z Z) (A6 ?_)))
   refine k4 (k1 ?_)
   refine A3 (A2 (A4 Z Z) Z (A2 (C1 Z Z (by omega)) Z (A2 (A5 Z Z) Z (A6 ?_))))
   refine k1 ?_
   refine ⟨p+1,⟨by omega,by rw [hsg,hc];rfl⟩,by omega,?_⟩
   rw [hst3,hst5,←Nat.add_assoc,←hob,←hbt,show decide (G3 45 s p+2 ^ p≠0)=true from decide_eq_true (by omega)]
   exact J48 ⟨le1 rfl,le1 rfl,le1 rfl,le1 rfl,le1 rfl,le1 rfl,trivial⟩ ⟨rfl,rfl,trivial⟩
  have hc5:c≠45:=by simpa only [ke45,decide_eq_false_iff_not] using ht
  refine k2 ?_
  refine A3 (A2 (F6 Z) Z (E3 (B7 TySz.out Z Z Z Z Z Z) (A2 (A5 Z Z) Z (A6 ?_))))
  refine k1 (k10 (k12 (k11 (k12 (k11 (k11 (k12 (k11 ?_))))))))
  exact B5 (rs:=[pRow ⟨false,0,[]⟩,D3 false]) (L5 rfl rfl rfl rfl rfl rfl rfl) (b9 (F80 (hno (by unfold u5;simp [hc2,hc3,hc5])))).symm
 ·have hpN:p=N:=by have:=A1 ht;omega
  subst hpN
  refine k6 (k2 (k2 ?_))
  refine A3 (A2 (A4 Z Z) Z (A2 (A4 Z Z) Z (A9 Z Z Z Z (fun hg=>by rw [hg];exact A7 Z) ?_)));refine A9 Z Z Z Z (fun hg=>by rw [hg];exact B0 Z Z Z) ?_;refine A2 (B4 Z (fun h=>by first | rfl | (rw [h];rfl)) (fun h=>by first | rfl | (rw [h];rfl))) Z ?_;refine A6 ?_
  refine k1 ?_
  refine B2 rfl (fun ht=>?_) (fun ht=>?_)
  ·simp only [I3] at ht
   have h2:=A0 ht
   refine k2 ?_
   refine A3 (A2 (F6 Z) Z (E3 (B7 TySz.out Z Z Z Z Z Z) (A2 (A5 Z Z) Z (A6 ?_))))
   refine k1 (k10 (k11 ?_))
   exact B5 (rs:=[pRow ⟨false,0,[]⟩,D3 false]) (L5 rfl rfl rfl rfl rfl rfl rfl) (b9 (F81 h2)).symm
  ·simp only [I3] at ht
   have h2:=A1 ht
   have hyes:=H24 hN1 hN2 hq h2
   refine k5 (k1 (k2 ?_))
   refine A3 (A2 (C7 Z Z Z) Z (E3 (B7 TySz.out Z Z Z Z Z Z) (A2 (A5 Z Z) Z (A6 ?_))))
   refine k1 (k10 ?_)
   exact B5 (L5 rfl rfl rfl rfl rfl rfl rfl) (A77 hyes).symm
theorem C31 (k n:Nat):FnOk Tryz.prog 117 [E2 k,E2 n] (fun rs=>rs=[E2 (L0 n k)]):=by
 refine FnOk.intro Tryz.func117 (by decide) Z Z Z Z ?_
 refine k2 ?_
 refine A3 (A2 (A5 Z Z) Z (A6 ?_))
 refine k1 (k2 (k2 ?_))
 refine A3 (A2 (A4 Z Z) Z (A2 (A4 Z Z) Z (A2 (F1 Z Z) Z (A6 ?_))))
 refine k1 ?_
 refine B2 rfl (fun ht=>?_) (fun ht=>?_)
 ·have h:=A0 ht
  refine k2 ?_
  refine A3 (A2 (A5 Z Z) Z (A6 ?_))
  refine k1 (k10 (k11 ?_))
  exact B5 (rs:=[E2 (-1)]) (F8 rfl rfl rfl) (by unfold L0;rw [if_pos (by omega)])
 ·have h:=A1 ht
  refine k5 (k1 (k2 ?_))
  refine A3 (A2 (A4 Z Z) Z (A2 (A5 Z Z) Z (A6 ?_)))
  refine k1 (k10 ?_)
  exact B5 (F8 rfl rfl rfl) (by unfold L0;rw [if_neg (by omega)])
theorem G68 (c:Comb) (hn:0≤c.Parents∧c.Parents≤32) (hr:∀h∈c.Hunks,I9 h.Rows) (hz:szC c.Hunks≤268435456):FnOk Tryz.prog 101 [I5 c] (fun rs=>rs=[D3 (Y3 c.Parents.toNat c.Hunks)]):=by
 obtain ⟨n,hN⟩:∃n,n=c.Parents.toNat:=⟨_,rfl⟩
 rw [←hN]
 have hzl:=A14 c.Hunks
 refine FnOk.intro Tryz.func101 (by decide) Z Z Z Z ?_
 refine k2 ?_
 refine A3 (C2 (P6 1 Z Z Z) Z (A2 (A5 Z Z) Z (A6 ?_)))
 refine k1 (k2 (k2 ?_))
 refine A3 (A2 (A5 Z Z) Z (A6 ?_))
 refine k1 (k3 ?_)
 refine D1 (X:=Nat) (fun k=>([(1,.s (.one (.ref 1 0))),(3,C3 k)],[(1,A59 c)])) (fun k=>k≤c.Hunks.length∧Y3 n c.Hunks=Y3 n (c.Hunks.drop k)) (fun k=>c.Hunks.length - k) 0 ⟨Nat.zero_le _,rfl⟩ (J48 ⟨le1 rfl,le1 rfl,trivial⟩ ⟨rfl,trivial⟩) ?_
 rintro k ⟨hk,hp⟩
 dsimp only at hk hp ⊢
 refine k2 (k2 ?_)
 refine A3 (A2 (A4 Z Z) Z (A2 (A7 Z) Z (A2 (B0 Z Z Z) Z (A2 (F2 Z (.pure _ _ _ _)) Z (A2 (D6 Z Z) Z (A6 ?_))))))
 refine k1 ?_
 refine B2 rfl (fun ht=>?_) (fun ht=>?_)
 ·have hlt:k < c.Hunks.length:=by have:=A0 ht;omega
  have hv:c.Hunks[k]?=some c.Hunks[k]:=by simp [hlt]
  have hrw:=hr _ (J96 hlt)
  rw [J84 hlt] at hp
  obtain ⟨h,hx⟩:∃x,x=c.Hunks[k]:=⟨_,rfl⟩
  rw [←hx] at hv hrw hp
  have hp:Y3 n c.Hunks=(N7 h.Rows n&&Y3 n (c.Hunks.drop (k+1))):=hp
  have hm:=E33 h.Rows c.Parents hn hrw
  rw [←hN] at hm
  refine k5 (k1 (k2 (k3 (k2 ?_))))
  refine C4 (by kernel_rfl) (by kernel_rfl) (A8 (A7 Z) Z Z (A8 (B0 Z Z Z) Z Z (A8 (A4 Z Z) Z Z (A8 (B3 Z (.pure _ _ _ _) Z (by omega) hv) Z Z (A8 (E1 Z) Z Z (A8 (B6 Z Z) Z Z (A8 (A7 Z) Z Z (A8 (B0 Z Z Z) Z Z (A8 (G7 (hm) Z Z) Z Z (A8 (E4 Z) Z Z (H9 ?_)))))))))))
  refine k1 ?_
  refine B2 rfl (fun ht=>?_) (fun ht=>?_)
  ·have h2:N7 h.Rows n=false:=by simpa using ht
   rw [h2,Bool.false_and] at hp
   refine k2 ?_
   refine A3 (A2 (A5 Z Z) Z (A6 ?_))
   refine k1 (k10 (k12 (k11 (k11 (k12 (k11 ?_))))))
   exact B5 (F8 rfl rfl rfl) (by rw [hp])
  ·have h2:N7 h.Rows n=true:=by simpa using ht
   rw [h2,Bool.true_and] at hp
   refine k5 (k4 (k1 ?_))
   refine A3 (A2 (A4 Z Z) Z (A2 (C1 Z Z (by omega)) Z (A2 (A5 Z Z) Z (A6 ?_))))
   refine k1 ?_
   exact ⟨k+1,⟨by omega,hp⟩,by omega,J48 ⟨le1 rfl,le1 rfl,trivial⟩ ⟨rfl,trivial⟩⟩
 ·have hkl:k=c.Hunks.length:=by have:=A1 ht;omega
  rw [hkl,J87 (Nat.le_refl _)] at hp
  refine k6 (k2 ?_)
  refine A3 (A2 (A5 Z Z) Z (A6 ?_))
  refine k1 (k10 ?_)
  exact B5 (F8 rfl rfl rfl) (by rw [hp];rfl)
def X0 (n:Nat) (ends:List Int) (h:CHunk) (k:Nat):List Int:=(List.range (n+1)).map fun j=>if j < k then h.At.getD j 0+M3 h.Rows n j else ends.getD j 0
theorem D61 (n:Nat) (ends:List Int) (h:CHunk) (k:Nat):(X0 n ends h k).length=n+1:=by unfold X0;simp
theorem G06 {n:Nat} {ends:List Int} (h:CHunk) (hl:ends.length=n+1):X0 n ends h 0=ends:=by
 unfold X0
 refine List.ext_getElem (by simp [hl]) fun k h1 h2=>?_
 rw [List.getElem_map,List.getElem_range,if_neg (by omega),J82,J79 h2];rfl
theorem G69 (n:Nat) (ends:List Int) (h:CHunk) (k:Nat) (hk:k < n+1):(X0 n ends h k)[k]?=some (ends.getD k 0):=by
 unfold X0
 rw [K11,K14 hk];simp
theorem G07 (n:Nat) (ends:List Int) (h:CHunk) (k:Nat) (hk:k < n+1):(X0 n ends h (k+1))[k]?=some (h.At.getD k 0+M3 h.Rows n k):=by
 unfold X0
 rw [K11,K14 hk];simp
theorem G70 (n:Nat) (ends:List Int) (h:CHunk) (k:Nat):(X0 n ends h k).set k (h.At.getD k 0+M3 h.Rows n k)=X0 n ends h (k+1):=by
 unfold X0
 rw [B25]
 refine List.map_congr_left fun j hj=>?_
 by_cases e:j=k
 ·subst e;rw [if_pos rfl,if_pos (by omega)]
 ·rw [if_neg e]
  by_cases h3:j < k
  ·rw [if_pos h3,if_pos (by omega)]
  ·rw [if_neg h3,if_neg (by omega)]
theorem G08 (n:Nat) (ends:List Int) (h:CHunk):X0 n ends h (n+1)=W2 n h:=by
 unfold X0 W2
 refine List.map_congr_left fun k hk=>?_
 rw [if_pos (List.mem_range.1 hk)]
theorem H51 (n:Nat) (ends:List Int) (h:CHunk):A64 n ends h=true↔(h.At.length=n+1∧h.Rows≠[])∧∀k,k < n+1→(ends.getD k 0≤h.At.getD k 0∧h.At.getD k 0≤4096)∧h.At.getD k 0+M3 h.Rows n k≤4096:=by
 unfold A64
 simp only [J80,decide_eq_true_eq,List.all_eq_true,List.mem_range]
theorem C32:∀(hs:List CHunk),((K0 hs).map N0).sum≤szC hs
 | []=>by simp [K0,szC]
 | h::r=>by
  have ih:=C32 r
  have e1:K0 (h::r)=h.Rows++K0 r:=by simp [K0]
  have e2:szC (h::r)=A65 h+szC r:=by simp [szC]
  have e3:(h.Rows.map N0).sum≤A65 h:=by unfold A65;exact Nat.le_add_left _ _
  rw [e1,e2,J92,K15]
  exact Nat.add_le_add e3 ih
theorem G09 (hs:List CHunk) (k:Nat) (h:k < hs.length):K0 (hs.take (k+1))=K0 (hs.take k)++hs[k].Rows:=by
 unfold K0
 rw [J86 h,J92,K04];simp
theorem G71 (c:Comb) (hn:1≤c.Parents∧c.Parents≤32) (hr:∀h∈c.Hunks,I9 h.Rows) (hz:szC c.Hunks≤268435456) :
  FnOk Tryz.prog 102 [I5 c] (fun rs=>rs=[D3 (Q6 c.Parents.toNat c.Hunks)]):=by
 obtain ⟨n,hN⟩:∃n,n=c.Parents.toNat:=⟨_,rfl⟩
 have hNc:c.Parents=(n:Int):=by omega
 rw [←hN]
 have e0:(c.Parents+1).toNat=n+1:=by omega
 have hzl:=A14 c.Hunks
 have hsa:=C32 c.Hunks
 have hfalse:∀{A B:Bool} {Y:Prop},A=false→[D3 false]=[D3 (A&&B)]:=fun h=>by rw [h];rfl
 refine FnOk.intro Tryz.func102 (by decide) Z Z Z Z ?_
 refine k2 ?_
 refine A3 (C2 (P6 1 Z Z Z) Z (A2 (A5 Z Z) Z (A6 ?_)))
 refine k1 (k2 ?_)
 refine A3 (C2 (V3 721 _ rowC Z) Z (A6 ?_))
 refine k1 (k2 ?_)
 refine A3 (A2 (A7 Z) Z (A2 (B0 Z Z Z) Z (A2 (C1 Z Z (by omega)) Z (C2 (o7 720 Int H1 0 Z Z (by omega) (by omega) (fun _=>by first | exact ⟨⟨rfl,rfl⟩,trivial⟩ | exact ⟨P4 _ _ _,trivial⟩) (by first | rfl | (simp [H3,J8,Ob.free,SV.free,S1.free,TC.free]<;>rfl))) Z ?_))));refine A2 (A5 Z Z) Z (A6 ?_)
 rw [e0]
 refine k1 (k2 (k2 ?_))
 refine A3 (A2 (A5 Z Z) Z (A6 ?_))
 refine k1 (k3 ?_)
 refine D1 (X:=Nat × List Int) (fun x=>([(1,.s (.one (.ref 1 0))),(3,.s (.one (.buf 721 Row 3 rowC (K0 (c.Hunks.take x.1))))),(4,.s (.one (.mut 720))),(5,C3 x.1)],[(1,A59 c),(720,.arr Int 1 H1 x.2),(721,.spare (K0 (c.Hunks.take x.1)).length 3 69)])) (fun x=>x.1≤c.Hunks.length∧x.2.length=n+1∧(∀e∈x.2,0≤e)∧X7 n (List.replicate (n+1) 0) c.Hunks=X7 n x.2 (c.Hunks.drop x.1)) (fun x=>c.Hunks.length - x.1) (0,List.replicate (n+1) 0) ⟨Nat.zero_le _,by simp,fun e he=>by have:=(List.mem_replicate.1 he).2;omega,rfl⟩ (J48 ⟨le1 rfl,le1 rfl,le1 rfl,le1 rfl,trivial⟩ ⟨rfl,rfl,rfl,trivial⟩) ?_
 rintro ⟨k,ends⟩ ⟨hk,hel,he0,hp⟩
 dsimp only at hk hel he0 hp ⊢
 refine k2 (k2 ?_)
 refine A3 (A2 (A4 Z Z) Z (A2 (A7 Z) Z (A2 (B0 Z Z Z) Z (A2 (F2 Z (.pure _ _ _ _)) Z (A2 (D6 Z Z) Z (A6 ?_))))))
 refine k1 ?_
 refine B2 rfl (fun ht=>?_) (fun ht=>?_)
 ·have hlt:k < c.Hunks.length:=by have:=A0 ht;omega
  have hv:c.Hunks[k]?=some c.Hunks[k]:=by simp [hlt]
  have hmem:=J96 hlt
  have hrw:=hr _ hmem
  have hzm:=A53 hmem
  have hat:=G09 c.Hunks k hlt
  have hst:=C32 (c.Hunks.take k)
  have hst2:=E80 c.Hunks k
  have hst3:=T9 (K0 (c.Hunks.take k))
  rw [J84 hlt,X7] at hp
  obtain ⟨h,hx⟩:∃x,x=c.Hunks[k]:=⟨_,rfl⟩
  rw [←hx] at hv hrw hzm hp hat
  have hz1:=T9 h.Rows
  unfold A65 at hzm
  have hno:A64 n ends h=false→[D3 false]=[D3 (Q6 n c.Hunks)]:=fun e=>by
   unfold Q6;rw [hp,e];rfl
  have hiff:=H51 n ends h
  refine k5 (k1 (k2 (k3 (k2 ?_))))
  refine A3 (A2 (A7 Z) Z (A2 (B0 Z Z Z) Z (A2 (A4 Z Z) Z (A2 (B3 Z (.pure _ _ _ _) Z (by omega) hv) Z (A2 (H2 Z Z) Z (C2 (G1 6 Z) Z (E3 (B7 TySz.out Z Z Z Z Z Z) (A6 ?_))))))))
  refine k1 (k2 (k2 ?_))
  refine A3 (A2 (A7 Z) Z (A2 (B0 Z Z Z) Z (A2 (F2 Z (.pure _ _ _ _)) Z (A2 (A7 Z) Z (A2 (B0 Z Z Z) Z (A2 (C1 Z Z (by omega)) Z (A2 (L4 Z Z) Z (A2 (A4 Z Z) Z (A9 Z Z Z Z (fun hg=>by rw [hg];exact A7 Z) ?_)))))))));refine A9 Z Z Z Z (fun hg=>by rw [hg];exact B0 Z Z Z) ?_;refine A9 Z Z Z Z (fun hg=>by rw [hg];exact F2 Z (.pure _ _ _ _)) ?_;refine A9 Z Z Z Z (fun hg=>by rw [hg];exact F1 Z Z) ?_;refine A2 (B4 Z (fun h=>by first | rfl | (rw [h];rfl)) (fun h=>by first | rfl | (rw [h];rfl))) Z ?_;refine A6 ?_
  refine k1 ?_
  refine B2 rfl (fun ht=>?_) (fun ht=>?_)
  ·have h1:=A0 (or_pick.symm.trans ht)
   refine k2 ?_
   refine A3 (A2 (A5 Z Z) Z (A6 ?_))
   refine k1 (k10 (k11 (k12 (k11 (k11 (k12 (k11 ?_)))))))
   refine B5 (F8 rfl rfl rfl) (hno ?_)
   rw [Bool.eq_false_iff]
   intro hq
   have h2:=(hiff.1 hq).1
   rcases h1 with h1 | h1
   ·omega
   ·exact h2.2 (List.length_eq_zero_iff.1 (by omega))
  have h1:=A1 (or_pick.symm.trans ht)
  simp only [not_or,Decidable.not_not] at h1
  have hal:h.At.length=n+1:=by omega
  have hne:h.Rows≠[]:=fun e=>h1.2 (by rw [e];rfl)
  refine R6 [(1,.s (.one (.ref 1 0))),(3,.s (.one (.buf 721 Row 3 rowC (K0 (c.Hunks.take k))))),(4,.s (.one (.mut 720))),(5,C3 k),(6,.s (.one (.ref 6 0)))] [(1,A59 c),(720,.arr Int 1 H1 ends),(721,.spare (K0 (c.Hunks.take k)).length 3 69),(6,.box (B21 h).s1.cells)] (J48 ⟨le1 rfl,le1 rfl,le1 rfl,le1 rfl,le1 rfl,trivial⟩ ⟨rfl,rfl,rfl,rfl,trivial⟩) ?_
  refine k5 (k1 (k2 (k2 ?_)))
  refine A3 (A2 (A5 Z Z) Z (A6 ?_))
  refine k1 (k3 ?_)
  refine D1 (X:=Nat) (fun j=>([(1,.s (.one (.ref 1 0))),(3,.s (.one (.buf 721 Row 3 rowC (K0 (c.Hunks.take k))))),(4,.s (.one (.mut 720))),(5,C3 k),(6,.s (.one (.ref 6 0))),(7,C3 j)],[(1,A59 c),(720,.arr Int 1 H1 (X0 n ends h j)),(721,.spare (K0 (c.Hunks.take k)).length 3 69),(6,.box (B21 h).s1.cells)])) (fun j=>j≤n+1∧∀i,i < j→(ends.getD i 0≤h.At.getD i 0∧h.At.getD i 0≤4096)∧h.At.getD i 0+M3 h.Rows n i≤4096) (fun j=>n+1 - j) 0 ⟨Nat.zero_le _,fun i hi=>by omega⟩ (by rw [G06 h hel];exact J48 ⟨le1 rfl,le1 rfl,le1 rfl,le1 rfl,le1 rfl,le1 rfl,trivial⟩ ⟨rfl,rfl,rfl,rfl,trivial⟩) ?_
  rintro j ⟨hj,hq⟩
  dsimp only at hj hq ⊢
  have hml:=D61 n ends h j
  refine k2 (k2 ?_)
  refine A3 (A2 (A4 Z Z) Z (A2 (A7 Z) Z (A2 (B0 Z Z Z) Z (A2 (m8 Z Z) Z (A6 ?_)))))
  refine k1 ?_
  refine B2 rfl (fun ht=>?_) (fun ht=>?_)
  ·have hlt2:j < n+1:=by have:=A0 ht;omega
   have hva:=D04 (l:=h.At) (i:=j) (by omega)
   have hge:=G69 n ends h j hlt2
   have hge1:=G07 n ends h j hlt2
   have hset:=G70 n ends h j
   have hml1:=D61 n ends h (j+1)
   have hej:0≤ends.getD j 0:=he0 _ (J93 (D04 (l:=ends) (i:=j) (by omega)))
   have hcl:=C43 h.Rows n j
   have hcol:=A44 h.Rows (L0 n j) hrw (by omega)
   have hcn:=C31 j n
   rw [←hNc] at hcn
   have hcc:((O5 h.Rows (L0 n j)).length:Int)=M3 h.Rows n j:=rfl
   obtain ⟨a,ha⟩:∃a,a=h.At.getD j 0:=⟨_,rfl⟩
   obtain ⟨e,hee⟩:∃e,e=ends.getD j 0:=⟨_,rfl⟩
   obtain ⟨q,hqq⟩:∃q,q=M3 h.Rows n j:=⟨_,rfl⟩
   have hno2:¬((e≤a∧a≤4096)∧a+q≤4096)→A64 n ends h=false:=fun hc=>by
    rw [Bool.eq_false_iff]
    intro hqq2
    have:=(hiff.1 hqq2).2 j hlt2
    rw [←ha,←hee,←hqq] at this
    exact hc this
   rw [←ha] at hva hge1 hset
   rw [←hee] at hge hej
   rw [←hqq] at hge1 hset hcl hcc
   refine k5 (k1 (k2 (k3 (k2 (k2 ?_)))))
   refine C4 (by kernel_rfl) (by kernel_rfl) (A8 (A7 Z) Z Z (A8 (B0 Z Z Z) Z Z (A8 (A4 Z Z) Z Z (A8 (B3 Z (.pure _ _ _ _) Z (by omega) hva) Z Z (A8 (B6 Z Z) Z Z (A8 (A4 Z Z) Z Z (A8 (A4 Z Z) Z Z (A8 (E8 Z Z Z (by omega) (by (rw [hml];omega))) Z Z ?_))))))));refine A8 (U1 Z Z hge Z) Z Z (A8 (D6 Z Z) Z Z (A8 (A4 Z Z) Z Z (C5 Z Z (fun hg=>by rw [hg];exact A7 Z) Z Z ?_)));refine C5 Z Z (fun hg=>by rw [hg];exact B0 Z Z Z) Z Z ?_;refine C5 Z Z (fun hg=>by rw [hg];exact A4 Z Z) Z Z ?_;refine C5 Z Z (fun hg=>by have hq:=hg;(try simp at hq);rw [hg];exact B3 Z (.pure _ _ _ _) Z (by omega) hva) Z Z ?_;refine C5 Z Z (fun hg=>by rw [hg];exact B6 Z Z) Z Z ?_;refine C5 Z Z (fun hg=>by rw [hg];exact L9 Z Z) Z Z ?_;refine A8 (B4 Z (fun h=>by first | rfl | (rw [h];rfl)) (fun h=>by first | rfl | (rw [h];rfl))) Z Z ?_;refine H9 ?_
   refine k1 ?_
   refine B2 rfl (fun ht=>?_) (fun ht=>?_)
   ·have h2:=A0 (or_pick.symm.trans ht)
    refine k2 ?_
    refine A3 (A2 (A5 Z Z) Z (A6 ?_))
    refine k1 (k10 (k11 (k12 (k11 (k11 (k12 (k11 (k12 (k11 (k11 (k12 (k11 ?_))))))))))))
    exact B5 (F8 rfl rfl rfl) (hno (hno2 (by omega)))
   have h2:=A1 (or_pick.symm.trans ht)
   refine R6 [(1,.s (.one (.ref 1 0))),(3,.s (.one (.buf 721 Row 3 rowC (K0 (c.Hunks.take k))))),(4,.s (.one (.mut 720))),(5,C3 k),(6,.s (.one (.ref 6 0))),(7,C3 j)] [(1,A59 c),(720,.arr Int 1 H1 (X0 n ends h j)),(721,.spare (K0 (c.Hunks.take k)).length 3 69),(6,.box (B21 h).s1.cells)] (J48 ⟨le1 rfl,le1 rfl,le1 rfl,le1 rfl,le1 rfl,le1 rfl,trivial⟩ ⟨rfl,rfl,rfl,rfl,trivial⟩) ?_
   refine k5 (k1 (k2 ?_))
   refine C4 (by kernel_rfl) (by kernel_rfl) (A8 (A4 Z Z) Z Z (A8 (A4 Z Z) Z Z (A8 (A7 Z) Z Z (A8 (B0 Z Z Z) Z Z (A8 (A4 Z Z) Z Z (A8 (B3 Z (.pure _ _ _ _) Z (by omega) hva) Z Z (A8 (B6 Z Z) Z Z (A8 (A7 Z) Z Z (A8 (B0 Z Z Z) Z Z (A8 (A4 Z Z) Z Z (A8 (A7 Z) Z Z (A8 (B0 Z Z Z) Z Z (A8 (G7 (hcn) Z Z) Z Z (A8 (G7 (hcol) Z Z) Z Z (A8 (F2 Z (.pure _ _ _ _)) Z Z (A8 (C1 Z Z (by omega)) Z Z (A8 (E8 Z Z Z (by omega) (by (rw [hml];omega))) Z Z ?_)))))))))))))))));refine C53 (I2 TySz.out Z Z (by (rw [hml];omega)) Z Z) Z ?_;refine H9 ?_
   rw [hcc,J83,hset]
   refine k1 (k2 ?_)
   refine A3 (A2 (A4 Z Z) Z (A2 (A4 Z Z) Z (A2 (E8 Z Z Z (by omega) (by (rw [hml1];omega))) Z ?_)));refine A2 (U1 Z Z hge1 Z) Z (A2 (L9 Z Z) Z (A6 ?_))
   refine k1 ?_
   refine B2 rfl (fun ht=>?_) (fun ht=>?_)
   ·have h3:=A0 ht
    refine k2 ?_
    refine A3 (A2 (A5 Z Z) Z (A6 ?_))
    refine k1 (k10 (k12 (k11 (k11 (k12 (k11 (k12 (k11 (k11 (k12 (k11 ?_)))))))))))
    exact B5 (F8 rfl rfl rfl) (hno (hno2 (by omega)))
   have h3:=A1 ht
   refine k5 (k4 (k1 ?_))
   refine A3 (A2 (A4 Z Z) Z (A2 (C1 Z Z (by omega)) Z (A2 (A5 Z Z) Z (A6 ?_))))
   refine k1 ?_
   refine ⟨j+1,⟨by omega,fun i hi=>?_⟩,by omega,J48 ⟨le1 rfl,le1 rfl,le1 rfl,le1 rfl,le1 rfl,le1 rfl,trivial⟩ ⟨rfl,rfl,rfl,rfl,trivial⟩⟩
   by_cases e1:i=j
   ·subst e1;rw [←ha,←hee,←hqq];omega
   ·exact hq i (by omega)
  ·have hjn:j=n+1:=by have:=A1 ht;omega
   subst hjn
   rw [G08]
   have hok:A64 n ends h=true:=hiff.2 ⟨⟨hal,hne⟩,hq⟩
   rw [hok,Bool.true_and] at hp
   refine k6 (k7 (k7 (k8 Z (k1 ?_))))
   refine A3 (A2 (A4 Z Z) Z (A2 (A7 Z) Z (A2 (B0 Z Z Z) Z (C2 (F9 Z Z Z (.pure _ _ _ _) (by omega) Z) Z (A2 (A5 Z Z) Z (A6 ?_))))))
   refine k4 (k1 ?_)
   refine A3 (A2 (A4 Z Z) Z (A2 (C1 Z Z (by omega)) Z (A2 (A5 Z Z) Z (A6 ?_))))
   refine k1 ?_
   refine ⟨(k+1,W2 n h),⟨by dsimp only;omega,B23 n h,?_,hp⟩,by dsimp only;omega,?_⟩
   ·intro e hm
    obtain ⟨i,hi,rfl⟩:=List.mem_map.1 hm
    have hi:=List.mem_range.1 hi
    have h4:=hq i hi
    have h5:=he0 _ (J93 (D04 (l:=ends) (i:=i) (by omega)))
    have h6:=C43 h.Rows n i
    omega
   ·dsimp only
    rw [hat]
    exact J48 ⟨le1 rfl,le1 rfl,le1 rfl,le1 rfl,trivial⟩ ⟨rfl,rfl,rfl,trivial⟩
 ·have hkl:k=c.Hunks.length:=by have:=A1 ht;omega
  rw [hkl,J87 (Nat.le_refl _)] at hp
  rw [hkl,J97]
  have hp:X7 n (List.replicate (n+1) 0) c.Hunks=true:=hp
  have hl1:=T9 (K0 c.Hunks)
  have hl2:=B24 (K0 c.Hunks)
  have hri:I9 (K0 c.Hunks):=by
   intro r hrm
   obtain ⟨l,h1,h2⟩:=List.mem_flatten.1 hrm
   obtain ⟨x,hx,rfl⟩:=List.mem_map.1 h1
   exact hr x hx r h2
  have htx:=E34 (K0 c.Hunks) c.Parents (by omega) hri (by omega) (by omega)
  rw [←hN] at htx
  refine k6 (k2 ?_)
  refine A3 (A2 (A4 Z Z) Z (A2 (A7 Z) Z (A2 (B0 Z Z Z) Z (B9 (htx) Z Z Z ?_))));rintro _ rfl;refine A2 (A5 Z Z) Z (A6 ?_)
  refine k1 (k10 ?_)
  exact B5 (F8 rfl rfl rfl) (by unfold Q6;rw [hp];rfl)
theorem rats_ok (n:Nat) (hn:n≤1048576):FnOk Tryz.prog 156 [E2 n] (fun rs=>rs=[F5 (atS n)]):=by
 refine FnOk.intro Tryz.func156 (by decide) Z Z Z Z ?_
 refine k2 ?_
 refine A3 (A2 (A5 Z Z) Z (A6 ?_))
 refine k1 (k2 ?_)
 refine A3 (A2 (A5 Z Z) Z (A6 ?_))
 refine k1 (k2 (k2 ?_))
 refine A3 (A2 (A5 Z Z) Z (A6 ?_))
 refine k1 (k3 ?_)
 refine D1 (X:=Nat) (fun i=>([(0,C3 n),(3,H4 (atS i)),(4,C3 i)],[])) (fun i=>i≤n) (fun i=>n - i) 0 (Nat.zero_le _) (J48 ⟨le1 rfl,le1 rfl,le1 rfl,trivial⟩ trivial) ?_
 intro i hi
 dsimp only at hi ⊢
 have hl:=j9 i
 refine k2 (k2 ?_)
 refine A3 (A2 (A4 Z Z) Z (A2 (A4 Z Z) Z (A2 (D6 Z Z) Z (A6 ?_))))
 refine k1 ?_
 refine B2 rfl (fun ht=>?_) (fun ht=>?_)
 ·have hlt:i < n:=by have:=A0 ht;omega
  refine k5 (k1 (k2 (k3 ?_)))
  refine A3 (A2 (A4 Z Z) Z (A2 (E7 Z Z (by (first | omega | (simp only [J77,J78,J81];omega)))) Z (A2 (A5 Z Z) Z (A6 ?_))))
  refine k4 (k1 ?_)
  refine A3 (A2 (A4 Z Z) Z (A2 (C1 Z Z (by omega)) Z (A2 (A5 Z Z) Z (A6 ?_))))
  refine k1 ?_
  refine ⟨i+1,by omega,by omega,?_⟩
  rw [show atS (i+1)=atS i++[64] by unfold atS;exact List.replicate_succ']
  exact J48 ⟨le1 rfl,le1 rfl,le1 rfl,trivial⟩ trivial
 ·have hin:i=n:=by have:=A1 ht;omega
  subst hin
  refine k6 (k2 ?_)
  refine A3 (A2 (A4 Z Z) Z (A2 (A5 Z Z) Z (A6 ?_)))
  refine k1 (k10 ?_)
  exact B5 (F8 rfl rfl rfl) rfl
theorem G10 (r:Row) (n:Nat) (hn:n≤32) (hm:0≤r.Marks∧r.Marks < 4294967296):FnOk Tryz.prog 157 [pRow r,E2 n] (fun rs=>rs=[F5 (K4 n r)]):=by
 refine FnOk.intro Tryz.func157 (by decide) Z Z Z Z ?_
 refine k2 ?_
 refine A3 (C2 (P6 2 Z Z Z) Z (A2 (A5 Z Z) Z (A6 ?_)))
 refine k1 (k2 ?_)
 refine A3 (C2 (V3 730 _ u8C Z) Z (A6 ?_))
 refine k1 (k2 (k2 ?_))
 refine A3 (A2 (A5 Z Z) Z (A6 ?_))
 refine k1 (k3 ?_)
 refine D1 (X:=Nat) (fun p=>([(1,C3 n),(2,.s (.one (.ref 2 0))),(5,.s (.one (.buf 730 UInt8 1 u8C (K4 p r)))),(6,C3 p)],[(2,.box (pRow r).s1.cells),(730,.spare (K4 p r).length 1 5)])) (fun p=>p≤n) (fun p=>n - p) 0 (Nat.zero_le _) (J48 ⟨le1 rfl,le1 rfl,le1 rfl,le1 rfl,trivial⟩ ⟨rfl,rfl,trivial⟩) ?_
 intro p hp
 dsimp only at hp ⊢
 have hml:=T8 p r
 have hsucc:=D86 p r
 refine k2 (k2 ?_)
 refine A3 (A2 (A4 Z Z) Z (A2 (A4 Z Z) Z (A2 (D6 Z Z) Z (A6 ?_))))
 refine k1 ?_
 refine B2 rfl (fun ht=>?_) (fun ht=>?_)
 ·have hlt:p < n:=by have:=A0 ht;omega
  have hu:=A61 (n:=(p:Int)) (by omega)
  have h3:0≤r.Marks / 2 ^ p:=Int.ediv_nonneg hm.1 (Int.pow_nonneg (by decide))
  have h4:r.Marks / 2 ^ p≤r.Marks:=Int.ediv_le_self _ hm.1
  have e32:r.Marks.fdiv (2 ^ (min (p:Int).toNat IntKind.u32.bits))=r.Marks / 2 ^ p:=D68 r.Marks p (by omega)
  have e1:=A79 (r.Marks / 2 ^ p) (by omega)
  refine k5 (k1 (k2 (k3 (k3 (k2 ?_)))))
  refine A3 (A2 (A7 Z) Z (A2 (B0 Z Z Z) Z (A2 (A4 Z Z) Z (A2 (I1 Z) Z (A2 (A38 Z Z (by (rw [hu];omega))) Z ?_)))));refine A2 (T4 Z Z Z (fun _=>rfl)) Z (A2 (F1 Z Z) Z (A2 (A5 Z Z) Z (A6 ?_)))
  rw [hu,e32,e1]
  refine k1 ?_
  refine B2 rfl (fun ht=>?_) (fun ht=>?_)
  ·have ht:=A0 ht
   have hb:A46 r.Marks p=false:=by unfold A46;simp;omega
   have hmk:n6 r p=32:=by unfold n6;rw [if_pos hb]
   rw [hmk] at hsucc
   skip
   refine A3 (A2 (A4 Z Z) Z (A2 (C6 (c:=u8C) (ys:=[32]) (D8 Z Z Z Z F0) Z Z Z) Z (C2 (F9 Z Z Z (.pure _ _ _ _) (by (simp only [J78,J81];omega)) Z) Z (A2 (A5 Z Z) Z (A6 ?_)))))
   refine k4 (k4 (k1 ?_))
   refine A3 (A2 (A4 Z Z) Z (A2 (C1 Z Z (by omega)) Z (A2 (A5 Z Z) Z (A6 ?_))))
   refine k1 ?_
   refine ⟨p+1,by omega,by omega,?_⟩
   rw [hsucc]
   exact J48 ⟨le1 rfl,le1 rfl,le1 rfl,le1 rfl,trivial⟩ ⟨rfl,rfl,trivial⟩
  have ht:=A1 ht
  have hb:A46 r.Marks p=true:=by unfold A46;simp;omega
  refine k2 ?_
  refine A3 (A2 (A7 Z) Z (A2 (B0 Z Z Z) Z (A2 (A5 Z Z) Z (A6 ?_))))
  refine k1 ?_
  refine B2 rfl (fun ht=>?_) (fun ht=>?_)
  ·have hl:r.Lost=true:=ht
   have hmk:n6 r p=45:=by unfold n6;rw [hb,if_neg (by decide),if_pos hl]
   rw [hmk] at hsucc
   skip
   refine A3 (A2 (A4 Z Z) Z (A2 (C6 (c:=u8C) (ys:=[45]) (D8 Z Z Z Z F0) Z Z Z) Z (C2 (F9 Z Z Z (.pure _ _ _ _) (by (simp only [J78,J81];omega)) Z) Z (A2 (A5 Z Z) Z (A6 ?_)))))
   refine k4 (k4 (k1 ?_))
   refine A3 (A2 (A4 Z Z) Z (A2 (C1 Z Z (by omega)) Z (A2 (A5 Z Z) Z (A6 ?_))))
   refine k1 ?_
   refine ⟨p+1,by omega,by omega,?_⟩
   rw [hsucc]
   exact J48 ⟨le1 rfl,le1 rfl,le1 rfl,le1 rfl,trivial⟩ ⟨rfl,rfl,trivial⟩
  ·have hl:r.Lost=false:=ht
   have hmk:n6 r p=43:=by unfold n6;rw [hb,if_neg (by decide),hl,if_neg (by decide)]
   rw [hmk] at hsucc
   skip
   refine A3 (A2 (A4 Z Z) Z (A2 (C6 (c:=u8C) (ys:=[43]) (D8 Z Z Z Z F0) Z Z Z) Z (C2 (F9 Z Z Z (.pure _ _ _ _) (by (simp only [J78,J81];omega)) Z) Z (A2 (A5 Z Z) Z (A6 ?_)))))
   refine k4 (k4 (k1 ?_))
   refine A3 (A2 (A4 Z Z) Z (A2 (C1 Z Z (by omega)) Z (A2 (A5 Z Z) Z (A6 ?_))))
   refine k1 ?_
   refine ⟨p+1,by omega,by omega,?_⟩
   rw [hsucc]
   exact J48 ⟨le1 rfl,le1 rfl,le1 rfl,le1 rfl,trivial⟩ ⟨rfl,rfl,trivial⟩
 ·have hpn:p=n:=by have:=A1 ht;omega
  subst hpn
  refine k6 (k2 ?_)
  refine A3 (A2 (A4 Z Z) Z (A2 (M4 TyStr.out Z (.buf _ _ _ _ _)) Z (A2 (A5 Z Z) Z (A6 ?_))))
  refine k1 (k10 ?_)
  exact B5 (F8 rfl rfl rfl) rfl
def A13 (c:Comb):List Str:=[W1 c.Dense++H6 c.Path++[10],parS++I4 c.Parents++[10]]
theorem I46 (n:Nat) (r:Row):(S2 n r).length≤2:=by unfold S2;split<;>simp
theorem E46 (n:Nat) (rs:List Row):(rs.map (S2 n)).flatten.length≤(rs.map N0).sum:=by
 induction rs with
 | nil=>simp
 | cons x r ih =>
  have h1:=I46 n x
  have h2:2≤N0 x:=by unfold N0;omega
  simp only [J85,J91,J77,K03];omega
theorem G11 (n:Nat) (hs:List CHunk):(hs.map (M2 n)).flatten.length≤szC hs:=by
 unfold szC
 induction hs with
 | nil=>simp
 | cons x r ih =>
  have h1:=E46 n x.Rows
  have h2:(M2 n x).length≤A65 x:=by unfold M2 A65;rw [J78];omega
  rw [J85,J91,J77,J85,K03]
  exact Nat.add_le_add h2 ih
set_option maxHeartbeats 1000000
theorem B56 (c:Comb) (hc:CFit c):FnOk Tryz.prog 82 [I5 c] (fun rs=>rs=[F5 (O3 c)]):=by
 obtain ⟨h1,h2,h3,h4,h5⟩:=hc
 have hzl:=A14 c.Hunks
 have hm29:markS.length=29:=rfl
 have hq:=C44 c.Path
 have hf:=G33 c.Parents
 have hkl:(W1 c.Dense).length≤16:=by cases c.Dense<;>decide
 have hpl:parS.length=8:=rfl
 obtain ⟨n,hN⟩:∃n,n=c.Parents.toNat:=⟨_,rfl⟩
 have hNc:c.Parents=(n:Int):=by omega
 have hn:n≤32:=by omega
 have hct:=G34 c (by omega) c.Hunks.length
 have hats:FnOk Tryz.prog 156 [E2 (c.Parents+1)] (fun rs=>rs=[F5 (atS (n+1))]):=by
  have:=rats_ok (n+1) (by omega)
  rwa [show ((n+1:Nat):Int)=c.Parents+1 by omega] at this
 have hal:=j9 (n+1)
 rw [←hN] at h5
 have htl:(A13 c).length=2:=rfl
 refine FnOk.intro Tryz.func82 (by decide) Z Z Z Z ?_
 refine k2 ?_
 refine A3 (C2 (P6 1 Z Z Z) Z (A2 (A5 Z Z) Z (A6 ?_)))
 refine k1 (k2 ?_)
 refine A3 (A2 (A5 Z Z) Z (A6 ?_))
 refine H8 ?_
 refine U6 [(1,.s (.one (.ref 1 0))),(3,H4 (W1 c.Dense))] [(1,A59 c)] ?_ ?_
 ·refine k2 ?_
  refine A3 (A2 (A7 Z) Z (A2 (B0 Z Z Z) Z (A6 ?_)))
  refine k1 ?_
  refine B2 rfl (fun ht=>?_) (fun ht=>?_)
  ·have h:c.Dense=true:=ht
   skip
   refine A3 (A2 (A5 Z Z) Z (A6 ?_))
   refine k1 ?_
   rw [show W1 c.Dense=ccS by unfold W1;rw [if_pos h]]
   exact J48 ⟨le1 rfl,le1 rfl,trivial⟩ ⟨rfl,trivial⟩
  ·have h:c.Dense=false:=ht
   refine k5 (k1 ?_)
   rw [show W1 c.Dense=combS by unfold W1;rw [h,if_neg (by decide)]]
   exact J48 ⟨le1 rfl,le1 rfl,trivial⟩ ⟨rfl,trivial⟩
 refine k2 ?_
 refine A57 11 (by kernel_rfl) (by kernel_rfl) Z (A8 (A4 Z Z) Z Z (A8 (A7 Z) Z Z (A8 (B0 Z Z Z) Z Z (A8 (G7 (F44 c.Path (by omega)) Z Z) Z Z (A8 (E7 Z Z (by (first | omega | (simp only [J77,J78,J81];omega)))) Z Z (A8 (E7 Z Z (by (first | omega | (simp only [J77,J78,J81];omega)))) Z Z (A8 (A7 Z) Z Z (A8 (B0 Z Z Z) Z Z (A8 (G7 (A26 c.Parents) Z Z) Z Z (A8 (E7 Z Z (by (first | omega | (simp only [J77,J78,J81];omega)))) Z Z (A8 (E7 Z Z (by (first | omega | (simp only [J77,J78,J81];omega)))) Z Z (H9 (d_turn (A92 722 (c:=J5) (ys:=(A13 c)) (D8 Z Z Z Z (D8 Z Z Z Z F0)) Z Z Z (by first | rfl | (simp [H3,J8,Ob.free,SV.free,S1.free,TC.free]<;>rfl))) Z ?_)))))))))))));refine A8 (A5 Z Z) Z Z (H9 ?_)
 refine k1 (k2 (k2 ?_))
 refine A3 (A2 (A5 Z Z) Z (A6 ?_))
 refine k1 (k3 ?_)
 refine D1 (X:=Nat) (fun k=>([(1,.s (.one (.ref 1 0))),(4,.s (.one (.buf 722 Str 1 J5 (A13 c++((c.Hunks.take k).map (M2 n)).flatten)))),(5,C3 k)],[(1,A59 c),(722,.spare (A13 c++((c.Hunks.take k).map (M2 n)).flatten).length 1 9)])) (fun k=>k≤c.Hunks.length) (fun k=>c.Hunks.length - k) 0 (Nat.zero_le _) (J48 ⟨le1 rfl,le1 rfl,le1 rfl,trivial⟩ ⟨rfl,rfl,trivial⟩) ?_
 intro k hk
 dsimp only at hk ⊢
 have hcp:=G11 n (c.Hunks.take k)
 have hct2:=E80 c.Hunks k
 refine k2 (k2 ?_)
 refine A3 (A2 (A4 Z Z) Z (A2 (A7 Z) Z (A2 (B0 Z Z Z) Z (A2 (F2 Z (.pure _ _ _ _)) Z (A2 (D6 Z Z) Z (A6 ?_))))))
 refine k1 ?_
 refine B2 rfl (fun ht=>?_) (fun ht=>?_)
 ·have hlt:k < c.Hunks.length:=by have:=A0 ht;omega
  have hv:c.Hunks[k]?=some c.Hunks[k]:=by simp [hlt]
  have hmem:=J96 hlt
  have hrw:=h4 _ hmem
  have hat:=h5 _ hmem
  have hzm:=A53 hmem
  have hsucc:((c.Hunks.take (k+1)).map (M2 n)).flatten=((c.Hunks.take k).map (M2 n)).flatten++M2 n c.Hunks[k]:=by
   rw [J86 hlt]
   simp only [J92,J85,K12,K04,J91,K19,K02]
  obtain ⟨h,hx⟩:∃x,x=c.Hunks[k]:=⟨_,rfl⟩
  rw [←hx] at hv hrw hat hzm hsucc
  have hz1:=T9 h.Rows
  unfold A65 at hzm
  have hhl:=B95 hn h
  have hgA:∀j,j < n+1→h.At[j]?=some (h.At.getD j 0):=fun j hj=>D04 (by omega)
  have hrA:∀j,j < n+1 → -4611686018427387904≤h.At.getD j 0∧h.At.getD j 0≤4611686018427387904:=fun j hj=>hat.2 _ (J93 (hgA j hj))
  obtain ⟨base,hbase⟩:∃base,base=A13 c++((c.Hunks.take k).map (M2 n)).flatten:=⟨_,rfl⟩
  have hbl:base.length≤2+268435456:=by rw [hbase,J77];omega
  rw [←hbase]
  refine k5 (k1 (k2 (k3 (k2 ?_))))
  refine A3 (A2 (A7 Z) Z (A2 (B0 Z Z Z) Z (A2 (A4 Z Z) Z (A2 (B3 Z (.pure _ _ _ _) Z (by omega) hv) Z (A2 (H2 Z Z) Z (C2 (G1 6 Z) Z (E3 (B7 TySz.out Z Z Z Z Z Z) (A6 ?_))))))))
  refine k1 (k2 ?_)
  refine A3 (A2 (A7 Z) Z (A2 (B0 Z Z Z) Z (A2 (C1 Z Z (by omega)) Z (B9 (hats) Z Z Z ?_))));rintro _ rfl;refine A2 (A5 Z Z) Z (A6 ?_)
  refine k1 (k2 (k2 ?_))
  refine A3 (A2 (A5 Z Z) Z (A6 ?_))
  refine k1 (k3 ?_)
  refine D1 (X:=Nat) (fun j=>([(1,.s (.one (.ref 1 0))),(4,.s (.one (.buf 722 Str 1 J5 base))),(5,C3 k),(6,.s (.one (.ref 6 0))),(7,H4 (atS (n+1)++R1 n h j)),(8,C3 j)],[(1,A59 c),(722,.spare base.length 1 9),(6,.box (B21 h).s1.cells)])) (fun j=>j≤n+1) (fun j=>n+1 - j) 0 (Nat.zero_le _) ?_ ?_
  ·rw [show R1 n h 0=[] from rfl,K02]
   exact J48 ⟨le1 rfl,le1 rfl,le1 rfl,le1 rfl,le1 rfl,le1 rfl,trivial⟩ ⟨rfl,rfl,rfl,trivial⟩
  intro j hj
  dsimp only at hj ⊢
  have hsl:=A36 n h j
  have hss:=A54 n h j
  refine k2 (k2 ?_)
  refine A3 (A2 (A4 Z Z) Z (A2 (A7 Z) Z (A2 (B0 Z Z Z) Z (A2 (m8 Z Z) Z (A6 ?_)))))
  refine k1 ?_
  refine B2 rfl (fun ht=>?_) (fun ht=>?_)
  ·have hlt2:j < n+1:=by have:=A0 ht;omega
   have hga:=hgA j hlt2
   have hra:=hrA j hlt2
   have hcl:=D36 h.Rows (L0 n j)
   have hrl:=A48 (h.At.getD j 0) (M3 h.Rows n j)
   have hcol:=A44 h.Rows (L0 n j) hrw (by omega)
   have hcn:=C31 j n
   rw [←hNc] at hcn
   have hrr:=F43 (h.At.getD j 0) ((O5 h.Rows (L0 n j)).length:Int) hra (by omega)
   have hsw:A52 n h j=[32,L8 n j]++G4 (h.At.getD j 0) ((O5 h.Rows (L0 n j)).length:Int):=rfl
   have hrl:(G4 (h.At.getD j 0) ((O5 h.Rows (L0 n j)).length:Int)).length≤21:=hrl
   obtain ⟨S,hS⟩:∃S,S=atS (n+1)++R1 n h j:=⟨_,rfl⟩
   have hSl:S.length≤1000:=by rw [hS,J77];omega
   have hSs:atS (n+1)++R1 n h (j+1)=S++[32,L8 n j]++G4 (h.At.getD j 0) ((O5 h.Rows (L0 n j)).length:Int):=by rw [hss,hS,hsw];simp
   rw [←hS]
   refine k5 (k1 (k2 (k3 (k2 ?_))))
   refine A3 (A2 (A5 Z Z) Z (A6 ?_))
   refine k1 (k2 (k2 ?_))
   refine A3 (A2 (A4 Z Z) Z (A2 (A7 Z) Z (A2 (B0 Z Z Z) Z (A2 (F1 Z Z) Z (A6 ?_)))))
   refine k1 ?_
   refine B2 rfl (fun ht=>?_) (fun ht=>?_)
   ·have hjn:=A0 ht
    have hsg:L8 n j=43:=by unfold L8;rw [if_pos (by omega)]
    rw [hsg] at hSs
    skip
    refine A3 (A2 (A5 Z Z) Z (A6 ?_))
    refine k1 ?_
    refine C4 (by kernel_rfl) (by kernel_rfl) (A8 (A4 Z Z) Z Z (A8 (A4 Z Z) Z Z (A8 (E7 Z Z (by (first | omega | (simp only [J77,J78,J81];omega)))) Z Z (A8 (A7 Z) Z Z (A8 (B0 Z Z Z) Z Z (A8 (A4 Z Z) Z Z (A8 (B3 Z (.pure _ _ _ _) Z (by omega) hga) Z Z (A8 (B6 Z Z) Z Z (A8 (A7 Z) Z Z (A8 (B0 Z Z Z) Z Z (A8 (A4 Z Z) Z Z (A8 (A7 Z) Z Z (A8 (B0 Z Z Z) Z Z (A8 (G7 (hcn) Z Z) Z Z (A8 (G7 (hcol) Z Z) Z Z (A8 (F2 Z (.pure _ _ _ _)) Z Z (A8 (G7 (hrr) Z Z) Z Z (A8 (E7 Z Z (by (first | omega | (simp only [J77,J78,J81];omega)))) Z Z (A8 (A5 Z Z) Z Z (H9 ?_))))))))))))))))))))
    refine k4 (k1 ?_)
    refine A3 (A2 (A4 Z Z) Z (A2 (C1 Z Z (by omega)) Z (A2 (A5 Z Z) Z (A6 ?_))))
    refine k1 ?_
    refine ⟨j+1,by omega,by omega,?_⟩
    rw [hSs]
    exact J48 ⟨le1 rfl,le1 rfl,le1 rfl,le1 rfl,le1 rfl,le1 rfl,trivial⟩ ⟨rfl,rfl,rfl,trivial⟩
   ·have hjn:=A1 ht
    have hsg:L8 n j=45:=by unfold L8;rw [if_neg (by omega)]
    rw [hsg] at hSs
    refine k5 (k1 ?_)
    refine C4 (by kernel_rfl) (by kernel_rfl) (A8 (A4 Z Z) Z Z (A8 (A4 Z Z) Z Z (A8 (E7 Z Z (by (first | omega | (simp only [J77,J78,J81];omega)))) Z Z (A8 (A7 Z) Z Z (A8 (B0 Z Z Z) Z Z (A8 (A4 Z Z) Z Z (A8 (B3 Z (.pure _ _ _ _) Z (by omega) hga) Z Z (A8 (B6 Z Z) Z Z (A8 (A7 Z) Z Z (A8 (B0 Z Z Z) Z Z (A8 (A4 Z Z) Z Z (A8 (A7 Z) Z Z (A8 (B0 Z Z Z) Z Z (A8 (G7 (hcn) Z Z) Z Z (A8 (G7 (hcol) Z Z) Z Z (A8 (F2 Z (.pure _ _ _ _)) Z Z (A8 (G7 (hrr) Z Z) Z Z (A8 (E7 Z Z (by (first | omega | (simp only [J77,J78,J81];omega)))) Z Z (A8 (A5 Z Z) Z Z (H9 ?_))))))))))))))))))))
    refine k4 (k1 ?_)
    refine A3 (A2 (A4 Z Z) Z (A2 (C1 Z Z (by omega)) Z (A2 (A5 Z Z) Z (A6 ?_))))
    refine k1 ?_
    refine ⟨j+1,by omega,by omega,?_⟩
    rw [hSs]
    exact J48 ⟨le1 rfl,le1 rfl,le1 rfl,le1 rfl,le1 rfl,le1 rfl,trivial⟩ ⟨rfl,rfl,rfl,trivial⟩
  ·have hjn:j=n+1:=by have:=A1 ht;omega
   subst hjn
   obtain ⟨S,hS⟩:∃S,S=atS (n+1)++R1 n h (n+1):=⟨_,rfl⟩
   have hSl:S.length≤1000:=by rw [hS,J77];omega
   have hhd:S0 n h++[10]=S++[32]++atS (n+1)++[10]:=by unfold S0;rw [hS]
   rw [←hS]
   refine k6 (k2 ?_)
   refine A3 (A2 (A4 Z Z) Z (A2 (A4 Z Z) Z (A2 (E7 Z Z (by (first | omega | (simp only [J77,J78,J81];omega)))) Z (A2 (A7 Z) Z (A2 (B0 Z Z Z) Z (A2 (C1 Z Z (by omega)) Z (B9 (hats) Z Z Z ?_)))))));rintro _ rfl;refine A2 (E7 Z Z (by (first | omega | (simp only [J77,J78,J81];omega)))) Z (A2 (E7 Z Z (by (first | omega | (simp only [J77,J78,J81];omega)))) Z (A2 (C6 (c:=J5) (ys:=[_]) (D8 Z Z Z Z F0) Z Z Z) Z (C2 (F9 Z Z Z (.pure _ _ _ _) (by (simp only [J78,J81];omega)) Z) Z (A2 (A5 Z Z) Z (A6 ?_)))))
   rw [←hhd]
   refine k1 (k2 ?_)
   refine A3 (A2 (A5 Z Z) Z (A6 ?_))
   refine k1 (k3 ?_)
   obtain ⟨hd,hhd2⟩:∃hd,hd=S0 n h++[10]:=⟨_,rfl⟩
   rw [←hhd2]
   refine D1 (X:=Nat) (fun i=>([(1,.s (.one (.ref 1 0))),(4,.s (.one (.buf 722 Str 1 J5 (base++(hd::((h.Rows.take i).map (S2 n)).flatten))))),(5,C3 k),(6,.s (.one (.ref 6 0))),(10,C3 i)],[(1,A59 c),(722,.spare (base++(hd::((h.Rows.take i).map (S2 n)).flatten)).length 1 9),(6,.box (B21 h).s1.cells)])) (fun i=>i≤h.Rows.length) (fun i=>h.Rows.length - i) 0 (Nat.zero_le _) (J48 ⟨le1 rfl,le1 rfl,le1 rfl,le1 rfl,le1 rfl,trivial⟩ ⟨rfl,rfl,rfl,trivial⟩) ?_
   intro i hi
   dsimp only at hi ⊢
   have hrp:=E46 n (h.Rows.take i)
   have hrt:=E79 h.Rows i
   refine k2 (k2 ?_)
   refine A3 (A2 (A4 Z Z) Z (A2 (A7 Z) Z (A2 (B0 Z Z Z) Z (A2 (F2 Z (.pure _ _ _ _)) Z (A2 (D6 Z Z) Z (A6 ?_))))))
   refine k1 ?_
   refine B2 rfl (fun ht=>?_) (fun ht=>?_)
   ·have hlt2:i < h.Rows.length:=by have:=A0 ht;omega
    have hv2:h.Rows[i]?=some h.Rows[i]:=by simp [hlt2]
    have hmem2:=J96 hlt2
    have hrm:=B94 hmem2
    have hmm:=hrw _ hmem2
    have hsucc2:((h.Rows.take (i+1)).map (S2 n)).flatten=((h.Rows.take i).map (S2 n)).flatten++S2 n h.Rows[i]:=by
     rw [J86 hlt2]
     simp only [J92,J85,K12,K04,J91,K19,K02]
    obtain ⟨r,hy⟩:∃x,x=h.Rows[i]:=⟨_,rfl⟩
    rw [←hy] at hv2 hrm hmm hsucc2
    have hrm:r.Text.length+96≤(h.Rows.map N0).sum:=hrm
    have hml:=T8 n r
    have hmk:=G10 r n hn hmm
    rw [←hNc] at hmk
    obtain ⟨bs,hbs⟩:∃bs,bs=base++(hd::((h.Rows.take i).map (S2 n)).flatten):=⟨_,rfl⟩
    have hbsl:bs.length≤2+268435456+1+268435456:=by rw [hbs,J77,J78];omega
    have hsucc3:base++(hd::((h.Rows.take (i+1)).map (S2 n)).flatten)=bs++S2 n r:=by rw [hsucc2,hbs];simp
    rw [←hbs]
    refine k5 (k1 (k2 (k3 (k2 ?_))))
    refine C4 (by kernel_rfl) (by kernel_rfl) (A8 (A4 Z Z) Z Z (A8 (A7 Z) Z Z (A8 (B0 Z Z Z) Z Z (A8 (A4 Z Z) Z Z (A8 (B3 Z (.pure _ _ _ _) Z (by omega) hv2) Z Z (A8 (H2 Z Z) Z Z (A8 (A7 Z) Z Z (A8 (B0 Z Z Z) Z Z (A8 (G7 (hmk) Z Z) Z Z (A8 (A7 Z) Z Z (A8 (B0 Z Z Z) Z Z (A8 (A4 Z Z) Z Z (A8 (B3 Z (.pure _ _ _ _) Z (by omega) hv2) Z Z (A8 (E1 Z) Z Z (A8 (B6 Z Z) Z Z (A8 (E7 Z Z (by (first | omega | (simp only [J77,J78,J81];omega)))) Z Z (A8 (C6 (c:=J5) (ys:=[_]) (D8 Z Z Z Z F0) Z Z Z) Z Z (E11 (F9 Z Z Z (.pure _ _ _ _) (by (simp only [J78,J81];omega)) Z) Z Z (A8 (A5 Z Z) Z Z (H9 ?_))))))))))))))))))))
    refine k1 (k2 ?_)
    refine A3 (A2 (A7 Z) Z (A2 (B0 Z Z Z) Z (A2 (A4 Z Z) Z (A2 (B3 Z (.pure _ _ _ _) Z (by omega) hv2) Z (A2 (E1 Z) Z (A2 (B6 Z Z) Z (B9 (C67 r.Text (by omega)) Z Z Z ?_)))))));rintro _ rfl;refine A2 (E4 Z) Z (A6 ?_)
    refine k1 ?_
    refine B2 rfl (fun ht=>?_) (fun ht=>?_)
    ·have he:ended r.Text=false:=by simpa using ht
     have e:S2 n r=[K4 n r++r.Text]++[markS]:=by unfold S2;rw [he,if_neg (by decide)];rfl
     skip
     refine A3 (A2 (A4 Z Z) Z (A2 (C6 (c:=J5) (ys:=[markS]) (D8 Z Z Z Z F0) Z Z Z) Z (C2 (F9 Z Z Z (.pure _ _ _ _) (by (first | omega | (simp only [J77,J78,J81];omega))) Z) Z (A2 (A5 Z Z) Z (A6 ?_)))))
     refine k4 (k1 ?_)
     refine A3 (A2 (A4 Z Z) Z (A2 (C1 Z Z (by omega)) Z (A2 (A5 Z Z) Z (A6 ?_))))
     refine k1 ?_
     refine ⟨i+1,by omega,by omega,?_⟩
     rw [hsucc3,e,←J89]
     exact J48 ⟨le1 rfl,le1 rfl,le1 rfl,le1 rfl,le1 rfl,trivial⟩ ⟨rfl,rfl,rfl,trivial⟩
    ·have he:ended r.Text=true:=by simpa using ht
     have e:S2 n r=[K4 n r++r.Text]:=by unfold S2;rw [if_pos he]
     refine k5 (k4 (k1 ?_))
     refine A3 (A2 (A4 Z Z) Z (A2 (C1 Z Z (by omega)) Z (A2 (A5 Z Z) Z (A6 ?_))))
     refine k1 ?_
     refine ⟨i+1,by omega,by omega,?_⟩
     rw [hsucc3,e]
     exact J48 ⟨le1 rfl,le1 rfl,le1 rfl,le1 rfl,le1 rfl,trivial⟩ ⟨rfl,rfl,rfl,trivial⟩
   ·have hil:i=h.Rows.length:=by have:=A1 ht;omega
    subst hil
    rw [J97]
    have e:A13 c++((c.Hunks.take (k+1)).map (M2 n)).flatten=base++(hd::(h.Rows.map (S2 n)).flatten):=by
     rw [hsucc,←J89,←hbase,hhd2];rfl
    refine k6 (k7 (k7 (k8 Z (k4 (k1 ?_)))))
    refine A3 (A2 (A4 Z Z) Z (A2 (C1 Z Z (by omega)) Z (A2 (A5 Z Z) Z (A6 ?_))))
    refine k1 ?_
    refine ⟨k+1,by omega,by omega,?_⟩
    rw [e]
    exact J48 ⟨le1 rfl,le1 rfl,le1 rfl,trivial⟩ ⟨rfl,rfl,trivial⟩
 ·have hkl:k=c.Hunks.length:=by have:=A1 ht;omega
  subst hkl
  have e:(A13 c++((c.Hunks.take c.Hunks.length).map (M2 n)).flatten).flatten=O3 c:=by
   rw [J97,hN];unfold O3 G29 A13;simp
  rw [D05] at hct
  have hao:=all_ok (A13 c++((c.Hunks.take c.Hunks.length).map (M2 n)).flatten) (by rw [e];omega)
  rw [e] at hao
  refine k6 (k2 ?_)
  refine A3 (A2 (A4 Z Z) Z (B9 (hao) Z Z Z ?_));rintro _ rfl;refine A2 (A5 Z Z) Z (A6 ?_)
  refine k1 (k10 ?_)
  exact B5 (F8 rfl rfl rfl) rfl
theorem D62 (c:Comb) (hz:szC c.Hunks≤268435456) (hr:∀h∈c.Hunks,I9 h.Rows):FnOk Tryz.prog 50 [I5 c] (fun rs=>rs=[E2 (G8 c)]):=by
 refine FnOk.intro Tryz.func50 (by decide) Z Z Z Z ?_
 refine k2 ?_
 refine A3 (C2 (P6 1 Z Z Z) Z (A2 (A5 Z Z) Z (A6 ?_)))
 refine k1 (k2 (k3 (k2 ?_)))
 refine A3 (A2 (A7 Z) Z (A2 (B0 Z Z Z) Z (B9 (E41 c.Path) Z Z Z ?_)));rintro _ rfl;refine A2 (E4 Z) Z (A2 (A5 Z Z) Z (A6 ?_))
 refine k1 ?_
 refine B2 rfl (fun ht=>?_) (fun ht=>?_)
 ·have h:V9 c.Path=false:=by simpa using ht
  refine k2 ?_
  refine A3 (A2 (A5 Z Z) Z (A6 ?_))
  refine k1 (k10 (k12 (k11 ?_)))
  exact B5 (F8 rfl rfl rfl) (by unfold G8;rw [if_pos h])
 have h:V9 c.Path=true:=by simpa using ht
 have hpl:=A0 h
 refine k2 ?_
 refine A3 (A2 (A7 Z) Z (A2 (B0 Z Z Z) Z (A2 (D6 Z Z) Z (A2 (A4 Z Z) Z (A9 Z Z Z Z (fun hg=>by rw [hg];exact A7 Z) ?_)))));refine A9 Z Z Z Z (fun hg=>by rw [hg];exact B0 Z Z Z) ?_;refine A9 Z Z Z Z (fun hg=>by rw [hg];exact L9 Z Z) ?_;refine A2 (B4 Z (fun h=>by first | rfl | (rw [h];rfl)) (fun h=>by first | rfl | (rw [h];rfl))) Z ?_;refine A2 (A5 Z Z) Z (A6 ?_)
 refine k1 ?_
 refine B2 rfl (fun ht=>?_) (fun ht=>?_)
 ·have h1:=A0 (or_pick.symm.trans ht)
  refine k2 ?_
  refine A3 (A2 (A5 Z Z) Z (A6 ?_))
  refine k1 (k10 (k12 (k11 ?_)))
  exact B5 (F8 rfl rfl rfl) (by unfold G8;rw [if_neg (by rw [h];decide),if_pos (by omega)])
 have h1:=A1 (or_pick.symm.trans ht)
 have hn:1≤c.Parents∧c.Parents≤32:=by omega
 refine k2 ?_
 refine A3 (A2 (C7 Z Z Z) Z (B9 (G68 c (by omega) hr hz) Z Z Z ?_));rintro _ rfl;refine A2 (E4 Z) Z (A2 (A5 Z Z) Z (A6 ?_))
 refine k1 ?_
 refine B2 rfl (fun ht=>?_) (fun ht=>?_)
 ·have h2:Y3 c.Parents.toNat c.Hunks=false:=by simpa using ht
  refine k2 ?_
  refine A3 (A2 (A5 Z Z) Z (A6 ?_))
  refine k1 (k10 (k12 (k11 ?_)))
  exact B5 (F8 rfl rfl rfl) (by unfold G8;rw [if_neg (by rw [h];decide),if_neg (by omega),if_pos h2])
 have h2:Y3 c.Parents.toNat c.Hunks=true:=by simpa using ht
 refine k2 ?_
 refine A3 (A2 (C7 Z Z Z) Z (B9 (G71 c hn hr hz) Z Z Z ?_));rintro _ rfl;refine A2 (E4 Z) Z (A2 (A5 Z Z) Z (A6 ?_))
 refine k1 ?_
 refine B2 rfl (fun ht=>?_) (fun ht=>?_)
 ·have h3:Q6 c.Parents.toNat c.Hunks=false:=by simpa using ht
  refine k2 ?_
  refine A3 (A2 (A5 Z Z) Z (A6 ?_))
  refine k1 (k10 (k12 (k11 ?_)))
  exact B5 (F8 rfl rfl rfl) (by unfold G8;rw [if_neg (by rw [h];decide),if_neg (by omega),if_neg (by rw [h2];decide),if_pos h3])
 have h3:Q6 c.Parents.toNat c.Hunks=true:=by simpa using ht
 refine k2 ?_
 refine A3 (A2 (C7 Z Z Z) Z (B9 (B56 c (D30 (by omega) hn hz hr h3)) Z Z Z ?_));rintro _ rfl;refine A2 (D5 Z) Z (A2 (L9 Z Z) Z (A2 (A5 Z Z) Z (A6 ?_)))
 refine k1 ?_
 refine B2 rfl (fun ht=>?_) (fun ht=>?_)
 ·have h4:=A0 ht
  refine k2 ?_
  refine A3 (A2 (A5 Z Z) Z (A6 ?_))
  refine k1 (k10 (k12 (k11 ?_)))
  exact B5 (F8 rfl rfl rfl) (by unfold G8;rw [if_neg (by rw [h];decide),if_neg (by omega),if_neg (by rw [h2];decide),if_neg (by rw [h3];decide),if_pos (by omega)])
 have h4:=A1 ht
 refine k5 (k2 ?_)
 refine A3 (A2 (A5 Z Z) Z (A6 ?_))
 refine k1 (k10 ?_)
 exact B5 (F8 rfl rfl rfl) (by unfold G8;rw [if_neg (by rw [h];decide),if_neg (by omega),if_neg (by rw [h2];decide),if_neg (by rw [h3];decide),if_neg (by omega)])
abbrev pSpan (s:Span):PV:=.agg [.v (.int .i64 s.From),.v (.int .i64 s.To)]
theorem I47 (r:Row):FnOk Tryz.prog 266 [pRow r] (fun rs=>rs=[D3 (blankB r)]):=by
 refine FnOk.intro Tryz.func266 (by decide) Z Z Z Z ?_
 refine k2 ?_
 refine A3 (C2 (P6 1 Z Z Z) Z (A2 (A5 Z Z) Z (A6 ?_)))
 refine k1 (k2 ?_)
 refine A3 (A2 (A7 Z) Z (A2 (B0 Z Z Z) Z (A2 (E4 Z) Z (A2 (A4 Z Z) Z (A9 Z Z Z Z (fun hg=>by rw [hg];exact A7 Z) ?_)))));refine A9 Z Z Z Z (fun hg=>by rw [hg];exact B0 Z Z Z) ?_;refine A9 Z Z Z Z (fun hg=>by rw [hg];exact F1 Z Z) ?_;refine A2 (B4 Z (fun h=>by first | rfl | (rw [h];rfl)) (fun h=>by first | rfl | (rw [h];rfl))) Z ?_;refine A2 (A5 Z Z) Z (A6 ?_)
 refine k1 (k10 ?_)
 refine B5 (F8 Z Z Z) ?_
 unfold blankB
 cases r.Lost<;>simp
theorem F58 (l:List Bool) (hl:l.length≤536870912):FnOk Tryz.prog 181 [pBools l] (fun rs=>rs=[pSpans (B97 l)]):=by
 obtain ⟨W,hW⟩:∃W,W=B97 l:=⟨_,rfl⟩
 rw [←hW]
 refine FnOk.intro Tryz.func181 (by decide) Z Z Z Z ?_
 refine k2 ?_
 refine A3 (A2 (A5 Z Z) Z (A6 ?_))
 refine k1 (k2 ?_)
 refine A3 (C2 (G45 750 _ spanC Z) Z (A6 ?_))
 refine k1 (k2 (k2 ?_))
 refine A3 (A2 (A5 Z Z) Z (A6 ?_))
 refine k1 (k3 ?_)
 refine D1 (X:=Nat × List Span) (fun x=>([(0,C8 Bool 1 D87 l),(3,.s (.one (.mut 750))),(4,C3 x.1)],[(750,.grow 95 Span 2 spanC x.2)])) (fun x=>x.1≤l.length∧C45 x.1 x.2∧(D89 l x.1=true→x.2≠[])∧W=spGo (l.drop x.1) x.1 (D89 l x.1) x.2) (fun x=>l.length - x.1) (0,[]) ⟨Nat.zero_le _,⟨Nat.le_refl _,(fun s hs=>by cases hs)⟩,(fun h=>by cases h),hW⟩ (J48 ⟨le1 rfl,le1 rfl,le1 rfl,trivial⟩ ⟨rfl,trivial⟩) ?_
 rintro ⟨i,out⟩ ⟨hi,hin,hne,hp⟩
 dsimp only at hi hin hne hp ⊢
 refine k2 (k2 ?_)
 refine A3 (A2 (A4 Z Z) Z (A2 (A4 Z Z) Z (A2 (F2 Z (.pure _ _ _ _)) Z (A2 (D6 Z Z) Z (A6 ?_)))))
 refine k1 ?_
 refine B2 rfl (fun ht=>?_) (fun ht=>?_)
 rotate_left
 ·have hil:i=l.length:=by have:=A1 ht;omega
  rw [hil,J87 (Nat.le_refl _)] at hp
  have hp:W=out:=hp
  refine F4 (Sees.freezeG (k:=750) Z Z) ?_
  refine k6 (k2 ?_)
  refine A3 (A2 (A4 Z Z) Z (A2 (A5 Z Z) Z (A6 ?_)))
  refine k1 (k10 ?_)
  exact B5 (F8 rfl rfl rfl) (by rw [hp])
 have hlt:i < l.length:=by have:=A0 ht;omega
 have hv:l[i]?=some (l.getD i false):=by simp [hlt]
 rw [I93 hlt] at hp
 have hpn:D89 l (i+1)=l.getD i false:=by unfold D89;rw [if_neg (by omega)];rfl
 have hst:=I29 (l.getD i false) (D89 l i) hin
 rw [←hpn] at hp hst
 obtain ⟨b,hb⟩:∃b,b=l.getD i false:=⟨_,rfl⟩
 rw [←hb] at hv hpn
 rw [hpn] at hp hst
 have hlen:=hin.1
 cases b with
 | false =>
  rw [if_neg (by decide)] at hp hst
  refine k5 (k1 (k2 (k3 (k2 (k2 ?_)))))
  refine A3 (A2 (A4 Z Z) Z (A2 (A4 Z Z) Z (A2 (B3 Z (.pure _ _ _ _) Z (by omega) hv) Z (A2 (B6 Z Z) Z (A2 (A4 Z Z) Z (Q8 Z Z Z (by decide) Z (Q8 Z Z Z (by decide) Z (Q8 Z Z Z (by decide) Z (G5 (s:=.any) Z Z Z .un Z (fun h=>absurd h (by decide)) (G5 (s:=.any) Z Z Z .un Z (fun h=>absurd h (by decide)) (G5 (s:=.any) Z Z Z .un Z (fun h=>absurd h (by decide)) (G5 (s:=.any) Z Z Z .un Z (fun h=>absurd h (by decide)) (G5 (s:=.any) Z Z Z .un Z (fun h=>absurd h (by decide)) (G5 (s:=.any) Z Z Z .un Z (fun h=>absurd h (by decide)) (Q8 Z Z Z (by decide) Z (A2 (y3 Z (rfl) Z) Z (A6 ?_)))))))))))))))))
  refine k1 ?_
  refine B2 rfl (fun ht=>?_) (fun ht=>?_)
  ·cases ht
  refine k5 (k1 (k2 ?_))
  refine A3 (A2 (A4 Z Z) Z (A2 (A4 Z Z) Z (A2 (B3 Z (.pure _ _ _ _) Z (by omega) hv) Z (A2 (B6 Z Z) Z (A6 ?_)))))
  refine k1 ?_
  refine B2 rfl (fun ht=>?_) (fun ht=>?_)
  ·cases ht
  refine k5 (k4 (k1 ?_))
  refine A3 (A2 (A4 Z Z) Z (A2 (C1 Z Z (by omega)) Z (A2 (A5 Z Z) Z (A6 ?_))))
  refine k1 ?_
  exact ⟨(i+1,out),⟨by dsimp only;omega,hst,(fun h=>by rw [hpn] at h;cases h),by rw [hpn];exact hp⟩,by dsimp only;omega,J48 ⟨le1 rfl,le1 rfl,le1 rfl,trivial⟩ ⟨rfl,trivial⟩⟩
 | true =>
  rw [if_pos rfl] at hp hst
  have hlast:∀(q:List Span) (s:Span),q.getLast?=some s→q[((q.length:Int) - 1).toNat]?=some s∧∀v:Int,q.set (((q.length:Int) - 1).toNat) ⟨s.From,v⟩=B33 q v:=by
   intro q s hq
   have hqne:q≠[]:=fun e=>by rw [e] at hq;cases hq
   have hq1:=List.length_pos_iff.2 hqne
   rw [show ((q.length:Int) - 1).toNat=q.length - 1 by omega]
   refine ⟨by rw [←List.getLast?_eq_getElem?];exact hq,fun v=>?_⟩
   unfold B33
   rw [hq]
   dsimp only
   have hd:=List.dropLast_concat_getLast hqne
   conv=>lhs;rw [←hd]
   rw [List.set_append_right _ _ (by rw [List.length_dropLast,J77,List.length_dropLast];simp)]
   simp
  by_cases hpv:D89 l i=true
  ·rw [if_pos hpv] at hp hst
   have hne:=hne hpv
   obtain ⟨s,hs⟩:∃s,out.getLast?=some s:=⟨_,List.getLast?_eq_some_getLast hne⟩
   obtain ⟨hv2,hset⟩:=hlast out s hs
   have hset:=hset ((i:Int)+1)
   have hi0:i≠0:=fun e=>by rw [e] at hpv;cases hpv
   have hvp:l[((i:Int) - 1).toNat]?=some true:=by
    unfold D89 at hpv
    rw [if_neg hi0] at hpv
    rw [show ((i:Int) - 1).toNat=i - 1 by omega,←hpv]
    simp [show i - 1 < l.length by omega]
   have h0:decide ((i:Int)=0)=false:=decide_eq_false (by omega)
   have hq1:=List.length_pos_iff.2 hne
   refine k5 (k1 (k2 (k3 (k2 (k2 ?_)))))
   refine A3 (A2 (A4 Z Z) Z (A2 (A4 Z Z) Z (A2 (B3 Z (.pure _ _ _ _) Z (by omega) hv) Z (A2 (B6 Z Z) Z (A2 (A4 Z Z) Z (N8 Z Z Z Z (A2 (A4 Z Z) Z (N8 Z Z Z Z (A2 (F1 Z Z) Z (N8 Z Z Z Z (A2 (A4 Z Z) Z (N8 Z Z Z h0 (A2 (A4 Z Z) Z (N8 Z Z Z h0 (A2 (A4 Z Z) Z (N8 Z Z Z h0 (A2 (P5 Z Z (by omega)) Z (N8 Z Z Z h0 (A2 (B3 Z (.pure _ _ _ _) Z (by omega) hvp) Z (N8 Z Z Z h0 (A2 (B6 Z Z) Z (N8 Z Z Z h0 (A2 (E4 Z) Z ?_)))))))))))))))))))))));refine N8 Z Z Z Z (A2 (y3 Z (h0) Z) Z (A2 (y2 Z (rfl) Z) Z (A6 ?_)))
   refine k1 ?_
   refine B2 rfl (fun ht=>?_) (fun ht=>?_)
   ·cases ht
   refine k5 (k1 (k2 ?_))
   refine A3 (A2 (A4 Z Z) Z (A2 (A4 Z Z) Z (A2 (B3 Z (.pure _ _ _ _) Z (by omega) hv) Z (A2 (B6 Z Z) Z (A6 ?_)))))
   refine k1 ?_
   refine B2 rfl (fun ht=>?_) (fun ht=>?_)
   rotate_left
   ·cases ht
   skip
   refine A3 (A2 (A4 Z Z) Z (A2 (A4 Z Z) Z (A2 (A41 Z Z) Z (A2 (P5 Z Z (by omega)) Z (A2 (A4 Z Z) Z (A2 (C1 Z Z (by omega)) Z (A2 (O7 Z Z Z (by omega) (by omega)) Z (A2 (L2 Z) Z (E3 (A16 (⟨s.From,(i:Int)+1⟩) TySz.out Z Z hv2 Z Z Z Z (fun _ _ _ h=>A22 h) (by intro j h1 h2;rcases j with _ | _ | _ | _ | _ | _ | _ | j<;>first | rfl | omega)) ?_)))))))));refine A6 ?_
   rw [hset]
   refine k4 (k1 ?_)
   refine A3 (A2 (A4 Z Z) Z (A2 (C1 Z Z (by omega)) Z (A2 (A5 Z Z) Z (A6 ?_))))
   refine k1 ?_
   refine ⟨(i+1,B33 out ((i:Int)+1)),⟨by dsimp only;omega,hst,(fun _ h=>?_),by rw [hpn];exact hp⟩,by dsimp only;omega,J48 ⟨le1 rfl,le1 rfl,le1 rfl,trivial⟩ ⟨rfl,trivial⟩⟩
   dsimp only at h
   unfold B33 at h
   rw [hs] at h
   simp at h
  ·rw [if_neg hpv] at hp hst
   obtain ⟨o2,ho2⟩:∃o2,o2=out++[(⟨i,i⟩:Span)]:=⟨_,rfl⟩
   obtain ⟨hv2,hset⟩:=hlast o2 ⟨i,i⟩ (by rw [ho2];simp)
   have hset:=hset ((i:Int)+1)
   have ho2l:o2.length=out.length+1:=by rw [ho2];simp
   rw [←ho2] at hp hst
   have hne2:B33 o2 ((i:Int)+1)≠[]:=by rw [←hset];intro h;have:=congrArg List.length h;rw [List.length_set,J81] at this;omega
   by_cases hi0:i=0
   ·have h0:decide ((i:Int)=0)=true:=decide_eq_true (by omega)
    refine k5 (k1 (k2 (k3 (k2 (k2 ?_)))))
    refine A3 (A2 (A4 Z Z) Z (A2 (A4 Z Z) Z (A2 (B3 Z (.pure _ _ _ _) Z (by omega) hv) Z (A2 (B6 Z Z) Z (A2 (A4 Z Z) Z (N8 Z Z Z Z (A2 (A4 Z Z) Z (N8 Z Z Z Z (A2 (F1 Z Z) Z (N8 Z Z Z Z (A2 (A4 Z Z) Z (Q8 Z Z Z (by rw [h0];decide) Z ?_))))))))))));refine Q8 Z Z Z (by rw [h0];decide) Z ?_;refine Q8 Z Z Z (by rw [h0];decide) Z ?_;refine Q8 Z Z Z (by rw [h0];decide) Z ?_;refine Q8 Z Z Z (by rw [h0];decide) Z ?_;refine Q8 Z Z Z (by rw [h0];decide) Z ?_;refine N8 Z Z Z Z (A2 (y2 Z (h0) Z) Z (A2 (y2 Z (rfl) Z) Z (A6 ?_)))
    refine k1 ?_
    refine B2 rfl (fun ht=>?_) (fun ht=>?_)
    rotate_left
    ·cases ht
    skip
    refine A3 (A2 (A4 Z Z) Z (A2 (A4 Z Z) Z (A2 (A4 Z Z) Z (A2 (F6 Z) Z (A2 (C6 (c:=spanC) (ys:=[⟨i,i⟩]) (D8 Z Z Z Z F0) Z Z Z) Z (C2 (W9 Z Z Z (.pure _ _ _ _) (by (simp;omega)) Z) Z (A2 (A5 Z Z) Z (A6 ?_))))))))
    rw [←ho2]
    refine k1 (k2 ?_)
    refine A3 (A2 (A4 Z Z) Z (A2 (A4 Z Z) Z (A2 (B3 Z (.pure _ _ _ _) Z (by omega) hv) Z (A2 (B6 Z Z) Z (A6 ?_)))))
    refine k1 ?_
    refine B2 rfl (fun ht=>?_) (fun ht=>?_)
    rotate_left
    ·cases ht
    skip
    refine A3 (A2 (A4 Z Z) Z (A2 (A4 Z Z) Z (A2 (A41 Z Z) Z (A2 (P5 Z Z (by omega)) Z (A2 (A4 Z Z) Z (A2 (C1 Z Z (by omega)) Z (A2 (O7 Z Z Z (by omega) (by omega)) Z (A2 (L2 Z) Z (E3 (A16 (⟨i,(i:Int)+1⟩) TySz.out Z Z hv2 Z Z Z Z (fun _ _ _ h=>A22 h) (by intro j h1 h2;rcases j with _ | _ | _ | _ | _ | _ | _ | j<;>first | rfl | omega)) ?_)))))))));refine A6 ?_
    rw [hset]
    refine k4 (k1 ?_)
    refine A3 (A2 (A4 Z Z) Z (A2 (C1 Z Z (by omega)) Z (A2 (A5 Z Z) Z (A6 ?_))))
    refine k1 ?_
    exact ⟨(i+1,B33 o2 ((i:Int)+1)),⟨by dsimp only;omega,hst,(fun _=>hne2),by rw [hpn];exact hp⟩,by dsimp only;omega,J48 ⟨le1 rfl,le1 rfl,le1 rfl,trivial⟩ ⟨rfl,trivial⟩⟩
   ·have h0:decide ((i:Int)=0)=false:=decide_eq_false (by omega)
    have hvp:l[((i:Int) - 1).toNat]?=some false:=by
     unfold D89 at hpv
     rw [if_neg hi0] at hpv
     rw [show ((i:Int) - 1).toNat=i - 1 by omega]
     have hlt2:i - 1 < l.length:=by omega
     rw [J82,J79 hlt2] at hpv
     rw [J79 hlt2]
     simpa using hpv
    refine k5 (k1 (k2 (k3 (k2 (k2 ?_)))))
    refine A3 (A2 (A4 Z Z) Z (A2 (A4 Z Z) Z (A2 (B3 Z (.pure _ _ _ _) Z (by omega) hv) Z (A2 (B6 Z Z) Z (A2 (A4 Z Z) Z (N8 Z Z Z Z (A2 (A4 Z Z) Z (N8 Z Z Z Z (A2 (F1 Z Z) Z (N8 Z Z Z Z (A2 (A4 Z Z) Z (N8 Z Z Z h0 (A2 (A4 Z Z) Z (N8 Z Z Z h0 (A2 (A4 Z Z) Z (N8 Z Z Z h0 (A2 (P5 Z Z (by omega)) Z (N8 Z Z Z h0 (A2 (B3 Z (.pure _ _ _ _) Z (by omega) hvp) Z (N8 Z Z Z h0 (A2 (B6 Z Z) Z (N8 Z Z Z h0 (A2 (E4 Z) Z ?_)))))))))))))))))))))));refine N8 Z Z Z Z (A2 (y3 Z (h0) Z) Z (A2 (y2 Z (rfl) Z) Z (A6 ?_)))
    refine k1 ?_
    refine B2 rfl (fun ht=>?_) (fun ht=>?_)
    rotate_left
    ·cases ht
    skip
    refine A3 (A2 (A4 Z Z) Z (A2 (A4 Z Z) Z (A2 (A4 Z Z) Z (A2 (F6 Z) Z (A2 (C6 (c:=spanC) (ys:=[⟨i,i⟩]) (D8 Z Z Z Z F0) Z Z Z) Z (C2 (W9 Z Z Z (.pure _ _ _ _) (by (simp;omega)) Z) Z (A2 (A5 Z Z) Z (A6 ?_))))))))
    rw [←ho2]
    refine k1 (k2 ?_)
    refine A3 (A2 (A4 Z Z) Z (A2 (A4 Z Z) Z (A2 (B3 Z (.pure _ _ _ _) Z (by omega) hv) Z (A2 (B6 Z Z) Z (A6 ?_)))))
    refine k1 ?_
    refine B2 rfl (fun ht=>?_) (fun ht=>?_)
    rotate_left
    ·cases ht
    skip
    refine A3 (A2 (A4 Z Z) Z (A2 (A4 Z Z) Z (A2 (A41 Z Z) Z (A2 (P5 Z Z (by omega)) Z (A2 (A4 Z Z) Z (A2 (C1 Z Z (by omega)) Z (A2 (O7 Z Z Z (by omega) (by omega)) Z (A2 (L2 Z) Z (E3 (A16 (⟨i,(i:Int)+1⟩) TySz.out Z Z hv2 Z Z Z Z (fun _ _ _ h=>A22 h) (by intro j h1 h2;rcases j with _ | _ | _ | _ | _ | _ | _ | j<;>first | rfl | omega)) ?_)))))))));refine A6 ?_
    rw [hset]
    refine k4 (k1 ?_)
    refine A3 (A2 (A4 Z Z) Z (A2 (C1 Z Z (by omega)) Z (A2 (A5 Z Z) Z (A6 ?_))))
    refine k1 ?_
    exact ⟨(i+1,B33 o2 ((i:Int)+1)),⟨by dsimp only;omega,hst,(fun _=>hne2),by rw [hpn];exact hp⟩,by dsimp only;omega,J48 ⟨le1 rfl,le1 rfl,le1 rfl,trivial⟩ ⟨rfl,trivial⟩⟩
theorem J13 (t:Table) (hr:I9 t.Rows) (hl:t.Rows.length≤268435456) (hx:P0 t.Rows≤536870912):FnOk Tryz.prog 236 [pTable t] (fun rs=>rs=[pSpans (l8 t).1,E2 (l8 t).2]):=by
 refine FnOk.intro Tryz.func236 (by decide) Z Z Z Z ?_
 refine k2 ?_
 refine A3 (C2 (P6 1 Z Z Z) Z (A2 (A5 Z Z) Z (A2 (A5 Z Z) Z (A6 ?_))))
 refine k1 (k2 (k2 ?_))
 refine A3 (A2 (C7 Z Z Z) Z (B9 (E35 t hr (by omega) hx) Z Z Z ?_));rintro _ rfl;refine A2 (A5 Z Z) Z (A6 ?_)
 refine k1 (k2 ?_)
 refine A3 (A2 (A4 Z Z) Z (A2 (L4 Z Z) Z (A6 ?_)))
 refine k1 ?_
 refine B2 rfl (fun ht=>?_) (fun ht=>?_)
 ·have h:=A0 ht
  refine k2 ?_
  refine A3 (A2 (A4 Z Z) Z (A2 (G9 _ 2 spanC) Z (A2 (A5 Z Z) Z (A6 ?_))))
  refine k1 (k10 (k11 ?_))
  exact B5 (X2 rfl rfl rfl rfl rfl) (by unfold l8;rw [if_pos h])
 have h:=A1 ht
 refine k5 (k1 (k2 ?_))
 refine A3 (C2 (V3 751 _ D87 Z) Z (A6 ?_))
 refine k1 (k2 (k2 ?_))
 refine A3 (A2 (A5 Z Z) Z (A6 ?_))
 refine k1 (k3 ?_)
 refine D1 (X:=Nat) (fun i=>([(1,.s (.one (.ref 1 0))),(5,.s (.one (.buf 751 Bool 1 D87 ((t.Rows.take i).map fun r=>!blankB r)))),(6,C3 i)],[(1,.box (pTable t).s1.cells),(751,.spare ((t.Rows.take i).map fun r=>!blankB r).length 1 4)])) (fun i=>i≤t.Rows.length) (fun i=>t.Rows.length - i) 0 (Nat.zero_le _) (J48 ⟨le1 rfl,le1 rfl,le1 rfl,trivial⟩ ⟨rfl,rfl,trivial⟩) ?_
 intro i hi
 dsimp only at hi ⊢
 have hml:((t.Rows.take i).map fun r=>!blankB r).length=i:=by simp;omega
 refine k2 (k2 ?_)
 refine A3 (A2 (A4 Z Z) Z (A2 (A7 Z) Z (A2 (B0 Z Z Z) Z (A2 (F2 Z (.pure _ _ _ _)) Z (A2 (D6 Z Z) Z (A6 ?_))))))
 refine k1 ?_
 refine B2 rfl (fun ht=>?_) (fun ht=>?_)
 ·have hlt:i < t.Rows.length:=by have:=A0 ht;omega
  have hv:t.Rows[i]?=some t.Rows[i]:=by simp [hlt]
  have hst:((t.Rows.take (i+1)).map fun r=>!blankB r)=((t.Rows.take i).map fun r=>!blankB r)++[!blankB t.Rows[i]]:=by
   rw [J86 hlt];simp only [J92,J85,K12]
  obtain ⟨r,hrr⟩:∃r,r=t.Rows[i]:=⟨_,rfl⟩
  rw [←hrr] at hv hst
  refine k5 (k1 (k2 (k3 ?_)))
  refine A3 (A2 (A4 Z Z) Z (A2 (A7 Z) Z (A2 (B0 Z Z Z) Z (A2 (A4 Z Z) Z (A2 (B3 Z (.pure _ _ _ _) Z (by omega) hv) Z (A2 (H2 Z Z) Z (B9 (I47 r) Z Z Z ?_)))))));rintro _ rfl;refine A2 (E4 Z) Z (A2 (C6 (c:=D87) (ys:=[!blankB r]) (D8 Z Z Z Z F0) Z Z Z) Z (C2 (F9 Z Z Z (.pure _ _ _ _) (by (rw [hml];simp only [J78,J81];omega)) Z) Z ?_));refine A2 (A5 Z Z) Z (A6 ?_)
  refine k4 (k1 ?_)
  refine A3 (A2 (A4 Z Z) Z (A2 (C1 Z Z (by omega)) Z (A2 (A5 Z Z) Z (A6 ?_))))
  refine k1 ?_
  refine ⟨i+1,by omega,by omega,?_⟩
  rw [hst]
  exact J48 ⟨le1 rfl,le1 rfl,le1 rfl,trivial⟩ ⟨rfl,rfl,trivial⟩
 ·have hil:i=t.Rows.length:=by have:=A1 ht;omega
  rw [hil,J97]
  have hml2:(t.Rows.map fun r=>!blankB r).length=t.Rows.length:=by simp
  refine k6 (k2 ?_)
  refine A3 (A2 (A4 Z Z) Z (B9 (F58 (t.Rows.map fun r=>!blankB r) (by omega)) Z Z Z ?_));rintro _ rfl;refine A2 (A5 Z Z) Z (A2 (A5 Z Z) Z (A6 ?_))
  refine k1 (k10 ?_)
  exact B5 (X2 rfl rfl rfl rfl rfl) (by unfold l8;rw [if_neg h])
theorem I48 (t:Table) (s:Span) (hn:0≤t.Parents∧t.Parents≤64) (h1:0≤s.From∧s.From≤t.Rows.length) (h2:0≤s.To∧s.To≤t.Rows.length) (hl:t.Rows.length≤268435456) :
  FnOk Tryz.prog 237 [pTable t,pSpan s] (fun rs=>rs=[D3 (A55 t s)]):=by
 obtain ⟨F,hF⟩:∃F:Nat,s.From=F:=⟨s.From.toNat,by omega⟩
 obtain ⟨T,hT⟩:∃T:Nat,s.To=T:=⟨s.To.toNat,by omega⟩
 obtain ⟨R,hR⟩:∃R,R=(t.Rows.drop F).take (T - F):=⟨_,rfl⟩
 have hRl:R.length=T - F:=by rw [hR,J90,J88];omega
 have hD:A55 t s=(List.range t.Parents.toNat).all fun p=>!decide (D06 R / 2 ^ p % 2=0):=by unfold A55;rw [hF,hT,J83,J83,←hR]
 have hain:∀q:List Row,0≤D06 q∧D06 q < 4294967296:=by
  have key:∀(q:List Row) (a:Int),(0≤a∧a < 4294967296)→0≤q.foldl (fun a r=>V0 a r.Marks) a∧q.foldl (fun a r=>V0 a r.Marks) a < 4294967296:=by
   intro q
   induction q with
   | nil=>intro a h;exact h
   | cons x r ih=>intro a _;exact ih _ (E58 _)
  exact fun q=>key q 0 (by decide)
 refine FnOk.intro Tryz.func237 (by decide) Z Z Z Z ?_
 refine k2 ?_
 refine A3 (C2 (P6 2 Z Z Z) Z (C2 (P6 3 Z Z Z) Z (A2 (A5 Z Z) Z (A6 ?_))))
 refine k1 (k2 ?_)
 refine A3 (A2 (A5 Z Z) Z (A6 ?_))
 refine k1 (k2 (k2 ?_))
 refine A3 (A2 (A7 Z) Z (A2 (B0 Z Z Z) Z (A2 (A5 Z Z) Z (A6 ?_))))
 refine k1 (k3 ?_)
 rw [hF]
 refine D1 (X:=Nat) (fun k=>([(2,.s (.one (.ref 2 0))),(3,.s (.one (.ref 3 0))),(5,J4 (.int .u32 (D06 (R.take k)))),(6,C3 ((F+k:Nat):Int))],[(2,.box (pTable t).s1.cells),(3,.box (pSpan s).s1.cells)])) (fun k=>k≤R.length) (fun k=>R.length - k) 0 (Nat.zero_le _) (J48 ⟨le1 rfl,le1 rfl,le1 rfl,le1 rfl,trivial⟩ ⟨rfl,rfl,trivial⟩) ?_
 intro k hk
 dsimp only at hk ⊢
 refine k2 (k2 ?_)
 refine A3 (A2 (A4 Z Z) Z (A2 (A7 Z) Z (A2 (B0 Z Z Z) Z (A2 (D6 Z Z) Z (A6 ?_)))))
 refine k1 ?_
 refine B2 rfl (fun ht=>?_) (fun ht=>?_)
 ·have hlt:k < R.length:=by have:=A0 ht;omega
  have hv:t.Rows[((F+k:Nat):Int).toNat]?=some R[k]:=by
   have e1:R[k]?=some R[k]:=by simp
   have e2:R[k]?=t.Rows[F+k]?:=by rw [hR,J98 (by omega),J99]
   rw [J83,←e2]
   exact e1
  have hst:D06 (R.take (k+1))=V0 (D06 (R.take k)) R[k].Marks:=by
   unfold D06
   rw [J86 hlt,K21];rfl
  obtain ⟨r,hrr⟩:∃r,r=R[k]:=⟨_,rfl⟩
  rw [←hrr] at hv hst
  refine k5 (k1 (k2 (k3 ?_)))
  refine A3 (A2 (A4 Z Z) Z (A2 (A7 Z) Z (A2 (B0 Z Z Z) Z (A2 (A4 Z Z) Z (A2 (B3 Z (.pure _ _ _ _) Z (by omega) hv) Z (A2 (E1 Z) Z (A2 (B6 Z Z) Z (A2 (T4 Z Z Z (fun _=>rfl)) Z (A2 (A5 Z Z) Z (A6 ?_))))))))))
  refine k4 (k1 ?_)
  refine A3 (A2 (A4 Z Z) Z (A2 (C1 Z Z (by omega)) Z (A2 (A5 Z Z) Z (A6 ?_))))
  refine k1 ?_
  refine ⟨k+1,by omega,by omega,?_⟩
  rw [hst,show ((F+(k+1):Nat):Int)=((F+k:Nat):Int)+1 by omega]
  exact J48 ⟨le1 rfl,le1 rfl,le1 rfl,le1 rfl,trivial⟩ ⟨rfl,rfl,trivial⟩
 have hkl:k=R.length∨True:=.inr trivial
 have hT2:(T:Int)≤((F+k:Nat):Int):=by have:=A1 ht;omega
 have hkR:R.take k=R:=K17 (by omega)
 rw [hkR]
 obtain ⟨A,hA⟩:∃A,A=D06 R:=⟨_,rfl⟩
 have hAin:=hain R
 rw [←hA] at hAin hD ⊢
 obtain ⟨n,hn2⟩:∃n:Nat,t.Parents=n:=⟨t.Parents.toNat,by omega⟩
 rw [hn2,J83] at hD
 refine k6 (k2 (k2 ?_))
 refine A3 (A2 (A5 Z Z) Z (A6 ?_))
 refine k1 (k3 ?_)
 refine D1 (X:=Nat) (fun p=>([(2,.s (.one (.ref 2 0))),(5,J4 (.int .u32 A)),(7,C3 p)],[(2,.box (pTable t).s1.cells)])) (fun p=>p≤n∧∀q,q < p→¬A / 2 ^ q % 2=0) (fun p=>n - p) 0 ⟨Nat.zero_le _,fun q hq=>by omega⟩ (J48 ⟨le1 rfl,le1 rfl,le1 rfl,trivial⟩ ⟨rfl,trivial⟩) ?_
 rintro p ⟨hp,hq⟩
 dsimp only at hp hq ⊢
 refine k2 (k2 ?_)
 refine A3 (A2 (A4 Z Z) Z (A2 (A7 Z) Z (A2 (B0 Z Z Z) Z (A2 (D6 Z Z) Z (A6 ?_)))))
 refine k1 ?_
 refine B2 rfl (fun ht=>?_) (fun ht=>?_)
 ·have hlt:p < n:=by have:=A0 ht;omega
  have hu:=A61 (n:=(p:Int)) (by omega)
  have h3:0≤A / 2 ^ p:=Int.ediv_nonneg hAin.1 (Int.pow_nonneg (by decide))
  have h4:A / 2 ^ p≤A:=Int.ediv_le_self _ hAin.1
  have e1:=A79 (A / 2 ^ p) (by omega)
  have e32:A.fdiv (2 ^ (min (p:Int).toNat IntKind.u32.bits))=A / 2 ^ p∨32 < p:=by
   by_cases h:p≤32
   ·exact .inl (D68 A p (by omega))
   ·exact .inr (by omega)
  have e33:A.fdiv (2 ^ (min (p:Int).toNat IntKind.u32.bits))=A / 2 ^ p:=by
   rcases e32 with h | h
   ·exact h
   ·have h5:min (p:Int).toNat IntKind.u32.bits=32:=by rw [J83];exact Nat.min_eq_right (by show 32≤p;omega)
    rw [h5,Int.fdiv_eq_ediv_of_nonneg _ (Int.pow_nonneg (by decide))]
    have h6:A / 2 ^ 32=0:=Int.ediv_eq_zero_of_lt hAin.1 (by have:(2:Int) ^ 32=4294967296:=rfl;omega)
    have h7:A / 2 ^ p=0:=Int.ediv_eq_zero_of_lt hAin.1 (by
     have h8:(2:Nat) ^ 32≤2 ^ p:=Nat.pow_le_pow_right (by decide) (by omega)
     have h9:((2 ^ p:Nat):Int)=2 ^ p:=by simp
     have h10:(2:Nat) ^ 32=4294967296:=rfl
     omega)
    rw [h6,h7]
  refine k5 (k1 (k2 (k3 (k2 ?_))))
  refine A3 (A2 (A4 Z Z) Z (A2 (A4 Z Z) Z (A2 (I1 Z) Z (A2 (A38 Z Z (by (rw [hu];omega))) Z ?_))));refine A2 (T4 Z Z Z (fun _=>rfl)) Z (A2 (F1 Z Z) Z (A6 ?_))
  rw [hu,e33,e1]
  refine k1 ?_
  refine B2 rfl (fun ht=>?_) (fun ht=>?_)
  ·have h:=A0 ht
   refine k2 ?_
   refine A3 (A2 (A5 Z Z) Z (A6 ?_))
   refine k1 (k10 (k12 (k11 (k11 (k12 (k11 ?_))))))
   refine B5 (rs:=[D3 false]) (F8 Z Z Z) ?_
   rw [hD,Eq.comm]
   congr 3
   rw [Bool.eq_false_iff]
   intro hall
   have:=List.all_eq_true.1 hall p (List.mem_range.2 hlt)
   simp [h] at this
  ·have h:=A1 ht
   refine k5 (k4 (k1 ?_))
   refine A3 (A2 (A4 Z Z) Z (A2 (C1 Z Z (by omega)) Z (A2 (A5 Z Z) Z (A6 ?_))))
   refine k1 ?_
   refine ⟨p+1,⟨by omega,fun q hq2=>?_⟩,by omega,J48 ⟨le1 rfl,le1 rfl,le1 rfl,trivial⟩ ⟨rfl,trivial⟩⟩
   by_cases e:q=p
   ·subst e;exact h
   ·exact hq q (by omega)
 ·have hpn:p=n:=by have:=A1 ht;omega
  subst hpn
  refine k6 (k2 ?_)
  refine A3 (A2 (A5 Z Z) Z (A6 ?_))
  refine k1 (k10 ?_)
  refine B5 (rs:=[D3 true]) (F8 Z Z Z) ?_
  rw [hD,Eq.comm]
  congr 3
  rw [List.all_eq_true]
  intro q hq2
  have:=hq q (List.mem_range.1 hq2)
  simp [this]
theorem J14 {t:Table} (h:(l8 t).2=0):U5 t=0∧(1≤t.Parents∧t.Parents≤32):=by
 unfold l8 at h
 by_cases hc:U5 t=0
 ·refine ⟨hc,?_⟩
  unfold U5 at hc
  split at hc
  ·cases hc
  ·omega
 ·rw [if_pos hc] at h;exact absurd h hc
theorem G72 {α:Type} (L:List α) (p:α→Bool) (k:Nat) (h:k < L.length):(L.take (k+1)).filter p=(L.take k).filter p++if p L[k]=true then [L[k]] else []:=by
 rw [J86 h,K30]
 congr 1
 rw [List.filter_cons];split<;>rfl
theorem D92 (t:Table) (d:Bool) (hr:I9 t.Rows) (hl:t.Rows.length≤134217728) (hx:P0 t.Rows≤536870912) :
  FnOk Tryz.prog 180 [pTable t,D3 d] (fun rs=>rs=[pSpans (K2 t d).1,E2 (K2 t d).2]):=by
 refine FnOk.intro Tryz.func180 (by decide) Z Z Z Z ?_
 refine k2 ?_
 refine A3 (C2 (P6 2 Z Z Z) Z (A2 (A5 Z Z) Z (A2 (A5 Z Z) Z (A6 ?_))))
 refine k1 (k2 ?_)
 refine A3 (A2 (C7 Z Z Z) Z (B9 (J13 t hr (by omega) hx) Z Z Z ?_));rintro _ rfl;refine A2 (A4 Z Z) Z (A2 (B1 Z Z) Z (A2 (B1 Z Z) Z (A2 (A5 Z Z) Z (A2 (A5 Z Z) Z (A6 ?_)))))
 refine k1 (k2 (k2 ?_))
 refine A3 (A2 (A4 Z Z) Z (A2 (L4 Z Z) Z (A6 ?_)))
 refine k1 ?_
 refine B2 rfl (fun ht=>?_) (fun ht=>?_)
 ·have h:=A0 ht
  refine k2 ?_
  refine A3 (A2 (A4 Z Z) Z (A2 (G9 _ 2 spanC) Z (A2 (A5 Z Z) Z (A6 ?_))))
  refine k1 (k10 (k11 ?_))
  exact B5 (X2 rfl rfl rfl rfl rfl) (by unfold K2;rw [if_pos h])
 have h:=A1 ht
 have h0:(l8 t).2=0:=by omega
 have hres:K2 t d=((l8 t).1.filter fun s=>!d||A55 t s,0):=by unfold K2;rw [if_neg (by omega)]
 rw [hres]
 obtain ⟨_,hn1,hn2⟩:=J14 h0
 obtain ⟨L,hL⟩:∃L,L=(l8 t).1:=⟨_,rfl⟩
 have hin:=I31 t
 rw [←hL] at hin ⊢
 obtain ⟨hin1,hin2⟩:=hin
 obtain ⟨p,hp⟩:∃p:Span→Bool,p=fun s=>!d||A55 t s:=⟨_,rfl⟩
 rw [←hp]
 refine k5 (k1 (k2 ?_))
 refine A3 (C2 (V3 752 _ spanC Z) Z (A6 ?_))
 refine k1 (k2 (k2 ?_))
 refine A3 (A2 (A5 Z Z) Z (A6 ?_))
 refine k1 (k3 ?_)
 refine D1 (X:=Nat) (fun k=>([(1,Q5 d),(2,.s (.one (.ref 2 0))),(6,C8 Span 2 spanC L),(8,.s (.one (.buf 752 Span 2 spanC ((L.take k).filter p)))),(9,C3 k)],[(2,.box (pTable t).s1.cells),(752,.spare ((L.take k).filter p).length 2 95)])) (fun k=>k≤L.length) (fun k=>L.length - k) 0 (Nat.zero_le _) (J48 ⟨le1 rfl,le1 rfl,le1 rfl,le1 rfl,le1 rfl,trivial⟩ ⟨rfl,rfl,trivial⟩) ?_
 intro k hk
 dsimp only at hk ⊢
 have hfl:=List.length_filter_le p (L.take k)
 have htl:(L.take k).length=k:=by rw [J90];omega
 refine k2 (k2 ?_)
 refine A3 (A2 (A4 Z Z) Z (A2 (A4 Z Z) Z (A2 (F2 Z (.pure _ _ _ _)) Z (A2 (D6 Z Z) Z (A6 ?_)))))
 refine k1 ?_
 refine B2 rfl (fun ht=>?_) (fun ht=>?_)
 rotate_left
 ·have hkl:k=L.length:=by have:=A1 ht;omega
  rw [hkl,J97]
  refine k6 (k2 ?_)
  refine A3 (A2 (A4 Z Z) Z (A2 (A5 Z Z) Z (A2 (A5 Z Z) Z (A6 ?_))))
  refine k1 (k10 ?_)
  exact B5 (X2 rfl rfl rfl rfl rfl) rfl
 have hlt:k < L.length:=by have:=A0 ht;omega
 have hst:=G72 L p k hlt
 have hv:L[k]?=some L[k]:=by simp [hlt]
 have hs:=hin2 _ (J96 hlt)
 obtain ⟨s,hsd⟩:∃s,s=L[k]:=⟨_,rfl⟩
 rw [←hsd] at hst hv hs
 have hps:p s=(!d||A55 t s):=by rw [hp]
 refine k5 (k1 (k2 (k3 (k2 ?_))))
 refine C4 (by kernel_rfl) (by kernel_rfl) (A8 (A4 Z Z) Z Z (A8 (E4 Z) Z Z (A8 (A4 Z Z) Z Z (C5 Z Z (fun hg=>by rw [hg];exact C7 Z Z Z) Z Z ?_))));refine C5 Z Z (fun hg=>by rw [hg];exact A4 Z Z) Z Z ?_;refine C5 Z Z (fun hg=>by rw [hg];exact A4 Z Z) Z Z ?_;refine C5 Z Z (fun hg=>by have hq:=hg;(try simp at hq);rw [hg];exact B3 Z (.pure _ _ _ _) Z (by omega) hv) Z Z ?_;refine C5 Z Z (fun hg=>by rw [hg];exact H2 Z Z) Z Z ?_;refine C5 Z Z (fun hg=>by have hq:=hg;(try simp at hq);rw [hg];exact G7 (I48 t s (by omega) hs.1 hs.2 (by omega)) Z Z) Z Z ?_;refine A8 (B4 Z (fun h=>by first | rfl | (rw [h];rfl)) (fun h=>by first | rfl | (rw [h];rfl))) Z Z ?_;refine H9 ?_
 refine k1 ?_
 refine B2 rfl (fun ht=>?_) (fun ht=>?_)
 ·have hpt:p s=true:=by rw [hps];cases d<;>simp_all
  rw [if_pos hpt] at hst
  skip
  refine A3 (A2 (A4 Z Z) Z (A2 (A4 Z Z) Z (A2 (A4 Z Z) Z (A2 (B3 Z (.pure _ _ _ _) Z (by omega) hv) Z (A2 (H2 Z Z) Z (A2 (C6 (c:=spanC) (ys:=[s]) (D8 Z Z Z Z F0) Z Z Z) Z (C2 (F9 Z Z Z (.pure _ _ _ _) (by (simp only [J78,J81];omega)) Z) Z (A2 (A5 Z Z) Z (A6 ?_)))))))))
  refine k4 (k1 ?_)
  refine A3 (A2 (A4 Z Z) Z (A2 (C1 Z Z (by omega)) Z (A2 (A5 Z Z) Z (A6 ?_))))
  refine k1 ?_
  refine ⟨k+1,by omega,by omega,?_⟩
  rw [hst]
  exact J48 ⟨le1 rfl,le1 rfl,le1 rfl,le1 rfl,le1 rfl,trivial⟩ ⟨rfl,rfl,trivial⟩
 ·have hpt:¬p s=true:=by rw [hps];cases d<;>simp_all
  rw [if_neg hpt,K02] at hst
  refine k5 (k4 (k1 ?_))
  refine A3 (A2 (A4 Z Z) Z (A2 (C1 Z Z (by omega)) Z (A2 (A5 Z Z) Z (A6 ?_))))
  refine k1 ?_
  refine ⟨k+1,by omega,by omega,?_⟩
  rw [hst]
  exact J48 ⟨le1 rfl,le1 rfl,le1 rfl,le1 rfl,le1 rfl,trivial⟩ ⟨rfl,rfl,trivial⟩
def C00 (L:List Span) (ctx:Int) (i k q:Nat):Bool:=if q < i then l9 L ctx q else if q=i then l9 (L.take k) ctx i else false
theorem I49 (L:List Span) (ctx:Int) (n:Nat):List.replicate n false=(List.range n).map (C00 L ctx 0 0):=by
 refine List.ext_getElem (by simp) fun q h1 h2=>?_
 simp only [List.getElem_replicate,List.getElem_map,List.getElem_range]
 unfold C00
 rw [if_neg (by omega)]
 split<;>simp [l9]
theorem I50 (L:List Span) (ctx:Int) (i n:Nat):(List.range n).map (C00 L ctx i L.length)=(List.range n).map (C00 L ctx (i+1) 0):=by
 refine List.map_congr_left fun q _=>?_
 unfold C00
 rw [J97]
 by_cases h1:q < i
 ·rw [if_pos h1,if_pos (by omega)]
 ·rw [if_neg h1]
  by_cases h2:q=i
  ·rw [if_pos h2,if_pos (by omega),h2]
  ·rw [if_neg h2,if_neg (by omega)]
   split<;>simp [l9]
theorem I51 (L:List Span) (ctx:Int) (n:Nat):(List.range n).map (C00 L ctx n 0)=(List.range n).map (l9 L ctx):=by
 refine List.map_congr_left fun q hq=>?_
 unfold C00
 rw [if_pos (by simpa using hq)]
theorem G73 (L:List Span) (ctx:Int) (i k:Nat) (h:k < L.length):l9 (L.take (k+1)) ctx i=(l9 (L.take k) ctx i||decide (L[k].From - ctx≤i∧(i:Int) < L[k].To+ctx)):=by
 unfold l9
 rw [J86 h,List.any_append];simp
theorem G74 (t:Table) (ctx:Int) (d:Bool) (hr:I9 t.Rows) (hl:t.Rows.length≤134217728) (hx:P0 t.Rows≤536870912) :
  FnOk Tryz.prog 100 [pTable t,E2 ctx,D3 d] (fun rs=>rs=[pSpans (V5 t ctx d).1,E2 (V5 t ctx d).2]):=by
 refine FnOk.intro Tryz.func100 (by decide) Z Z Z Z ?_
 refine k2 ?_
 refine A3 (C2 (P6 3 Z Z Z) Z (A2 (A5 Z Z) Z (A2 (A5 Z Z) Z (A6 ?_))))
 refine k1 (k2 ?_)
 refine A3 (A2 (C7 Z Z Z) Z (A2 (A4 Z Z) Z (B9 (D92 t d hr hl hx) Z Z Z ?_)));rintro _ rfl;refine A2 (A4 Z Z) Z (A2 (B1 Z Z) Z (A2 (B1 Z Z) Z (A2 (A5 Z Z) Z (A2 (A5 Z Z) Z (A6 ?_)))))
 refine k1 (k2 (k2 ?_))
 refine A3 (A2 (A4 Z Z) Z (A2 (L4 Z Z) Z (A6 ?_)))
 refine k1 ?_
 refine B2 rfl (fun ht=>?_) (fun ht=>?_)
 ·have h:=A0 ht
  refine k2 ?_
  refine A3 (A2 (A4 Z Z) Z (A2 (G9 _ 2 spanC) Z (A2 (A5 Z Z) Z (A6 ?_))))
  refine k1 (k10 (k11 ?_))
  exact B5 (X2 rfl rfl rfl rfl rfl) (by unfold V5;rw [if_pos h])
 have h:=A1 ht
 refine k5 (k1 (k2 (k2 ?_)))
 refine A3 (A2 (A4 Z Z) Z (A2 (D6 Z Z) Z (A2 (A4 Z Z) Z (A9 Z Z Z Z (fun hg=>by rw [hg];exact A4 Z Z) ?_))));refine A9 Z Z Z Z (fun hg=>by rw [hg];exact L9 Z Z) ?_;refine A2 (B4 Z (fun h=>by first | rfl | (rw [h];rfl)) (fun h=>by first | rfl | (rw [h];rfl))) Z ?_;refine A6 ?_
 refine k1 ?_
 refine B2 rfl (fun ht=>?_) (fun ht=>?_)
 ·have h1:=A0 (or_pick.symm.trans ht)
  refine k2 ?_
  refine A3 (A2 (G9 _ 2 spanC) Z (A2 (A5 Z Z) Z (A6 ?_)))
  refine k1 (k10 (k11 ?_))
  exact B5 (X2 rfl rfl rfl rfl rfl) (by unfold V5;rw [if_neg h,if_pos (by omega)])
 have h1:=A1 (or_pick.symm.trans ht)
 have hres:V5 t ctx d=(B97 ((List.range t.Rows.length).map (l9 (K2 t d).1 ctx)),0):=by unfold V5;rw [if_neg h,if_neg (by omega)]
 rw [hres]
 obtain ⟨L,hL⟩:∃L,L=(K2 t d).1:=⟨_,rfl⟩
 have hin:=E88 t d
 rw [←hL] at hin ⊢
 obtain ⟨hin1,hin2⟩:=hin
 obtain ⟨n,hn⟩:∃n,n=t.Rows.length:=⟨_,rfl⟩
 rw [←hn] at hin1 hin2 hl ⊢
 refine R6 [(1,C3 ctx),(3,.s (.one (.ref 3 0))),(8,C8 Span 2 spanC L)] [(3,.box (pTable t).s1.cells)] (J48 ⟨le1 rfl,le1 rfl,le1 rfl,trivial⟩ ⟨rfl,trivial⟩) ?_
 refine k5 (k1 (k2 ?_))
 refine A3 (A2 (A7 Z) Z (A2 (B0 Z Z Z) Z (A2 (F2 Z (.pure _ _ _ _)) Z (C2 (o7 753 Bool D87 false Z Z (by omega) (by omega) (fun _=>by first | exact ⟨⟨rfl,rfl⟩,trivial⟩ | exact ⟨P4 _ _ _,trivial⟩) (by first | rfl | (simp [H3,J8,Ob.free,SV.free,S1.free,TC.free]<;>rfl))) Z ?_))));refine A2 (A5 Z Z) Z (A6 ?_)
 rw [←hn,J83,I49 L ctx n]
 refine k1 (k2 (k2 ?_))
 refine A3 (A2 (A5 Z Z) Z (A6 ?_))
 refine k1 (k3 ?_)
 refine D1 (X:=Nat) (fun i=>([(1,C3 ctx),(8,C8 Span 2 spanC L),(10,.s (.one (.mut 753))),(11,C3 i)],[(753,.arr Bool 1 D87 ((List.range n).map (C00 L ctx i 0)))])) (fun i=>i≤n) (fun i=>n - i) 0 (Nat.zero_le _) (J48 ⟨le1 rfl,le1 rfl,le1 rfl,le1 rfl,trivial⟩ ⟨rfl,trivial⟩) ?_
 intro i hi
 dsimp only at hi ⊢
 have hlen:∀k,((List.range n).map (C00 L ctx i k)).length=n:=fun k=>by simp
 have hlen0:=hlen 0
 refine k2 (k2 ?_)
 refine A3 (A2 (A4 Z Z) Z (A2 (A4 Z Z) Z (A2 (I32 Z Z) Z (A2 (D6 Z Z) Z (A6 ?_)))))
 refine k1 ?_
 refine B2 rfl (fun ht=>?_) (fun ht=>?_)
 rotate_left
 ·have hin:i=n:=by have:=A1 ht;omega
  rw [hin,I51]
  refine F4 (Sees.freeze (k:=753) Z) ?_
  refine k6 (k2 ?_)
  refine A3 (A2 (A4 Z Z) Z (B9 (F58 ((List.range n).map (l9 L ctx)) (by simp;omega)) Z Z Z ?_));rintro _ rfl;refine A2 (A5 Z Z) Z (A2 (A5 Z Z) Z (A6 ?_))
  refine k1 (k10 ?_)
  exact B5 (X2 rfl rfl rfl rfl rfl) rfl
 have hlt:i < n:=by have:=A0 ht;omega
 refine k5 (k1 (k2 (k3 (k2 ?_))))
 refine A3 (A2 (A5 Z Z) Z (A6 ?_))
 refine k1 (k3 ?_)
 refine D1 (X:=Nat) (fun k=>([(1,C3 ctx),(8,C8 Span 2 spanC L),(10,.s (.one (.mut 753))),(11,C3 i),(12,C3 k)],[(753,.arr Bool 1 D87 ((List.range n).map (C00 L ctx i k)))])) (fun k=>k≤L.length) (fun k=>L.length - k) 0 (Nat.zero_le _) (J48 ⟨le1 rfl,le1 rfl,le1 rfl,le1 rfl,le1 rfl,trivial⟩ ⟨rfl,trivial⟩) ?_
 intro k hk
 dsimp only at hk ⊢
 have hlenk:=hlen k
 refine k2 (k2 ?_)
 refine A3 (A2 (A4 Z Z) Z (A2 (A4 Z Z) Z (A2 (F2 Z (.pure _ _ _ _)) Z (A2 (D6 Z Z) Z (A6 ?_)))))
 refine k1 ?_
 refine B2 rfl (fun ht=>?_) (fun ht=>?_)
 rotate_left
 ·have hkl:k=L.length:=by have:=A1 ht;omega
  rw [hkl,I50]
  refine k6 (k7 (k7 (k8 Z (k4 (k1 ?_)))))
  refine A3 (A2 (A4 Z Z) Z (A2 (C1 Z Z (by omega)) Z (A2 (A5 Z Z) Z (A6 ?_))))
  refine k1 ?_
  exact ⟨i+1,by omega,by omega,J48 ⟨le1 rfl,le1 rfl,le1 rfl,le1 rfl,trivial⟩ ⟨rfl,trivial⟩⟩
 have hltk:k < L.length:=by have:=A0 ht;omega
 have hst:=G73 L ctx i k hltk
 have hv:L[k]?=some L[k]:=by simp [hltk]
 have hs:=hin2 _ (J96 hltk)
 obtain ⟨s,hsd⟩:∃s,s=L[k]:=⟨_,rfl⟩
 rw [←hsd] at hst hv hs
 have hg:((List.range n).map (C00 L ctx i k))[(i:Int).toNat]?=some (l9 (L.take k) ctx i):=by
  rw [J83,D35 n i _ hlt];unfold C00;rw [if_neg (by omega),if_pos rfl]
 have hset:((List.range n).map (C00 L ctx i k)).set (i:Int).toNat (if l9 (L.take k) ctx i=true then true else if decide ((i:Int)≥s.From - ctx)=true then decide ((i:Int) < s.To+ctx) else false)=(List.range n).map (C00 L ctx i (k+1)):=by
  rw [J83]
  refine D34 n i _ _ _ (fun _=>?_) (fun q _ hq=>?_)
  ·unfold C00
   rw [if_neg (by omega),if_pos rfl,hst]
   cases l9 (L.take k) ctx i
   ·by_cases h1:s.From - ctx≤(i:Int)
    ·by_cases h2:(i:Int) < s.To+ctx<;>simp [h1,h2]
    ·simp [h1]
   ·simp
  ·unfold C00
   by_cases h1:q < i
   ·rw [if_pos h1,if_pos h1]
   ·rw [if_neg h1,if_neg h1,if_neg hq,if_neg hq]
 refine k5 (k1 (k2 (k3 ?_)))
 refine A3 (A2 (A4 Z Z) Z (A2 (A4 Z Z) Z (A2 (A4 Z Z) Z (A2 (A4 Z Z) Z (A2 (E8 Z Z Z (by omega) (by (rw [hlenk];omega))) Z ?_)))));refine A2 (U1 Z Z hg Z) Z (A2 (A4 Z Z) Z (A9 Z Z Z Z (fun hg=>by rw [hg];exact A4 Z Z) ?_));refine A9 Z Z Z Z (fun hg=>by rw [hg];exact A4 Z Z) ?_;refine A9 Z Z Z Z (fun hg=>by rw [hg];exact A4 Z Z) ?_;refine A9 Z Z Z Z (fun hg=>by have hq:=hg;(try simp at hq);rw [hg];exact B3 Z (.pure _ _ _ _) Z (by omega) hv) ?_;refine A9 Z Z Z Z (fun hg=>by rw [hg];exact E1 Z) ?_;refine A9 Z Z Z Z (fun hg=>by rw [hg];exact B6 Z Z) ?_;refine A9 Z Z Z Z (fun hg=>by rw [hg];exact A4 Z Z) ?_;refine A9 Z Z Z Z (fun hg=>by have hq:=hg;(try simp at hq);rw [hg];exact P5 Z Z (by omega)) ?_;refine A9 Z Z Z Z (fun hg=>by rw [hg];exact Z1 Z Z) ?_;refine A9 Z Z Z Z (fun hg=>by rw [hg];exact A4 Z Z) ?_;refine G5 Z Z Z (.gd (.val _)) Z (fun hg=>by obtain ⟨hg1,hg2⟩:=L7 hg;(try rw [hg1]);(try rw [hg2]);exact A4 Z Z) ?_;refine G5 Z Z Z (.gd (.val _)) Z (fun hg=>by obtain ⟨hg1,hg2⟩:=L7 hg;(try rw [hg1]);(try rw [hg2]);exact A4 Z Z) ?_;refine G5 Z Z Z (.gd (.val _)) Z (fun hg=>by obtain ⟨hg1,hg2⟩:=L7 hg;(try rw [hg1]);(try rw [hg2]);exact A4 Z Z) ?_;refine G5 Z Z Z (.gd (.val _)) Z (fun hg=>by have hq:=hg;(try simp at hq);obtain ⟨hg1,hg2⟩:=L7 hg;(try rw [hg1]);(try rw [hg2]);exact B3 Z (.pure _ _ _ _) Z (by omega) hv) ?_;refine G5 Z Z Z (.gd (.val _)) Z (fun hg=>by obtain ⟨hg1,hg2⟩:=L7 hg;(try rw [hg1]);(try rw [hg2]);exact E1 Z) ?_;refine G5 Z Z Z (.gd (.val _)) Z (fun hg=>by obtain ⟨hg1,hg2⟩:=L7 hg;(try rw [hg1]);(try rw [hg2]);exact B6 Z Z) ?_;refine G5 Z Z Z (.gd (.val _)) Z (fun hg=>by obtain ⟨hg1,hg2⟩:=L7 hg;(try rw [hg1]);(try rw [hg2]);exact A4 Z Z) ?_;refine G5 Z Z Z (.gd (.val _)) Z (fun hg=>by have hq:=hg;(try simp at hq);obtain ⟨hg1,hg2⟩:=L7 hg;(try rw [hg1]);(try rw [hg2]);exact C1 Z Z (by omega)) ?_;refine G5 Z Z Z (.gd (.val _)) Z (fun hg=>by obtain ⟨hg1,hg2⟩:=L7 hg;(try rw [hg1]);(try rw [hg2]);exact D6 Z Z) ?_;refine A9 Z Z Z Z (fun hg=>by rw [hg];exact B4 Z (fun h=>by first | rfl | (rw [h];rfl)) (fun h=>by first | rfl | (rw [h];rfl))) ?_;refine A2 (B4 Z (fun h=>by first | rfl | (rw [h];rfl)) (fun h=>by first | rfl | (rw [h];rfl))) Z ?_
 refine A2 (E8 Z Z Z (by omega) (by (rw [hlenk];omega))) Z ?_;refine E3 (I2 TySz.out Z Z (by (rw [hlenk];omega)) Z Z) ?_;refine A6 ?_
 refine k4 (k1 ?_)
 refine A3 (A2 (A4 Z Z) Z (A2 (C1 Z Z (by omega)) Z (A2 (A5 Z Z) Z (A6 ?_))))
 refine k1 ?_
 refine ⟨k+1,by omega,by omega,?_⟩
 rw [←hset]
 exact J48 ⟨le1 rfl,le1 rfl,le1 rfl,le1 rfl,le1 rfl,trivial⟩ ⟨rfl,trivial⟩
theorem C13 {b:Str} (h:b.length≤200):C80 b=0:=by
 have:=S7 b
 rw [C80,if_neg (by omega)]
theorem I52 {m r:Nat} {z:TC} (h:r < m):(T3 m m z)[r]?=some (.mut (r+1000)):=by
 unfold T3;rw [K11,K14 h];simp [h]
def B29 (f:Int→Int) (l:List Int) (k:Nat):List Int:=(l.take k).map f++l.drop k
theorem G12 (f:Int→Int) (l:List Int) (k:Nat):(B29 f l k).length=l.length:=by simp [B29];omega
theorem I53 (f:Int→Int) (l:List Int) (k:Nat) (h:k < l.length):(B29 f l k)[k]?=some (l.getD k 0):=by
 unfold B29
 rw [J95 (by simp;omega)]
 simp [show k - min k l.length=0 by omega,J79 h,J82]
theorem I54 (f:Int→Int) (l:List Int) (k:Nat) (h:k < l.length):(B29 f l k).set k (f (l.getD k 0))=B29 f l (k+1):=by
 unfold B29
 rw [List.set_append_right _ _ (by simp;omega),J84 h,J86 h]
 have e:k - min k l.length=0:=by omega
 simp only [K10,J90,e,List.set_cons_zero,J92,J85,K12,J89,K25,J82,J79 h,Option.getD_some]
theorem H52 (f:Int→Int) (l:List Int):B29 f l 0=l:=by simp [B29]
theorem H53 (f:Int→Int) (l:List Int):B29 f l l.length=l.map f:=by simp [B29]
set_option maxHeartbeats 1000000
theorem I55 (result:Str) (parents:List Str) (h0:result.length≤200) (h1:∀b∈parents,b.length≤200):FnOk Tryz.prog 51 [F5 result,c5 parents] (fun rs=>rs=[pTable (J9 result parents).1,E2 (J9 result parents).2]):=by
 refine FnOk.intro Tryz.func51 (by decide) Z Z Z Z ?_
 refine A40 (t:=1) rfl (.pure _ _ _ _) fun hplen=>?_
 refine k2 ?_
 refine A3 (C2 (G1 4 Z) Z (A2 (A5 Z Z) Z (A6 ?_)))
 refine k1 (k2 ?_)
 refine A3 (A2 (A4 Z Z) Z (A2 (F2 Z (.pure _ _ _ _)) Z (A2 (A5 Z Z) Z (A6 ?_))))
 refine k1 (k2 (k2 ?_))
 refine A3 (A2 (A4 Z Z) Z (A2 (D6 Z Z) Z (A2 (A4 Z Z) Z (A9 Z Z Z Z (fun hg=>by rw [hg];exact A4 Z Z) ?_))));refine A9 Z Z Z Z (fun hg=>by rw [hg];exact L9 Z Z) ?_;refine A2 (B4 Z (fun h=>by first | rfl | (rw [h];rfl)) (fun h=>by first | rfl | (rw [h];rfl))) Z ?_;refine A6 ?_
 refine k1 ?_
 refine B2 rfl (fun ht=>?_) (fun ht=>?_)
 ·have h:=A0 (or_pick.symm.trans ht)
  refine k2 ?_
  refine A3 (A2 (F6 Z) Z (E3 (B7 TySz.out Z Z Z Z Z Z) (A2 (A5 Z Z) Z (A6 ?_))))
  refine k1 ?_
  refine F4 (J49 Row 3 rowC 4 1 Z Z) ?_
  refine k10 (k11 ?_)
  exact B5 (rs:=[pTable ⟨0,[]⟩,E2 2]) (L5 rfl rfl rfl rfl rfl rfl rfl) (by rw [J9,if_pos (by omega)])
 ·have h := A1 (or_pick.symm.trans ht)
  refine R6 [(0,H4 result),(1,C8 Str 1 J5 parents),(4,.s (.one (.ref 4 0))),(6,C3 parents.length)] [(4,.box [.p (.v (.int .i64 0)),.p (.v (.slice none 0 0))])] (J48 ⟨le1 rfl,le1 rfl,le1 rfl,le1 rfl,trivial⟩ ⟨rfl,trivial⟩) ?_
  refine k5 (k1 (k2 ?_))
  refine A3 (A2 (A4 Z Z) Z (B9 (C68 result (by omega)) Z Z Z ?_));rintro _ rfl;refine C2 (A92 39 (c:=strsC) (ys:=[_]) (D8 Z Z Z Z F0) Z Z Z (by first | rfl | (simp [H3,J8,Ob.free,SV.free,S1.free,TC.free]<;>rfl))) Z ?_;refine A2 (A5 Z Z) Z (A6 ?_)
  refine k1 (k2 (k2 ?_))
  refine A3 (A2 (A4 Z Z) Z (B9 (G56 result (by omega)) Z Z Z ?_));rintro _ rfl;refine A2 (A5 Z Z) Z (A6 ?_)
  refine k1 (k2 ?_)
  rw [C13 h0]
  refine A3 (A2 (A4 Z Z) Z (A2 (L4 Z Z) Z (A6 ?_)))
  refine k1 ?_
  refine B2 rfl (fun ht=>?_) (fun ht=>?_)
  ·cases A0 ht rfl
  ·refine k5 (k1 (k2 (k2 ?_)))
   refine A3 (A2 (A5 Z Z) Z (A6 ?_))
   refine k1 (k3 ?_)
   obtain ⟨n,hn⟩:∃n,n=parents.length:=⟨_,rfl⟩
   rw [←hn] at h
   refine D1 (X:=Nat) (fun p=>([(1,C8 Str 1 J5 parents),(4,.s (.one (.ref 4 0))),(6,C3 n),(7,.s (.one (.buf 39 (List Str) 1 strsC (D2 result::(parents.take p).map D2)))),(9,C3 p)],[(4,.box [.p (.v (.int .i64 0)),.p (.v (.slice none 0 0))]),(39,.spare (D2 result::(parents.take p).map D2).length 1 76)])) (fun p=>p≤n) (fun p=>n - p) 0 (Nat.zero_le _) (by rw [hn];exact J48 ⟨le1 rfl,le1 rfl,le1 rfl,le1 rfl,le1 rfl,trivial⟩ ⟨rfl,rfl,trivial⟩) ?_
   intro p hp
   dsimp only at hp ⊢
   have hfl:(D2 result::(parents.take p).map D2).length=p+1:=by simp;omega
   refine k2 (k2 ?_)
   refine A3 (A2 (A4 Z Z) Z (A2 (A4 Z Z) Z (A2 (D6 Z Z) Z (A6 ?_))))
   refine k1 ?_
   refine B2 rfl (fun ht=>?_) (fun ht=>?_)
   ·have hlt:p < parents.length:=by have:=A0 ht;omega
    have hv:parents[p]?=some parents[p]:=by simp [hlt]
    have hb:=h1 _ (J96 hlt)
    have hst:D2 result::(parents.take (p+1)).map D2=(D2 result::(parents.take p).map D2)++[D2 parents[p]]:=by
     rw [List.take_add_one,hv,Option.toList_some,J92];rfl
    refine k5 (k1 (k2 (k3 (k2 (k2 ?_)))))
    refine A3 (A2 (A4 Z Z) Z (A2 (A4 Z Z) Z ?_));refine A2 (B3 rfl (.pure _ _ _ _) rfl (by omega) (J79 (by omega))) rfl ?_;refine A2 (B6 Z Z) Z (B9 (G56 parents[p] (by omega)) Z Z Z ?_);rintro _ rfl;refine A2 (A5 Z Z) Z (A6 ?_)
    refine k1 (k2 ?_)
    rw [C13 hb]
    refine A3 (A2 (A4 Z Z) Z (A2 (L4 Z Z) Z (A6 ?_)))
    refine k1 ?_
    refine B2 rfl (fun ht=>?_) (fun ht=>?_)
    ·cases A0 ht rfl
    ·refine k5 (k1 ?_)
     refine A3 (A2 (A4 Z Z) Z (A2 (A4 Z Z) Z (A2 (A4 Z Z) Z ?_)));refine A2 (B3 rfl (.pure _ _ _ _) rfl (by omega) (J79 (by omega))) rfl ?_;refine A2 (B6 Z Z) Z (B9 (C68 parents[p] (by omega)) Z Z Z ?_);rintro _ rfl;refine A2 (C6 (c:=strsC) (ys:=[_]) (D8 Z Z Z Z F0) Z Z Z) Z (C2 (F9 Z Z Z (.pure _ _ _ _) (by (rw [hfl];simp only [J78,J81];omega)) Z) Z ?_);refine A2 (A5 Z Z) Z (A6 ?_)
     refine k4 (k1 ?_)
     refine A3 (A2 (A4 Z Z) Z (A2 (C1 Z Z (by omega)) Z (A2 (A5 Z Z) Z (A6 ?_))))
     refine k1 ?_
     refine ⟨p+1,by omega,by omega,?_⟩
     rw [hst]
     exact J48 ⟨le1 rfl,le1 rfl,le1 rfl,le1 rfl,le1 rfl,trivial⟩ ⟨rfl,rfl,trivial⟩
   ·have hp':p=n:=by have:=A1 ht;omega
    rw [hp',hn,J97]
    rw [hp',hn,J97] at hfl
    rw [←hn] at hfl ⊢
    obtain ⟨fs,hfs⟩:∃fs,fs=D2 result::parents.map D2:=⟨_,rfl⟩
    rw [←hfs] at hfl ⊢
    have hfsB:∀f∈fs,f.length≤200∧f.flatten.length≤200:=by
     intro f hf
     rw [hfs] at hf
     rcases List.mem_cons.1 hf with rfl | hf
     ·have:=S7 result;rw [X4];omega
     ·obtain ⟨b,hb,rfl⟩:=List.mem_map.1 hf
      have:=S7 b;have:=h1 b hb;rw [X4];omega
    have hmk:J9 result parents=if ∃k,k < (D2 result).length+1∧(J3 ((A62 (fs.map (V6 (H0 fs))) (D2 result).length n n).2 k)).2≠0 then (⟨0,[]⟩,1) else (⟨n,A04 (H0 fs) (D2 result) (A62 (fs.map (V6 (H0 fs))) (D2 result).length n n) ((D2 result).length+1)⟩,0):=by
     rw [J9,if_neg (by omega),hn,hfs]
    have hn1:fs.length=n+1:=by rw [hfl]
    have hf0:fs[0]?=some (D2 result):=by rw [hfs];rfl
    have hflat:fs.flatten.length≤6600:=by
     have key:∀l:List (List Str),(∀f∈l,f.length≤200∧f.flatten.length≤200)→l.flatten.length≤200*l.length:=by
      intro l hl
      induction l with
      | nil=>simp
      | cons x r ih=>have:=ih (fun f hf=>hl f (by simp [hf]));have:=(hl x (by simp)).1;simp only [J91,J77,J78];omega
     have:=key fs hfsB;omega
    obtain ⟨names,hnames⟩:∃names,names=H0 fs:=⟨_,rfl⟩
    obtain ⟨ids,hids⟩:∃ids,ids=fs.map (V6 names):=⟨_,rfl⟩
    obtain ⟨L,hL⟩:∃L,L=(D2 result).length:=⟨_,rfl⟩
    have hLB:L≤200:=by rw [hL];exact (hfsB _ (by rw [hfs];simp)).1
    have hidsl:ids.length=n+1:=by rw [hids,K10,hn1]
    have hidB:∀x∈ids,x.length≤200∧∀v∈x,0≤v∧v < (names.length:Int):=by
     intro x hx
     rw [hids,hnames] at hx
     have h2:=ids_in fs x hx
     obtain ⟨f,hf,rfl⟩:=List.mem_map.1 hx
     exact ⟨by rw [V6,K10];exact (hfsB f hf).1,by rw [hnames];exact h2⟩
    have hid0:(ids.getD 0 []).length=L:=by rw [hids,J82,K11,hf0,hL];simp [V6]
    have hv0:ids[0]?=some (ids.getD 0 []):=by rw [J82,J79 (by omega)];rfl
    refine R6 [(4,.s (.one (.ref 4 0))),(6,C3 n),(7,C8 (List Str) 1 strsC fs)] [(4,.box [.p (.v (.int .i64 0)),.p (.v (.slice none 0 0))])] (J48 ⟨le1 rfl,le1 rfl,leL rfl,trivial⟩ ⟨rfl,trivial⟩) ?_
    refine k6 (k2 ?_)
    refine A3 (A2 (A4 Z Z) Z (B9 (G58 fs (by omega)) Z Z Z ?_));rintro _ rfl;refine A2 (A4 Z Z) Z (B9 (ids_ok fs (by omega) (by omega)) Z Z Z ?_);rintro _ rfl;refine A2 (A5 Z Z) Z (A2 (A5 Z Z) Z (A6 ?_))
    rw [←hnames,←hids]
    refine k1 (k2 ?_)
    refine A3 (A2 (A4 Z Z) Z (A2 (B3 Z (.pure _ _ _ _) Z (by omega) hf0) Z (A2 (B6 Z Z) Z (A2 (F2 Z (.pure _ _ _ _)) Z (A2 (A5 Z Z) Z (A6 ?_))))))
    rw [←hL]
    refine k1 (k2 ?_)
    refine A3 (A2 (A4 Z Z) Z (C2 (o7 14 Int B41 0 Z Z (by omega) (by omega) (fun _=>by first | exact ⟨⟨rfl,rfl⟩,trivial⟩ | exact ⟨P4 _ _ _,trivial⟩) (by first | rfl | (simp [H3,J8,Ob.free,SV.free,S1.free,TC.free]<;>rfl))) Z ?_));refine A2 (A5 Z Z) Z (A6 ?_)
    refine k1 (k2 ?_)
    refine A3 (A2 (A4 Z Z) Z (A2 (C1 Z Z (by omega)) Z (C2 (o7 15 (List (List Int)) intssC [] Z Z (by omega) (by omega) (fun _=>by first | exact ⟨⟨rfl,rfl⟩,trivial⟩ | exact ⟨P4 _ _ _,trivial⟩) (by first | rfl | (simp [H3,J8,Ob.free,SV.free,S1.free,TC.free]<;>rfl))) Z ?_)));refine A2 (A5 Z Z) Z (A6 ?_)
    refine k1 (k2 (k2 ?_))
    refine A3 (A2 (A5 Z Z) Z (A6 ?_))
    refine k1 (k3 ?_)
    refine F4 (J67 15 Z) ?_
    obtain ⟨z,hz⟩:∃z:TC,z=.p (intssC [] 0):=⟨_,rfl⟩
    have hzf:∀k,z.free k=true:=fun k=>by rw [hz];rfl
    have hrep:(List.replicate ((L:Int)+1).toNat ([]:List (List Int))).map (fun x=>TC.p (intssC x 0))=T3 (L+1) 0 z:=by
     rw [←H34,hz];simp
    refine D1 (X:=Nat) (fun k=>([(4,.s (.one (.ref 4 0))),(6,C3 n),(7,C8 (List Str) 1 strsC fs),(11,C8 Str 1 J5 names),(12,C8 (List Int) 1 intsC ids),(13,C3 L),(14,.s (.one (.mut 14))),(15,.s (.one (.mut 15))),(16,C3 k)],
     (4,.box [.p (.v (.int .i64 0)),.p (.v (.slice none 0 0))])::(14,.arr Int 1 B41 (List.replicate L 0))::(15,.tarr (L+1) 1 (T3 (L+1) k z))::O2 intsC (fun _=>List.replicate n []) (List.range k))) (fun k=>k≤L+1) (fun k=>L+1 - k) 0 (Nat.zero_le _) ?_ ?_
    ·refine J48 ⟨⟨_,rfl,.same _⟩,⟨_,rfl,.same _⟩,⟨_,rfl,.same _⟩,⟨_,rfl,.same _⟩,⟨_,rfl,.same _⟩,⟨_,rfl,.same _⟩,⟨_,rfl,.same _⟩,⟨_,rfl,.same _⟩,⟨_,rfl,.same _⟩,trivial⟩ ⟨rfl,rfl,?_,trivial⟩
     rw [←hrep];simp [D4,List.length_replicate]
    ·intro k hk
     dsimp only at hk ⊢
     refine k2 (k2 ?_)
     refine A3 (A2 (A4 Z Z) Z (A2 (A4 Z Z) Z (A2 (m8 Z Z) Z (A6 ?_))))
     refine k1 ?_
     refine B2 rfl (fun ht=>?_) (fun ht=>?_)
     ·have hlt:k < L+1:=by have:=A0 ht;omega
      have hfree:J8 (k+1000) ((4,.box [.p (.v (.int .i64 0)),.p (.v (.slice none 0 0))])::(14,.arr Int 1 B41 (List.replicate L 0))::(15,.tarr (L+1) 1 (T3 (L+1) k z))::O2 intsC (fun _=>List.replicate n ([]:List Int)) (List.range k))=true:=by
       have h1:=E12 (k:=k+1000) (by omega) (List.range k) (fun r hr=>by have:=List.mem_range.1 hr;omega) (c:=intsC) (g:=fun _=>List.replicate n ([]:List Int))
       have h2:=H36 (m:=L+1) (k:=k) (hzf (k+1000))
       simp only [J8,Ob.free,h1,h2,L6 (show 4≠k+1000 by omega),L6 (show 14≠k+1000 by omega),L6 (show 15≠k+1000 by omega)]
       rfl
      refine k5 (k1 (k2 (k3 ?_)))
      refine A3 (A2 (A4 Z Z) Z (A2 (A4 Z Z) Z (A2 (A4 Z Z) Z (C2 (o7 (k+1000) (List Int) intsC [] Z Z (by omega) (by omega) (fun _=>by first | exact ⟨⟨rfl,rfl⟩,trivial⟩ | exact ⟨P4 _ _ _,trivial⟩) (by simp only [H3,SV.free,S1.free,TC.free,hfree,L6 (show 4≠k+1000 by omega),L6 (show 14≠k+1000 by omega),L6 (show 15≠k+1000 by omega)];rfl)) Z ?_))));refine A2 (K1 Z (by rw [C0 (by omega)];rfl) Z (by omega) (by omega)) Z ?_;refine E3 (B43 TySz.out Z (by rw [C0 (by omega)];rfl) (by (rw [C54];omega)) Z Z) ?_;refine A6 ?_
      refine k4 (k1 ?_)
      refine A3 (A2 (A4 Z Z) Z (A2 (C1 Z Z (by omega)) Z (A2 (A5 Z Z) Z (A6 ?_))))
      refine k1 ?_
      refine ⟨k+1,by omega,by omega,?_⟩
      refine J53 ⟨⟨_,rfl,.same _⟩,⟨_,rfl,.same _⟩,⟨_,rfl,.same _⟩,⟨_,rfl,.same _⟩,⟨_,rfl,.same _⟩,⟨_,rfl,.same _⟩,⟨_,rfl,.same _⟩,⟨_,rfl,.same _⟩,⟨_,rfl,.eq (by simp)⟩,trivial⟩ ?_
      refine J00 (g:=fun _=>List.replicate n ([]:List Int)) (pre:=[(4,.box [.p (.v (.int .i64 0)),.p (.v (.slice none 0 0))]),(14,.arr Int 1 B41 (List.replicate L 0)),(15,.tarr (L+1) 1 (T3 (L+1) k z))])
       (pre':=[(4,.box [.p (.v (.int .i64 0)),.p (.v (.slice none 0 0))]),(14,.arr Int 1 B41 (List.replicate L 0)),(15,.tarr (L+1) 1 (T3 (L+1) (k+1) z))]) (top:=[(15,.tarr (L+1) 1 ((T3 (L+1) k z).set k (.mut (k+1000))))]) rfl rfl ?_ rfl
      intro k' o ho
      rw [I35]
      by_cases h15:15=k'
      ·subst h15;exact ho
      ·by_cases h4:4=k'
       ·subst h4;rw [K25,C0 (by omega),C0 (by omega)];exact ho
       ·by_cases h14:14=k'
        ·subst h14;rw [K25,C0 (by omega),C0 (by omega)];exact ho
        ·rw [C0 h4,C0 h14,C0 h15] at ho;cases ho
     ·have hkL:k=L+1:=by have:=A1 ht;omega
      rw [hkL]
      clear hkL ht hk k
      refine R6 [(4,.s (.one (.ref 4 0))),(6,C3 n),(7,C8 (List Str) 1 strsC fs),(11,C8 Str 1 J5 names),(12,C8 (List Int) 1 intsC ids),(13,C3 L),(14,.s (.one (.mut 14))),(15,.s (.one (.mut 15)))]
       ((4,.box [.p (.v (.int .i64 0)),.p (.v (.slice none 0 0))])::(14,.arr Int 1 B41 (List.replicate L 0))::(15,.tarr (L+1) 1 (T3 (L+1) (L+1) z))::O2 intsC (fun _=>List.replicate n []) (List.range (L+1))) (J53 ⟨⟨_,rfl,.same _⟩,⟨_,rfl,.same _⟩,⟨_,rfl,.same _⟩,⟨_,rfl,.same _⟩,⟨_,rfl,.same _⟩,⟨_,rfl,.same _⟩,⟨_,rfl,.same _⟩,⟨_,rfl,.same _⟩,trivial⟩ (fun _ _ h=>h)) ?_
      refine k6 (k2 (k2 ?_))
      refine A3 (A2 (A5 Z Z) Z (A6 ?_))
      refine k1 (k3 ?_)
      obtain ⟨s,hs⟩:∃s:Nat→Loom,s=fun p=>A62 ids L n p:=⟨_,rfl⟩
      have hok:∀p,LoomOk (fun v=>0≤v∧v < (names.length:Int)) 200 L n (s p):=fun p=>by rw [hs];exact D37 hidB p
      refine D1 (X:=Nat) (fun p=>([(4,.s (.one (.ref 4 0))),(6,C3 n),(7,C8 (List Str) 1 strsC fs),(11,C8 Str 1 J5 names),(12,C8 (List Int) 1 intsC ids),(13,C3 L),(14,.s (.one (.mut 14))),(15,.s (.one (.mut 15))),(17,C3 p)],
       (4,.box [.p (.v (.int .i64 0)),.p (.v (.slice none 0 0))])::(14,.arr Int 1 B41 (s p).1)::(15,.tarr (L+1) 1 (T3 (L+1) (L+1) z))::O2 intsC (s p).2 (List.range (L+1)))) (fun p=>p≤n) (fun p=>n - p) 0 (Nat.zero_le _) ?_ ?_
      ·have h0s:s 0=G94 L n:=by rw [hs];rfl
       rw [h0s]
       exact J53 ⟨⟨_,rfl,.same _⟩,⟨_,rfl,.same _⟩,⟨_,rfl,.same _⟩,⟨_,rfl,.same _⟩,⟨_,rfl,.same _⟩,⟨_,rfl,.same _⟩,⟨_,rfl,.same _⟩,⟨_,rfl,.same _⟩,⟨_,rfl,.same _⟩,trivial⟩ (fun _ _ h=>h)
      intro p hp
      dsimp only at hp ⊢
      have hsp:=hok p
      refine k2 (k2 ?_)
      refine A3 (A2 (A4 Z Z) Z (A2 (A4 Z Z) Z (A2 (D6 Z Z) Z (A6 ?_))))
      refine k1 ?_
      refine B2 rfl (fun ht=>?_) (fun ht=>?_)
      ·have hlt:p < n:=by have:=A0 ht;omega
       have hv1:ids[p+1]?=some (ids.getD (p+1) []):=by rw [J82,J79 (by omega)];rfl
       have hstep:s (p+1)=x4 ids (s p) p:=by rw [hs];exact D71 ids L n p
       have hfB:=hidB _ (J93 hv1)
       obtain ⟨file,hfile⟩:∃f,f=ids.getD (p+1) []:=⟨_,rfl⟩
       obtain ⟨base,hbase⟩:∃f,f=ids.getD 0 []:=⟨_,rfl⟩
       rw [←hbase] at hid0 hv0
       rw [←hfile] at hv1 hfB
       have hwb:=C86 file base
       have hmw:=C85 file base
       have hwg:=C69 file base 0 0
       have hwl:=x9 0 0 file base
       have hml:=C14 (J2 0 0 file base) 0 0 file.length base.length
       obtain ⟨sc,hsc⟩:∃sc,sc=r9 file base:=⟨_,rfl⟩
       have hscl:sc.length≤201:=by rw [hsc];have h2:(r9 file base).length=(Z5 0 0 (J2 0 0 file base) file.length base.length).length:=rfl;omega
       rw [←hsc] at hwb hmw
       refine k5 (k1 (k2 (k3 (k2 ?_))))
       refine C4 (by kernel_rfl) (by kernel_rfl) (A8 (A4 Z Z) Z Z (A8 (A4 Z Z) Z Z (A8 (C1 Z Z (by omega)) Z Z (A8 (B3 Z (.pure _ _ _ _) Z (by omega) (by rw [show ((p:Int)+1).toNat=p+1 by omega];exact hv1)) Z Z ?_))));refine A8 (B6 Z Z) Z Z (A8 (A4 Z Z) Z Z (A8 (B3 Z (.pure _ _ _ _) Z (by omega) hv0) Z Z (A8 (B6 Z Z) Z Z (A8 (G7 (I08 file base (by omega) (by omega)) Z Z) Z Z (A8 (A5 Z Z) Z Z (H9 ?_))))))
       rw [←hsc]
       obtain ⟨m0,hm0⟩:∃m0,m0=(s p).1:=⟨_,rfl⟩
       have hm0l:m0.length=L:=by rw [hm0];exact hsp.len
       have hbit:=C25 p
       refine k1 (k2 (k2 ?_))
       refine A3 (A2 (A5 Z Z) Z (A6 ?_))
       refine k1 (k3 ?_)
       refine D1 (X:=Nat) (fun k=>([(4,.s (.one (.ref 4 0))),(6,C3 n),(7,C8 (List Str) 1 strsC fs),(11,C8 Str 1 J5 names),(12,C8 (List Int) 1 intsC ids),(13,C3 L),(14,.s (.one (.mut 14))),(15,.s (.one (.mut 15))),(17,C3 p),(18,C8 Change 4 changeC sc),(19,C3 k)],(4,.box [.p (.v (.int .i64 0)),.p (.v (.slice none 0 0))])::(14,.arr Int 1 B41 (B29 (V0 · (R9 p)) m0 k))::(15,.tarr (L+1) 1 (T3 (L+1) (L+1) z))::O2 intsC (s p).2 (List.range (L+1)))) (fun k=>k≤L) (fun k=>L - k) 0 (Nat.zero_le _) ?_ ?_
       ·rw [H52,hm0]
        exact J53 ⟨⟨_,rfl,.same _⟩,⟨_,rfl,.same _⟩,⟨_,rfl,.same _⟩,⟨_,rfl,.same _⟩,⟨_,rfl,.same _⟩,⟨_,rfl,.same _⟩,⟨_,rfl,.same _⟩,⟨_,rfl,.same _⟩,⟨_,rfl,.same _⟩,⟨_,rfl,.same _⟩,⟨_,rfl,.same _⟩,trivial⟩ (fun _ _ h=>h)
       intro k hk
       dsimp only at hk ⊢
       refine k2 (k2 ?_)
       refine A3 (A2 (A4 Z Z) Z (A2 (A4 Z Z) Z (A2 (D6 Z Z) Z (A6 ?_))))
       refine k1 ?_
       refine B2 rfl (fun ht=>?_) (fun ht=>?_)
       ·have hkl:k < m0.length:=by have:=A0 ht;omega
        have hget:=I53 (V0 · (R9 p)) m0 k hkl
        have hset:=I54 (V0 · (R9 p)) m0 k hkl
        have hml':=G12 (V0 · (R9 p)) m0 k
        refine k5 (k1 (k2 (k3 ?_)))
        refine A3 (A2 (A4 Z Z) Z (A2 (A4 Z Z) Z (A2 (A4 Z Z) Z (A2 (A4 Z Z) Z (A2 (E8 Z Z Z (by omega) (by (rw [hml'];omega))) Z ?_)))));refine A2 (U1 Z Z hget Z) Z (A2 (A4 Z Z) Z (A2 (I1 Z) Z (A2 (D50 Z Z (by (exact hbit))) Z ?_)));refine A2 (T4 Z Z Z (fun _=>rfl)) Z (A2 (E8 Z Z Z (by omega) (by (rw [hml'];omega))) Z ?_);refine E3 (I2 TySz.out Z Z (by (rw [hml'];exact hkl)) Z Z) ?_;refine A6 ?_
        refine k4 (k1 ?_)
        refine A3 (A2 (A4 Z Z) Z (A2 (C1 Z Z (by omega)) Z (A2 (A5 Z Z) Z (A6 ?_))))
        refine k1 ?_
        refine ⟨k+1,by omega,by omega,?_⟩
        rw [←hset]
        exact J53 ⟨⟨_,rfl,.same _⟩,⟨_,rfl,.same _⟩,⟨_,rfl,.same _⟩,⟨_,rfl,.same _⟩,⟨_,rfl,.same _⟩,⟨_,rfl,.same _⟩,⟨_,rfl,.same _⟩,⟨_,rfl,.same _⟩,⟨_,rfl,.same _⟩,⟨_,rfl,.same _⟩,⟨_,rfl,.eq (by simp)⟩,trivial⟩ (F24 rfl trivial trivial)
       ·have hkL:k=m0.length:=by have:=A1 ht;omega
        rw [hkL,H53]
        clear hkL ht hk k
        obtain ⟨m1,hm1⟩:∃m1,m1=m0.map (V0 · (R9 p)):=⟨_,rfl⟩
        have hm1l:m1.length=L:=by rw [hm1,K10,hm0l]
        rw [←hm1]
        refine k6 (k2 ?_)
        refine A3 (A2 (A4 Z Z) Z (A2 (A4 Z Z) Z (A2 (A4 Z Z) Z (A2 (C1 Z Z (by omega)) Z (A2 (B3 Z (.pure _ _ _ _) Z (by omega) (by rw [show ((p:Int)+1).toNat=p+1 by omega];exact hv1)) Z ?_)))));refine A2 (B6 Z Z) Z (A2 (F2 Z (.pure _ _ _ _)) Z (B9 (E31 sc file.length (by omega) (by omega) (fun c hc=>by have:=hwb c hc;omega)) Z Z Z ?_));rintro _ rfl;refine A2 (A5 Z Z) Z (A6 ?_)
        rw [hmw]
        obtain ⟨ps,hps⟩:∃ps,ps=J2 0 0 file base:=⟨_,rfl⟩
        rw [←hps] at hwg hwl hmw ⊢
        refine k1 (k2 (k2 ?_))
        refine A3 (A2 (A5 Z Z) Z (A6 ?_))
        refine k1 (k3 ?_)
        have hcl:∀k,((ps.take k).foldl (N9 p) m1).length=L:=fun k=>by
         have key:∀(l:List Span) (ms:List Int),(l.foldl (N9 p) ms).length=ms.length:=by
          intro l;induction l with
          | nil=>intro ms;rfl
          | cons x r ih=>intro ms;rw [K16,ih];simp [N9]
         rw [key,hm1l]
        refine D1 (X:=Nat) (fun k=>([(4,.s (.one (.ref 4 0))),(6,C3 n),(7,C8 (List Str) 1 strsC fs),(11,C8 Str 1 J5 names),(12,C8 (List Int) 1 intsC ids),(13,C3 L),(14,.s (.one (.mut 14))),(15,.s (.one (.mut 15))),(17,C3 p),(18,C8 Change 4 changeC sc),(20,C8 Span 2 spanC ps),(21,C3 k)],(4,.box [.p (.v (.int .i64 0)),.p (.v (.slice none 0 0))])::(14,.arr Int 1 B41 ((ps.take k).foldl (N9 p) m1))::(15,.tarr (L+1) 1 (T3 (L+1) (L+1) z))::O2 intsC (s p).2 (List.range (L+1)))) (fun k=>k≤ps.length) (fun k=>ps.length - k) 0 (Nat.zero_le _) ?_ ?_
        ·exact J53 ⟨⟨_,rfl,.same _⟩,⟨_,rfl,.same _⟩,⟨_,rfl,.same _⟩,⟨_,rfl,.same _⟩,⟨_,rfl,.same _⟩,⟨_,rfl,.same _⟩,⟨_,rfl,.same _⟩,⟨_,rfl,.same _⟩,⟨_,rfl,.same _⟩,⟨_,rfl,.same _⟩,⟨_,rfl,.same _⟩,⟨_,rfl,.same _⟩,trivial⟩ (fun _ _ h=>h)
        intro k hk
        dsimp only at hk ⊢
        refine k2 (k2 ?_)
        refine A3 (A2 (A4 Z Z) Z (A2 (A4 Z Z) Z (A2 (F2 Z (.pure _ _ _ _)) Z (A2 (D6 Z Z) Z (A6 ?_)))))
        refine k1 ?_
        refine B2 rfl (fun ht=>?_) (fun ht=>?_)
        ·have hkl:k < ps.length:=by have:=A0 ht;omega
         have hpv:ps[k]?=some ps[k]:=by simp [hkl]
         have hpb:=hwg ps[k] (J96 hkl)
         have hclk:=hcl k
         have hlt2:ps[k].To.toNat < ((ps.take k).foldl (N9 p) m1).length:=by omega
         have hget:((ps.take k).foldl (N9 p) m1)[ps[k].To.toNat]?=some (((ps.take k).foldl (N9 p) m1).getD ps[k].To.toNat 0):=by rw [J82,J79 hlt2];rfl
         have hset:(ps.take (k+1)).foldl (N9 p) m1=((ps.take k).foldl (N9 p) m1).set ps[k].To.toNat (clrBit (((ps.take k).foldl (N9 p) m1).getD ps[k].To.toNat 0) (R9 p)):=by
          rw [J86 hkl,K21];rfl
         refine k5 (k1 (k2 (k3 ?_)))
         refine C4 (by kernel_rfl) (by kernel_rfl) (A8 (A4 Z Z) Z Z (A8 (A4 Z Z) Z Z (A8 (A4 Z Z) Z Z (A8 (B3 Z (.pure _ _ _ _) Z (by omega) hpv) Z Z (A8 (E1 Z) Z Z (A8 (B6 Z Z) Z Z (A8 (A4 Z Z) Z Z (A8 (A4 Z Z) Z Z (A8 (A4 Z Z) Z Z (A8 (B3 Z (.pure _ _ _ _) Z (by omega) hpv) Z Z (A8 (E1 Z) Z Z (A8 (B6 Z Z) Z Z (A8 (E8 Z Z Z (by omega) (by omega)) Z Z (A8 (U1 Z Z hget Z) Z Z (A8 (A4 Z Z) Z Z (A8 (I1 Z) Z Z (A8 (D50 Z Z (by (exact hbit))) Z Z ?_)))))))))))))))));refine A8 (T4 Z Z Z (fun _=>rfl)) Z Z (A8 (E8 Z Z Z (by omega) (by omega)) Z Z (C53 (I2 TySz.out Z Z (by (exact hlt2)) Z Z) Z ?_));refine H9 ?_
         refine k4 (k1 ?_)
         refine A3 (A2 (A4 Z Z) Z (A2 (C1 Z Z (by omega)) Z (A2 (A5 Z Z) Z (A6 ?_))))
         refine k1 ?_
         refine ⟨k+1,by omega,by omega,?_⟩
         rw [hset]
         exact J53 ⟨⟨_,rfl,.same _⟩,⟨_,rfl,.same _⟩,⟨_,rfl,.same _⟩,⟨_,rfl,.same _⟩,⟨_,rfl,.same _⟩,⟨_,rfl,.same _⟩,⟨_,rfl,.same _⟩,⟨_,rfl,.same _⟩,⟨_,rfl,.same _⟩,⟨_,rfl,.same _⟩,⟨_,rfl,.same _⟩,⟨_,rfl,.eq (by simp)⟩,trivial⟩ (F24 rfl trivial trivial)
        ·have hkL:k=ps.length:=by have:=A1 ht;omega
         rw [hkL,J97]
         clear hkL ht hk k
         have hcl':=hcl ps.length
         rw [J97] at hcl'
         clear hcl
         obtain ⟨m2,hm2⟩:∃m2,m2=ps.foldl (N9 p) m1:=⟨_,rfl⟩
         rw [←hm2] at hcl' ⊢
         have hgl:∀k q,((sc.take k).foldl (T5 p file) (s p).2 q).length=n:=fun k q=>(B08 hfB (sc.take k) hsp.gaps q).1
         refine k6 (k2 ?_)
         refine A3 (A2 (A5 Z Z) Z (A6 ?_))
         refine k1 (k3 ?_)
         refine D1 (X:=Nat) (fun k=>([(4,.s (.one (.ref 4 0))),(6,C3 n),(7,C8 (List Str) 1 strsC fs),(11,C8 Str 1 J5 names),(12,C8 (List Int) 1 intsC ids),(13,C3 L),(14,.s (.one (.mut 14))),(15,.s (.one (.mut 15))),(17,C3 p),(18,C8 Change 4 changeC sc),(22,C3 k)],(4,.box [.p (.v (.int .i64 0)),.p (.v (.slice none 0 0))])::(14,.arr Int 1 B41 m2)::(15,.tarr (L+1) 1 (T3 (L+1) (L+1) z))::O2 intsC ((sc.take k).foldl (T5 p file) (s p).2) (List.range (L+1)))) (fun k=>k≤sc.length) (fun k=>sc.length - k) 0 (Nat.zero_le _) ?_ ?_
         ·exact J53 ⟨⟨_,rfl,.same _⟩,⟨_,rfl,.same _⟩,⟨_,rfl,.same _⟩,⟨_,rfl,.same _⟩,⟨_,rfl,.same _⟩,⟨_,rfl,.same _⟩,⟨_,rfl,.same _⟩,⟨_,rfl,.same _⟩,⟨_,rfl,.same _⟩,⟨_,rfl,.same _⟩,⟨_,rfl,.same _⟩,trivial⟩ (fun _ _ h=>h)
         intro k hk
         dsimp only at hk ⊢
         refine k2 (k2 ?_)
         refine A3 (A2 (A4 Z Z) Z (A2 (A4 Z Z) Z (A2 (F2 Z (.pure _ _ _ _)) Z (A2 (D6 Z Z) Z (A6 ?_)))))
         refine k1 ?_
         refine B2 rfl (fun ht=>?_) (fun ht=>?_)
         ·have hkl:k < sc.length:=by have:=A0 ht;omega
          have hcv:sc[k]?=some sc[k]:=by simp [hkl]
          have hcb:=hwb sc[k] (J96 hkl)
          have hgk:=hgl k sc[k].New.toNat
          have hN:sc[k].New.toNat < L+1:=by omega
          have hrow:(T3 (L+1) (L+1) z)[sc[k].New.toNat]?=some (.mut (sc[k].New.toNat+1000)):=I52 hN
          have hrl:(T3 (L+1) (L+1) z).length=L+1:=C54
          have hob:D4 ((4,.box [.p (.v (.int .i64 0)),.p (.v (.slice none 0 0))])::(14,.arr Int 1 B41 m2)::(15,.tarr (L+1) 1 (T3 (L+1) (L+1) z))::O2 intsC ((sc.take k).foldl (T5 p file) (s p).2) (List.range (L+1))) (sc[k].New.toNat+1000)=some (.arr (List Int) 1 intsC ((sc.take k).foldl (T5 p file) (s p).2 sc[k].New.toNat)):=by
           rw [C0 (by omega),C0 (by omega),C0 (by omega)]
           exact B78 (List.mem_range.2 hN)
          have hnew:((sc.take k).foldl (T5 p file) (s p).2 sc[k].New.toNat).set p ((file.drop sc[k].Old.toNat).take ((sc[k].Old+sc[k].OldLen).toNat - sc[k].Old.toNat))=(sc.take (k+1)).foldl (T5 p file) (s p).2 sc[k].New.toNat:=by
           rw [J86 hkl,K21]
           show _=T5 p file _ sc[k] _
           rw [T5,if_pos rfl]
          have hsame:∀q,q≠sc[k].New.toNat→(sc.take (k+1)).foldl (T5 p file) (s p).2 q=(sc.take k).foldl (T5 p file) (s p).2 q:=by
           intro q hq
           rw [J86 hkl,K21]
           show T5 p file _ sc[k] _=_
           rw [T5,if_neg hq]
          refine k5 (k1 (k2 (k3 ?_)))
          refine C4 (by kernel_rfl) (by kernel_rfl) (A8 (A4 Z Z) Z Z (A8 (A4 Z Z) Z Z (A8 (A4 Z Z) Z Z (A8 (B3 Z (.pure _ _ _ _) Z (by omega) hcv) Z Z (A8 (E1 Z) Z Z (A8 (B6 Z Z) Z Z (A8 (K1 Z Z Z (by omega) (by omega)) Z Z (A8 (R7 Z Z hrow) Z Z (A8 (A4 Z Z) Z Z (A8 (A4 Z Z) Z Z (A8 (A4 Z Z) Z Z (A8 (C1 Z Z (by omega)) Z Z (A8 (B3 Z (.pure _ _ _ _) Z (by omega) (by rw [show ((p:Int)+1).toNat=p+1 by omega];exact hv1)) Z Z ?_)))))))))))));refine A8 (B6 Z Z) Z Z (A8 (A4 Z Z) Z Z (A8 (A4 Z Z) Z Z (A8 (B3 Z (.pure _ _ _ _) Z (by omega) hcv) Z Z (A8 (E1 Z) Z Z (A8 (B6 Z Z) Z Z (A8 (A4 Z Z) Z Z (A8 (A4 Z Z) Z Z (A8 (B3 Z (.pure _ _ _ _) Z (by omega) hcv) Z Z (A8 (E1 Z) Z Z (A8 (B6 Z Z) Z Z (A8 (A4 Z Z) Z Z (A8 (A4 Z Z) Z Z (A8 (B3 Z (.pure _ _ _ _) Z (by omega) hcv) Z Z (A8 (E1 Z) Z Z (A8 (B6 Z Z) Z Z (A8 (C1 Z Z (by omega)) Z Z (A8 (C20 Z (.pure _ _ _ _) Z Z (by omega) (by omega) (by omega)) Z Z (A8 (E8 Z hob Z (by omega) (by omega)) Z Z (C53 (I2 TySz.out Z hob (by omega) Z Z) Z (H9 ?_))))))))))))))))))))
          refine k4 (k1 ?_)
          refine A3 (A2 (A4 Z Z) Z (A2 (C1 Z Z (by omega)) Z (A2 (A5 Z Z) Z (A6 ?_))))
          refine k1 ?_
          refine ⟨k+1,by omega,by omega,?_⟩
          refine J53 ⟨⟨_,rfl,.same _⟩,⟨_,rfl,.same _⟩,⟨_,rfl,.same _⟩,⟨_,rfl,.same _⟩,⟨_,rfl,.same _⟩,⟨_,rfl,.same _⟩,⟨_,rfl,.same _⟩,⟨_,rfl,.same _⟩,⟨_,rfl,.same _⟩,⟨_,rfl,.same _⟩,⟨_,rfl,.eq (by simp)⟩,trivial⟩ ?_
          show ∀k' o,_→D4 ((sc[k].New.toNat+1000,.arr (List Int) 1 intsC (((sc.take k).foldl (T5 p file) (s p).2 sc[k].New.toNat).set p ((file.drop sc[k].Old.toNat).take ((sc[k].Old+sc[k].OldLen).toNat - sc[k].Old.toNat))))::((4,.box [.p (.v (.int .i64 0)),.p (.v (.slice none 0 0))])::(14,.arr Int 1 B41 m2)::(15,.tarr (L+1) 1 (T3 (L+1) (L+1) z))::O2 intsC ((sc.take k).foldl (T5 p file) (s p).2) (List.range (L+1)))) k'=some o
          rw [hnew]
          exact I99 (pre:=[(4,.box [.p (.v (.int .i64 0)),.p (.v (.slice none 0 0))]),(14,.arr Int 1 B41 m2),(15,.tarr (L+1) 1 (T3 (L+1) (L+1) z))]) rfl (List.mem_range.2 hN) hsame
         ·have hkL:k=sc.length:=by have:=A1 ht;omega
          rw [hkL,J97]
          have hs1:s (p+1)=(m2,sc.foldl (T5 p file) (s p).2):=by
           have e:x4 ids (s p) p=((n5 (r9 (ids.getD (p+1) []) (ids.getD 0 [])) (ids.getD (p+1) []).length).foldl (N9 p) ((s p).1.map (V0 · (R9 p))),(r9 (ids.getD (p+1) []) (ids.getD 0 [])).foldl (T5 p (ids.getD (p+1) [])) (s p).2):=rfl
           rw [hstep,e,←hfile,←hbase,←hsc,hmw,←hm0,←hm1,←hm2]
          refine k6 (k7 (k7 (k8 Z (k4 (k1 ?_)))))
          refine A3 (A2 (A4 Z Z) Z (A2 (C1 Z Z (by omega)) Z (A2 (A5 Z Z) Z (A6 ?_))))
          refine k1 ?_
          refine ⟨p+1,by omega,by omega,?_⟩
          rw [hs1]
          exact J53 ⟨⟨_,rfl,.same _⟩,⟨_,rfl,.same _⟩,⟨_,rfl,.same _⟩,⟨_,rfl,.same _⟩,⟨_,rfl,.same _⟩,⟨_,rfl,.same _⟩,⟨_,rfl,.same _⟩,⟨_,rfl,.same _⟩,⟨_,rfl,.eq (by simp)⟩,trivial⟩ (fun _ _ h=>h)
      ·have hpn:p=n:=by have:=A1 ht;omega
       rw [hpn] at hsp ⊢
       clear hpn ht hp p
       obtain ⟨ms,hms⟩:∃ms,ms=(s n).1:=⟨_,rfl⟩
       obtain ⟨g,hg⟩:∃g,g=(s n).2:=⟨_,rfl⟩
       refine R6 [(4,.s (.one (.ref 4 0))),(6,C3 n),(7,C8 (List Str) 1 strsC fs),(11,C8 Str 1 J5 names),(13,C3 L),(14,.s (.one (.mut 14))),(15,.s (.one (.mut 15)))] ([(4,.box [.p (.v (.int .i64 0)),.p (.v (.slice none 0 0))]),(14,.arr Int 1 B41 ms)]++((15,.tarr (L+1) 1 (W8 intsC (L+1) 0 g))::O2 intsC g (List.range (L+1)))) ?_ ?_
       ·rw [hms,hg,←H35 (z:=z)]
        exact J53 ⟨⟨_,rfl,.same _⟩,⟨_,rfl,.same _⟩,⟨_,rfl,.same _⟩,⟨_,rfl,.same _⟩,⟨_,rfl,.same _⟩,⟨_,rfl,.same _⟩,⟨_,rfl,.same _⟩,trivial⟩ (fun _ _ h=>h)
       refine F4 (J69 (by omega) rfl rfl (fun r _=>?_) (fun r _=>rfl)) ?_
       ·simp only [H3,SV.free,S1.free,TC.free,L6 (show 4≠r+1000 by omega),L6 (show 14≠r+1000 by omega),L6 (show 15≠r+1000 by omega)];rfl
       obtain ⟨gs,hgs⟩:∃gs,gs=(List.range (L+1)).map g:=⟨_,rfl⟩
       rw [←hgs]
       refine F4 (Sees.freeze (k:=14) Z) ?_
       refine F4 (Sees.freeze (k:=15) Z) ?_
       refine R6 [(4,.s (.one (.ref 4 0))),(6,C3 n),(7,C8 (List Str) 1 strsC fs),(11,C8 Str 1 J5 names),(13,C3 L),(14,C8 Int 1 B41 ms),(15,C8 (List (List Int)) 1 intssC gs)] [(4,.box [.p (.v (.int .i64 0)),.p (.v (.slice none 0 0))])] (J48 ⟨le1 rfl,le1 rfl,le1 rfl,le1 rfl,le1 rfl,le1 rfl,le1 rfl,trivial⟩ ⟨rfl,trivial⟩) ?_
       obtain ⟨f0,hf0'⟩:∃f0,f0=D2 result:=⟨_,rfl⟩
       rw [←hf0'] at hL hf0 hmk
       obtain ⟨R,hR⟩:∃R:Nat→List Row,R=fun k=>A04 names f0 (s n) k:=⟨_,rfl⟩
       obtain ⟨F,hF⟩:∃F:Merged→Row,F=fun m=>⟨true,m.Parents,names.getD m.Line.toNat []⟩:=⟨_,rfl⟩
       have hcs:∀k,(J3 (g k)).1.length≤6400∧∀m∈(J3 (g k)).1,(0≤m.Parents∧m.Parents < 4294967296)∧0≤m.Line∧m.Line < (names.length:Int):=fun k=>by
        have h2:=hsp.gaps k
        have h3:=C16 (fun v=>0≤v∧v < (names.length:Int)) 200 (g k) (by rw [hg];exact h2.2)
        rw [show (g k).length=n by rw [hg];exact h2.1] at h3
        exact ⟨by omega,h3.2⟩
       have hR1:∀k,R (k+1)=R k++((J3 (g k)).1.map F++(if k < f0.length then [⟨false,ms.getD k 0,f0.getD k []⟩] else [])):=fun k=>by
        rw [hR];dsimp only;rw [D70,x5,hF,hg,hms]
       have hRl:∀k,(R k).length≤k*6401:=fun k=>by
        induction k with
        | zero=>rw [hR];simp [A04]
        | succ k ih=>rw [hR1];have:=(hcs k).1;simp only [J77,K10];split<;>simp<;>omega
       have hmsl:ms.length=L:=by rw [hms];exact hsp.len
       refine k6 (k2 ?_)
       refine A3 (A2 (A4 Z Z) Z (A2 (F6 Z) Z (C2 (G1 23 Z) Z (E3 (B7 TySz.out Z Z Z Z Z Z) (A6 ?_)))))
       refine k1 (k2 (k2 ?_))
       refine A3 (A2 (A5 Z Z) Z (A6 ?_))
       refine k1 (k3 ?_)
       refine F4 (J54 88 Row 3 rowC 69 (kb:=23) (o:=1) Z Z Z) ?_
       refine D1 (X:=Nat) (fun k=>([(4,.s (.one (.ref 4 0))),(6,C3 n),(7,C8 (List Str) 1 strsC fs),(11,C8 Str 1 J5 names),(13,C3 L),(14,C8 Int 1 B41 ms),(15,C8 (List (List Int)) 1 intssC gs),(23,.s (.one (.ref 23 0))),(24,C3 k)],[(4,.box [.p (.v (.int .i64 0)),.p (.v (.slice none 0 0))]),(23,.box [.p (.v (.int .i64 n)),.buf 88 Row 3 rowC (R k)]),(88,.spare (R k).length 3 69)])) (fun k=>k≤L+1∧∀q,q < k→(J3 (g q)).2=0) (fun k=>L+1 - k) 0 ⟨Nat.zero_le _,fun q hq=>by omega⟩ (by rw [show R 0=[] by rw [hR];rfl];exact J48 ⟨le1 rfl,le1 rfl,le1 rfl,le1 rfl,le1 rfl,le1 rfl,le1 rfl,le1 rfl,le1 rfl,trivial⟩ ⟨rfl,rfl,rfl,trivial⟩) ?_
       rintro k ⟨hk,hz0⟩
       dsimp only at hk hz0 ⊢
       have hRk:=hRl k
       refine k2 (k2 ?_)
       refine A3 (A2 (A4 Z Z) Z (A2 (A4 Z Z) Z (A2 (m8 Z Z) Z (A6 ?_))))
       refine k1 ?_
       refine B2 rfl (fun ht=>?_) (fun ht=>?_)
       ·have hlt:k < L+1:=by have:=A0 ht;omega
        have hgv:gs[k]?=some (g k):=by rw [hgs,K11,K14 hlt];rfl
        have hck:=hcs k
        refine k5 (k1 (k2 (k3 (k2 ?_))))
        refine A3 (A2 (A4 Z Z) Z (A2 (A4 Z Z) Z (A2 (B3 Z (.pure _ _ _ _) Z (by omega) hgv) Z (A2 (B6 Z Z) Z (B9 (G59 (g k)) Z Z Z ?_)))));rintro _ rfl;refine A2 (A4 Z Z) Z (A2 (B1 Z Z) Z (A2 (B1 Z Z) Z (A2 (A5 Z Z) Z (A2 (A5 Z Z) Z (A6 ?_)))))
        obtain ⟨l,hl⟩:∃l,l=(J3 (g k)).1:=⟨_,rfl⟩
        obtain ⟨e,he⟩:∃e,e=(J3 (g k)).2:=⟨_,rfl⟩
        rw [←hl,←he]
        rw [←hl] at hck
        refine k1 (k2 (k2 ?_))
        refine A3 (A2 (A4 Z Z) Z (A2 (L4 Z Z) Z (A6 ?_)))
        refine k1 ?_
        refine B2 rfl (fun ht=>?_) (fun ht=>?_)
        ·have hne:=A0 ht
         refine k2 ?_
         refine A3 (A2 (F6 Z) Z (E3 (B7 TySz.out Z Z Z Z Z Z) (A2 (A5 Z Z) Z (A6 ?_))))
         refine k1 ?_
         refine F4 (J49 Row 3 rowC 4 1 Z Z) ?_
         refine k10 (k11 (k12 (k11 (k11 (k12 (k11 ?_))))))
         exact B5 (rs:=[pTable ⟨0,[]⟩,E2 1]) (L5 rfl rfl rfl rfl rfl rfl rfl) (by rw [hmk,if_pos];refine ⟨k,by omega,?_⟩;rw [←hnames,←hids,←hL];rw [hg,hs] at he;dsimp only at he;rw [←he];exact hne)
        ·have he0:e=0:=by simpa using A1 ht
         refine k5 (k1 (k2 (k2 ?_)))
         refine A3 (A2 (A5 Z Z) Z (A6 ?_))
         refine k1 (k3 ?_)
         refine D1 (X:=Nat) (fun i=>([(4,.s (.one (.ref 4 0))),(6,C3 n),(7,C8 (List Str) 1 strsC fs),(11,C8 Str 1 J5 names),(13,C3 L),(14,C8 Int 1 B41 ms),(15,C8 (List (List Int)) 1 intssC gs),(23,.s (.one (.ref 23 0))),(24,C3 k),(25,C8 Merged 2 mergedC l),(27,C3 i)],[(4,.box [.p (.v (.int .i64 0)),.p (.v (.slice none 0 0))]),(23,.box [.p (.v (.int .i64 n)),.buf 88 Row 3 rowC (R k++(l.take i).map F)]),(88,.spare (R k++(l.take i).map F).length 3 69)])) (fun i=>i≤l.length) (fun i=>l.length - i) 0 (Nat.zero_le _) (by have e0:R k++(l.take 0).map F=R k:=(by simp);dsimp only;rw [e0];exact J48 ⟨le1 rfl,le1 rfl,le1 rfl,le1 rfl,le1 rfl,le1 rfl,le1 rfl,le1 rfl,le1 rfl,le1 rfl,le1 rfl,trivial⟩ ⟨rfl,rfl,rfl,trivial⟩) ?_
         intro i hi
         dsimp only at hi ⊢
         have hil:(R k++(l.take i).map F).length≤k*6401+6400:=by simp only [J77,K10,J90];omega
         refine k2 (k2 ?_)
         refine A3 (A2 (A4 Z Z) Z (A2 (A4 Z Z) Z (A2 (F2 Z (.pure _ _ _ _)) Z (A2 (D6 Z Z) Z (A6 ?_)))))
         refine k1 ?_
         refine B2 rfl (fun ht=>?_) (fun ht=>?_)
         ·have hli:i < l.length:=by have:=A0 ht;omega
          have hlv:l[i]?=some l[i]:=by simp [hli]
          have hlb:=hck.2 l[i] (J96 hli)
          have hnv:names[l[i].Line.toNat]?=some (names.getD l[i].Line.toNat []):=by rw [J82,J79 (by omega)];rfl
          have hFi:F l[i]=⟨true,l[i].Parents,names.getD l[i].Line.toNat []⟩:=by rw [hF]
          refine k5 (k1 (k2 (k3 ?_)))
          refine C4 (by kernel_rfl) (by kernel_rfl) (A8 (A7 Z) Z Z (A8 (B0 Z Z Z) Z Z (A8 (A4 Z Z) Z Z (A8 (A4 Z Z) Z Z (A8 (B3 Z (.pure _ _ _ _) Z (by omega) hlv) Z Z (A8 (E1 Z) Z Z (A8 (B6 Z Z) Z Z (A8 (A4 Z Z) Z Z (A8 (A4 Z Z) Z Z (A8 (A4 Z Z) Z Z (A8 (B3 Z (.pure _ _ _ _) Z (by omega) hlv) Z Z (A8 (E1 Z) Z Z (A8 (B6 Z Z) Z Z (A8 (B3 Z (.pure _ _ _ _) Z (by omega) hnv) Z Z (A8 (B6 Z Z) Z Z (A8 (F6 Z) Z Z (A8 (C6 (c:=rowC) (ys:=[⟨true,l[i].Parents,names.getD l[i].Line.toNat []⟩]) (D8 Z Z Z Z F0) Z Z Z) Z Z (E11 (F9 Z Z Z (.pure _ _ _ _) (by (simp only [J78,J81];omega)) Z) Z Z (A8 (A7 Z) Z Z (C53 (B7 TySz.out Z Z Z Z Z Z) Z (H9 ?_)))))))))))))))))))))
          refine k4 (k1 ?_)
          refine A3 (A2 (A4 Z Z) Z (A2 (C1 Z Z (by omega)) Z (A2 (A5 Z Z) Z (A6 ?_))))
          refine k1 ?_
          refine ⟨i+1,by omega,by omega,?_⟩
          have e1:R k++(l.take (i+1)).map F=R k++(l.take i).map F++[⟨true,l[i].Parents,names.getD l[i].Line.toNat []⟩]:=by rw [J86 hli,J92,J85,K12,←J89,hFi]
          rw [e1]
          exact J48 ⟨le1 rfl,le1 rfl,le1 rfl,le1 rfl,le1 rfl,le1 rfl,le1 rfl,le1 rfl,le1 rfl,le1 rfl,le1 rfl,trivial⟩ ⟨rfl,rfl,rfl,trivial⟩
         ·have hli:i=l.length:=by have:=A1 ht;omega
          rw [hli,J97] at hil ⊢
          refine k6 (k2 ?_)
          refine A3 (A2 (A4 Z Z) Z (A2 (A4 Z Z) Z (A2 (D6 Z Z) Z (A6 ?_))))
          refine k1 ?_
          refine B2 rfl (fun ht=>?_) (fun ht=>?_)
          ·have hkL:k < f0.length:=by have:=A0 ht;omega
           have hmv:ms[k]?=some (ms.getD k 0):=by rw [J82,J79 (by omega)];rfl
           have hfv:f0[k]?=some (f0.getD k []):=by rw [J82,J79 (by omega)];rfl
           have hR2:=hR1 k
           rw [if_pos hkL,←hl,←J89] at hR2
           skip
           refine C4 (by kernel_rfl) (by kernel_rfl) (A8 (A7 Z) Z Z (A8 (B0 Z Z Z) Z Z (A8 (A4 Z Z) Z Z (A8 (A4 Z Z) Z Z (A8 (B3 Z (.pure _ _ _ _) Z (by omega) hmv) Z Z (A8 (B6 Z Z) Z Z (A8 (A4 Z Z) Z Z (A8 (B3 Z (.pure _ _ _ _) Z (by omega) hf0) Z Z (A8 (B6 Z Z) Z Z (A8 (A4 Z Z) Z Z (A8 (B3 Z (.pure _ _ _ _) Z (by omega) hfv) Z Z (A8 (B6 Z Z) Z Z (A8 (F6 Z) Z Z (A8 (C6 (c:=rowC) (ys:=[⟨false,ms.getD k 0,f0.getD k []⟩]) (D8 Z Z Z Z F0) Z Z Z) Z Z (E11 (F9 Z Z Z (.pure _ _ _ _) (by (simp only [J78,J81];omega)) Z) Z Z (A8 (A7 Z) Z Z (C53 (B7 TySz.out Z Z Z Z Z Z) Z (H9 ?_))))))))))))))))))
           refine k4 (k1 ?_)
           refine A3 (A2 (A4 Z Z) Z (A2 (C1 Z Z (by omega)) Z (A2 (A5 Z Z) Z (A6 ?_))))
           refine k1 ?_
           refine ⟨k+1,⟨by omega,fun q hq=>?_⟩,by omega,?_⟩
           ·by_cases h2:q=k
            ·rw [h2,←he,he0]
            ·exact hz0 q (by omega)
           rw [hR2]
           exact J48 ⟨le1 rfl,le1 rfl,le1 rfl,le1 rfl,le1 rfl,le1 rfl,le1 rfl,le1 rfl,le1 rfl,trivial⟩ ⟨rfl,rfl,rfl,trivial⟩
          ·have hkL:¬k < f0.length:=by have:=A1 ht;omega
           have hR2:=hR1 k
           rw [if_neg hkL,←hl,K02] at hR2
           refine k5 (k4 (k1 ?_))
           refine A3 (A2 (A4 Z Z) Z (A2 (C1 Z Z (by omega)) Z (A2 (A5 Z Z) Z (A6 ?_))))
           refine k1 ?_
           refine ⟨k+1,⟨by omega,fun q hq=>?_⟩,by omega,?_⟩
           ·by_cases h2:q=k
            ·rw [h2,←he,he0]
            ·exact hz0 q (by omega)
           rw [hR2]
           exact J48 ⟨le1 rfl,le1 rfl,le1 rfl,le1 rfl,le1 rfl,le1 rfl,le1 rfl,le1 rfl,le1 rfl,trivial⟩ ⟨rfl,rfl,rfl,trivial⟩
       ·have hkL:k=L+1:=by have:=A1 ht;omega
        refine k6 (k2 ?_)
        refine A3 (A2 (C7 Z Z Z) Z (E3 (B7 TySz.out Z Z Z Z Z Z) (A2 (A5 Z Z) Z (A6 ?_))))
        refine k1 (k10 ?_)
        refine B5 (rs:=[pTable ⟨n,R k⟩,E2 0]) (L5 Z Z Z Z Z Z Z) ?_
        have hno:¬∃q,q < f0.length+1∧(J3 ((A62 (fs.map (V6 (H0 fs))) f0.length n n).2 q)).2≠0:=by
         rintro ⟨q,hq1,hq2⟩
         refine hq2 ?_
         have:=hz0 q (by omega)
         rw [hg,hs,hids,hnames,hL] at this
         exact this
        rw [hmk,if_neg hno,hkL,hR,hs,hids,hnames,hL]
end Go.Proofs.YtgejaedjnbjpoaaGreatDoor
