/- Walks of the program's functions. -/
import Derived.Test.YtbiadkkamhpdnaaGreatDoorFe
import Derived.Test.YtbiadkkamhpdnaaGreatDoorFs
import Derived.Test.YtbiadkkamhpdnaaGreatDoorFa
import Derived.Test.YtbiadkkamhpdnaaGreatDoorFd
set_option linter.unusedSimpArgs false
namespace Go.Proofs.YtbiadkkamhpdnaaGreatDoor
open Go Go.AL
set_option maxRecDepth 100000
theorem rats_ok (n:Nat) (hn:n≤1048576):FnOk Tryz.prog 153 [H3 n] (fun rs=>rs=[N2 (atS n)]):=by
 refine FnOk.intro Tryz.func153 (by decide) Z Z Z Z ?_
 refine k2 (A3 (A7 Z Z (A5 ?_)));refine k1 (k2 (A3 (A7 Z Z (A5 ?_))));refine k1 (k2 (k2 (A3 (A7 Z Z (A5 ?_)))));refine k1 (k3 (D6 (X:=Nat) (fun i=>([(0,B9 n),(3,X6 (atS i)),(4,B9 i)],[])) (fun i=>i≤n) (fun i=>n - i) 0 (Nat.zero_le _) (J69 ⟨le1 rfl,le1 rfl,le1 rfl,trivial⟩ trivial) ?_))
 intro i hi
 dsimp only at hi ⊢
 have hl:=D14 i
 refine k2 (k2 (A3 (A4 Z Z (A4 Z Z (E4 Z Z Z (A5 ?_))))));refine k1 ?_;refine B3 rfl (fun ht=>?_) (fun ht=>?_)
 ·have hlt:i < n:=by have:=A0 ht;omega
  refine k5 (k1 (k2 (k3 (A3 (A4 Z Z (A6 (G7 Z Z (by (first | omega | (simp only [K06,K08,K11];omega)))) Z (A7 Z Z (A5 ?_))))))));refine k4 (k1 (A3 (A4 Z Z (C6 Z Z Z (A7 Z Z (A5 ?_))))));refine k1 ?_;refine ⟨i+1,by omega,by omega,?_⟩
  rw [show atS (i+1)=atS i++[64] by unfold atS;exact List.replicate_succ']
  exact J69 ⟨le1 rfl,le1 rfl,le1 rfl,trivial⟩ trivial
 ·have hin:i=n:=by have:=A1 ht;omega
  subst hin
  refine k6 (k2 (A3 (A4 Z Z (A7 Z Z (A5 ?_)))));refine k1 (k10 ?_)
  exact B6 (G6 rfl rfl rfl) rfl
theorem G28 (r:Row) (n:Nat) (hn:n≤32) (hm:0≤r.Marks∧r.Marks < 4294967296):FnOk Tryz.prog 154 [pRow r,H3 n] (fun rs=>rs=[N2 (n7 n r)]):=by
 refine FnOk.intro Tryz.func154 (by decide) Z Z Z Z ?_
 refine k2 (A3 (C1 (R4 2 Z Z Z) Z (A7 Z Z (A5 ?_))));refine k1 (k2 (A3 (C1 (V1 730 _ u8C Z) Z (A5 ?_))));refine k1 (k2 (k2 (A3 (A7 Z Z (A5 ?_)))));refine k1 (k3 (D6 (X:=Nat) (fun p=>([(1,B9 n),(2,.s (.one (.ref 2 0))),(5,.s (.one (.buf 730 UInt8 1 u8C (n7 p r)))),(6,B9 p)],[(2,.box (pRow r).s1.cells),(730,.spare (n7 p r).length 1 5)])) (fun p=>p≤n) (fun p=>n - p) 0 (Nat.zero_le _) (J69 ⟨le1 rfl,le1 rfl,le1 rfl,le1 rfl,trivial⟩ ⟨rfl,rfl,trivial⟩) ?_))
 intro p hp
 dsimp only at hp ⊢
 have hml:=A40 p r
 have hsucc:=D90 p r
 refine k2 (k2 (A3 (A4 Z Z (A4 Z Z (E4 Z Z Z (A5 ?_))))));refine k1 ?_;refine B3 rfl (fun ht=>?_) (fun ht=>?_)
 ·have hlt:p < n:=by have:=A0 ht;omega
  have hu:=A86 (n:=(p:Int)) (by omega)
  have h3:0≤r.Marks / 2 ^ p:=Int.ediv_nonneg hm.1 (Int.pow_nonneg (by decide))
  have h4:r.Marks / 2 ^ p≤r.Marks:=Int.ediv_le_self _ hm.1
  have e32:r.Marks.fdiv (2 ^ (min (p:Int).toNat IntKind.u32.bits))=r.Marks / 2 ^ p:=E71 r.Marks p (by omega)
  have e1:=B95 (r.Marks / 2 ^ p) (by omega)
  refine k5 (k1 (k2 (k3 (k3 (k2 (A3 (A6 (A8 Z) Z (E1 Z Z Z Z (A4 Z Z (A6 (N6 Z) Z (A6 (A89 Z Z (by (rw [hu];omega))) Z ?_)))))))))));refine A6 (X9 Z Z Z (fun _=>rfl)) Z (A6 (K0 Z Z) Z (A7 Z Z (A5 ?_)))
  rw [hu,e32,e1]
  refine k1 ?_;refine B3 rfl (fun ht=>?_) (fun ht=>?_)
  ·have ht:=A0 ht
   have hb:W4 r.Marks p=false:=by unfold W4;simp;omega
   have hmk:B63 r p=32:=by unfold B63;rw [if_pos hb]
   rw [hmk] at hsucc
   skip
   refine A3 (A4 Z Z (A6 (D5 (c:=u8C) (ys:=[32]) (E0 Z Z Z Z F3) Z Z Z) Z (C1 (G4 Z Z Z (.pure _ _ _ _) (by (simp only [K08,K11];omega)) Z) Z (A7 Z Z (A5 ?_)))));refine k4 (k4 (k1 (A3 (A4 Z Z (C6 Z Z Z (A7 Z Z (A5 ?_)))))));refine k1 ?_;refine ⟨p+1,by omega,by omega,?_⟩
   rw [hsucc]
   exact J69 ⟨le1 rfl,le1 rfl,le1 rfl,le1 rfl,trivial⟩ ⟨rfl,rfl,trivial⟩
  have ht:=A1 ht
  have hb:W4 r.Marks p=true:=by unfold W4;simp;omega
  refine k2 (A3 (A6 (A8 Z) Z (E1 Z Z Z Z (A7 Z Z (A5 ?_)))));refine k1 ?_;refine B3 rfl (fun ht=>?_) (fun ht=>?_)
  ·have hl:r.Lost=true:=ht
   have hmk:B63 r p=45:=by unfold B63;rw [hb,if_neg (by decide),if_pos hl]
   rw [hmk] at hsucc
   skip
   refine A3 (A4 Z Z (A6 (D5 (c:=u8C) (ys:=[45]) (E0 Z Z Z Z F3) Z Z Z) Z (C1 (G4 Z Z Z (.pure _ _ _ _) (by (simp only [K08,K11];omega)) Z) Z (A7 Z Z (A5 ?_)))));refine k4 (k4 (k1 (A3 (A4 Z Z (C6 Z Z Z (A7 Z Z (A5 ?_)))))));refine k1 ?_;refine ⟨p+1,by omega,by omega,?_⟩
   rw [hsucc]
   exact J69 ⟨le1 rfl,le1 rfl,le1 rfl,le1 rfl,trivial⟩ ⟨rfl,rfl,trivial⟩
  ·have hl:r.Lost=false:=ht
   have hmk:B63 r p=43:=by unfold B63;rw [hb,if_neg (by decide),hl,if_neg (by decide)]
   rw [hmk] at hsucc
   skip
   refine A3 (A4 Z Z (A6 (D5 (c:=u8C) (ys:=[43]) (E0 Z Z Z Z F3) Z Z Z) Z (C1 (G4 Z Z Z (.pure _ _ _ _) (by (simp only [K08,K11];omega)) Z) Z (A7 Z Z (A5 ?_)))));refine k4 (k4 (k1 (A3 (A4 Z Z (C6 Z Z Z (A7 Z Z (A5 ?_)))))));refine k1 ?_;refine ⟨p+1,by omega,by omega,?_⟩
   rw [hsucc]
   exact J69 ⟨le1 rfl,le1 rfl,le1 rfl,le1 rfl,trivial⟩ ⟨rfl,rfl,trivial⟩
 ·have hpn:p=n:=by have:=A1 ht;omega
  subst hpn
  refine k6 (k2 (A3 (A4 Z Z (A6 (a6 TyStr.out Z (.buf _ _ _ _ _)) Z (A7 Z Z (A5 ?_))))));refine k1 (k10 ?_)
  exact B6 (G6 rfl rfl rfl) rfl
def A32 (c:Comb):List Str:=[B64 c.Dense++d9 c.Path++[10],parS++l5 c.Parents++[10]]
theorem I82 (n:Nat) (r:Row):(W5 n r).length≤2:=by unfold W5;split<;>simp
theorem E57 (n:Nat) (rs:List Row):(rs.map (W5 n)).flatten.length≤(rs.map N1).sum:=by
 induction rs with
 | nil=>simp
 | cons x r ih =>
  have h1:=I82 n x
  have h2:2≤N1 x:=by unfold N1;omega
  simp only [K14,K25,K06,K35];omega
theorem G29 (n:Nat) (hs:List CHunk):(hs.map (Q6 n)).flatten.length≤szC hs:=by
 unfold szC
 induction hs with
 | nil=>simp
 | cons x r ih =>
  have h1:=E57 n x.Rows
  have h2:(Q6 n x).length≤g9 x:=by unfold Q6 g9;rw [K08];omega
  rw [K14,K25,K06,K14,K35]
  exact Nat.add_le_add h2 ih
set_option maxHeartbeats 1000000
theorem D65 (c:Comb) (hc:CFit c):FnOk Tryz.prog 90 [O3 c] (fun rs=>rs=[N2 (i8 c)]):=by
 obtain ⟨h1,h2,h3,h4,h5⟩:=hc
 have hzl:=A75 c.Hunks
 have hm29:markS.length=29:=rfl
 have hq:=C66 c.Path
 have hf:=G58 c.Parents
 have hkl:(B64 c.Dense).length≤16:=by cases c.Dense<;>decide
 have hpl:parS.length=8:=rfl
 obtain ⟨n,hN⟩:∃n,n=c.Parents.toNat:=⟨_,rfl⟩
 have hNc:c.Parents=(n:Int):=by omega
 have hn:n≤32:=by omega
 have hct:=G59 c (by omega) c.Hunks.length
 have hats:FnOk Tryz.prog 153 [H3 (c.Parents+1)] (fun rs=>rs=[N2 (atS (n+1))]):=by
  have:=rats_ok (n+1) (by omega)
  rwa [show ((n+1:Nat):Int)=c.Parents+1 by omega] at this
 have hal:=D14 (n+1)
 rw [←hN] at h5
 have htl:(A32 c).length=2:=rfl
 refine FnOk.intro Tryz.func90 (by decide) Z Z Z Z ?_
 refine k2 (A3 (C1 (R4 1 Z Z Z) Z (A7 Z Z (A5 ?_))));refine k1 (k2 (A3 (A7 Z Z (A5 ?_))));refine L0 ?_
 refine A21 [(1,.s (.one (.ref 1 0))),(3,X6 (B64 c.Dense))] [(1,B85 c)] ?_ ?_
 ·refine k2 (A3 (A6 (A8 Z) Z (E1 Z Z Z Z (A5 ?_))));refine k1 ?_;refine B3 rfl (fun ht=>?_) (fun ht=>?_)
  ·have h:c.Dense=true:=ht
   skip
   refine A3 (A7 Z Z (A5 ?_));refine k1 ?_
   rw [show B64 c.Dense=ccS by unfold B64;rw [if_pos h]]
   exact J69 ⟨le1 rfl,le1 rfl,trivial⟩ ⟨rfl,trivial⟩
  ·have h:c.Dense=false:=ht
   refine k5 (k1 ?_)
   rw [show B64 c.Dense=combS by unfold B64;rw [h,if_neg (by decide)]]
   exact J69 ⟨le1 rfl,le1 rfl,trivial⟩ ⟨rfl,trivial⟩
 refine k2 (A82 11 (by kernel_rfl) (by kernel_rfl) Z (C8 Z Z (A9 (A8 Z) Z Z (A9 (B5 Z Z Z) Z Z (A9 (H2 (I75 c.Path (by omega)) Z Z) Z Z (A9 (G7 Z Z (by (first | omega | (simp only [K06,K08,K11];omega)))) Z Z (A9 (G7 Z Z (by (first | omega | (simp only [K06,K08,K11];omega)))) Z Z (A9 (A8 Z) Z Z (A9 (B5 Z Z Z) Z Z (A9 (H2 (A45 c.Parents) Z Z) Z Z (A9 (G7 Z Z (by (first | omega | (simp only [K06,K08,K11];omega)))) Z Z (A9 (G7 Z Z (by (first | omega | (simp only [K06,K08,K11];omega)))) Z Z (L6 ?_)))))))))))));refine d_turn (A42 722 (c:=M5) (ys:=(A32 c)) (E0 Z Z Z Z (E0 Z Z Z Z F3)) Z Z Z (by first | rfl | (simp [I1,I7,Ob.free,SV.free,S1.free,TC.free]<;>rfl))) Z ?_;refine A9 (J6 Z Z) Z Z (L6 ?_);refine k1 (k2 (k2 (A3 (A7 Z Z (A5 ?_)))));refine k1 (k3 (D6 (X:=Nat) (fun k=>([(1,.s (.one (.ref 1 0))),(4,.s (.one (.buf 722 Str 1 M5 (A32 c++((c.Hunks.take k).map (Q6 n)).flatten)))),(5,B9 k)],[(1,B85 c),(722,.spare (A32 c++((c.Hunks.take k).map (Q6 n)).flatten).length 1 9)])) (fun k=>k≤c.Hunks.length) (fun k=>c.Hunks.length - k) 0 (Nat.zero_le _) (J69 ⟨le1 rfl,le1 rfl,le1 rfl,trivial⟩ ⟨rfl,rfl,trivial⟩) ?_))
 intro k hk
 dsimp only at hk ⊢
 have hcp:=G29 n (c.Hunks.take k)
 have hct2:=E90 c.Hunks k
 refine k2 (k2 (A3 (A4 Z Z (A6 (A8 Z) Z (E1 Z Z Z Z (E7 Z Z (E4 Z Z Z (A5 ?_))))))));refine k1 ?_;refine B3 rfl (fun ht=>?_) (fun ht=>?_)
 ·have hlt:k < c.Hunks.length:=by have:=A0 ht;omega
  have hv:c.Hunks[k]?=some c.Hunks[k]:=by simp [hlt]
  have hmem:=K17 hlt
  have hrw:=h4 _ hmem
  have hat:=h5 _ hmem
  have hzm:=B51 hmem
  have hsucc:((c.Hunks.take (k+1)).map (Q6 n)).flatten=((c.Hunks.take k).map (Q6 n)).flatten++Q6 n c.Hunks[k]:=by
   rw [K16 hlt]
   simp only [K20,K14,K38,K36,K25,K52,K29]
  obtain ⟨h,hx⟩:∃x,x=c.Hunks[k]:=⟨_,rfl⟩
  rw [←hx] at hv hrw hat hzm hsucc
  have hz1:=U2 h.Rows
  unfold g9 at hzm
  have hhl:=C27 hn h
  have hgA:∀j,j < n+1→h.At[j]?=some (h.At.getD j 0):=fun j hj=>F41 (by omega)
  have hrA:∀j,j < n+1 → -4611686018427387904≤h.At.getD j 0∧h.At.getD j 0≤4611686018427387904:=fun j hj=>hat.2 _ (K27 (hgA j hj))
  obtain ⟨base,hbase⟩:∃base,base=A32 c++((c.Hunks.take k).map (Q6 n)).flatten:=⟨_,rfl⟩
  have hbl:base.length≤2+268435456:=by rw [hbase,K06];omega
  rw [←hbase]
  refine k5 (k1 (k2 (k3 (k2 (A3 (A6 (A8 Z) Z (E1 Z Z Z Z (A4 Z Z (A6 (B0 Z (.pure _ _ _ _) Z (by omega) hv) Z (A6 (G3 Z Z) Z (C1 (I3 6 Z) Z (F8 (B8 TySz.out Z Z Z Z Z Z) (A5 ?_)))))))))))));refine k1 (k2 (A3 (A6 (A8 Z) Z (E1 Z Z Z Z (C6 Z Z Z (C4 (hats) Z Z Z ?_))))));rintro _ rfl;refine A7 Z Z (A5 ?_);refine k1 (k2 (k2 (A3 (A7 Z Z (A5 ?_)))));refine k1 (k3 ?_);refine D6 (X:=Nat) (fun j=>([(1,.s (.one (.ref 1 0))),(4,.s (.one (.buf 722 Str 1 M5 base))),(5,B9 k),(6,.s (.one (.ref 6 0))),(7,X6 (atS (n+1)++X5 n h j)),(8,B9 j)],[(1,B85 c),(722,.spare base.length 1 9),(6,.box (B48 h).s1.cells)])) (fun j=>j≤n+1) (fun j=>n+1 - j) 0 (Nat.zero_le _) ?_ ?_
  ·rw [show X5 n h 0=[] from rfl,K29]
   exact J69 ⟨le1 rfl,le1 rfl,le1 rfl,le1 rfl,le1 rfl,le1 rfl,trivial⟩ ⟨rfl,rfl,rfl,trivial⟩
  intro j hj
  dsimp only at hj ⊢
  have hsl:=A53 n h j
  have hss:=A76 n h j
  refine k2 (k2 (A3 (A4 Z Z (A6 (A8 Z) Z (E1 Z Z Z Z (A6 (j6 Z Z) Z (A5 ?_)))))));refine k1 ?_;refine B3 rfl (fun ht=>?_) (fun ht=>?_)
  ·have hlt2:j < n+1:=by have:=A0 ht;omega
   have hga:=hgA j hlt2
   have hra:=hrA j hlt2
   have hcl:=A99 h.Rows (T5 n j)
   have hrl:=A70 (h.At.getD j 0) (M2 h.Rows n j)
   have hcol:=A13 h.Rows (T5 n j) hrw (by omega)
   have hcn:=B22 j n
   rw [←hNc] at hcn
   have hrr:=I74 (h.At.getD j 0) ((K7 h.Rows (T5 n j)).length:Int) hra (by omega)
   have hsw:D87 n h j=[32,G56 n j]++O5 (h.At.getD j 0) ((K7 h.Rows (T5 n j)).length:Int):=rfl
   have hrl:(O5 (h.At.getD j 0) ((K7 h.Rows (T5 n j)).length:Int)).length≤21:=hrl
   obtain ⟨S,hS⟩:∃S,S=atS (n+1)++X5 n h j:=⟨_,rfl⟩
   have hSl:S.length≤1000:=by rw [hS,K06];omega
   have hSs:atS (n+1)++X5 n h (j+1)=S++[32,G56 n j]++O5 (h.At.getD j 0) ((K7 h.Rows (T5 n j)).length:Int):=by rw [hss,hS,hsw];simp
   rw [←hS]
   refine k5 (k1 (k2 (k3 (k2 (A3 (A7 Z Z (A5 ?_)))))));refine k1 (k2 (k2 (A3 (A4 Z Z (A6 (A8 Z) Z (E1 Z Z Z Z (A6 (K0 Z Z) Z (A5 ?_))))))));refine k1 ?_;refine B3 rfl (fun ht=>?_) (fun ht=>?_)
   ·have hjn:=A0 ht
    have hsg:G56 n j=43:=by unfold G56;rw [if_pos (by omega)]
    rw [hsg] at hSs
    skip
    refine A3 (A7 Z Z (A5 ?_));refine k1 (C9 (by kernel_rfl) (by kernel_rfl) (C8 Z Z (C8 Z Z (A9 (G7 Z Z (by (first | omega | (simp only [K06,K08,K11];omega)))) Z Z (A9 (A8 Z) Z Z (A9 (B5 Z Z Z) Z Z (C8 Z Z (A9 (B0 Z (.pure _ _ _ _) Z (by omega) hga) Z Z (A9 (B1 Z Z) Z Z (A9 (A8 Z) Z Z (A9 (B5 Z Z Z) Z Z (C8 Z Z (A9 (A8 Z) Z Z (A9 (B5 Z Z Z) Z Z (A9 (H2 (hcn) Z Z) Z Z (A9 (H2 (hcol) Z Z) Z Z (A9 (V3 Z (.pure _ _ _ _)) Z Z (A9 (H2 (hrr) Z Z) Z Z (A9 (G7 Z Z (by (first | omega | (simp only [K06,K08,K11];omega)))) Z Z (A9 (J6 Z Z) Z Z (L6 ?_)))))))))))))))))))));refine k4 (k1 (A3 (A4 Z Z (C6 Z Z Z (A7 Z Z (A5 ?_))))));refine k1 ?_;refine ⟨j+1,by omega,by omega,?_⟩
    rw [hSs]
    exact J69 ⟨le1 rfl,le1 rfl,le1 rfl,le1 rfl,le1 rfl,le1 rfl,trivial⟩ ⟨rfl,rfl,rfl,trivial⟩
   ·have hjn:=A1 ht
    have hsg:G56 n j=45:=by unfold G56;rw [if_neg (by omega)]
    rw [hsg] at hSs
    refine k5 (k1 (C9 (by kernel_rfl) (by kernel_rfl) (C8 Z Z (C8 Z Z (A9 (G7 Z Z (by (first | omega | (simp only [K06,K08,K11];omega)))) Z Z (A9 (A8 Z) Z Z (A9 (B5 Z Z Z) Z Z (C8 Z Z (A9 (B0 Z (.pure _ _ _ _) Z (by omega) hga) Z Z (A9 (B1 Z Z) Z Z (A9 (A8 Z) Z Z (A9 (B5 Z Z Z) Z Z (C8 Z Z (A9 (A8 Z) Z Z (A9 (B5 Z Z Z) Z Z (A9 (H2 (hcn) Z Z) Z Z (A9 (H2 (hcol) Z Z) Z Z (A9 (V3 Z (.pure _ _ _ _)) Z Z (A9 (H2 (hrr) Z Z) Z Z (A9 (G7 Z Z (by (first | omega | (simp only [K06,K08,K11];omega)))) Z Z (A9 (J6 Z Z) Z Z (L6 ?_))))))))))))))))))))));refine k4 (k1 (A3 (A4 Z Z (C6 Z Z Z (A7 Z Z (A5 ?_))))));refine k1 ?_;refine ⟨j+1,by omega,by omega,?_⟩
    rw [hSs]
    exact J69 ⟨le1 rfl,le1 rfl,le1 rfl,le1 rfl,le1 rfl,le1 rfl,trivial⟩ ⟨rfl,rfl,rfl,trivial⟩
  ·have hjn:j=n+1:=by have:=A1 ht;omega
   subst hjn
   obtain ⟨S,hS⟩:∃S,S=atS (n+1)++X5 n h (n+1):=⟨_,rfl⟩
   have hSl:S.length≤1000:=by rw [hS,K06];omega
   have hhd:A74 n h++[10]=S++[32]++atS (n+1)++[10]:=by unfold A74;rw [hS]
   rw [←hS]
   refine k6 (k2 (A3 (A4 Z Z (A4 Z Z (A6 (G7 Z Z (by (first | omega | (simp only [K06,K08,K11];omega)))) Z (A6 (A8 Z) Z (E1 Z Z Z Z (C6 Z Z Z (C4 (hats) Z Z Z ?_)))))))));rintro _ rfl;refine A6 (G7 Z Z (by (first | omega | (simp only [K06,K08,K11];omega)))) Z (A6 (G7 Z Z (by (first | omega | (simp only [K06,K08,K11];omega)))) Z (A6 (D5 (c:=M5) (ys:=[_]) (E0 Z Z Z Z F3) Z Z Z) Z (C1 (G4 Z Z Z (.pure _ _ _ _) (by (simp only [K08,K11];omega)) Z) Z (A7 Z Z (A5 ?_)))))
   rw [←hhd]
   refine k1 (k2 (A3 (A7 Z Z (A5 ?_))));refine k1 (k3 ?_)
   obtain ⟨hd,hhd2⟩:∃hd,hd=A74 n h++[10]:=⟨_,rfl⟩
   rw [←hhd2]
   refine D6 (X:=Nat) (fun i=>([(1,.s (.one (.ref 1 0))),(4,.s (.one (.buf 722 Str 1 M5 (base++(hd::((h.Rows.take i).map (W5 n)).flatten))))),(5,B9 k),(6,.s (.one (.ref 6 0))),(10,B9 i)],[(1,B85 c),(722,.spare (base++(hd::((h.Rows.take i).map (W5 n)).flatten)).length 1 9),(6,.box (B48 h).s1.cells)])) (fun i=>i≤h.Rows.length) (fun i=>h.Rows.length - i) 0 (Nat.zero_le _) (J69 ⟨le1 rfl,le1 rfl,le1 rfl,le1 rfl,le1 rfl,trivial⟩ ⟨rfl,rfl,rfl,trivial⟩) ?_
   intro i hi
   dsimp only at hi ⊢
   have hrp:=E57 n (h.Rows.take i)
   have hrt:=E89 h.Rows i
   refine k2 (k2 (A3 (A4 Z Z (A6 (A8 Z) Z (E1 Z Z Z Z (E7 Z Z (E4 Z Z Z (A5 ?_))))))));refine k1 ?_;refine B3 rfl (fun ht=>?_) (fun ht=>?_)
   ·have hlt2:i < h.Rows.length:=by have:=A0 ht;omega
    have hv2:h.Rows[i]?=some h.Rows[i]:=by simp [hlt2]
    have hmem2:=K17 hlt2
    have hrm:=szRow_mem hmem2
    have hmm:=hrw _ hmem2
    have hsucc2:((h.Rows.take (i+1)).map (W5 n)).flatten=((h.Rows.take i).map (W5 n)).flatten++W5 n h.Rows[i]:=by
     rw [K16 hlt2]
     simp only [K20,K14,K38,K36,K25,K52,K29]
    obtain ⟨r,hy⟩:∃x,x=h.Rows[i]:=⟨_,rfl⟩
    rw [←hy] at hv2 hrm hmm hsucc2
    have hrm:r.Text.length+96≤(h.Rows.map N1).sum:=hrm
    have hml:=A40 n r
    have hmk:=G28 r n hn hmm
    rw [←hNc] at hmk
    obtain ⟨bs,hbs⟩:∃bs,bs=base++(hd::((h.Rows.take i).map (W5 n)).flatten):=⟨_,rfl⟩
    have hbsl:bs.length≤2+268435456+1+268435456:=by rw [hbs,K06,K08];omega
    have hsucc3:base++(hd::((h.Rows.take (i+1)).map (W5 n)).flatten)=bs++W5 n r:=by rw [hsucc2,hbs];simp
    rw [←hbs]
    refine k5 (k1 (k2 (k3 (k2 (C9 (by kernel_rfl) (by kernel_rfl) (C8 Z Z (A9 (A8 Z) Z Z (A9 (B5 Z Z Z) Z Z (C8 Z Z (A9 (B0 Z (.pure _ _ _ _) Z (by omega) hv2) Z Z (A9 (G3 Z Z) Z Z (A9 (A8 Z) Z Z (A9 (B5 Z Z Z) Z Z (A9 (H2 (hmk) Z Z) Z Z (A9 (A8 Z) Z Z (A9 (B5 Z Z Z) Z Z (C8 Z Z (A9 (B0 Z (.pure _ _ _ _) Z (by omega) hv2) Z Z (A9 (D4 Z) Z Z (A9 (B1 Z Z) Z Z (A9 (G7 Z Z (by (first | omega | (simp only [K06,K08,K11];omega)))) Z Z (A9 (D5 (c:=M5) (ys:=[_]) (E0 Z Z Z Z F3) Z Z Z) Z Z (B09 (G4 Z Z Z (.pure _ _ _ _) (by (simp only [K08,K11];omega)) Z) Z Z ?_)))))))))))))))))))))));refine A9 (J6 Z Z) Z Z (L6 ?_);refine k1 (k2 (A3 (A6 (A8 Z) Z (E1 Z Z Z Z (A4 Z Z (A6 (B0 Z (.pure _ _ _ _) Z (by omega) hv2) Z (A6 (D4 Z) Z (A6 (B1 Z Z) Z (C4 (G83 r.Text (by omega)) Z Z Z ?_)))))))));rintro _ rfl;refine O6 Z Z (A5 ?_);refine k1 ?_;refine B3 rfl (fun ht=>?_) (fun ht=>?_)
    ·have he:ended r.Text=false:=by simpa using ht
     have e:W5 n r=[n7 n r++r.Text]++[markS]:=by unfold W5;rw [he,if_neg (by decide)];rfl
     skip
     refine A3 (A4 Z Z (A6 (D5 (c:=M5) (ys:=[markS]) (E0 Z Z Z Z F3) Z Z Z) Z (C1 (G4 Z Z Z (.pure _ _ _ _) (by (first | omega | (simp only [K06,K08,K11];omega))) Z) Z (A7 Z Z (A5 ?_)))));refine k4 (k1 (A3 (A4 Z Z (C6 Z Z Z (A7 Z Z (A5 ?_))))));refine k1 ?_;refine ⟨i+1,by omega,by omega,?_⟩
     rw [hsucc3,e,←K18]
     exact J69 ⟨le1 rfl,le1 rfl,le1 rfl,le1 rfl,le1 rfl,trivial⟩ ⟨rfl,rfl,rfl,trivial⟩
    ·have he:ended r.Text=true:=by simpa using ht
     have e:W5 n r=[n7 n r++r.Text]:=by unfold W5;rw [if_pos he]
     refine k5 (k4 (k1 (A3 (A4 Z Z (C6 Z Z Z (A7 Z Z (A5 ?_)))))));refine k1 ?_;refine ⟨i+1,by omega,by omega,?_⟩
     rw [hsucc3,e]
     exact J69 ⟨le1 rfl,le1 rfl,le1 rfl,le1 rfl,le1 rfl,trivial⟩ ⟨rfl,rfl,rfl,trivial⟩
   ·have hil:i=h.Rows.length:=by have:=A1 ht;omega
    subst hil
    rw [K28]
    have e:A32 c++((c.Hunks.take (k+1)).map (Q6 n)).flatten=base++(hd::(h.Rows.map (W5 n)).flatten):=by
     rw [hsucc,←K18,←hbase,hhd2];rfl
    refine k6 (k7 (k7 (k8 Z (k4 (k1 (A3 (A4 Z Z (C6 Z Z Z (A7 Z Z (A5 ?_))))))))));refine k1 ?_;refine ⟨k+1,by omega,by omega,?_⟩
    rw [e]
    exact J69 ⟨le1 rfl,le1 rfl,le1 rfl,trivial⟩ ⟨rfl,rfl,trivial⟩
 ·have hkl:k=c.Hunks.length:=by have:=A1 ht;omega
  subst hkl
  have e:(A32 c++((c.Hunks.take c.Hunks.length).map (Q6 n)).flatten).flatten=i8 c:=by
   rw [K28,hN];unfold i8 I04 A32;simp
  rw [D15] at hct
  have hao:=all_ok (A32 c++((c.Hunks.take c.Hunks.length).map (Q6 n)).flatten) (by rw [e];omega)
  rw [e] at hao
  refine k6 (k2 (A3 (A4 Z Z (C4 (hao) Z Z Z ?_))));rintro _ rfl;refine A7 Z Z (A5 ?_);refine k1 (k10 ?_)
  exact B6 (G6 rfl rfl rfl) rfl
theorem q8 (c:Comb) (hz:szC c.Hunks≤268435456) (hr:∀h∈c.Hunks,I8 h.Rows):FnOk Tryz.prog 41 [O3 c] (fun rs=>rs=[H3 (G8 c)]):=by
 refine FnOk.intro Tryz.func41 (by decide) Z Z Z Z ?_
 refine k2 (A3 (C1 (R4 1 Z Z Z) Z (A7 Z Z (A5 ?_))));refine k1 (k2 (k3 (k2 (A3 (A6 (A8 Z) Z (E1 Z Z Z Z (C4 (B84 c.Path) Z Z Z ?_)))))));rintro _ rfl;refine O6 Z Z (A7 Z Z (A5 ?_));refine k1 ?_;refine B3 rfl (fun ht=>?_) (fun ht=>?_)
 ·have h:Q0 c.Path=false:=by simpa using ht
  refine k2 (A3 (A7 Z Z (A5 ?_)));refine k1 (k10 (k12 (k11 ?_)))
  exact B6 (G6 rfl rfl rfl) (by unfold G8;rw [if_pos h])
 have h:Q0 c.Path=true:=by simpa using ht
 have hpl:=A0 h
 refine k2 (A3 (A6 (A8 Z) Z (E1 Z Z Z Z (E4 Z Z Z (A4 Z Z (B2 Z Z Z Z (fun hg=>by rw [hg];exact A8 Z) ?_))))));refine B2 Z Z Z Z (fun hg=>by rw [hg];exact B5 Z Z Z) ?_;refine B2 Z Z Z Z (fun hg=>by rw [hg];exact N5 Z Z) ?_;refine J4 Z Z ?_;refine A7 Z Z (A5 ?_);refine k1 ?_;refine B3 rfl (fun ht=>?_) (fun ht=>?_)
 ·have h1:=A0 (or_pick.symm.trans ht)
  refine k2 (A3 (A7 Z Z (A5 ?_)));refine k1 (k10 (k12 (k11 ?_)))
  exact B6 (G6 rfl rfl rfl) (by unfold G8;rw [if_neg (by rw [h];decide),if_pos (by omega)])
 have h1:=A1 (or_pick.symm.trans ht)
 have hn:1≤c.Parents∧c.Parents≤32:=by omega
 refine k2 (A3 (A6 (C5 Z Z Z) Z (C4 (G96 c (by omega) hr hz) Z Z Z ?_)));rintro _ rfl;refine O6 Z Z (A7 Z Z (A5 ?_));refine k1 ?_;refine B3 rfl (fun ht=>?_) (fun ht=>?_)
 ·have h2:X2 c.Parents.toNat c.Hunks=false:=by simpa using ht
  refine k2 (A3 (A7 Z Z (A5 ?_)));refine k1 (k10 (k12 (k11 ?_)))
  exact B6 (G6 rfl rfl rfl) (by unfold G8;rw [if_neg (by rw [h];decide),if_neg (by omega),if_pos h2])
 have h2:X2 c.Parents.toNat c.Hunks=true:=by simpa using ht
 refine k2 (A3 (A6 (C5 Z Z Z) Z (C4 (G99 c hn hr hz) Z Z Z ?_)));rintro _ rfl;refine O6 Z Z (A7 Z Z (A5 ?_));refine k1 ?_;refine B3 rfl (fun ht=>?_) (fun ht=>?_)
 ·have h3:P5 c.Parents.toNat c.Hunks=false:=by simpa using ht
  refine k2 (A3 (A7 Z Z (A5 ?_)));refine k1 (k10 (k12 (k11 ?_)))
  exact B6 (G6 rfl rfl rfl) (by unfold G8;rw [if_neg (by rw [h];decide),if_neg (by omega),if_neg (by rw [h2];decide),if_pos h3])
 have h3:P5 c.Parents.toNat c.Hunks=true:=by simpa using ht
 refine k2 (A3 (A6 (C5 Z Z Z) Z (C4 (D65 c (D36 (by omega) hn hz hr h3)) Z Z Z ?_)));rintro _ rfl;refine A6 (N3 Z) Z (A6 (N5 Z Z) Z (A7 Z Z (A5 ?_)));refine k1 ?_;refine B3 rfl (fun ht=>?_) (fun ht=>?_)
 ·have h4:=A0 ht
  refine k2 (A3 (A7 Z Z (A5 ?_)));refine k1 (k10 (k12 (k11 ?_)))
  exact B6 (G6 rfl rfl rfl) (by unfold G8;rw [if_neg (by rw [h];decide),if_neg (by omega),if_neg (by rw [h2];decide),if_neg (by rw [h3];decide),if_pos (by omega)])
 have h4:=A1 ht
 refine k5 (k2 (A3 (A7 Z Z (A5 ?_))));refine k1 (k10 ?_)
 exact B6 (G6 rfl rfl rfl) (by unfold G8;rw [if_neg (by rw [h];decide),if_neg (by omega),if_neg (by rw [h2];decide),if_neg (by rw [h3];decide),if_neg (by omega)])
abbrev pSpan (s:Span):PV:=.agg [.v (.int .i64 s.From),.v (.int .i64 s.To)]
theorem I83 (r:Row):FnOk Tryz.prog 215 [pRow r] (fun rs=>rs=[M3 (y9 r)]):=by
 refine FnOk.intro Tryz.func215 (by decide) Z Z Z Z ?_
 refine k2 (A3 (C1 (R4 1 Z Z Z) Z (A7 Z Z (A5 ?_))));refine k1 (k2 (A3 (A6 (A8 Z) Z (E1 Z Z Z Z (O6 Z Z (A4 Z Z (B2 Z Z Z Z (fun hg=>by rw [hg];exact A8 Z) ?_)))))));refine B2 Z Z Z Z (fun hg=>by rw [hg];exact B5 Z Z Z) ?_;refine B2 Z Z Z Z (fun hg=>by rw [hg];exact K0 Z Z) ?_;refine J4 Z Z ?_;refine A7 Z Z (A5 ?_);refine k1 (k10 (B6 (G6 Z Z Z) ?_))
 unfold y9
 cases r.Lost<;>simp
theorem F71 (l:List Bool) (hl:l.length≤536870912):FnOk Tryz.prog 106 [pBools l] (fun rs=>rs=[pSpans (B54 l)]):=by
 obtain ⟨W,hW⟩:∃W,W=B54 l:=⟨_,rfl⟩
 rw [←hW]
 refine FnOk.intro Tryz.func106 (by decide) Z Z Z Z ?_
 refine k2 (A3 (A7 Z Z (A5 ?_)));refine k1 (k2 (A3 (C1 (J32 750 _ spanC Z) Z (A5 ?_))));refine k1 (k2 (k2 (A3 (A7 Z Z (A5 ?_)))));refine k1 (k3 (D6 (X:=Nat × List Span) (fun x=>([(0,C3 Bool 1 D91 l),(3,.s (.one (.mut 750))),(4,B9 x.1)],[(750,.grow 88 Span 2 spanC x.2)])) (fun x=>x.1≤l.length∧C67 x.1 x.2∧(D93 l x.1=true→x.2≠[])∧W=F42 (l.drop x.1) x.1 (D93 l x.1) x.2) (fun x=>l.length - x.1) (0,[]) ⟨Nat.zero_le _,⟨Nat.le_refl _,(fun s hs=>by cases hs)⟩,(fun h=>by cases h),hW⟩ (J69 ⟨le1 rfl,le1 rfl,le1 rfl,trivial⟩ ⟨rfl,trivial⟩) ?_))
 rintro ⟨i,out⟩ ⟨hi,hin,hne,hp⟩
 dsimp only at hi hin hne hp ⊢
 refine k2 (k2 (A3 (A4 Z Z (A4 Z Z (E7 Z Z (E4 Z Z Z (A5 ?_)))))));refine k1 ?_;refine B3 rfl (fun ht=>?_) (fun ht=>?_)
 rotate_left
 ·have hil:i=l.length:=by have:=A1 ht;omega
  rw [hil,K15 (Nat.le_refl _)] at hp
  have hp:W=out:=hp
  refine G5 (Sees.freezeG (k:=750) Z Z) ?_
  refine k6 (k2 (A3 (A4 Z Z (A7 Z Z (A5 ?_)))));refine k1 (k10 ?_)
  exact B6 (G6 rfl rfl rfl) (by rw [hp])
 have hlt:i < l.length:=by have:=A0 ht;omega
 have hv:l[i]?=some (l.getD i false):=by simp [hlt]
 rw [J18 hlt] at hp
 have hpn:D93 l (i+1)=l.getD i false:=by unfold D93;rw [if_neg (by omega)];rfl
 have hst:=I54 (l.getD i false) (D93 l i) hin
 rw [←hpn] at hp hst
 obtain ⟨b,hb⟩:∃b,b=l.getD i false:=⟨_,rfl⟩
 rw [←hb] at hv hpn
 rw [hpn] at hp hst
 have hlen:=hin.1
 cases b with
 | false =>
  rw [if_neg (by decide)] at hp hst
  refine k5 (k1 (k2 (k3 (k2 (k2 (A3 (A4 Z Z (A4 Z Z (A6 (B0 Z (.pure _ _ _ _) Z (by omega) hv) Z (A6 (B1 Z Z) Z (A4 Z Z (S6 Z Z Z (by decide) Z (S6 Z Z Z (by decide) Z (S6 Z Z Z (by decide) Z (I0 (s:=.any) Z Z Z .un Z (fun h=>absurd h (by decide)) (I0 (s:=.any) Z Z Z .un Z (fun h=>absurd h (by decide)) (I0 (s:=.any) Z Z Z .un Z (fun h=>absurd h (by decide)) (I0 (s:=.any) Z Z Z .un Z (fun h=>absurd h (by decide)) (I0 (s:=.any) Z Z Z .un Z (fun h=>absurd h (by decide)) (I0 (s:=.any) Z Z Z .un Z (fun h=>absurd h (by decide)) (S6 Z Z Z (by decide) Z (A6 (C84 Z (rfl) Z) Z (A5 ?_)))))))))))))))))))))));refine k1 ?_;refine B3 rfl (fun ht=>?_) (fun ht=>?_)
  ·cases ht
  refine k5 (k1 (k2 (A3 (A4 Z Z (A4 Z Z (A6 (B0 Z (.pure _ _ _ _) Z (by omega) hv) Z (A6 (B1 Z Z) Z (A5 ?_))))))));refine k1 ?_;refine B3 rfl (fun ht=>?_) (fun ht=>?_)
  ·cases ht
  refine k5 (k4 (k1 (A3 (A4 Z Z (C6 Z Z Z (A7 Z Z (A5 ?_)))))));refine k1 ?_
  exact ⟨(i+1,out),⟨by dsimp only;omega,hst,(fun h=>by rw [hpn] at h;cases h),by rw [hpn];exact hp⟩,by dsimp only;omega,J69 ⟨le1 rfl,le1 rfl,le1 rfl,trivial⟩ ⟨rfl,trivial⟩⟩
 | true =>
  rw [if_pos rfl] at hp hst
  have hlast:∀(q:List Span) (s:Span),q.getLast?=some s→q[((q.length:Int) - 1).toNat]?=some s∧∀v:Int,q.set (((q.length:Int) - 1).toNat) ⟨s.From,v⟩=A29 q v:=by
   intro q s hq
   have hqne:q≠[]:=fun e=>by rw [e] at hq;cases hq
   have hq1:=List.length_pos_iff.2 hqne
   rw [show ((q.length:Int) - 1).toNat=q.length - 1 by omega]
   refine ⟨by rw [←List.getLast?_eq_getElem?];exact hq,fun v=>?_⟩
   unfold A29
   rw [hq]
   dsimp only
   have hd:=List.dropLast_concat_getLast hqne
   conv=>lhs;rw [←hd]
   rw [List.set_append_right _ _ (by rw [List.length_dropLast,K06,List.length_dropLast];simp)]
   simp
  by_cases hpv:D93 l i=true
  ·rw [if_pos hpv] at hp hst
   have hne:=hne hpv
   obtain ⟨s,hs⟩:∃s,out.getLast?=some s:=⟨_,List.getLast?_eq_some_getLast hne⟩
   obtain ⟨hv2,hset⟩:=hlast out s hs
   have hset:=hset ((i:Int)+1)
   have hi0:i≠0:=fun e=>by rw [e] at hpv;cases hpv
   have hvp:l[((i:Int) - 1).toNat]?=some true:=by
    unfold D93 at hpv
    rw [if_neg hi0] at hpv
    rw [show ((i:Int) - 1).toNat=i - 1 by omega,←hpv]
    simp [show i - 1 < l.length by omega]
   have h0:decide ((i:Int)=0)=false:=decide_eq_false (by omega)
   have hq1:=List.length_pos_iff.2 hne
   refine k5 (k1 (k2 (k3 (k2 (k2 (A3 (A4 Z Z (A4 Z Z (A6 (B0 Z (.pure _ _ _ _) Z (by omega) hv) Z (A6 (B1 Z Z) Z (A4 Z Z (Q1 Z Z Z Z (A4 Z Z (Q1 Z Z Z Z (A6 (K0 Z Z) Z (Q1 Z Z Z Z (A4 Z Z (Q1 Z Z Z h0 (A4 Z Z (Q1 Z Z Z h0 (A4 Z Z (Q1 Z Z Z h0 (A6 (U0 Z Z (by omega)) Z ?_)))))))))))))))))))))));refine Q1 Z Z Z h0 (A6 (B0 Z (.pure _ _ _ _) Z (by omega) hvp) Z (Q1 Z Z Z h0 (A6 (B1 Z Z) Z (Q1 Z Z Z h0 (O6 Z Z (Q1 Z Z Z Z (A6 (C84 Z (h0) Z) Z (A6 (C83 Z (rfl) Z) Z (A5 ?_)))))))));refine k1 ?_;refine B3 rfl (fun ht=>?_) (fun ht=>?_)
   ·cases ht
   refine k5 (k1 (k2 (A3 (A4 Z Z (A4 Z Z (A6 (B0 Z (.pure _ _ _ _) Z (by omega) hv) Z (A6 (B1 Z Z) Z (A5 ?_))))))));refine k1 ?_;refine B3 rfl (fun ht=>?_) (fun ht=>?_)
   rotate_left
   ·cases ht
   skip
   refine A3 (A4 Z Z (A4 Z Z (A6 (C82 Z Z) Z (A6 (U0 Z Z (by omega)) Z (A4 Z Z (C6 Z Z Z (A6 (Z2 Z Z Z (by omega) (by omega)) Z (A6 (K9 Z) Z (F8 (x7 (⟨s.From,(i:Int)+1⟩) TySz.out Z Z hv2 Z Z Z Z (fun _ _ _ h=>A09 h) (by intro j h1 h2;rcases j with _ | _ | _ | _ | _ | _ | _ | j<;>first | rfl | omega)) ?_)))))))));refine A5 ?_
   rw [hset]
   refine k4 (k1 (A3 (A4 Z Z (C6 Z Z Z (A7 Z Z (A5 ?_))))));refine k1 ?_;refine ⟨(i+1,A29 out ((i:Int)+1)),⟨by dsimp only;omega,hst,(fun _ h=>?_),by rw [hpn];exact hp⟩,by dsimp only;omega,J69 ⟨le1 rfl,le1 rfl,le1 rfl,trivial⟩ ⟨rfl,trivial⟩⟩
   dsimp only at h
   unfold A29 at h
   rw [hs] at h
   simp at h
  ·rw [if_neg hpv] at hp hst
   obtain ⟨o2,ho2⟩:∃o2,o2=out++[(⟨i,i⟩:Span)]:=⟨_,rfl⟩
   obtain ⟨hv2,hset⟩:=hlast o2 ⟨i,i⟩ (by rw [ho2];simp)
   have hset:=hset ((i:Int)+1)
   have ho2l:o2.length=out.length+1:=by rw [ho2];simp
   rw [←ho2] at hp hst
   have hne2:A29 o2 ((i:Int)+1)≠[]:=by rw [←hset];intro h;have:=congrArg List.length h;rw [K47,K11] at this;omega
   by_cases hi0:i=0
   ·have h0:decide ((i:Int)=0)=true:=decide_eq_true (by omega)
    refine k5 (k1 (k2 (k3 (k2 (k2 (A3 (A4 Z Z (A4 Z Z (A6 (B0 Z (.pure _ _ _ _) Z (by omega) hv) Z (A6 (B1 Z Z) Z (A4 Z Z (Q1 Z Z Z Z (A4 Z Z (Q1 Z Z Z Z (A6 (K0 Z Z) Z (Q1 Z Z Z Z (A4 Z Z (S6 Z Z Z (by rw [h0];decide) Z ?_))))))))))))))))));refine S6 Z Z Z (by rw [h0];decide) Z ?_;refine S6 Z Z Z (by rw [h0];decide) Z ?_;refine S6 Z Z Z (by rw [h0];decide) Z ?_;refine S6 Z Z Z (by rw [h0];decide) Z ?_;refine S6 Z Z Z (by rw [h0];decide) Z ?_;refine Q1 Z Z Z Z (A6 (C83 Z (h0) Z) Z (A6 (C83 Z (rfl) Z) Z (A5 ?_)));refine k1 ?_;refine B3 rfl (fun ht=>?_) (fun ht=>?_)
    rotate_left
    ·cases ht
    skip
    refine A3 (A4 Z Z (A4 Z Z (A4 Z Z (A6 (H1 Z) Z (A6 (D5 (c:=spanC) (ys:=[⟨i,i⟩]) (E0 Z Z Z Z F3) Z Z Z) Z (C1 (x8 Z Z Z (.pure _ _ _ _) (by (simp;omega)) Z) Z (A7 Z Z (A5 ?_))))))))
    rw [←ho2]
    refine k1 (k2 (A3 (A4 Z Z (A4 Z Z (A6 (B0 Z (.pure _ _ _ _) Z (by omega) hv) Z (A6 (B1 Z Z) Z (A5 ?_)))))));refine k1 ?_;refine B3 rfl (fun ht=>?_) (fun ht=>?_)
    rotate_left
    ·cases ht
    skip
    refine A3 (A4 Z Z (A4 Z Z (A6 (C82 Z Z) Z (A6 (U0 Z Z (by omega)) Z (A4 Z Z (C6 Z Z Z (A6 (Z2 Z Z Z (by omega) (by omega)) Z (A6 (K9 Z) Z (F8 (x7 (⟨i,(i:Int)+1⟩) TySz.out Z Z hv2 Z Z Z Z (fun _ _ _ h=>A09 h) (by intro j h1 h2;rcases j with _ | _ | _ | _ | _ | _ | _ | j<;>first | rfl | omega)) ?_)))))))));refine A5 ?_
    rw [hset]
    refine k4 (k1 (A3 (A4 Z Z (C6 Z Z Z (A7 Z Z (A5 ?_))))));refine k1 ?_
    exact ⟨(i+1,A29 o2 ((i:Int)+1)),⟨by dsimp only;omega,hst,(fun _=>hne2),by rw [hpn];exact hp⟩,by dsimp only;omega,J69 ⟨le1 rfl,le1 rfl,le1 rfl,trivial⟩ ⟨rfl,trivial⟩⟩
   ·have h0:decide ((i:Int)=0)=false:=decide_eq_false (by omega)
    have hvp:l[((i:Int) - 1).toNat]?=some false:=by
     unfold D93 at hpv
     rw [if_neg hi0] at hpv
     rw [show ((i:Int) - 1).toNat=i - 1 by omega]
     have hlt2:i - 1 < l.length:=by omega
     rw [K09,K07 hlt2] at hpv
     rw [K07 hlt2]
     simpa using hpv
    refine k5 (k1 (k2 (k3 (k2 (k2 (A3 (A4 Z Z (A4 Z Z (A6 (B0 Z (.pure _ _ _ _) Z (by omega) hv) Z (A6 (B1 Z Z) Z (A4 Z Z (Q1 Z Z Z Z (A4 Z Z (Q1 Z Z Z Z (A6 (K0 Z Z) Z (Q1 Z Z Z Z (A4 Z Z (Q1 Z Z Z h0 (A4 Z Z (Q1 Z Z Z h0 (A4 Z Z (Q1 Z Z Z h0 (A6 (U0 Z Z (by omega)) Z ?_)))))))))))))))))))))));refine Q1 Z Z Z h0 (A6 (B0 Z (.pure _ _ _ _) Z (by omega) hvp) Z (Q1 Z Z Z h0 (A6 (B1 Z Z) Z (Q1 Z Z Z h0 (O6 Z Z (Q1 Z Z Z Z (A6 (C84 Z (h0) Z) Z (A6 (C83 Z (rfl) Z) Z (A5 ?_)))))))));refine k1 ?_;refine B3 rfl (fun ht=>?_) (fun ht=>?_)
    rotate_left
    ·cases ht
    skip
    refine A3 (A4 Z Z (A4 Z Z (A4 Z Z (A6 (H1 Z) Z (A6 (D5 (c:=spanC) (ys:=[⟨i,i⟩]) (E0 Z Z Z Z F3) Z Z Z) Z (C1 (x8 Z Z Z (.pure _ _ _ _) (by (simp;omega)) Z) Z (A7 Z Z (A5 ?_))))))))
    rw [←ho2]
    refine k1 (k2 (A3 (A4 Z Z (A4 Z Z (A6 (B0 Z (.pure _ _ _ _) Z (by omega) hv) Z (A6 (B1 Z Z) Z (A5 ?_)))))));refine k1 ?_;refine B3 rfl (fun ht=>?_) (fun ht=>?_)
    rotate_left
    ·cases ht
    skip
    refine A3 (A4 Z Z (A4 Z Z (A6 (C82 Z Z) Z (A6 (U0 Z Z (by omega)) Z (A4 Z Z (C6 Z Z Z (A6 (Z2 Z Z Z (by omega) (by omega)) Z (A6 (K9 Z) Z (F8 (x7 (⟨i,(i:Int)+1⟩) TySz.out Z Z hv2 Z Z Z Z (fun _ _ _ h=>A09 h) (by intro j h1 h2;rcases j with _ | _ | _ | _ | _ | _ | _ | j<;>first | rfl | omega)) ?_)))))))));refine A5 ?_
    rw [hset]
    refine k4 (k1 (A3 (A4 Z Z (C6 Z Z Z (A7 Z Z (A5 ?_))))));refine k1 ?_
    exact ⟨(i+1,A29 o2 ((i:Int)+1)),⟨by dsimp only;omega,hst,(fun _=>hne2),by rw [hpn];exact hp⟩,by dsimp only;omega,J69 ⟨le1 rfl,le1 rfl,le1 rfl,trivial⟩ ⟨rfl,trivial⟩⟩
theorem J41 (t:Table) (hr:I8 t.Rows) (hl:t.Rows.length≤268435456) (hx:P3 t.Rows≤536870912):FnOk Tryz.prog 171 [pTable t] (fun rs=>rs=[pSpans (j4 t).1,H3 (j4 t).2]):=by
 refine FnOk.intro Tryz.func171 (by decide) Z Z Z Z ?_
 refine k2 (A3 (C1 (R4 1 Z Z Z) Z (A7 Z Z (A7 Z Z (A5 ?_)))));refine k1 (k2 (k2 (A3 (A6 (C5 Z Z Z) Z (C4 (C56 t hr (by omega) hx) Z Z Z ?_)))));rintro _ rfl;refine A7 Z Z (A5 ?_);refine k1 (k2 (A3 (A4 Z Z (A6 (O9 Z Z) Z (A5 ?_)))));refine k1 ?_;refine B3 rfl (fun ht=>?_) (fun ht=>?_)
 ·have h:=A0 ht
  refine k2 (A3 (A4 Z Z (A6 (M8 _ 2 spanC) Z (A7 Z Z (A5 ?_)))));refine k1 (k10 (k11 ?_))
  exact B6 (s6 rfl rfl rfl rfl rfl) (by unfold j4;rw [if_pos h])
 have h:=A1 ht
 refine k5 (k1 (k2 (A3 (C1 (V1 751 _ D91 Z) Z (A5 ?_)))));refine k1 (k2 (k2 (A3 (A7 Z Z (A5 ?_)))));refine k1 (k3 (D6 (X:=Nat) (fun i=>([(1,.s (.one (.ref 1 0))),(5,.s (.one (.buf 751 Bool 1 D91 ((t.Rows.take i).map fun r=>!y9 r)))),(6,B9 i)],[(1,.box (pTable t).s1.cells),(751,.spare ((t.Rows.take i).map fun r=>!y9 r).length 1 4)])) (fun i=>i≤t.Rows.length) (fun i=>t.Rows.length - i) 0 (Nat.zero_le _) (J69 ⟨le1 rfl,le1 rfl,le1 rfl,trivial⟩ ⟨rfl,rfl,trivial⟩) ?_))
 intro i hi
 dsimp only at hi ⊢
 have hml:((t.Rows.take i).map fun r=>!y9 r).length=i:=by simp;omega
 refine k2 (k2 (A3 (A4 Z Z (A6 (A8 Z) Z (E1 Z Z Z Z (E7 Z Z (E4 Z Z Z (A5 ?_))))))));refine k1 ?_;refine B3 rfl (fun ht=>?_) (fun ht=>?_)
 ·have hlt:i < t.Rows.length:=by have:=A0 ht;omega
  have hv:t.Rows[i]?=some t.Rows[i]:=by simp [hlt]
  have hst:((t.Rows.take (i+1)).map fun r=>!y9 r)=((t.Rows.take i).map fun r=>!y9 r)++[!y9 t.Rows[i]]:=by
   rw [K16 hlt];simp only [K20,K14,K38]
  obtain ⟨r,hrr⟩:∃r,r=t.Rows[i]:=⟨_,rfl⟩
  rw [←hrr] at hv hst
  refine k5 (k1 (k2 (k3 (A3 (A4 Z Z (A6 (A8 Z) Z (E1 Z Z Z Z (A4 Z Z (A6 (B0 Z (.pure _ _ _ _) Z (by omega) hv) Z (A6 (G3 Z Z) Z (C4 (I83 r) Z Z Z ?_)))))))))));rintro _ rfl;refine O6 Z Z (A6 (D5 (c:=D91) (ys:=[!y9 r]) (E0 Z Z Z Z F3) Z Z Z) Z (C1 (G4 Z Z Z (.pure _ _ _ _) (by (rw [hml];simp only [K08,K11];omega)) Z) Z ?_));refine A7 Z Z (A5 ?_);refine k4 (k1 (A3 (A4 Z Z (C6 Z Z Z (A7 Z Z (A5 ?_))))));refine k1 ?_;refine ⟨i+1,by omega,by omega,?_⟩
  rw [hst]
  exact J69 ⟨le1 rfl,le1 rfl,le1 rfl,trivial⟩ ⟨rfl,rfl,trivial⟩
 ·have hil:i=t.Rows.length:=by have:=A1 ht;omega
  rw [hil,K28]
  have hml2:(t.Rows.map fun r=>!y9 r).length=t.Rows.length:=by simp
  refine k6 (k2 (A3 (A4 Z Z (C4 (F71 (t.Rows.map fun r=>!y9 r) (by omega)) Z Z Z ?_))));rintro _ rfl;refine A7 Z Z (A7 Z Z (A5 ?_));refine k1 (k10 ?_)
  exact B6 (s6 rfl rfl rfl rfl rfl) (by unfold j4;rw [if_neg h])
theorem I84 (t:Table) (s:Span) (hn:0≤t.Parents∧t.Parents≤64) (h1:0≤s.From∧s.From≤t.Rows.length) (h2:0≤s.To∧s.To≤t.Rows.length) (hl:t.Rows.length≤268435456) :
  FnOk Tryz.prog 172 [pTable t,pSpan s] (fun rs=>rs=[M3 (A77 t s)]):=by
 obtain ⟨F,hF⟩:∃F:Nat,s.From=F:=⟨s.From.toNat,by omega⟩
 obtain ⟨T,hT⟩:∃T:Nat,s.To=T:=⟨s.To.toNat,by omega⟩
 obtain ⟨R,hR⟩:∃R,R=(t.Rows.drop F).take (T - F):=⟨_,rfl⟩
 have hRl:R.length=T - F:=by rw [hR,K19,K23];omega
 have hD:A77 t s=(List.range t.Parents.toNat).all fun p=>!decide (D17 R / 2 ^ p % 2=0):=by unfold A77;rw [hF,hT,K12,K12,←hR]
 have hain:∀q:List Row,0≤D17 q∧D17 q < 4294967296:=by
  have key:∀(q:List Row) (a:Int),(0≤a∧a < 4294967296)→0≤q.foldl (fun a r=>K6 a r.Marks) a∧q.foldl (fun a r=>K6 a r.Marks) a < 4294967296:=by
   intro q
   induction q with
   | nil=>intro a h;exact h
   | cons x r ih=>intro a _;exact ih _ (E72 _)
  exact fun q=>key q 0 (by decide)
 refine FnOk.intro Tryz.func172 (by decide) Z Z Z Z ?_
 refine k2 (A3 (C1 (R4 2 Z Z Z) Z (C1 (R4 3 Z Z Z) Z (A7 Z Z (A5 ?_)))));refine k1 (k2 (A3 (A7 Z Z (A5 ?_))));refine k1 (k2 (k2 (A3 (A6 (A8 Z) Z (E1 Z Z Z Z (A7 Z Z (A5 ?_)))))));refine k1 (k3 ?_)
 rw [hF]
 refine D6 (X:=Nat) (fun k=>([(2,.s (.one (.ref 2 0))),(3,.s (.one (.ref 3 0))),(5,K3 (.int .u32 (D17 (R.take k)))),(6,B9 ((F+k:Nat):Int))],[(2,.box (pTable t).s1.cells),(3,.box (pSpan s).s1.cells)])) (fun k=>k≤R.length) (fun k=>R.length - k) 0 (Nat.zero_le _) (J69 ⟨le1 rfl,le1 rfl,le1 rfl,le1 rfl,trivial⟩ ⟨rfl,rfl,trivial⟩) ?_
 intro k hk
 dsimp only at hk ⊢
 refine k2 (k2 (A3 (A4 Z Z (A6 (A8 Z) Z (E1 Z Z Z Z (E4 Z Z Z (A5 ?_)))))));refine k1 ?_;refine B3 rfl (fun ht=>?_) (fun ht=>?_)
 ·have hlt:k < R.length:=by have:=A0 ht;omega
  have hv:t.Rows[((F+k:Nat):Int).toNat]?=some R[k]:=by
   have e1:R[k]?=some R[k]:=by simp
   have e2:R[k]?=t.Rows[F+k]?:=by rw [hR,K22 (by omega),K33]
   rw [K12,←e2]
   exact e1
  have hst:D17 (R.take (k+1))=K6 (D17 (R.take k)) R[k].Marks:=by
   unfold D17
   rw [K16 hlt,K43];rfl
  obtain ⟨r,hrr⟩:∃r,r=R[k]:=⟨_,rfl⟩
  rw [←hrr] at hv hst
  refine k5 (k1 (k2 (k3 (A3 (A4 Z Z (A6 (A8 Z) Z (E1 Z Z Z Z (A4 Z Z (A6 (B0 Z (.pure _ _ _ _) Z (by omega) hv) Z (A6 (D4 Z) Z (A6 (B1 Z Z) Z (A6 (X9 Z Z Z (fun _=>rfl)) Z (A7 Z Z (A5 ?_))))))))))))));refine k4 (k1 (A3 (A4 Z Z (C6 Z Z Z (A7 Z Z (A5 ?_))))));refine k1 ?_;refine ⟨k+1,by omega,by omega,?_⟩
  rw [hst,show ((F+(k+1):Nat):Int)=((F+k:Nat):Int)+1 by omega]
  exact J69 ⟨le1 rfl,le1 rfl,le1 rfl,le1 rfl,trivial⟩ ⟨rfl,rfl,trivial⟩
 have hkl:k=R.length∨True:=.inr trivial
 have hT2:(T:Int)≤((F+k:Nat):Int):=by have:=A1 ht;omega
 have hkR:R.take k=R:=K42 (by omega)
 rw [hkR]
 obtain ⟨A,hA⟩:∃A,A=D17 R:=⟨_,rfl⟩
 have hAin:=hain R
 rw [←hA] at hAin hD ⊢
 obtain ⟨n,hn2⟩:∃n:Nat,t.Parents=n:=⟨t.Parents.toNat,by omega⟩
 rw [hn2,K12] at hD
 refine k6 (k2 (k2 (A3 (A7 Z Z (A5 ?_)))));refine k1 (k3 (D6 (X:=Nat) (fun p=>([(2,.s (.one (.ref 2 0))),(5,K3 (.int .u32 A)),(7,B9 p)],[(2,.box (pTable t).s1.cells)])) (fun p=>p≤n∧∀q,q < p→¬A / 2 ^ q % 2=0) (fun p=>n - p) 0 ⟨Nat.zero_le _,fun q hq=>by omega⟩ (J69 ⟨le1 rfl,le1 rfl,le1 rfl,trivial⟩ ⟨rfl,trivial⟩) ?_))
 rintro p ⟨hp,hq⟩
 dsimp only at hp hq ⊢
 refine k2 (k2 (A3 (A4 Z Z (A6 (A8 Z) Z (E1 Z Z Z Z (E4 Z Z Z (A5 ?_)))))));refine k1 ?_;refine B3 rfl (fun ht=>?_) (fun ht=>?_)
 ·have hlt:p < n:=by have:=A0 ht;omega
  have hu:=A86 (n:=(p:Int)) (by omega)
  have h3:0≤A / 2 ^ p:=Int.ediv_nonneg hAin.1 (Int.pow_nonneg (by decide))
  have h4:A / 2 ^ p≤A:=Int.ediv_le_self _ hAin.1
  have e1:=B95 (A / 2 ^ p) (by omega)
  have e32:A.fdiv (2 ^ (min (p:Int).toNat IntKind.u32.bits))=A / 2 ^ p∨32 < p:=by
   by_cases h:p≤32
   ·exact .inl (E71 A p (by omega))
   ·exact .inr (by omega)
  have e33:A.fdiv (2 ^ (min (p:Int).toNat IntKind.u32.bits))=A / 2 ^ p:=by
   rcases e32 with h | h
   ·exact h
   ·have h5:min (p:Int).toNat IntKind.u32.bits=32:=by rw [K12];exact Nat.min_eq_right (by show 32≤p;omega)
    rw [h5,Int.fdiv_eq_ediv_of_nonneg _ (Int.pow_nonneg (by decide))]
    have h6:A / 2 ^ 32=0:=Int.ediv_eq_zero_of_lt hAin.1 (by have:(2:Int) ^ 32=4294967296:=rfl;omega)
    have h7:A / 2 ^ p=0:=Int.ediv_eq_zero_of_lt hAin.1 (by
     have h8:(2:Nat) ^ 32≤2 ^ p:=Nat.pow_le_pow_right (by decide) (by omega)
     have h9:((2 ^ p:Nat):Int)=2 ^ p:=by simp
     have h10:(2:Nat) ^ 32=4294967296:=rfl
     omega)
    rw [h6,h7]
  refine k5 (k1 (k2 (k3 (k2 (A3 (A4 Z Z (A4 Z Z (A6 (N6 Z) Z (A6 (A89 Z Z (by (rw [hu];omega))) Z ?_)))))))));refine A6 (X9 Z Z Z (fun _=>rfl)) Z (A6 (K0 Z Z) Z (A5 ?_))
  rw [hu,e33,e1]
  refine k1 ?_;refine B3 rfl (fun ht=>?_) (fun ht=>?_)
  ·have h:=A0 ht
   refine k2 (A3 (A7 Z Z (A5 ?_)));refine k1 (k10 (k12 (k11 (k11 (k12 (k11 (B6 (rs:=[M3 false]) (G6 Z Z Z) ?_)))))))
   rw [hD,Eq.comm]
   congr 3
   rw [Bool.eq_false_iff]
   intro hall
   have:=List.all_eq_true.1 hall p (List.mem_range.2 hlt)
   simp [h] at this
  ·have h:=A1 ht
   refine k5 (k4 (k1 (A3 (A4 Z Z (C6 Z Z Z (A7 Z Z (A5 ?_)))))));refine k1 ?_;refine ⟨p+1,⟨by omega,fun q hq2=>?_⟩,by omega,J69 ⟨le1 rfl,le1 rfl,le1 rfl,trivial⟩ ⟨rfl,trivial⟩⟩
   by_cases e:q=p
   ·subst e;exact h
   ·exact hq q (by omega)
 ·have hpn:p=n:=by have:=A1 ht;omega
  subst hpn
  refine k6 (k2 (A3 (A7 Z Z (A5 ?_))));refine k1 (k10 (B6 (rs:=[M3 true]) (G6 Z Z Z) ?_))
  rw [hD,Eq.comm]
  congr 3
  rw [List.all_eq_true]
  intro q hq2
  have:=hq q (List.mem_range.1 hq2)
  simp [this]
theorem J42 {t:Table} (h:(j4 t).2=0):L4 t=0∧(1≤t.Parents∧t.Parents≤32):=by
 unfold j4 at h
 by_cases hc:L4 t=0
 ·refine ⟨hc,?_⟩
  unfold L4 at hc
  split at hc
  ·cases hc
  ·omega
 ·rw [if_pos hc] at h;exact absurd h hc
theorem H00 {α:Type} (L:List α) (p:α→Bool) (k:Nat) (h:k < L.length):(L.take (k+1)).filter p=(L.take k).filter p++if p L[k]=true then [L[k]] else []:=by
 rw [K16 h,K56]
 congr 1
 rw [K51];split<;>rfl
theorem E00 (t:Table) (d:Bool) (hr:I8 t.Rows) (hl:t.Rows.length≤134217728) (hx:P3 t.Rows≤536870912) :
  FnOk Tryz.prog 105 [pTable t,M3 d] (fun rs=>rs=[pSpans (K5 t d).1,H3 (K5 t d).2]):=by
 refine FnOk.intro Tryz.func105 (by decide) Z Z Z Z ?_
 refine k2 (A3 (C1 (R4 2 Z Z Z) Z (A7 Z Z (A7 Z Z (A5 ?_)))));refine k1 (k2 (A3 (A6 (C5 Z Z Z) Z (C4 (J41 t hr (by omega) hx) Z Z Z ?_))));rintro _ rfl;refine A4 Z Z (H9 Z Z Z (H9 Z Z Z (A7 Z Z (A7 Z Z (A5 ?_)))));refine k1 (k2 (k2 (A3 (A4 Z Z (A6 (O9 Z Z) Z (A5 ?_))))));refine k1 ?_;refine B3 rfl (fun ht=>?_) (fun ht=>?_)
 ·have h:=A0 ht
  refine k2 (A3 (A4 Z Z (A6 (M8 _ 2 spanC) Z (A7 Z Z (A5 ?_)))));refine k1 (k10 (k11 ?_))
  exact B6 (s6 rfl rfl rfl rfl rfl) (by unfold K5;rw [if_pos h])
 have h:=A1 ht
 have h0:(j4 t).2=0:=by omega
 have hres:K5 t d=((j4 t).1.filter fun s=>!d||A77 t s,0):=by unfold K5;rw [if_neg (by omega)]
 rw [hres]
 obtain ⟨_,hn1,hn2⟩:=J42 h0
 obtain ⟨L,hL⟩:∃L,L=(j4 t).1:=⟨_,rfl⟩
 have hin:=I56 t
 rw [←hL] at hin ⊢
 obtain ⟨hin1,hin2⟩:=hin
 obtain ⟨p,hp⟩:∃p:Span→Bool,p=fun s=>!d||A77 t s:=⟨_,rfl⟩
 rw [←hp]
 refine k5 (k1 (k2 (A3 (C1 (V1 752 _ spanC Z) Z (A5 ?_)))));refine k1 (k2 (k2 (A3 (A7 Z Z (A5 ?_)))));refine k1 (k3 (D6 (X:=Nat) (fun k=>([(1,S7 d),(2,.s (.one (.ref 2 0))),(6,C3 Span 2 spanC L),(8,.s (.one (.buf 752 Span 2 spanC ((L.take k).filter p)))),(9,B9 k)],[(2,.box (pTable t).s1.cells),(752,.spare ((L.take k).filter p).length 2 88)])) (fun k=>k≤L.length) (fun k=>L.length - k) 0 (Nat.zero_le _) (J69 ⟨le1 rfl,le1 rfl,le1 rfl,le1 rfl,le1 rfl,trivial⟩ ⟨rfl,rfl,trivial⟩) ?_))
 intro k hk
 dsimp only at hk ⊢
 have hfl:=List.length_filter_le p (L.take k)
 have htl:(L.take k).length=k:=by rw [K19];omega
 refine k2 (k2 (A3 (A4 Z Z (A4 Z Z (E7 Z Z (E4 Z Z Z (A5 ?_)))))));refine k1 ?_;refine B3 rfl (fun ht=>?_) (fun ht=>?_)
 rotate_left
 ·have hkl:k=L.length:=by have:=A1 ht;omega
  rw [hkl,K28]
  refine k6 (k2 (A3 (A4 Z Z (A7 Z Z (A7 Z Z (A5 ?_))))));refine k1 (k10 ?_)
  exact B6 (s6 rfl rfl rfl rfl rfl) rfl
 have hlt:k < L.length:=by have:=A0 ht;omega
 have hst:=H00 L p k hlt
 have hv:L[k]?=some L[k]:=by simp [hlt]
 have hs:=hin2 _ (K17 hlt)
 obtain ⟨s,hsd⟩:∃s,s=L[k]:=⟨_,rfl⟩
 rw [←hsd] at hst hv hs
 have hps:p s=(!d||A77 t s):=by rw [hp]
 refine k5 (k1 (k2 (k3 (k2 (C9 (by kernel_rfl) (by kernel_rfl) (C8 Z Z (A9 (B56 Z) Z Z (C8 Z Z (C0 Z Z (fun hg=>by rw [hg];exact C5 Z Z Z) Z Z ?_)))))))));refine C0 Z Z (fun hg=>by rw [hg];exact B7 Z Z) Z Z ?_;refine C0 Z Z (fun hg=>by rw [hg];exact B7 Z Z) Z Z ?_;refine C0 Z Z (fun hg=>by have hq:=hg;(try simp at hq);rw [hg];exact B0 Z (.pure _ _ _ _) Z (by omega) hv) Z Z ?_;refine C0 Z Z (fun hg=>by rw [hg];exact G3 Z Z) Z Z ?_;refine C0 Z Z (fun hg=>by have hq:=hg;(try simp at hq);rw [hg];exact H2 (I84 t s (by omega) hs.1 hs.2 (by omega)) Z Z) Z Z ?_;refine A9 (F6 Z (fun h=>by first | rfl | (rw [h];rfl)) (fun h=>by first | rfl | (rw [h];rfl))) Z Z ?_;refine L6 ?_;refine k1 ?_;refine B3 rfl (fun ht=>?_) (fun ht=>?_)
 ·have hpt:p s=true:=by rw [hps];cases d<;>simp_all
  rw [if_pos hpt] at hst
  skip
  refine A3 (A4 Z Z (A4 Z Z (A4 Z Z (A6 (B0 Z (.pure _ _ _ _) Z (by omega) hv) Z (A6 (G3 Z Z) Z (A6 (D5 (c:=spanC) (ys:=[s]) (E0 Z Z Z Z F3) Z Z Z) Z (C1 (G4 Z Z Z (.pure _ _ _ _) (by (simp only [K08,K11];omega)) Z) Z (A7 Z Z (A5 ?_)))))))));refine k4 (k1 (A3 (A4 Z Z (C6 Z Z Z (A7 Z Z (A5 ?_))))));refine k1 ?_;refine ⟨k+1,by omega,by omega,?_⟩
  rw [hst]
  exact J69 ⟨le1 rfl,le1 rfl,le1 rfl,le1 rfl,le1 rfl,trivial⟩ ⟨rfl,rfl,trivial⟩
 ·have hpt:¬p s=true:=by rw [hps];cases d<;>simp_all
  rw [if_neg hpt,K29] at hst
  refine k5 (k4 (k1 (A3 (A4 Z Z (C6 Z Z Z (A7 Z Z (A5 ?_)))))));refine k1 ?_;refine ⟨k+1,by omega,by omega,?_⟩
  rw [hst]
  exact J69 ⟨le1 rfl,le1 rfl,le1 rfl,le1 rfl,le1 rfl,trivial⟩ ⟨rfl,rfl,trivial⟩
def C31 (L:List Span) (ctx:Int) (i k q:Nat):Bool:=if q < i then j5 L ctx q else if q=i then j5 (L.take k) ctx i else false
theorem I85 (L:List Span) (ctx:Int) (n:Nat):List.replicate n false=(List.range n).map (C31 L ctx 0 0):=by
 refine List.ext_getElem (by simp) fun q h1 h2=>?_
 simp only [List.getElem_replicate,List.getElem_map,List.getElem_range]
 unfold C31
 rw [if_neg (by omega)]
 split<;>simp [j5]
theorem I86 (L:List Span) (ctx:Int) (i n:Nat):(List.range n).map (C31 L ctx i L.length)=(List.range n).map (C31 L ctx (i+1) 0):=by
 refine List.map_congr_left fun q _=>?_
 unfold C31
 rw [K28]
 by_cases h1:q < i
 ·rw [if_pos h1,if_pos (by omega)]
 ·rw [if_neg h1]
  by_cases h2:q=i
  ·rw [if_pos h2,if_pos (by omega),h2]
  ·rw [if_neg h2,if_neg (by omega)]
   split<;>simp [j5]
theorem I87 (L:List Span) (ctx:Int) (n:Nat):(List.range n).map (C31 L ctx n 0)=(List.range n).map (j5 L ctx):=by
 refine List.map_congr_left fun q hq=>?_
 unfold C31
 rw [if_pos (by simpa using hq)]
theorem H01 (L:List Span) (ctx:Int) (i k:Nat) (h:k < L.length):j5 (L.take (k+1)) ctx i=(j5 (L.take k) ctx i||decide (L[k].From - ctx≤i∧(i:Int) < L[k].To+ctx)):=by
 unfold j5
 rw [K16 h,List.any_append];simp
theorem D66 (t:Table) (ctx:Int) (d:Bool) (hr:I8 t.Rows) (hl:t.Rows.length≤134217728) (hx:P3 t.Rows≤536870912) :
  FnOk Tryz.prog 49 [pTable t,H3 ctx,M3 d] (fun rs=>rs=[pSpans (N9 t ctx d).1,H3 (N9 t ctx d).2]):=by
 refine FnOk.intro Tryz.func49 (by decide) Z Z Z Z ?_
 refine k2 (A3 (C1 (R4 3 Z Z Z) Z (A7 Z Z (A7 Z Z (A5 ?_)))));refine k1 (k2 (A3 (A6 (C5 Z Z Z) Z (A4 Z Z (C4 (E00 t d hr hl hx) Z Z Z ?_)))));rintro _ rfl;refine A4 Z Z (H9 Z Z Z (H9 Z Z Z (A7 Z Z (A7 Z Z (A5 ?_)))));refine k1 (k2 (k2 (A3 (A4 Z Z (A6 (O9 Z Z) Z (A5 ?_))))));refine k1 ?_;refine B3 rfl (fun ht=>?_) (fun ht=>?_)
 ·have h:=A0 ht
  refine k2 (A3 (A4 Z Z (A6 (M8 _ 2 spanC) Z (A7 Z Z (A5 ?_)))));refine k1 (k10 (k11 ?_))
  exact B6 (s6 rfl rfl rfl rfl rfl) (by unfold N9;rw [if_pos h])
 have h:=A1 ht
 refine k5 (k1 (k2 (k2 (A3 (A4 Z Z (E4 Z Z Z (A4 Z Z (B2 Z Z Z Z (fun hg=>by rw [hg];exact B7 Z Z) ?_))))))));refine B2 Z Z Z Z (fun hg=>by rw [hg];exact N5 Z Z) ?_;refine J4 Z Z ?_;refine A5 ?_;refine k1 ?_;refine B3 rfl (fun ht=>?_) (fun ht=>?_)
 ·have h1:=A0 (or_pick.symm.trans ht)
  refine k2 (A3 (A6 (M8 _ 2 spanC) Z (A7 Z Z (A5 ?_))));refine k1 (k10 (k11 ?_))
  exact B6 (s6 rfl rfl rfl rfl rfl) (by unfold N9;rw [if_neg h,if_pos (by omega)])
 have h1:=A1 (or_pick.symm.trans ht)
 have hres:N9 t ctx d=(B54 ((List.range t.Rows.length).map (j5 (K5 t d).1 ctx)),0):=by unfold N9;rw [if_neg h,if_neg (by omega)]
 rw [hres]
 obtain ⟨L,hL⟩:∃L,L=(K5 t d).1:=⟨_,rfl⟩
 have hin:=E98 t d
 rw [←hL] at hin ⊢
 obtain ⟨hin1,hin2⟩:=hin
 obtain ⟨n,hn⟩:∃n,n=t.Rows.length:=⟨_,rfl⟩
 rw [←hn] at hin1 hin2 hl ⊢
 refine M9 [(1,B9 ctx),(3,.s (.one (.ref 3 0))),(8,C3 Span 2 spanC L)] [(3,.box (pTable t).s1.cells)] (J69 ⟨le1 rfl,le1 rfl,le1 rfl,trivial⟩ ⟨rfl,trivial⟩) ?_
 refine k5 (k1 (k2 (A3 (A6 (A8 Z) Z (E1 Z Z Z Z (E7 Z Z (C1 (Y0 753 Bool D91 false Z Z (by omega) (by omega) (fun _=>by first | exact ⟨⟨rfl,rfl⟩,trivial⟩ | exact ⟨P6 _ _ _,trivial⟩) (by first | rfl | (simp [I1,I7,Ob.free,SV.free,S1.free,TC.free]<;>rfl))) Z ?_)))))));refine A7 Z Z (A5 ?_)
 rw [←hn,K12,I85 L ctx n]
 refine k1 (k2 (k2 (A3 (A7 Z Z (A5 ?_)))));refine k1 (k3 (D6 (X:=Nat) (fun i=>([(1,B9 ctx),(8,C3 Span 2 spanC L),(10,.s (.one (.mut 753))),(11,B9 i)],[(753,.arr Bool 1 D91 ((List.range n).map (C31 L ctx i 0)))])) (fun i=>i≤n) (fun i=>n - i) 0 (Nat.zero_le _) (J69 ⟨le1 rfl,le1 rfl,le1 rfl,le1 rfl,trivial⟩ ⟨rfl,trivial⟩) ?_))
 intro i hi
 dsimp only at hi ⊢
 have hlen:∀k,((List.range n).map (C31 L ctx i k)).length=n:=fun k=>by simp
 have hlen0:=hlen 0
 refine k2 (k2 (A3 (A4 Z Z (A4 Z Z (A6 (I62 Z Z) Z (E4 Z Z Z (A5 ?_)))))));refine k1 ?_;refine B3 rfl (fun ht=>?_) (fun ht=>?_)
 rotate_left
 ·have hin:i=n:=by have:=A1 ht;omega
  rw [hin,I87]
  refine G5 (Sees.freeze (k:=753) Z) ?_
  refine k6 (k2 (A3 (A4 Z Z (C4 (F71 ((List.range n).map (j5 L ctx)) (by simp;omega)) Z Z Z ?_))));rintro _ rfl;refine A7 Z Z (A7 Z Z (A5 ?_));refine k1 (k10 ?_)
  exact B6 (s6 rfl rfl rfl rfl rfl) rfl
 have hlt:i < n:=by have:=A0 ht;omega
 refine k5 (k1 (k2 (k3 (k2 (A3 (A7 Z Z (A5 ?_)))))));refine k1 (k3 (D6 (X:=Nat) (fun k=>([(1,B9 ctx),(8,C3 Span 2 spanC L),(10,.s (.one (.mut 753))),(11,B9 i),(12,B9 k)],[(753,.arr Bool 1 D91 ((List.range n).map (C31 L ctx i k)))])) (fun k=>k≤L.length) (fun k=>L.length - k) 0 (Nat.zero_le _) (J69 ⟨le1 rfl,le1 rfl,le1 rfl,le1 rfl,le1 rfl,trivial⟩ ⟨rfl,trivial⟩) ?_))
 intro k hk
 dsimp only at hk ⊢
 have hlenk:=hlen k
 refine k2 (k2 (A3 (A4 Z Z (A4 Z Z (E7 Z Z (E4 Z Z Z (A5 ?_)))))));refine k1 ?_;refine B3 rfl (fun ht=>?_) (fun ht=>?_)
 rotate_left
 ·have hkl:k=L.length:=by have:=A1 ht;omega
  rw [hkl,I86]
  refine k6 (k7 (k7 (k8 Z (k4 (k1 (A3 (A4 Z Z (C6 Z Z Z (A7 Z Z (A5 ?_))))))))));refine k1 ?_
  exact ⟨i+1,by omega,by omega,J69 ⟨le1 rfl,le1 rfl,le1 rfl,le1 rfl,trivial⟩ ⟨rfl,trivial⟩⟩
 have hltk:k < L.length:=by have:=A0 ht;omega
 have hst:=H01 L ctx i k hltk
 have hv:L[k]?=some L[k]:=by simp [hltk]
 have hs:=hin2 _ (K17 hltk)
 obtain ⟨s,hsd⟩:∃s,s=L[k]:=⟨_,rfl⟩
 rw [←hsd] at hst hv hs
 have hg:((List.range n).map (C31 L ctx i k))[(i:Int).toNat]?=some (j5 (L.take k) ctx i):=by
  rw [K12,A38 n i _ hlt];unfold C31;rw [if_neg (by omega),if_pos rfl]
 have hset:((List.range n).map (C31 L ctx i k)).set (i:Int).toNat (if j5 (L.take k) ctx i=true then true else if decide ((i:Int)≥s.From - ctx)=true then decide ((i:Int) < s.To+ctx) else false)=(List.range n).map (C31 L ctx i (k+1)):=by
  rw [K12]
  refine A37 n i _ _ _ (fun _=>?_) (fun q _ hq=>?_)
  ·unfold C31
   rw [if_neg (by omega),if_pos rfl,hst]
   cases j5 (L.take k) ctx i
   ·by_cases h1:s.From - ctx≤(i:Int)
    ·by_cases h2:(i:Int) < s.To+ctx<;>simp [h1,h2]
    ·simp [h1]
   ·simp
  ·unfold C31
   by_cases h1:q < i
   ·rw [if_pos h1,if_pos h1]
   ·rw [if_neg h1,if_neg h1,if_neg hq,if_neg hq]
 refine k5 (k1 (k2 (k3 (A3 (A4 Z Z (A4 Z Z (A4 Z Z (A4 Z Z (A6 (E3 Z Z Z (by omega) (by (rw [hlenk];omega))) Z ?_)))))))));refine A6 (O1 Z Z hg Z) Z (A4 Z Z (B2 Z Z Z Z (fun hg=>by rw [hg];exact B7 Z Z) ?_));refine B2 Z Z Z Z (fun hg=>by rw [hg];exact B7 Z Z) ?_;refine B2 Z Z Z Z (fun hg=>by rw [hg];exact B7 Z Z) ?_;refine B2 Z Z Z Z (fun hg=>by have hq:=hg;(try simp at hq);rw [hg];exact B0 Z (.pure _ _ _ _) Z (by omega) hv) ?_;refine B2 Z Z Z Z (fun hg=>by rw [hg];exact D4 Z) ?_;refine B2 Z Z Z Z (fun hg=>by rw [hg];exact B1 Z Z) ?_;refine B2 Z Z Z Z (fun hg=>by rw [hg];exact B7 Z Z) ?_;refine B2 Z Z Z Z (fun hg=>by have hq:=hg;(try simp at hq);rw [hg];exact U0 Z Z (by omega)) ?_;refine B2 Z Z Z Z (fun hg=>by rw [hg];exact A58 Z Z) ?_;refine B2 Z Z Z Z (fun hg=>by rw [hg];exact B7 Z Z) ?_;refine I0 Z Z Z (.gd (.val _)) Z (fun hg=>by obtain ⟨hg1,hg2⟩:=N7 hg;(try rw [hg1]);(try rw [hg2]);exact B7 Z Z) ?_;refine I0 Z Z Z (.gd (.val _)) Z (fun hg=>by obtain ⟨hg1,hg2⟩:=N7 hg;(try rw [hg1]);(try rw [hg2]);exact B7 Z Z) ?_;refine I0 Z Z Z (.gd (.val _)) Z (fun hg=>by obtain ⟨hg1,hg2⟩:=N7 hg;(try rw [hg1]);(try rw [hg2]);exact B7 Z Z) ?_;refine I0 Z Z Z (.gd (.val _)) Z (fun hg=>by have hq:=hg;(try simp at hq);obtain ⟨hg1,hg2⟩:=N7 hg;(try rw [hg1]);(try rw [hg2]);exact B0 Z (.pure _ _ _ _) Z (by omega) hv) ?_;refine I0 Z Z Z (.gd (.val _)) Z (fun hg=>by obtain ⟨hg1,hg2⟩:=N7 hg;(try rw [hg1]);(try rw [hg2]);exact D4 Z) ?_;refine I0 Z Z Z (.gd (.val _)) Z (fun hg=>by obtain ⟨hg1,hg2⟩:=N7 hg;(try rw [hg1]);(try rw [hg2]);exact B1 Z Z) ?_;refine I0 Z Z Z (.gd (.val _)) Z (fun hg=>by obtain ⟨hg1,hg2⟩:=N7 hg;(try rw [hg1]);(try rw [hg2]);exact B7 Z Z) ?_;refine I0 Z Z Z (.gd (.val _)) Z (fun hg=>by have hq:=hg;(try simp at hq);obtain ⟨hg1,hg2⟩:=N7 hg;(try rw [hg1]);(try rw [hg2]);exact V2 Z Z (by omega)) ?_;refine I0 Z Z Z (.gd (.val _)) Z (fun hg=>by obtain ⟨hg1,hg2⟩:=N7 hg;(try rw [hg1]);(try rw [hg2]);exact A05 Z Z) ?_;refine B2 Z Z Z Z (fun hg=>by rw [hg];exact F6 Z (fun h=>by first | rfl | (rw [h];rfl)) (fun h=>by first | rfl | (rw [h];rfl))) ?_;refine J4 Z Z ?_
 refine A6 (E3 Z Z Z (by omega) (by (rw [hlenk];omega))) Z ?_;refine F8 (I2 TySz.out Z Z (by (rw [hlenk];omega)) Z Z) ?_;refine A5 ?_;refine k4 (k1 (A3 (A4 Z Z (C6 Z Z Z (A7 Z Z (A5 ?_))))));refine k1 ?_;refine ⟨k+1,by omega,by omega,?_⟩
 rw [←hset]
 exact J69 ⟨le1 rfl,le1 rfl,le1 rfl,le1 rfl,le1 rfl,trivial⟩ ⟨rfl,trivial⟩
theorem C41 {b:Str} (h:b.length≤200):d7 b=0:=by
 have:=U5 b
 rw [d7,if_neg (by omega)]
theorem I88 {m r:Nat} {z:TC} (h:r < m):(V4 m m z)[r]?=some (.mut (r+1000)):=by
 unfold V4;rw [K34,K41 h];simp [h]
def B59 (f:Int→Int) (l:List Int) (k:Nat):List Int:=(l.take k).map f++l.drop k
theorem G30 (f:Int→Int) (l:List Int) (k:Nat):(B59 f l k).length=l.length:=by simp [B59];omega
theorem I89 (f:Int→Int) (l:List Int) (k:Nat) (h:k < l.length):(B59 f l k)[k]?=some (l.getD k 0):=by
 unfold B59
 rw [K26 (by simp;omega)]
 simp [show k - min k l.length=0 by omega,K07 h,K09]
theorem I90 (f:Int→Int) (l:List Int) (k:Nat) (h:k < l.length):(B59 f l k).set k (f (l.getD k 0))=B59 f l (k+1):=by
 unfold B59
 rw [List.set_append_right _ _ (by simp;omega),K13 h,K16 h]
 have e:k - min k l.length=0:=by omega
 simp only [K30,K19,e,List.set_cons_zero,K20,K14,K38,K18,K57,K09,K07 h,Option.getD_some]
theorem H74 (f:Int→Int) (l:List Int):B59 f l 0=l:=by simp [B59]
theorem H75 (f:Int→Int) (l:List Int):B59 f l l.length=l.map f:=by simp [B59]
set_option maxHeartbeats 1000000
theorem F72 (result:Str) (parents:List Str) (h0:result.length≤200) (h1:∀b∈parents,b.length≤200):FnOk Tryz.prog 46 [N2 result,x4 parents] (fun rs=>rs=[pTable (F2 result parents).1,H3 (F2 result parents).2]):=by
 refine FnOk.intro Tryz.func46 (by decide) Z Z Z Z ?_
 refine A60 (t:=1) rfl (.pure _ _ _ _) fun hplen=>?_
 refine k2 (A3 (C1 (I3 4 Z) Z (A7 Z Z (A5 ?_))));refine k1 (k2 (A3 (A4 Z Z (E7 Z Z (A7 Z Z (A5 ?_))))));refine k1 (k2 (k2 (A3 (A4 Z Z (E4 Z Z Z (A4 Z Z (B2 Z Z Z Z (fun hg=>by rw [hg];exact B7 Z Z) ?_)))))));refine B2 Z Z Z Z (fun hg=>by rw [hg];exact N5 Z Z) ?_;refine J4 Z Z ?_;refine A5 ?_;refine k1 ?_;refine B3 rfl (fun ht=>?_) (fun ht=>?_)
 ·have h:=A0 (or_pick.symm.trans ht)
  refine k2 (A3 (A6 (H1 Z) Z (F8 (B8 TySz.out Z Z Z Z Z Z) (A7 Z Z (A5 ?_)))));refine k1 (G5 (J70 Row 3 rowC 4 1 Z Z) ?_)
  refine k10 (k11 ?_)
  exact B6 (rs:=[pTable ⟨0,[]⟩,H3 2]) (a7 rfl rfl rfl rfl rfl rfl rfl) (by rw [F2,if_pos (by omega)])
 ·have h := A1 (or_pick.symm.trans ht)
  refine M9 [(0,X6 result),(1,C3 Str 1 M5 parents),(4,.s (.one (.ref 4 0))),(6,B9 parents.length)] [(4,.box [.p (.v (.int .i64 0)),.p (.v (.slice none 0 0))])] (J69 ⟨le1 rfl,le1 rfl,le1 rfl,le1 rfl,trivial⟩ ⟨rfl,trivial⟩) ?_
  refine k5 (k1 (k2 (A3 (A4 Z Z (C4 (C94 result (by omega)) Z Z Z ?_)))));rintro _ rfl;refine C1 (A42 39 (c:=strsC) (ys:=[_]) (E0 Z Z Z Z F3) Z Z Z (by first | rfl | (simp [I1,I7,Ob.free,SV.free,S1.free,TC.free]<;>rfl))) Z ?_;refine A7 Z Z (A5 ?_);refine k1 (k2 (k2 (A3 (A4 Z Z (C4 (G84 result (by omega)) Z Z Z ?_)))));rintro _ rfl;refine A7 Z Z (A5 ?_);refine k1 (k2 ?_)
  rw [C41 h0]
  refine A3 (A4 Z Z (A6 (O9 Z Z) Z (A5 ?_)));refine k1 ?_;refine B3 rfl (fun ht=>?_) (fun ht=>?_)
  ·cases A0 ht rfl
  ·refine k5 (k1 (k2 (k2 (A3 (A7 Z Z (A5 ?_))))));refine k1 (k3 ?_)
   obtain ⟨n,hn⟩:∃n,n=parents.length:=⟨_,rfl⟩
   rw [←hn] at h
   refine D6 (X:=Nat) (fun p=>([(1,C3 Str 1 M5 parents),(4,.s (.one (.ref 4 0))),(6,B9 n),(7,.s (.one (.buf 39 (List Str) 1 strsC (C2 result::(parents.take p).map C2)))),(9,B9 p)],[(4,.box [.p (.v (.int .i64 0)),.p (.v (.slice none 0 0))]),(39,.spare (C2 result::(parents.take p).map C2).length 1 60)])) (fun p=>p≤n) (fun p=>n - p) 0 (Nat.zero_le _) (by rw [hn];exact J69 ⟨le1 rfl,le1 rfl,le1 rfl,le1 rfl,le1 rfl,trivial⟩ ⟨rfl,rfl,trivial⟩) ?_
   intro p hp
   dsimp only at hp ⊢
   have hfl:(C2 result::(parents.take p).map C2).length=p+1:=by simp;omega
   refine k2 (k2 (A3 (A4 Z Z (A4 Z Z (E4 Z Z Z (A5 ?_))))));refine k1 ?_;refine B3 rfl (fun ht=>?_) (fun ht=>?_)
   ·have hlt:p < parents.length:=by have:=A0 ht;omega
    have hv:parents[p]?=some parents[p]:=by simp [hlt]
    have hb:=h1 _ (K17 hlt)
    have hst:C2 result::(parents.take (p+1)).map C2=(C2 result::(parents.take p).map C2)++[C2 parents[p]]:=by
     rw [List.take_add_one,hv,Option.toList_some,K20];rfl
    refine k5 (k1 (k2 (k3 (k2 (k2 (A3 (A4 Z Z (A4 Z Z ?_))))))));refine A6 (B0 rfl (.pure _ _ _ _) rfl (by omega) (K07 (by omega))) rfl ?_;refine A6 (B1 Z Z) Z (C4 (G84 parents[p] (by omega)) Z Z Z ?_);rintro _ rfl;refine A7 Z Z (A5 ?_);refine k1 (k2 ?_)
    rw [C41 hb]
    refine A3 (A4 Z Z (A6 (O9 Z Z) Z (A5 ?_)));refine k1 ?_;refine B3 rfl (fun ht=>?_) (fun ht=>?_)
    ·cases A0 ht rfl
    ·refine k5 (k1 (A3 (A4 Z Z (A4 Z Z (A4 Z Z ?_)))));refine A6 (B0 rfl (.pure _ _ _ _) rfl (by omega) (K07 (by omega))) rfl ?_;refine A6 (B1 Z Z) Z (C4 (C94 parents[p] (by omega)) Z Z Z ?_);rintro _ rfl;refine A6 (D5 (c:=strsC) (ys:=[_]) (E0 Z Z Z Z F3) Z Z Z) Z (C1 (G4 Z Z Z (.pure _ _ _ _) (by (rw [hfl];simp only [K08,K11];omega)) Z) Z ?_);refine A7 Z Z (A5 ?_);refine k4 (k1 (A3 (A4 Z Z (C6 Z Z Z (A7 Z Z (A5 ?_))))));refine k1 ?_;refine ⟨p+1,by omega,by omega,?_⟩
     rw [hst]
     exact J69 ⟨le1 rfl,le1 rfl,le1 rfl,le1 rfl,le1 rfl,trivial⟩ ⟨rfl,rfl,trivial⟩
   ·have hp':p=n:=by have:=A1 ht;omega
    rw [hp',hn,K28]
    rw [hp',hn,K28] at hfl
    rw [←hn] at hfl ⊢
    obtain ⟨fs,hfs⟩:∃fs,fs=C2 result::parents.map C2:=⟨_,rfl⟩
    rw [←hfs] at hfl ⊢
    have hfsB:∀f∈fs,f.length≤200∧f.flatten.length≤200:=by
     intro f hf
     rw [hfs] at hf
     rcases List.mem_cons.1 hf with rfl | hf
     ·have:=U5 result;rw [Y7];omega
     ·obtain ⟨b,hb,rfl⟩:=List.mem_map.1 hf
      have:=U5 b;have:=h1 b hb;rw [Y7];omega
    have hmk:F2 result parents=if ∃k,k < (C2 result).length+1∧(E6 ((O8 (fs.map (L2 (E5 fs))) (C2 result).length n n).2 k)).2≠0 then (⟨0,[]⟩,1) else (⟨n,V7 (E5 fs) (C2 result) (O8 (fs.map (L2 (E5 fs))) (C2 result).length n n) ((C2 result).length+1)⟩,0):=by
     rw [F2,if_neg (by omega),hn,hfs]
    have hn1:fs.length=n+1:=by rw [hfl]
    have hf0:fs[0]?=some (C2 result):=by rw [hfs];rfl
    have hflat:fs.flatten.length≤6600:=by
     have key:∀l:List (List Str),(∀f∈l,f.length≤200∧f.flatten.length≤200)→l.flatten.length≤200*l.length:=by
      intro l hl
      induction l with
      | nil=>simp
      | cons x r ih=>have:=ih (fun f hf=>hl f (by simp [hf]));have:=(hl x (by simp)).1;simp only [K25,K06,K08];omega
     have:=key fs hfsB;omega
    obtain ⟨names,hnames⟩:∃names,names=E5 fs:=⟨_,rfl⟩
    obtain ⟨ids,hids⟩:∃ids,ids=fs.map (L2 names):=⟨_,rfl⟩
    obtain ⟨L,hL⟩:∃L,L=(C2 result).length:=⟨_,rfl⟩
    have hLB:L≤200:=by rw [hL];exact (hfsB _ (by rw [hfs];simp)).1
    have hidsl:ids.length=n+1:=by rw [hids,K30,hn1]
    have hidB:∀x∈ids,x.length≤200∧∀v∈x,0≤v∧v < (names.length:Int):=by
     intro x hx
     rw [hids,hnames] at hx
     have h2:=H94 fs x hx
     obtain ⟨f,hf,rfl⟩:=List.mem_map.1 hx
     exact ⟨by rw [L2,K30];exact (hfsB f hf).1,by rw [hnames];exact h2⟩
    have hid0:(ids.getD 0 []).length=L:=by rw [hids,K09,K34,hf0,hL];simp [L2]
    have hv0:ids[0]?=some (ids.getD 0 []):=by rw [K09,K07 (by omega)];rfl
    refine M9 [(4,.s (.one (.ref 4 0))),(6,B9 n),(7,C3 (List Str) 1 strsC fs)] [(4,.box [.p (.v (.int .i64 0)),.p (.v (.slice none 0 0))])] (J69 ⟨le1 rfl,le1 rfl,leL rfl,trivial⟩ ⟨rfl,trivial⟩) ?_
    refine k6 (k2 (A3 (A4 Z Z (C4 (G86 fs (by omega)) Z Z Z ?_))));rintro _ rfl;refine A4 Z Z (C4 (ids_ok fs (by omega) (by omega)) Z Z Z ?_);rintro _ rfl;refine A7 Z Z (A7 Z Z (A5 ?_))
    rw [←hnames,←hids]
    refine k1 (k2 (A3 (A4 Z Z (A6 (B0 Z (.pure _ _ _ _) Z (by omega) hf0) Z (A6 (B1 Z Z) Z (E7 Z Z (A7 Z Z (A5 ?_))))))))
    rw [←hL]
    refine k1 (k2 (A3 (A4 Z Z (C1 (Y0 14 Int m9 0 Z Z (by omega) (by omega) (fun _=>by first | exact ⟨⟨rfl,rfl⟩,trivial⟩ | exact ⟨P6 _ _ _,trivial⟩) (by first | rfl | (simp [I1,I7,Ob.free,SV.free,S1.free,TC.free]<;>rfl))) Z ?_))));refine A7 Z Z (A5 ?_);refine k1 (k2 (A3 (A4 Z Z (C6 Z Z Z (C1 (Y0 15 (List (List Int)) intssC [] Z Z (by omega) (by omega) (fun _=>by first | exact ⟨⟨rfl,rfl⟩,trivial⟩ | exact ⟨P6 _ _ _,trivial⟩) (by first | rfl | (simp [I1,I7,Ob.free,SV.free,S1.free,TC.free]<;>rfl))) Z ?_)))));refine A7 Z Z (A5 ?_);refine k1 (k2 (k2 (A3 (A7 Z Z (A5 ?_)))));refine k1 (k3 (G5 (J87 15 Z) ?_))
    obtain ⟨z,hz⟩:∃z:TC,z=.p (intssC [] 0):=⟨_,rfl⟩
    have hzf:∀k,z.free k=true:=fun k=>by rw [hz];rfl
    have hrep:(List.replicate ((L:Int)+1).toNat ([]:List (List Int))).map (fun x=>TC.p (intssC x 0))=V4 (L+1) 0 z:=by
     rw [←H62,hz];simp
    refine D6 (X:=Nat) (fun k=>([(4,.s (.one (.ref 4 0))),(6,B9 n),(7,C3 (List Str) 1 strsC fs),(11,C3 Str 1 M5 names),(12,C3 (List Int) 1 intsC ids),(13,B9 L),(14,.s (.one (.mut 14))),(15,.s (.one (.mut 15))),(16,B9 k)],
     (4,.box [.p (.v (.int .i64 0)),.p (.v (.slice none 0 0))])::(14,.arr Int 1 m9 (List.replicate L 0))::(15,.tarr (L+1) 1 (V4 (L+1) k z))::J8 intsC (fun _=>List.replicate n []) (List.range k))) (fun k=>k≤L+1) (fun k=>L+1 - k) 0 (Nat.zero_le _) ?_ ?_
    ·refine J69 ⟨⟨_,rfl,.same _⟩,⟨_,rfl,.same _⟩,⟨_,rfl,.same _⟩,⟨_,rfl,.same _⟩,⟨_,rfl,.same _⟩,⟨_,rfl,.same _⟩,⟨_,rfl,.same _⟩,⟨_,rfl,.same _⟩,⟨_,rfl,.same _⟩,trivial⟩ ⟨rfl,rfl,?_,trivial⟩
     rw [←hrep];simp [C7,List.length_replicate]
    ·intro k hk
     dsimp only at hk ⊢
     refine k2 (k2 (A3 (A4 Z Z (A4 Z Z (A6 (j6 Z Z) Z (A5 ?_))))));refine k1 ?_;refine B3 rfl (fun ht=>?_) (fun ht=>?_)
     ·have hlt:k < L+1:=by have:=A0 ht;omega
      have hfree:I7 (k+1000) ((4,.box [.p (.v (.int .i64 0)),.p (.v (.slice none 0 0))])::(14,.arr Int 1 m9 (List.replicate L 0))::(15,.tarr (L+1) 1 (V4 (L+1) k z))::J8 intsC (fun _=>List.replicate n ([]:List Int)) (List.range k))=true:=by
       have h1:=B10 (k:=k+1000) (by omega) (List.range k) (fun r hr=>by have:=List.mem_range.1 hr;omega) (c:=intsC) (g:=fun _=>List.replicate n ([]:List Int))
       have h2:=H64 (m:=L+1) (k:=k) (hzf (k+1000))
       simp only [I7,Ob.free,h1,h2,K2 (show 4≠k+1000 by omega),K2 (show 14≠k+1000 by omega),K2 (show 15≠k+1000 by omega)]
       rfl
      refine k5 (k1 (k2 (k3 (A3 (A4 Z Z (A4 Z Z (A4 Z Z (C1 (Y0 (k+1000) (List Int) intsC [] Z Z (by omega) (by omega) (fun _=>by first | exact ⟨⟨rfl,rfl⟩,trivial⟩ | exact ⟨P6 _ _ _,trivial⟩) (by simp only [I1,SV.free,S1.free,TC.free,hfree,K2 (show 4≠k+1000 by omega),K2 (show 14≠k+1000 by omega),K2 (show 15≠k+1000 by omega)];rfl)) Z ?_))))))));refine A6 (I4 Z (by rw [B4 (by omega)];rfl) Z (by omega) (by omega)) Z ?_;refine F8 (s9 TySz.out Z (by rw [B4 (by omega)];rfl) (by (rw [C79];omega)) Z Z) ?_;refine A5 ?_;refine k4 (k1 (A3 (A4 Z Z (C6 Z Z Z (A7 Z Z (A5 ?_))))));refine k1 ?_;refine ⟨k+1,by omega,by omega,?_⟩
      refine J72 ⟨⟨_,rfl,.same _⟩,⟨_,rfl,.same _⟩,⟨_,rfl,.same _⟩,⟨_,rfl,.same _⟩,⟨_,rfl,.same _⟩,⟨_,rfl,.same _⟩,⟨_,rfl,.same _⟩,⟨_,rfl,.same _⟩,⟨_,rfl,.eq (by simp)⟩,trivial⟩ ?_
      refine J31 (g:=fun _=>List.replicate n ([]:List Int)) (pre:=[(4,.box [.p (.v (.int .i64 0)),.p (.v (.slice none 0 0))]),(14,.arr Int 1 m9 (List.replicate L 0)),(15,.tarr (L+1) 1 (V4 (L+1) k z))])
       (pre':=[(4,.box [.p (.v (.int .i64 0)),.p (.v (.slice none 0 0))]),(14,.arr Int 1 m9 (List.replicate L 0)),(15,.tarr (L+1) 1 (V4 (L+1) (k+1) z))]) (top:=[(15,.tarr (L+1) 1 ((V4 (L+1) k z).set k (.mut (k+1000))))]) rfl rfl ?_ rfl
      intro k' o ho
      rw [I65]
      by_cases h15:15=k'
      ·subst h15;exact ho
      ·by_cases h4:4=k'
       ·subst h4;rw [K57,B4 (by omega),B4 (by omega)];exact ho
       ·by_cases h14:14=k'
        ·subst h14;rw [K57,B4 (by omega),B4 (by omega)];exact ho
        ·rw [B4 h4,B4 h14,B4 h15] at ho;cases ho
     ·have hkL:k=L+1:=by have:=A1 ht;omega
      rw [hkL]
      clear hkL ht hk k
      refine M9 [(4,.s (.one (.ref 4 0))),(6,B9 n),(7,C3 (List Str) 1 strsC fs),(11,C3 Str 1 M5 names),(12,C3 (List Int) 1 intsC ids),(13,B9 L),(14,.s (.one (.mut 14))),(15,.s (.one (.mut 15)))]
       ((4,.box [.p (.v (.int .i64 0)),.p (.v (.slice none 0 0))])::(14,.arr Int 1 m9 (List.replicate L 0))::(15,.tarr (L+1) 1 (V4 (L+1) (L+1) z))::J8 intsC (fun _=>List.replicate n []) (List.range (L+1))) (J72 ⟨⟨_,rfl,.same _⟩,⟨_,rfl,.same _⟩,⟨_,rfl,.same _⟩,⟨_,rfl,.same _⟩,⟨_,rfl,.same _⟩,⟨_,rfl,.same _⟩,⟨_,rfl,.same _⟩,⟨_,rfl,.same _⟩,trivial⟩ (fun _ _ h=>h)) ?_
      refine k6 (k2 (k2 (A3 (A7 Z Z (A5 ?_)))));refine k1 (k3 ?_)
      obtain ⟨s,hs⟩:∃s:Nat→Loom,s=fun p=>O8 ids L n p:=⟨_,rfl⟩
      have hok:∀p,LoomOk (fun v=>0≤v∧v < (names.length:Int)) 200 L n (s p):=fun p=>by rw [hs];exact A39 hidB p
      refine D6 (X:=Nat) (fun p=>([(4,.s (.one (.ref 4 0))),(6,B9 n),(7,C3 (List Str) 1 strsC fs),(11,C3 Str 1 M5 names),(12,C3 (List Int) 1 intsC ids),(13,B9 L),(14,.s (.one (.mut 14))),(15,.s (.one (.mut 15))),(17,B9 p)],
       (4,.box [.p (.v (.int .i64 0)),.p (.v (.slice none 0 0))])::(14,.arr Int 1 m9 (s p).1)::(15,.tarr (L+1) 1 (V4 (L+1) (L+1) z))::J8 intsC (s p).2 (List.range (L+1)))) (fun p=>p≤n) (fun p=>n - p) 0 (Nat.zero_le _) ?_ ?_
      ·have h0s:s 0=A17 L n:=by rw [hs];rfl
       rw [h0s]
       exact J72 ⟨⟨_,rfl,.same _⟩,⟨_,rfl,.same _⟩,⟨_,rfl,.same _⟩,⟨_,rfl,.same _⟩,⟨_,rfl,.same _⟩,⟨_,rfl,.same _⟩,⟨_,rfl,.same _⟩,⟨_,rfl,.same _⟩,⟨_,rfl,.same _⟩,trivial⟩ (fun _ _ h=>h)
      intro p hp
      dsimp only at hp ⊢
      have hsp:=hok p
      refine k2 (k2 (A3 (A4 Z Z (A4 Z Z (E4 Z Z Z (A5 ?_))))));refine k1 ?_;refine B3 rfl (fun ht=>?_) (fun ht=>?_)
      ·have hlt:p < n:=by have:=A0 ht;omega
       have hv1:ids[p+1]?=some (ids.getD (p+1) []):=by rw [K09,K07 (by omega)];rfl
       have hstep:s (p+1)=M6 ids (s p) p:=by rw [hs];exact A68 ids L n p
       have hfB:=hidB _ (K27 hv1)
       obtain ⟨file,hfile⟩:∃f,f=ids.getD (p+1) []:=⟨_,rfl⟩
       obtain ⟨base,hbase⟩:∃f,f=ids.getD 0 []:=⟨_,rfl⟩
       rw [←hbase] at hid0 hv0
       rw [←hfile] at hv1 hfB
       have hwb:=B30 file base
       have hmw:=B29 file base
       have hwg:=C95 file base 0 0
       have hwl:=W9 0 0 file base
       have hml:=A02 (F9 0 0 file base) 0 0 file.length base.length
       obtain ⟨sc,hsc⟩:∃sc,sc=L3 file base:=⟨_,rfl⟩
       have hscl:sc.length≤201:=by rw [hsc];have h2:(L3 file base).length=(O0 0 0 (F9 0 0 file base) file.length base.length).length:=rfl;omega
       rw [←hsc] at hwb hmw
       refine k5 (k1 (k2 (k3 (k2 (C9 (by kernel_rfl) (by kernel_rfl) (C8 Z Z (C8 Z Z (A9 (V2 Z Z (by omega)) Z Z (A9 (B0 Z (.pure _ _ _ _) Z (by omega) (by rw [show ((p:Int)+1).toNat=p+1 by omega];exact hv1)) Z Z ?_)))))))));refine A9 (B1 Z Z) Z Z (C8 Z Z (A9 (B0 Z (.pure _ _ _ _) Z (by omega) hv0) Z Z (A9 (B1 Z Z) Z Z (A9 (H2 (I33 file base (by omega) (by omega)) Z Z) Z Z (A9 (J6 Z Z) Z Z (L6 ?_))))))
       rw [←hsc]
       obtain ⟨m0,hm0⟩:∃m0,m0=(s p).1:=⟨_,rfl⟩
       have hm0l:m0.length=L:=by rw [hm0];exact hsp.len
       have hbit:=B16 p
       refine k1 (k2 (k2 (A3 (A7 Z Z (A5 ?_)))));refine k1 (k3 ?_);refine D6 (X:=Nat) (fun k=>([(4,.s (.one (.ref 4 0))),(6,B9 n),(7,C3 (List Str) 1 strsC fs),(11,C3 Str 1 M5 names),(12,C3 (List Int) 1 intsC ids),(13,B9 L),(14,.s (.one (.mut 14))),(15,.s (.one (.mut 15))),(17,B9 p),(18,C3 Change 4 changeC sc),(19,B9 k)],(4,.box [.p (.v (.int .i64 0)),.p (.v (.slice none 0 0))])::(14,.arr Int 1 m9 (B59 (K6 · (H0 p)) m0 k))::(15,.tarr (L+1) 1 (V4 (L+1) (L+1) z))::J8 intsC (s p).2 (List.range (L+1)))) (fun k=>k≤L) (fun k=>L - k) 0 (Nat.zero_le _) ?_ ?_
       ·rw [H74,hm0]
        exact J72 ⟨⟨_,rfl,.same _⟩,⟨_,rfl,.same _⟩,⟨_,rfl,.same _⟩,⟨_,rfl,.same _⟩,⟨_,rfl,.same _⟩,⟨_,rfl,.same _⟩,⟨_,rfl,.same _⟩,⟨_,rfl,.same _⟩,⟨_,rfl,.same _⟩,⟨_,rfl,.same _⟩,⟨_,rfl,.same _⟩,trivial⟩ (fun _ _ h=>h)
       intro k hk
       dsimp only at hk ⊢
       refine k2 (k2 (A3 (A4 Z Z (A4 Z Z (E4 Z Z Z (A5 ?_))))));refine k1 ?_;refine B3 rfl (fun ht=>?_) (fun ht=>?_)
       ·have hkl:k < m0.length:=by have:=A0 ht;omega
        have hget:=I89 (K6 · (H0 p)) m0 k hkl
        have hset:=I90 (K6 · (H0 p)) m0 k hkl
        have hml':=G30 (K6 · (H0 p)) m0 k
        refine k5 (k1 (k2 (k3 (A3 (A4 Z Z (A4 Z Z (A4 Z Z (A4 Z Z (A6 (E3 Z Z Z (by omega) (by (rw [hml'];omega))) Z ?_)))))))));refine A6 (O1 Z Z hget Z) Z (A4 Z Z (A6 (N6 Z) Z (A6 (E20 Z Z (by (exact hbit))) Z ?_)));refine A6 (X9 Z Z Z (fun _=>rfl)) Z (A6 (E3 Z Z Z (by omega) (by (rw [hml'];omega))) Z ?_);refine F8 (I2 TySz.out Z Z (by (rw [hml'];exact hkl)) Z Z) ?_;refine A5 ?_;refine k4 (k1 (A3 (A4 Z Z (C6 Z Z Z (A7 Z Z (A5 ?_))))));refine k1 ?_;refine ⟨k+1,by omega,by omega,?_⟩
        rw [←hset]
        exact J72 ⟨⟨_,rfl,.same _⟩,⟨_,rfl,.same _⟩,⟨_,rfl,.same _⟩,⟨_,rfl,.same _⟩,⟨_,rfl,.same _⟩,⟨_,rfl,.same _⟩,⟨_,rfl,.same _⟩,⟨_,rfl,.same _⟩,⟨_,rfl,.same _⟩,⟨_,rfl,.same _⟩,⟨_,rfl,.eq (by simp)⟩,trivial⟩ (F53 rfl trivial trivial)
       ·have hkL:k=m0.length:=by have:=A1 ht;omega
        rw [hkL,H75]
        clear hkL ht hk k
        obtain ⟨m1,hm1⟩:∃m1,m1=m0.map (K6 · (H0 p)):=⟨_,rfl⟩
        have hm1l:m1.length=L:=by rw [hm1,K30,hm0l]
        rw [←hm1]
        refine k6 (k2 (A3 (A4 Z Z (A4 Z Z (A4 Z Z (C6 Z Z Z (A6 (B0 Z (.pure _ _ _ _) Z (by omega) (by rw [show ((p:Int)+1).toNat=p+1 by omega];exact hv1)) Z ?_)))))));refine A6 (B1 Z Z) Z (E7 Z Z (C4 (E47 sc file.length (by omega) (by omega) (fun c hc=>by have:=hwb c hc;omega)) Z Z Z ?_));rintro _ rfl;refine A7 Z Z (A5 ?_)
        rw [hmw]
        obtain ⟨ps,hps⟩:∃ps,ps=F9 0 0 file base:=⟨_,rfl⟩
        rw [←hps] at hwg hwl hmw ⊢
        refine k1 (k2 (k2 (A3 (A7 Z Z (A5 ?_)))));refine k1 (k3 ?_)
        have hcl:∀k,((ps.take k).foldl (M1 p) m1).length=L:=fun k=>by
         have key:∀(l:List Span) (ms:List Int),(l.foldl (M1 p) ms).length=ms.length:=by
          intro l;induction l with
          | nil=>intro ms;rfl
          | cons x r ih=>intro ms;rw [K37,ih];simp [M1]
         rw [key,hm1l]
        refine D6 (X:=Nat) (fun k=>([(4,.s (.one (.ref 4 0))),(6,B9 n),(7,C3 (List Str) 1 strsC fs),(11,C3 Str 1 M5 names),(12,C3 (List Int) 1 intsC ids),(13,B9 L),(14,.s (.one (.mut 14))),(15,.s (.one (.mut 15))),(17,B9 p),(18,C3 Change 4 changeC sc),(20,C3 Span 2 spanC ps),(21,B9 k)],(4,.box [.p (.v (.int .i64 0)),.p (.v (.slice none 0 0))])::(14,.arr Int 1 m9 ((ps.take k).foldl (M1 p) m1))::(15,.tarr (L+1) 1 (V4 (L+1) (L+1) z))::J8 intsC (s p).2 (List.range (L+1)))) (fun k=>k≤ps.length) (fun k=>ps.length - k) 0 (Nat.zero_le _) ?_ ?_
        ·exact J72 ⟨⟨_,rfl,.same _⟩,⟨_,rfl,.same _⟩,⟨_,rfl,.same _⟩,⟨_,rfl,.same _⟩,⟨_,rfl,.same _⟩,⟨_,rfl,.same _⟩,⟨_,rfl,.same _⟩,⟨_,rfl,.same _⟩,⟨_,rfl,.same _⟩,⟨_,rfl,.same _⟩,⟨_,rfl,.same _⟩,⟨_,rfl,.same _⟩,trivial⟩ (fun _ _ h=>h)
        intro k hk
        dsimp only at hk ⊢
        refine k2 (k2 (A3 (A4 Z Z (A4 Z Z (E7 Z Z (E4 Z Z Z (A5 ?_)))))));refine k1 ?_;refine B3 rfl (fun ht=>?_) (fun ht=>?_)
        ·have hkl:k < ps.length:=by have:=A0 ht;omega
         have hpv:ps[k]?=some ps[k]:=by simp [hkl]
         have hpb:=hwg ps[k] (K17 hkl)
         have hclk:=hcl k
         have hlt2:ps[k].To.toNat < ((ps.take k).foldl (M1 p) m1).length:=by omega
         have hget:((ps.take k).foldl (M1 p) m1)[ps[k].To.toNat]?=some (((ps.take k).foldl (M1 p) m1).getD ps[k].To.toNat 0):=by rw [K09,K07 hlt2];rfl
         have hset:(ps.take (k+1)).foldl (M1 p) m1=((ps.take k).foldl (M1 p) m1).set ps[k].To.toNat (n6 (((ps.take k).foldl (M1 p) m1).getD ps[k].To.toNat 0) (H0 p)):=by
          rw [K16 hkl,K43];rfl
         refine k5 (k1 (k2 (k3 (C9 (by kernel_rfl) (by kernel_rfl) (C8 Z Z (C8 Z Z (C8 Z Z (A9 (B0 Z (.pure _ _ _ _) Z (by omega) hpv) Z Z (A9 (D4 Z) Z Z (A9 (B1 Z Z) Z Z (C8 Z Z (C8 Z Z (C8 Z Z (A9 (B0 Z (.pure _ _ _ _) Z (by omega) hpv) Z Z (A9 (D4 Z) Z Z (A9 (B1 Z Z) Z Z (A9 (E3 Z Z Z (by omega) (by omega)) Z Z (A9 (O1 Z Z hget Z) Z Z (C8 Z Z (A9 (N6 Z) Z Z (A9 (E20 Z Z (by (exact hbit))) Z Z ?_)))))))))))))))))))));refine A9 (X9 Z Z Z (fun _=>rfl)) Z Z (A9 (E3 Z Z Z (by omega) (by omega)) Z Z (s7 (I2 TySz.out Z Z (by (exact hlt2)) Z Z) Z ?_));refine L6 ?_;refine k4 (k1 (A3 (A4 Z Z (C6 Z Z Z (A7 Z Z (A5 ?_))))));refine k1 ?_;refine ⟨k+1,by omega,by omega,?_⟩
         rw [hset]
         exact J72 ⟨⟨_,rfl,.same _⟩,⟨_,rfl,.same _⟩,⟨_,rfl,.same _⟩,⟨_,rfl,.same _⟩,⟨_,rfl,.same _⟩,⟨_,rfl,.same _⟩,⟨_,rfl,.same _⟩,⟨_,rfl,.same _⟩,⟨_,rfl,.same _⟩,⟨_,rfl,.same _⟩,⟨_,rfl,.same _⟩,⟨_,rfl,.eq (by simp)⟩,trivial⟩ (F53 rfl trivial trivial)
        ·have hkL:k=ps.length:=by have:=A1 ht;omega
         rw [hkL,K28]
         clear hkL ht hk k
         have hcl':=hcl ps.length
         rw [K28] at hcl'
         clear hcl
         obtain ⟨m2,hm2⟩:∃m2,m2=ps.foldl (M1 p) m1:=⟨_,rfl⟩
         rw [←hm2] at hcl' ⊢
         have hgl:∀k q,((sc.take k).foldl (L1 p file) (s p).2 q).length=n:=fun k q=>(B32 hfB (sc.take k) hsp.gaps q).1
         refine k6 (k2 (A3 (A7 Z Z (A5 ?_))));refine k1 (k3 ?_);refine D6 (X:=Nat) (fun k=>([(4,.s (.one (.ref 4 0))),(6,B9 n),(7,C3 (List Str) 1 strsC fs),(11,C3 Str 1 M5 names),(12,C3 (List Int) 1 intsC ids),(13,B9 L),(14,.s (.one (.mut 14))),(15,.s (.one (.mut 15))),(17,B9 p),(18,C3 Change 4 changeC sc),(22,B9 k)],(4,.box [.p (.v (.int .i64 0)),.p (.v (.slice none 0 0))])::(14,.arr Int 1 m9 m2)::(15,.tarr (L+1) 1 (V4 (L+1) (L+1) z))::J8 intsC ((sc.take k).foldl (L1 p file) (s p).2) (List.range (L+1)))) (fun k=>k≤sc.length) (fun k=>sc.length - k) 0 (Nat.zero_le _) ?_ ?_
         ·exact J72 ⟨⟨_,rfl,.same _⟩,⟨_,rfl,.same _⟩,⟨_,rfl,.same _⟩,⟨_,rfl,.same _⟩,⟨_,rfl,.same _⟩,⟨_,rfl,.same _⟩,⟨_,rfl,.same _⟩,⟨_,rfl,.same _⟩,⟨_,rfl,.same _⟩,⟨_,rfl,.same _⟩,⟨_,rfl,.same _⟩,trivial⟩ (fun _ _ h=>h)
         intro k hk
         dsimp only at hk ⊢
         refine k2 (k2 (A3 (A4 Z Z (A4 Z Z (E7 Z Z (E4 Z Z Z (A5 ?_)))))));refine k1 ?_;refine B3 rfl (fun ht=>?_) (fun ht=>?_)
         ·have hkl:k < sc.length:=by have:=A0 ht;omega
          have hcv:sc[k]?=some sc[k]:=by simp [hkl]
          have hcb:=hwb sc[k] (K17 hkl)
          have hgk:=hgl k sc[k].New.toNat
          have hN:sc[k].New.toNat < L+1:=by omega
          have hrow:(V4 (L+1) (L+1) z)[sc[k].New.toNat]?=some (.mut (sc[k].New.toNat+1000)):=I88 hN
          have hrl:(V4 (L+1) (L+1) z).length=L+1:=C79
          have hob:C7 ((4,.box [.p (.v (.int .i64 0)),.p (.v (.slice none 0 0))])::(14,.arr Int 1 m9 m2)::(15,.tarr (L+1) 1 (V4 (L+1) (L+1) z))::J8 intsC ((sc.take k).foldl (L1 p file) (s p).2) (List.range (L+1))) (sc[k].New.toNat+1000)=some (.arr (List Int) 1 intsC ((sc.take k).foldl (L1 p file) (s p).2 sc[k].New.toNat)):=by
           rw [B4 (by omega),B4 (by omega),B4 (by omega)]
           exact z8 (List.mem_range.2 hN)
          have hnew:((sc.take k).foldl (L1 p file) (s p).2 sc[k].New.toNat).set p ((file.drop sc[k].Old.toNat).take ((sc[k].Old+sc[k].OldLen).toNat - sc[k].Old.toNat))=(sc.take (k+1)).foldl (L1 p file) (s p).2 sc[k].New.toNat:=by
           rw [K16 hkl,K43]
           show _=L1 p file _ sc[k] _
           rw [L1,if_pos rfl]
          have hsame:∀q,q≠sc[k].New.toNat→(sc.take (k+1)).foldl (L1 p file) (s p).2 q=(sc.take k).foldl (L1 p file) (s p).2 q:=by
           intro q hq
           rw [K16 hkl,K43]
           show L1 p file _ sc[k] _=_
           rw [L1,if_neg hq]
          refine k5 (k1 (k2 (k3 (C9 (by kernel_rfl) (by kernel_rfl) (C8 Z Z (C8 Z Z (C8 Z Z (A9 (B0 Z (.pure _ _ _ _) Z (by omega) hcv) Z Z (A9 (D4 Z) Z Z (A9 (B1 Z Z) Z Z (A9 (I4 Z Z Z (by omega) (by omega)) Z Z (A9 (N4 Z Z hrow) Z Z (C8 Z Z (C8 Z Z (C8 Z Z (A9 (V2 Z Z (by omega)) Z Z (A9 (B0 Z (.pure _ _ _ _) Z (by omega) (by rw [show ((p:Int)+1).toNat=p+1 by omega];exact hv1)) Z Z ?_)))))))))))))))));refine A9 (B1 Z Z) Z Z (C8 Z Z (C8 Z Z (A9 (B0 Z (.pure _ _ _ _) Z (by omega) hcv) Z Z (A9 (D4 Z) Z Z (A9 (B1 Z Z) Z Z (C8 Z Z (C8 Z Z (A9 (B0 Z (.pure _ _ _ _) Z (by omega) hcv) Z Z (A9 (D4 Z) Z Z (A9 (B1 Z Z) Z Z (C8 Z Z (C8 Z Z (A9 (B0 Z (.pure _ _ _ _) Z (by omega) hcv) Z Z (A9 (D4 Z) Z Z (A9 (B1 Z Z) Z Z (A9 (V2 Z Z (by omega)) Z Z (A9 (S0 Z (.pure _ _ _ _) Z Z (by omega) (by omega) (by omega)) Z Z (A9 (E3 Z hob Z (by omega) (by omega)) Z Z (s7 (I2 TySz.out Z hob (by omega) Z Z) Z (L6 ?_))))))))))))))))))));refine k4 (k1 (A3 (A4 Z Z (C6 Z Z Z (A7 Z Z (A5 ?_))))));refine k1 ?_;refine ⟨k+1,by omega,by omega,?_⟩
          refine J72 ⟨⟨_,rfl,.same _⟩,⟨_,rfl,.same _⟩,⟨_,rfl,.same _⟩,⟨_,rfl,.same _⟩,⟨_,rfl,.same _⟩,⟨_,rfl,.same _⟩,⟨_,rfl,.same _⟩,⟨_,rfl,.same _⟩,⟨_,rfl,.same _⟩,⟨_,rfl,.same _⟩,⟨_,rfl,.eq (by simp)⟩,trivial⟩ ?_
          show ∀k' o,_→C7 ((sc[k].New.toNat+1000,.arr (List Int) 1 intsC (((sc.take k).foldl (L1 p file) (s p).2 sc[k].New.toNat).set p ((file.drop sc[k].Old.toNat).take ((sc[k].Old+sc[k].OldLen).toNat - sc[k].Old.toNat))))::((4,.box [.p (.v (.int .i64 0)),.p (.v (.slice none 0 0))])::(14,.arr Int 1 m9 m2)::(15,.tarr (L+1) 1 (V4 (L+1) (L+1) z))::J8 intsC ((sc.take k).foldl (L1 p file) (s p).2) (List.range (L+1)))) k'=some o
          rw [hnew]
          exact G68 (pre:=[(4,.box [.p (.v (.int .i64 0)),.p (.v (.slice none 0 0))]),(14,.arr Int 1 m9 m2),(15,.tarr (L+1) 1 (V4 (L+1) (L+1) z))]) rfl (List.mem_range.2 hN) hsame
         ·have hkL:k=sc.length:=by have:=A1 ht;omega
          rw [hkL,K28]
          have hs1:s (p+1)=(m2,sc.foldl (L1 p file) (s p).2):=by
           have e:M6 ids (s p) p=((S2 (L3 (ids.getD (p+1) []) (ids.getD 0 [])) (ids.getD (p+1) []).length).foldl (M1 p) ((s p).1.map (K6 · (H0 p))),(L3 (ids.getD (p+1) []) (ids.getD 0 [])).foldl (L1 p (ids.getD (p+1) [])) (s p).2):=rfl
           rw [hstep,e,←hfile,←hbase,←hsc,hmw,←hm0,←hm1,←hm2]
          refine k6 (k7 (k7 (k8 Z (k4 (k1 (A3 (A4 Z Z (C6 Z Z Z (A7 Z Z (A5 ?_))))))))));refine k1 ?_;refine ⟨p+1,by omega,by omega,?_⟩
          rw [hs1]
          exact J72 ⟨⟨_,rfl,.same _⟩,⟨_,rfl,.same _⟩,⟨_,rfl,.same _⟩,⟨_,rfl,.same _⟩,⟨_,rfl,.same _⟩,⟨_,rfl,.same _⟩,⟨_,rfl,.same _⟩,⟨_,rfl,.same _⟩,⟨_,rfl,.eq (by simp)⟩,trivial⟩ (fun _ _ h=>h)
      ·have hpn:p=n:=by have:=A1 ht;omega
       rw [hpn] at hsp ⊢
       clear hpn ht hp p
       obtain ⟨ms,hms⟩:∃ms,ms=(s n).1:=⟨_,rfl⟩
       obtain ⟨g,hg⟩:∃g,g=(s n).2:=⟨_,rfl⟩
       refine M9 [(4,.s (.one (.ref 4 0))),(6,B9 n),(7,C3 (List Str) 1 strsC fs),(11,C3 Str 1 M5 names),(13,B9 L),(14,.s (.one (.mut 14))),(15,.s (.one (.mut 15)))] ([(4,.box [.p (.v (.int .i64 0)),.p (.v (.slice none 0 0))]),(14,.arr Int 1 m9 ms)]++((15,.tarr (L+1) 1 (L7 intsC (L+1) 0 g))::J8 intsC g (List.range (L+1)))) ?_ ?_
       ·rw [hms,hg,←H63 (z:=z)]
        exact J72 ⟨⟨_,rfl,.same _⟩,⟨_,rfl,.same _⟩,⟨_,rfl,.same _⟩,⟨_,rfl,.same _⟩,⟨_,rfl,.same _⟩,⟨_,rfl,.same _⟩,⟨_,rfl,.same _⟩,trivial⟩ (fun _ _ h=>h)
       refine G5 (J98 (by omega) rfl rfl (fun r _=>?_) (fun r _=>rfl)) ?_
       ·simp only [I1,SV.free,S1.free,TC.free,K2 (show 4≠r+1000 by omega),K2 (show 14≠r+1000 by omega),K2 (show 15≠r+1000 by omega)];rfl
       obtain ⟨gs,hgs⟩:∃gs,gs=(List.range (L+1)).map g:=⟨_,rfl⟩
       rw [←hgs]
       refine G5 (Sees.freeze (k:=14) Z) ?_
       refine G5 (Sees.freeze (k:=15) Z) ?_
       refine M9 [(4,.s (.one (.ref 4 0))),(6,B9 n),(7,C3 (List Str) 1 strsC fs),(11,C3 Str 1 M5 names),(13,B9 L),(14,C3 Int 1 m9 ms),(15,C3 (List (List Int)) 1 intssC gs)] [(4,.box [.p (.v (.int .i64 0)),.p (.v (.slice none 0 0))])] (J69 ⟨le1 rfl,le1 rfl,le1 rfl,le1 rfl,le1 rfl,le1 rfl,le1 rfl,trivial⟩ ⟨rfl,trivial⟩) ?_
       obtain ⟨f0,hf0'⟩:∃f0,f0=C2 result:=⟨_,rfl⟩
       rw [←hf0'] at hL hf0 hmk
       obtain ⟨R,hR⟩:∃R:Nat→List Row,R=fun k=>V7 names f0 (s n) k:=⟨_,rfl⟩
       obtain ⟨F,hF⟩:∃F:Merged→Row,F=fun m=>⟨true,m.Parents,names.getD m.Line.toNat []⟩:=⟨_,rfl⟩
       have hcs:∀k,(E6 (g k)).1.length≤6400∧∀m∈(E6 (g k)).1,(0≤m.Parents∧m.Parents < 4294967296)∧0≤m.Line∧m.Line < (names.length:Int):=fun k=>by
        have h2:=hsp.gaps k
        have h3:=A03 (fun v=>0≤v∧v < (names.length:Int)) 200 (g k) (by rw [hg];exact h2.2)
        rw [show (g k).length=n by rw [hg];exact h2.1] at h3
        exact ⟨by omega,h3.2⟩
       have hR1:∀k,R (k+1)=R k++((E6 (g k)).1.map F++(if k < f0.length then [⟨false,ms.getD k 0,f0.getD k []⟩] else [])):=fun k=>by
        rw [hR];dsimp only;rw [q9,S3,hF,hg,hms]
       have hRl:∀k,(R k).length≤k*6401:=fun k=>by
        induction k with
        | zero=>rw [hR];simp [V7]
        | succ k ih=>rw [hR1];have:=(hcs k).1;simp only [K06,K30];split<;>simp<;>omega
       have hmsl:ms.length=L:=by rw [hms];exact hsp.len
       refine k6 (k2 (A3 (A4 Z Z (A6 (H1 Z) Z (C1 (I3 23 Z) Z (F8 (B8 TySz.out Z Z Z Z Z Z) (A5 ?_)))))));refine k1 (k2 (k2 (A3 (A7 Z Z (A5 ?_)))));refine k1 (k3 (G5 (J76 88 Row 3 rowC 69 (kb:=23) (o:=1) Z Z Z) ?_))
       refine D6 (X:=Nat) (fun k=>([(4,.s (.one (.ref 4 0))),(6,B9 n),(7,C3 (List Str) 1 strsC fs),(11,C3 Str 1 M5 names),(13,B9 L),(14,C3 Int 1 m9 ms),(15,C3 (List (List Int)) 1 intssC gs),(23,.s (.one (.ref 23 0))),(24,B9 k)],[(4,.box [.p (.v (.int .i64 0)),.p (.v (.slice none 0 0))]),(23,.box [.p (.v (.int .i64 n)),.buf 88 Row 3 rowC (R k)]),(88,.spare (R k).length 3 69)])) (fun k=>k≤L+1∧∀q,q < k→(E6 (g q)).2=0) (fun k=>L+1 - k) 0 ⟨Nat.zero_le _,fun q hq=>by omega⟩ (by rw [show R 0=[] by rw [hR];rfl];exact J69 ⟨le1 rfl,le1 rfl,le1 rfl,le1 rfl,le1 rfl,le1 rfl,le1 rfl,le1 rfl,le1 rfl,trivial⟩ ⟨rfl,rfl,rfl,trivial⟩) ?_
       rintro k ⟨hk,hz0⟩
       dsimp only at hk hz0 ⊢
       have hRk:=hRl k
       refine k2 (k2 (A3 (A4 Z Z (A4 Z Z (A6 (j6 Z Z) Z (A5 ?_))))));refine k1 ?_;refine B3 rfl (fun ht=>?_) (fun ht=>?_)
       ·have hlt:k < L+1:=by have:=A0 ht;omega
        have hgv:gs[k]?=some (g k):=by rw [hgs,K34,K41 hlt];rfl
        have hck:=hcs k
        refine k5 (k1 (k2 (k3 (k2 (A3 (A4 Z Z (A4 Z Z (A6 (B0 Z (.pure _ _ _ _) Z (by omega) hgv) Z (A6 (B1 Z Z) Z (C4 (G87 (g k)) Z Z Z ?_))))))))));rintro _ rfl;refine A4 Z Z (H9 Z Z Z (H9 Z Z Z (A7 Z Z (A7 Z Z (A5 ?_)))))
        obtain ⟨l,hl⟩:∃l,l=(E6 (g k)).1:=⟨_,rfl⟩
        obtain ⟨e,he⟩:∃e,e=(E6 (g k)).2:=⟨_,rfl⟩
        rw [←hl,←he]
        rw [←hl] at hck
        refine k1 (k2 (k2 (A3 (A4 Z Z (A6 (O9 Z Z) Z (A5 ?_))))));refine k1 ?_;refine B3 rfl (fun ht=>?_) (fun ht=>?_)
        ·have hne:=A0 ht
         refine k2 (A3 (A6 (H1 Z) Z (F8 (B8 TySz.out Z Z Z Z Z Z) (A7 Z Z (A5 ?_)))));refine k1 (G5 (J70 Row 3 rowC 4 1 Z Z) ?_)
         refine k10 (k11 (k12 (k11 (k11 (k12 (k11 ?_))))))
         exact B6 (rs:=[pTable ⟨0,[]⟩,H3 1]) (a7 rfl rfl rfl rfl rfl rfl rfl) (by rw [hmk,if_pos];refine ⟨k,by omega,?_⟩;rw [←hnames,←hids,←hL];rw [hg,hs] at he;dsimp only at he;rw [←he];exact hne)
        ·have he0:e=0:=by simpa using A1 ht
         refine k5 (k1 (k2 (k2 (A3 (A7 Z Z (A5 ?_))))));refine k1 (k3 (D6 (X:=Nat) (fun i=>([(4,.s (.one (.ref 4 0))),(6,B9 n),(7,C3 (List Str) 1 strsC fs),(11,C3 Str 1 M5 names),(13,B9 L),(14,C3 Int 1 m9 ms),(15,C3 (List (List Int)) 1 intssC gs),(23,.s (.one (.ref 23 0))),(24,B9 k),(25,C3 Merged 2 mergedC l),(27,B9 i)],[(4,.box [.p (.v (.int .i64 0)),.p (.v (.slice none 0 0))]),(23,.box [.p (.v (.int .i64 n)),.buf 88 Row 3 rowC (R k++(l.take i).map F)]),(88,.spare (R k++(l.take i).map F).length 3 69)])) (fun i=>i≤l.length) (fun i=>l.length - i) 0 (Nat.zero_le _) (by have e0:R k++(l.take 0).map F=R k:=(by simp);dsimp only;rw [e0];exact J69 ⟨le1 rfl,le1 rfl,le1 rfl,le1 rfl,le1 rfl,le1 rfl,le1 rfl,le1 rfl,le1 rfl,le1 rfl,le1 rfl,trivial⟩ ⟨rfl,rfl,rfl,trivial⟩) ?_))
         intro i hi
         dsimp only at hi ⊢
         have hil:(R k++(l.take i).map F).length≤k*6401+6400:=by simp only [K06,K30,K19];omega
         refine k2 (k2 (A3 (A4 Z Z (A4 Z Z (E7 Z Z (E4 Z Z Z (A5 ?_)))))));refine k1 ?_;refine B3 rfl (fun ht=>?_) (fun ht=>?_)
         ·have hli:i < l.length:=by have:=A0 ht;omega
          have hlv:l[i]?=some l[i]:=by simp [hli]
          have hlb:=hck.2 l[i] (K17 hli)
          have hnv:names[l[i].Line.toNat]?=some (names.getD l[i].Line.toNat []):=by rw [K09,K07 (by omega)];rfl
          have hFi:F l[i]=⟨true,l[i].Parents,names.getD l[i].Line.toNat []⟩:=by rw [hF]
          refine k5 (k1 (k2 (k3 (C9 (by kernel_rfl) (by kernel_rfl) (A9 (A8 Z) Z Z (A9 (B5 Z Z Z) Z Z (C8 Z Z (C8 Z Z (A9 (B0 Z (.pure _ _ _ _) Z (by omega) hlv) Z Z (A9 (D4 Z) Z Z (A9 (B1 Z Z) Z Z (C8 Z Z (C8 Z Z (C8 Z Z (A9 (B0 Z (.pure _ _ _ _) Z (by omega) hlv) Z Z (A9 (D4 Z) Z Z (A9 (B1 Z Z) Z Z (A9 (B0 Z (.pure _ _ _ _) Z (by omega) hnv) Z Z (A9 (B1 Z Z) Z Z (A9 (H1 Z) Z Z (A9 (D5 (c:=rowC) (ys:=[⟨true,l[i].Parents,names.getD l[i].Line.toNat []⟩]) (E0 Z Z Z Z F3) Z Z Z) Z Z (B09 (G4 Z Z Z (.pure _ _ _ _) (by (simp only [K08,K11];omega)) Z) Z Z (A9 (A8 Z) Z Z ?_)))))))))))))))))))))));refine s7 (B8 TySz.out Z Z Z Z Z Z) Z (L6 ?_);refine k4 (k1 (A3 (A4 Z Z (C6 Z Z Z (A7 Z Z (A5 ?_))))));refine k1 ?_;refine ⟨i+1,by omega,by omega,?_⟩
          have e1:R k++(l.take (i+1)).map F=R k++(l.take i).map F++[⟨true,l[i].Parents,names.getD l[i].Line.toNat []⟩]:=by rw [K16 hli,K20,K14,K38,←K18,hFi]
          rw [e1]
          exact J69 ⟨le1 rfl,le1 rfl,le1 rfl,le1 rfl,le1 rfl,le1 rfl,le1 rfl,le1 rfl,le1 rfl,le1 rfl,le1 rfl,trivial⟩ ⟨rfl,rfl,rfl,trivial⟩
         ·have hli:i=l.length:=by have:=A1 ht;omega
          rw [hli,K28] at hil ⊢
          refine k6 (k2 (A3 (A4 Z Z (A4 Z Z (E4 Z Z Z (A5 ?_))))));refine k1 ?_;refine B3 rfl (fun ht=>?_) (fun ht=>?_)
          ·have hkL:k < f0.length:=by have:=A0 ht;omega
           have hmv:ms[k]?=some (ms.getD k 0):=by rw [K09,K07 (by omega)];rfl
           have hfv:f0[k]?=some (f0.getD k []):=by rw [K09,K07 (by omega)];rfl
           have hR2:=hR1 k
           rw [if_pos hkL,←hl,←K18] at hR2
           skip
           refine C9 (by kernel_rfl) (by kernel_rfl) (A9 (A8 Z) Z Z (A9 (B5 Z Z Z) Z Z (C8 Z Z (C8 Z Z (A9 (B0 Z (.pure _ _ _ _) Z (by omega) hmv) Z Z (A9 (B1 Z Z) Z Z (C8 Z Z (A9 (B0 Z (.pure _ _ _ _) Z (by omega) hf0) Z Z (A9 (B1 Z Z) Z Z (C8 Z Z (A9 (B0 Z (.pure _ _ _ _) Z (by omega) hfv) Z Z (A9 (B1 Z Z) Z Z (A9 (H1 Z) Z Z (A9 (D5 (c:=rowC) (ys:=[⟨false,ms.getD k 0,f0.getD k []⟩]) (E0 Z Z Z Z F3) Z Z Z) Z Z (B09 (G4 Z Z Z (.pure _ _ _ _) (by (simp only [K08,K11];omega)) Z) Z Z (A9 (A8 Z) Z Z (s7 (B8 TySz.out Z Z Z Z Z Z) Z (L6 ?_))))))))))))))))));refine k4 (k1 (A3 (A4 Z Z (C6 Z Z Z (A7 Z Z (A5 ?_))))));refine k1 ?_;refine ⟨k+1,⟨by omega,fun q hq=>?_⟩,by omega,?_⟩
           ·by_cases h2:q=k
            ·rw [h2,←he,he0]
            ·exact hz0 q (by omega)
           rw [hR2]
           exact J69 ⟨le1 rfl,le1 rfl,le1 rfl,le1 rfl,le1 rfl,le1 rfl,le1 rfl,le1 rfl,le1 rfl,trivial⟩ ⟨rfl,rfl,rfl,trivial⟩
          ·have hkL:¬k < f0.length:=by have:=A1 ht;omega
           have hR2:=hR1 k
           rw [if_neg hkL,←hl,K29] at hR2
           refine k5 (k4 (k1 (A3 (A4 Z Z (C6 Z Z Z (A7 Z Z (A5 ?_)))))));refine k1 ?_;refine ⟨k+1,⟨by omega,fun q hq=>?_⟩,by omega,?_⟩
           ·by_cases h2:q=k
            ·rw [h2,←he,he0]
            ·exact hz0 q (by omega)
           rw [hR2]
           exact J69 ⟨le1 rfl,le1 rfl,le1 rfl,le1 rfl,le1 rfl,le1 rfl,le1 rfl,le1 rfl,le1 rfl,trivial⟩ ⟨rfl,rfl,rfl,trivial⟩
       ·have hkL:k=L+1:=by have:=A1 ht;omega
        refine k6 (k2 (A3 (A6 (C5 Z Z Z) Z (F8 (B8 TySz.out Z Z Z Z Z Z) (A7 Z Z (A5 ?_))))));refine k1 (k10 (B6 (rs:=[pTable ⟨n,R k⟩,H3 0]) (a7 Z Z Z Z Z Z Z) ?_))
        have hno:¬∃q,q < f0.length+1∧(E6 ((O8 (fs.map (L2 (E5 fs))) f0.length n n).2 q)).2≠0:=by
         rintro ⟨q,hq1,hq2⟩
         refine hq2 ?_
         have:=hz0 q (by omega)
         rw [hg,hs,hids,hnames,hL] at this
         exact this
        rw [hmk,if_neg hno,hkL,hR,hs,hids,hnames,hL]
theorem E58 {rows:List Row} (h:I8 rows) (i:Nat):I8 (rows.take i):=fun r hr=>h r (List.mem_of_mem_take hr)
theorem E11 {n:Nat} {rows:List Row} {sp:List Span} {hs:List CHunk} (hn:n≤32) (hr:I8 rows) (hW:(rows.map N1).sum≤8388608) (h:V5 n rows 0 [] sp=some hs):szC hs≤268435456∧∀x∈hs,I8 x.Rows:=by
 have h1:=E15 N1 2081 n rows sp 0 [] hs (Int.le_refl _) h (by simp) (by simp)
 have h2:=E96 hr sp 0 [] hs h (fun x hx=>by cases hx)
 have hl:=U2 rows
 refine ⟨?_,fun x hx=>(h2 x hx).2⟩
 have h3:szC hs=(hs.map fun h=>(2048+h.At.length)+(h.Rows.map N1).sum).sum:=rfl
 have h4:szC hs≤(hs.map fun h=>2081+(h.Rows.map N1).sum).sum:=by
  rw [h3]
  clear h h1 h3
  induction hs with
  | nil=>simp
  | cons x r ih =>
   have h5:=(h2 x (by simp)).1
   have h6:=ih fun y hy=>h2 y (by simp [hy])
   rw [K14,K35,K14,K35]
   omega
 have h5:=h1.2
 simp only [K11] at h5
 have h6:=h1.1
 omega
theorem J43 {path:Str} {t:Table} {sp:List Span} {d:Bool} (hr:I8 t.Rows) (hW:(t.Rows.map N1).sum≤8388608):szC (U8 path t sp d).1.Hunks≤268435456∧∀x∈(U8 path t sp d).1.Hunks,I8 x.Rows:=by
 have h0:szC comb0.Hunks≤268435456∧∀x∈comb0.Hunks,I8 x.Rows:=⟨by decide,fun x hx=>by cases hx⟩
 unfold U8
 split
 ·exact h0
 ·split
  ·exact h0
  ·rename_i hc
   cases hg:V5 t.Parents.toNat t.Rows 0 [] sp with
   | none=>exact h0
   | some hs =>
    dsimp only
    split
    ·exact h0
    ·refine E11 ?_ hr hW hg
     unfold L4 at hc
     split at hc
     ·exact absurd hc (by decide)
     ·omega
theorem B87 {t:Table} (h:L4 t=0):1≤t.Parents∧t.Parents≤32:=by
 unfold L4 at h
 split at h
 ·cases h
 ·omega
theorem D67 (rows:List Row) (n p:Nat):(List.range (p+1)).map (M2 rows n)=(List.range p).map (M2 rows n)++[M2 rows n p]:=by rw [K44,K20];rfl
set_option maxHeartbeats 1000000
theorem rcut_ok (path:Str) (t:Table) (sp:List Span) (d:Bool) (hr:I8 t.Rows) (hW:(t.Rows.map N1).sum≤8388608) (hx:P3 t.Rows≤8388608) (hsp:sp.length≤536870912) :
  FnOk Tryz.prog 84 [N2 path,pTable t,pSpans sp,M3 d] (fun rs=>rs=[O3 (U8 path t sp d).1,H3 (U8 path t sp d).2]):=by
 have hl:=U2 t.Rows
 have hll:t.Rows.length≤8388608:=by omega
 refine FnOk.intro Tryz.func84 (by decide) Z Z Z Z ?_
 refine k2 (A3 (C1 (R4 5 Z Z Z) Z (C1 (I3 8 Z) Z (A7 Z Z (A5 ?_)))));refine k1 (k2 (k2 (A3 (A4 Z Z (C4 (B84 path) Z Z Z ?_)))));rintro _ rfl;refine O6 Z Z (A5 ?_);refine k1 ?_;refine B3 rfl (fun ht=>?_) (fun ht=>?_)
 ·have h:Q0 path=false:=by simpa using ht
  refine k2 (A3 (A6 (H1 Z) Z (F8 (B8 TySz.out Z Z Z Z Z Z) (A7 Z Z (A5 ?_)))));refine k1 (G5 (J70 CHunk 2 H5 8 3 Z Z) ?_)
  refine k10 (k11 ?_)
  exact B6 (rs:=[O3 comb0,H3 120]) (a7 rfl rfl rfl rfl rfl rfl rfl) (by unfold U8;rw [if_pos h])
 have h:Q0 path=true:=by simpa using ht
 refine k5 (k1 (k2 (k2 (A3 (A6 (C5 Z Z Z) Z (C4 (C56 t hr (by omega) (by omega)) Z Z Z ?_))))));rintro _ rfl;refine A7 Z Z (A5 ?_);refine k1 (k2 (A3 (A4 Z Z (A6 (O9 Z Z) Z (A5 ?_)))));refine k1 ?_;refine B3 rfl (fun ht=>?_) (fun ht=>?_)
 ·have h1:=A0 ht
  refine k2 (A3 (A6 (H1 Z) Z (A4 Z Z (F8 (B8 TySz.out Z Z Z Z Z Z) (A7 Z Z (A5 ?_))))));refine k1 (G5 (J70 CHunk 2 H5 8 3 Z Z) ?_)
  refine k10 (k11 ?_)
  exact B6 (rs:=[O3 comb0,H3 (L4 t)]) (a7 rfl rfl rfl rfl rfl rfl rfl) (by unfold U8;rw [if_neg (by rw [h];decide),if_pos h1])
 have h1:=A1 ht
 have h10:L4 t=0:=by omega
 obtain ⟨hn1,hn2⟩:=B87 h10
 obtain ⟨n,hn⟩:∃n:Nat,t.Parents=n:=⟨t.Parents.toNat,by omega⟩
 obtain ⟨tp,rows⟩:=t
 have hn:tp=(n:Int):=hn
 subst hn
 dsimp only at hr hW hx hl hll hn1 hn2
 have hcut:U8 path ⟨n,rows⟩ sp d=match V5 n rows 0 [] sp with
  | none=>(comb0,3)
  | some hs=>if G8 ⟨path,d,(n:Int),hs⟩≠0 then (comb0,G8 ⟨path,d,(n:Int),hs⟩) else (⟨path,d,(n:Int),hs⟩,0):=by
  unfold U8;rw [if_neg (by rw [h];decide),if_neg (by omega)];rfl
 rw [hcut]
 have hno:V5 n rows 0 [] sp=none→[O3 comb0,H3 3]=[O3 (match V5 n rows 0 [] sp with
  | none=>(comb0,3)
  | some hs=>if G8 ⟨path,d,(n:Int),hs⟩≠0 then (comb0,G8 ⟨path,d,(n:Int),hs⟩) else (⟨path,d,(n:Int),hs⟩,0)).1,H3 (match V5 n rows 0 [] sp with
  | none=>(comb0,3)
  | some hs=>if G8 ⟨path,d,(n:Int),hs⟩≠0 then (comb0,G8 ⟨path,d,(n:Int),hs⟩) else (⟨path,d,(n:Int),hs⟩,0)).2]:=fun e=>by rw [e]
 obtain ⟨W,hWd⟩:∃W,W=V5 n rows 0 [] sp:=⟨_,rfl⟩
 have hcs:∀hs,W=some hs→szC hs≤268435456∧∀x∈hs,I8 x.Rows:=fun hs e=>E11 (n:=n) (by omega) hr hW (by rw [←hWd];exact e)
 rw [←hWd] at hno ⊢
 refine k5 (k1 (k2 (A3 (A4 Z Z (A4 Z Z (A6 (A8 Z) Z (E1 Z Z Z Z (A6 (H1 Z) Z (C1 (I3 11 Z) Z (F8 (B8 TySz.out Z Z Z Z Z Z) (A5 ?_)))))))))));refine G5 (J76 754 CHunk 2 H5 59 (kb:=11) (o:=3) Z Z Z) ?_
 refine k2 (A3 (A7 Z Z (A5 ?_)));refine k1 (k2 (k2 (A3 (A7 Z Z (A5 ?_)))));refine k1 (k3 (D6 (X:=Nat × Int × List CHunk) (fun x=>([(2,C3 Span 2 spanC sp),(5,.s (.one (.ref 5 0))),(8,.s (.one (.ref 8 0))),(11,.s (.one (.ref 11 0))),(12,B9 x.2.1),(13,B9 x.1)],[(5,.box (pTable ⟨n,rows⟩).s1.cells),(8,.box [.p (.v (.string ⟨#[]⟩)),.p (.v (.bool false)),.p (.v (.int .i64 0)),.p (.v (.slice none 0 0))]),(11,.box [.p (.v (.string ⟨path.toArray⟩)),.p (.v (.bool d)),.p (.v (.int .i64 n)),.buf 754 CHunk 2 H5 x.2.2]),(754,.spare x.2.2.length 2 59)])) (fun x=>x.1≤sp.length∧0≤x.2.1∧x.2.2.length≤x.1∧W=V5 n rows x.2.1 x.2.2 (sp.drop x.1)) (fun x=>sp.length - x.1) (0,0,[]) ⟨Nat.zero_le _,Int.le_refl _,Nat.le_refl _,hWd⟩ (J69 ⟨le1 rfl,le1 rfl,le1 rfl,le1 rfl,le1 rfl,le1 rfl,trivial⟩ ⟨rfl,rfl,rfl,rfl,trivial⟩) ?_))
 rintro ⟨k,e,hs⟩ ⟨hk,he,hsl,hp⟩
 dsimp only at hk he hsl hp ⊢
 refine k2 (k2 (A3 (A4 Z Z (A4 Z Z (E7 Z Z (E4 Z Z Z (A5 ?_)))))));refine k1 ?_;refine B3 rfl (fun ht=>?_) (fun ht=>?_)
 rotate_left
 ·have hkl:k=sp.length:=by have:=A1 ht;omega
  rw [hkl,K15 (Nat.le_refl _)] at hp
  have hp:W=some hs:=hp
  obtain ⟨z1,z2⟩:=hcs hs hp
  rw [hp]
  dsimp only
  refine k6 (k2 (k2 (A3 (A6 (C5 Z Z Z) Z (C4 (q8 ⟨path,d,n,hs⟩ z1 z2) Z Z Z ?_)))));rintro _ rfl;refine A7 Z Z (A5 ?_);refine k1 (k2 (A3 (A4 Z Z (A6 (O9 Z Z) Z (A5 ?_)))));refine k1 ?_;refine B3 rfl (fun ht=>?_) (fun ht=>?_)
  ·have h2:=A0 ht
   refine k2 (A3 (A6 (H1 Z) Z (A4 Z Z (F8 (B8 TySz.out Z Z Z Z Z Z) (A7 Z Z (A5 ?_))))));refine k1 (G5 (J70 CHunk 2 H5 8 3 Z Z) ?_)
   refine k10 (k11 ?_)
   exact B6 (rs:=[O3 comb0,H3 (G8 ⟨path,d,n,hs⟩)]) (a7 rfl rfl rfl rfl rfl rfl rfl) (by rw [if_pos h2])
  ·have h2:=A1 ht
   refine k5 (k1 (k2 (A3 (A6 (C5 Z Z Z) Z (F8 (B8 TySz.out Z Z Z Z Z Z) (A7 Z Z (A5 ?_)))))));refine k1 (k10 ?_)
   exact B6 (rs:=[O3 ⟨path,d,n,hs⟩,H3 0]) (a7 rfl rfl rfl rfl rfl rfl rfl) (by rw [if_neg h2])
 have hlt:k < sp.length:=by have:=A0 ht;omega
 have hv:sp[k]?=some sp[k]:=by simp [hlt]
 rw [K13 hlt,V5] at hp
 obtain ⟨s,hsd⟩:∃s,s=sp[k]:=⟨_,rfl⟩
 rw [←hsd] at hp hv
 refine k5 (k1 (k2 (k3 (k2 (k2 (C9 (by kernel_rfl) (by kernel_rfl) (C8 Z Z (C8 Z Z (A9 (B0 Z (.pure _ _ _ _) Z (by omega) hv) Z Z (A9 (D4 Z) Z Z (A9 (B1 Z Z) Z Z (C8 Z Z (A9 (A05 Z Z) Z Z (C8 Z Z (C0 Z Z (fun hg=>by rw [hg];exact B7 Z Z) Z Z ?_)))))))))))))));refine C0 Z Z (fun hg=>by rw [hg];exact B7 Z Z) Z Z ?_;refine C0 Z Z (fun hg=>by have hq:=hg;(try simp at hq);rw [hg];exact B0 Z (.pure _ _ _ _) Z (by omega) hv) Z Z ?_;refine C0 Z Z (fun hg=>by rw [hg];exact D4 Z) Z Z ?_;refine C0 Z Z (fun hg=>by rw [hg];exact B1 Z Z) Z Z ?_;refine C0 Z Z (fun hg=>by rw [hg];exact B7 Z Z) Z Z ?_;refine C0 Z Z (fun hg=>by rw [hg];exact B7 Z Z) Z Z ?_;refine C0 Z Z (fun hg=>by have hq:=hg;(try simp at hq);rw [hg];exact B0 Z (.pure _ _ _ _) Z (by omega) hv) Z Z ?_;refine C0 Z Z (fun hg=>by rw [hg];exact D4 Z) Z Z ?_;refine C0 Z Z (fun hg=>by rw [hg];exact B1 Z Z) Z Z ?_;refine C0 Z Z (fun hg=>by rw [hg];exact j6 Z Z) Z Z ?_;refine A9 (F6 Z (fun h=>by first | rfl | (rw [h];rfl)) (fun h=>by first | rfl | (rw [h];rfl))) Z Z ?_;refine C8 Z Z (C0 Z Z (fun hg=>by rw [hg];exact B7 Z Z) Z Z ?_);refine C0 Z Z (fun hg=>by rw [hg];exact B7 Z Z) Z Z ?_;refine C0 Z Z (fun hg=>by have hq:=hg;(try simp at hq);rw [hg];exact B0 Z (.pure _ _ _ _) Z (by omega) hv) Z Z ?_;refine C0 Z Z (fun hg=>by rw [hg];exact D4 Z) Z Z ?_;refine C0 Z Z (fun hg=>by rw [hg];exact B1 Z Z) Z Z ?_;refine C0 Z Z (fun hg=>by rw [hg];exact A8 Z) Z Z ?_;refine C0 Z Z (fun hg=>by rw [hg];exact B5 Z Z Z) Z Z ?_;refine C0 Z Z (fun hg=>by rw [hg];exact V3 Z (.pure _ _ _ _)) Z Z ?_;refine C0 Z Z (fun hg=>by rw [hg];exact N5 Z Z) Z Z ?_;refine A9 (F6 Z (fun h=>by first | rfl | (rw [h];rfl)) (fun h=>by first | rfl | (rw [h];rfl))) Z Z ?_;refine L6 ?_;refine k1 ?_;refine B3 rfl (fun ht=>?_) (fun ht=>?_)
 ·have hc:s.From < e∨s.To≤s.From∨(rows.length:Int) < s.To:=by
   by_cases q1:s.From < e
   ·exact .inl q1
   ·by_cases q2:s.To≤s.From
    ·exact .inr (.inl q2)
    ·simp [q1,q2] at ht
     exact .inr (.inr ht)
  rw [if_pos hc] at hp
  refine k2 (A3 (A6 (H1 Z) Z (F8 (B8 TySz.out Z Z Z Z Z Z) (A7 Z Z (A5 ?_)))));refine k1 (G5 (J70 CHunk 2 H5 8 3 Z Z) ?_)
  refine k10 (k11 (k12 (k11 (k11 (k12 (k11 ?_))))))
  exact B6 (rs:=[O3 comb0,H3 3]) (a7 rfl rfl rfl rfl rfl rfl rfl) (hno hp)
 have hc:¬(s.From < e∨s.To≤s.From∨(rows.length:Int) < s.To):=by
  rintro (q | q | q)
  ·simp [q] at ht
  ·simp [q] at ht
  ·simp [q] at ht
 rw [if_neg hc] at hp
 simp only [not_or,Int.not_lt,Int.not_le] at hc
 obtain ⟨c1,c2,c3⟩:=hc
 obtain ⟨F,hF⟩:∃F:Nat,s.From=F:=⟨s.From.toNat,by omega⟩
 obtain ⟨T,hT⟩:∃T:Nat,s.To=T:=⟨s.To.toNat,by omega⟩
 obtain ⟨sF,sT⟩:=s
 have hF:sF=(F:Int):=hF
 have hT:sT=(T:Int):=hT
 subst hF hT
 dsimp only at c1 c2 c3 hp
 rw [K12,K12] at hp
 have hsub:((rows.drop F).take (T - F)).length=T - F:=by rw [K19,K23];omega
 have hFl:(F:Int)≤rows.length:=by omega
 refine k5 (k1 (k2 (M9 [(2,C3 Span 2 spanC sp),(5,.s (.one (.ref 5 0))),(8,.s (.one (.ref 8 0))),(11,.s (.one (.ref 11 0))),(13,B9 k)] [(5,.box (pTable ⟨n,rows⟩).s1.cells),(8,.box [.p (.v (.string ⟨#[]⟩)),.p (.v (.bool false)),.p (.v (.int .i64 0)),.p (.v (.slice none 0 0))]),(11,.box [.p (.v (.string ⟨path.toArray⟩)),.p (.v (.bool d)),.p (.v (.int .i64 n)),.buf 754 CHunk 2 H5 hs]),(754,.spare hs.length 2 59)] (J69 ⟨le1 rfl,le1 rfl,le1 rfl,le1 rfl,le1 rfl,trivial⟩ ⟨rfl,rfl,rfl,rfl,trivial⟩) ?_)))
 refine T7 [17,16,14] [[],[14],[16],[16,14],[17,16,14]] [(14,([],[])),(16,([14],[])),(17,([],[]))] [(0,[]),(1,[]),(2,[]),(3,[]),(4,[]),(5,[]),(6,[]),(7,[]),(8,[]),(9,[]),(10,[]),(11,[]),(12,[]),(13,[]),(14,[]),(15,[14]),(16,[]),(16,[14]),(17,[16,14])] [(0,[16]),(1,[16]),(2,[16]),(3,[16]),(4,[16]),(5,[16]),(6,[16]),(7,[16]),(8,[16]),(9,[16]),(10,[16]),(11,[16]),(12,[16]),(13,[16]),(14,[16]),(15,[16,14])] (by kernel_rfl) (by kernel_rfl) (E2 Z Z (by kernel_rfl) Z Z (A12 (c:=rowC) (ys:=[]) F3 Z Z Z) (E2 Z Z (by kernel_rfl) Z Z (A8 Z) (E2 Z Z (by kernel_rfl) Z Z (B5 Z Z Z) (E2 Z Z (by kernel_rfl) Z Z (B7 Z Z) (E2 Z Z (by kernel_rfl) Z Z (B7 Z Z) (E2 Z Z (by kernel_rfl) Z Z (B0 Z (.pure _ _ _ _) Z (by omega) hv) (E2 Z Z (by kernel_rfl) Z Z (D4 Z) (E2 Z Z (by kernel_rfl) Z Z (B1 Z Z) (E2 Z Z (by kernel_rfl) Z Z (B7 Z Z) (E2 Z Z (by kernel_rfl) Z Z (B7 Z Z) (E2 Z Z (by kernel_rfl) Z Z (B0 Z (.pure _ _ _ _) Z (by omega) hv) (E2 Z Z (by kernel_rfl) Z Z (D4 Z) (E2 Z Z (by kernel_rfl) Z Z (B1 Z Z) (E2 Z Z (by kernel_rfl) Z Z (S0 Z (.pure _ _ _ _) Z Z (by (first | omega | (dsimp only;omega))) (by (first | omega | (dsimp only;omega))) (by (first | omega | (dsimp only;omega)))) (X7 Z Z (by kernel_rfl) Z Z (r_neu (fun frc hU=>A00 (W8 hU Z) (W8 hU Z) (.pure _ _ _ _) (by (rw [K12,K12,hsub];simp;omega)) (by rw [K12,K12,hsub];omega))) Z ?_)))))))))))))));refine E2 Z Z (by kernel_rfl) Z Z (H1 Z) (X7 Z Z (by kernel_rfl) Z Z (C89 Z) Z (G19 Z Z (by kernel_rfl) Z Z (C89 Z) Z (X7 Z Z (by kernel_rfl) Z Z (D60 (fun frc hU=>B8 TySz.out (W8 hU Z) Z (W8 hU Z) Z Z Z)) Z ?_)));refine D59 (by kernel_rfl) rfl ?_ ?_
 ·refine G1 Z Z (by kernel_rfl) Z Z (A12 (c:=rowC) (ys:=[]) F3 Z Z Z) (G1 Z Z (by kernel_rfl) Z Z (A8 Z) (G1 Z Z (by kernel_rfl) Z Z (B5 Z Z Z) (G1 Z Z (by kernel_rfl) Z Z (B7 Z Z) (G1 Z Z (by kernel_rfl) Z Z (B7 Z Z) (G1 Z Z (by kernel_rfl) Z Z (B0 Z (.pure _ _ _ _) Z (by omega) hv) (G1 Z Z (by kernel_rfl) Z Z (D4 Z) (G1 Z Z (by kernel_rfl) Z Z (B1 Z Z) (G1 Z Z (by kernel_rfl) Z Z (B7 Z Z) (G1 Z Z (by kernel_rfl) Z Z (B7 Z Z) (G1 Z Z (by kernel_rfl) Z Z (B0 Z (.pure _ _ _ _) Z (by omega) hv) (G1 Z Z (by kernel_rfl) Z Z (D4 Z) (G1 Z Z (by kernel_rfl) Z Z (B1 Z Z) (G1 Z Z (by kernel_rfl) Z Z (S0 Z (.pure _ _ _ _) Z Z (by (first | omega | (dsimp only;omega))) (by (first | omega | (dsimp only;omega))) (by (first | omega | (dsimp only;omega)))) ?_)))))))))))));refine x_eff rfl rfl (by kernel_rfl) rfl rfl (r_neu (fun frc hU=>A00 (W8 hU rfl) (W8 hU rfl) (.pure _ _ _ _) (by (rw [K12,K12,hsub];simp;omega)) (by rw [K12,K12,hsub];omega))) rfl (E39 (by repeat (first | exact trivial | refine ⟨.inr rfl,?_⟩ | refine ⟨.inl rfl,?_⟩))) ?_;refine G1 Z Z (by kernel_rfl) Z Z (H1 Z) ?_;exact C88
 rw [K12,K12,K39]
 refine G5 (J76 755 Int 1 F7 3 (kb:=14) (o:=0) Z Z Z) ?_
 refine k2 (k2 (A3 (A7 Z Z (A5 ?_))));refine k1 (k3 ?_)
 obtain ⟨R,hR⟩:∃R,R=(rows.drop F).take (T - F):=⟨_,rfl⟩
 rw [←hR] at hp hsub ⊢
 refine D6 (X:=Nat) (fun p=>([(2,C3 Span 2 spanC sp),(5,.s (.one (.ref 5 0))),(8,.s (.one (.ref 8 0))),(11,.s (.one (.ref 11 0))),(13,B9 k),(14,.s (.one (.ref 14 0))),(15,B9 p)],[(5,.box (pTable ⟨n,rows⟩).s1.cells),(8,.box [.p (.v (.string ⟨#[]⟩)),.p (.v (.bool false)),.p (.v (.int .i64 0)),.p (.v (.slice none 0 0))]),(11,.box [.p (.v (.string ⟨path.toArray⟩)),.p (.v (.bool d)),.p (.v (.int .i64 n)),.buf 754 CHunk 2 H5 hs]),(754,.spare hs.length 2 59),(14,.box [.buf 755 Int 1 F7 ((List.range p).map (M2 (rows.take F) n)),.p (.list Row 3 rowC R)]),(755,.spare ((List.range p).map (M2 (rows.take F) n)).length 1 3)])) (fun p=>p≤n+1) (fun p=>n+1 - p) 0 (Nat.zero_le _) (J69 ⟨le1 rfl,le1 rfl,le1 rfl,le1 rfl,le1 rfl,le1 rfl,le1 rfl,trivial⟩ ⟨rfl,rfl,rfl,rfl,rfl,rfl,trivial⟩) ?_
 intro p hpn
 dsimp only at hpn ⊢
 have hml:((List.range p).map (M2 (rows.take F) n)).length=p:=by simp
 refine k2 (k2 (A3 (A4 Z Z (A6 (A8 Z) Z (E1 Z Z Z Z (A6 (j6 Z Z) Z (A5 ?_)))))));refine k1 ?_;refine B3 rfl (fun ht=>?_) (fun ht=>?_)
 ·have hle:p≤n:=by have:=A0 ht;omega
  have hst:=D67 (rows.take F) n p
  have htl:(rows.take F).length=F:=by rw [K19];omega
  have hcm:=B22 p n
  have hcol:=A13 (rows.take F) (T5 n p) (E58 hr F) (by omega)
  refine k5 (k1 (k2 (k3 (C9 (by kernel_rfl) (by kernel_rfl) (A9 (A8 Z) Z Z (A9 (B5 Z Z Z) Z Z (A9 (A8 Z) Z Z (A9 (B5 Z Z Z) Z Z (C8 Z Z (C8 Z Z (A9 (B0 Z (.pure _ _ _ _) Z (by omega) hv) Z Z (A9 (D4 Z) Z Z (A9 (B1 Z Z) Z Z (A9 (C12 Z (.pure _ _ _ _) Z (by (first | omega | (dsimp only;omega))) (by (first | omega | (dsimp only;omega)))) Z Z (C8 Z Z (A9 (A8 Z) Z Z (A9 (B5 Z Z Z) Z Z (A9 (H2 (hcm) Z Z) Z Z (A9 (H2 (hcol) Z Z) Z Z (A9 (V3 Z (.pure _ _ _ _)) Z Z (A9 (D5 (c:=F7) (ys:=[M2 (rows.take F) n p]) (E0 Z Z Z Z F3) Z Z Z) Z Z (B09 (G4 Z Z Z (.pure _ _ _ _) (by (rw [hml];simp only [K08,K11];omega)) Z) Z Z ?_))))))))))))))))))))));refine A9 (A8 Z) Z Z (s7 (B8 TySz.out Z Z Z Z Z Z) Z (L6 ?_));refine k4 (k1 (A3 (A4 Z Z (C6 Z Z Z (A7 Z Z (A5 ?_))))));refine k1 ?_;refine ⟨p+1,by omega,by omega,?_⟩
  rw [hst]
  exact J69 ⟨le1 rfl,le1 rfl,le1 rfl,le1 rfl,le1 rfl,le1 rfl,le1 rfl,trivial⟩ ⟨rfl,rfl,rfl,rfl,rfl,rfl,trivial⟩
 have hpl:p=n+1:=by have:=A1 ht;omega
 rw [hpl]
 refine k6 (k2 (A3 (A6 (A8 Z) Z (E1 Z Z Z Z (A6 (C5 Z Z Z) Z (A6 (D5 (c:=H5) (ys:=[⟨G9 (rows.take F) n,R⟩]) (E0 Z Z Z Z F3) Z Z Z) Z (C1 (G4 Z Z Z (.pure _ _ _ _) (by (simp only [K08,K11];omega)) Z) Z (A6 (A8 Z) Z (F8 (B8 TySz.out Z Z Z Z Z Z) (A5 ?_))))))))));refine k1 (A3 (A4 Z Z (A4 Z Z (A6 (B0 Z (.pure _ _ _ _) Z (by omega) hv) Z (A6 (D4 Z) Z (A6 (B1 Z Z) Z (A7 Z Z (A5 ?_))))))));refine k4 (k1 (A3 (A4 Z Z (C6 Z Z Z (A7 Z Z (A5 ?_))))));refine k1 ?_
 exact ⟨(k+1,(T:Int),hs++[⟨G9 (rows.take F) n,R⟩]),⟨by dsimp only;omega,by dsimp only;omega,by dsimp only;rw [K06];simp;omega,hp⟩,by dsimp only;omega,J69 ⟨le1 rfl,le1 rfl,le1 rfl,le1 rfl,le1 rfl,le1 rfl,trivial⟩ ⟨rfl,rfl,rfl,rfl,trivial⟩⟩
end Go.Proofs.YtbiadkkamhpdnaaGreatDoor
namespace Go.Proofs.YtbiadkkamhpdnaaGreatDoor
open Go Go.AL
set_option maxRecDepth 100000
end Go.Proofs.YtbiadkkamhpdnaaGreatDoor
namespace Go.Proofs.YtbiadkkamhpdnaaGreatDoor
open Go Go.AL
end Go.Proofs.YtbiadkkamhpdnaaGreatDoor
namespace Go.Proofs.YtbiadkkamhpdnaaGreatDoor
open Go Go.AL
set_option maxRecDepth 100000
set_option maxHeartbeats 4000000
set_option maxHeartbeats 1000000
end Go.Proofs.YtbiadkkamhpdnaaGreatDoor
