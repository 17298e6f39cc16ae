/- Walks of the program's functions. -/
import Derived.Test.YtgejaedjnbjpoaaGreatDoorTy
import Derived.Test.YtgejaedjnbjpoaaGreatDoorFs
import Derived.Test.YtgejaedjnbjpoaaGreatDoorSh
namespace Go.Proofs.YtgejaedjnbjpoaaGreatDoor
open Go Go.AL
set_option maxRecDepth 100000
theorem I06 (p:Int):0≤IntKind.u64.wrap p:=by simp [IntKind.wrap,IntKind.signed,IntKind.bits];omega
theorem J97 (b:Str) (hb:b.length≤536870912):FnOk Tryz.prog 61 [G7 b] (fun rs=>rs=[m6 (C3 b)]):=by
 refine FnOk.intro Tryz.func61 (by decide) Z Z Z Z ?_
 refine k2 ?_
 refine A4 (A3 (A6 Z Z) Z (A7 ?_))
 refine k1 (k2 ?_)
 refine A4 (C7 (B85 3 _ M1 Z) Z (A7 ?_))
 refine k1 (k2 ?_)
 refine A4 (A3 (A6 Z Z) Z (A7 ?_))
 refine k1 (k2 (k2 ?_))
 refine A4 (A3 (A6 Z Z) Z (A7 ?_))
 refine k1 (k3 ?_)
 refine E1 (X:=Nat × Nat × List Str) (fun x=>([(0,J3 b),(3,.s (.one (.buf 3 Str 1 M1 x.2.2))),(4,C0 x.2.1),(5,C0 x.1)],[(3,.spare x.2.2.length 1 9)]))
  (fun x=>x.1≤b.length∧x.2.1≤x.1∧x.2.2.length≤x.1∧(x.1=b.length→x.2.1=x.1)∧x.2.2++F7 ((b.drop x.2.1).take (x.1 - x.2.1)) (b.drop x.1)=C3 b) (fun x=>b.length - x.1) (0,0,[]) (by simp [C3]) ?_ ?_
 ·exact K60 ⟨⟨_,rfl,.same _⟩,⟨_,rfl,.same _⟩,⟨_,rfl,.same _⟩,⟨_,rfl,.same _⟩,trivial⟩ ⟨rfl,trivial⟩
 ·rintro ⟨i,from',out⟩ ⟨hi,hf,ho,he,hp⟩
  dsimp only at hi hf ho he hp ⊢
  refine k2 (k2 ?_)
  refine A4 (A3 (A5 Z Z) Z (A3 (A5 Z Z) Z (A3 (E7 Z) Z (A3 (E6 Z Z) Z (A7 ?_)))))
  refine k1 ?_
  refine B4 rfl (fun ht=>?_) (fun ht=>?_)
  ·have hlt:i < b.length:=by simpa using ht
   have hv:b[i]?=some b[i]:=by simp [hlt]
   refine k5 (k1 (k2 (k3 (k2 ?_))))
   refine A4 (A3 (A5 Z Z) Z (A3 (A5 Z Z) Z (A3 (L5 Z Z (by omega) hv) Z (A3 (I1 Z Z) Z (A3 (A5 Z Z) Z (B0 Z Z Z Z (fun hg=>by rw [hg];exact A5 Z Z) ?_))))));refine B0 Z Z Z Z (fun hg=>by have hq:=hg;(try simp at hq);rw [hg];exact C6 Z Z (by omega)) ?_;refine B0 Z Z Z Z (fun hg=>by rw [hg];exact A5 Z Z) ?_;refine B0 Z Z Z Z (fun hg=>by rw [hg];exact E7 Z) ?_;refine B0 Z Z Z Z (fun hg=>by rw [hg];exact I1 Z Z) ?_;refine A3 (B5 Z (fun h=>by first | rfl | (rw [h];rfl)) (fun h=>by first | rfl | (rw [h];rfl))) Z ?_;refine A7 ?_
   refine k1 ?_
   refine B4 rfl (fun ht2=>?_) (fun ht2=>?_)
   ·refine k2 ?_
    refine A4 (A3 (A5 Z Z) Z (A3 (A5 Z Z) Z (A3 (A5 Z Z) Z (A3 (A5 Z Z) Z (A3 (C6 Z Z (by omega)) Z (A3 (C63 Z Z Z (by omega) (by omega) (by omega)) Z (A3 (E4 (c:=M1) (ys:=[_]) (F3 Z Z Z Z I6) Z Z Z) Z (C7 (L0 Z Z Z (.pure _ _ _ _) (by simp;omega) Z) Z (A3 (A6 Z Z) Z (A7 ?_))))))))))
    refine k1 ?_
    refine A4 (A3 (A5 Z Z) Z (A3 (C6 Z Z (by omega)) Z (A3 (A6 Z Z) Z (A7 ?_))))
    refine k4 (k1 ?_)
    refine A4 (A3 (A5 Z Z) Z (A3 (C6 Z Z (by omega)) Z (A3 (A6 Z Z) Z (A7 ?_))))
    refine k1 ?_
    refine ⟨(i+1,i+1,_),⟨?_,?_,?_,?_,?_⟩,?_,K60 ⟨⟨_,rfl,.same _⟩,⟨_,rfl,.same _⟩,⟨_,rfl,.same _⟩,⟨_,rfl,.same _⟩,trivial⟩ ⟨rfl,trivial⟩⟩
    all_goals dsimp only
    ·omega
    ·omega
    ·simp;omega
    ·omega
    ·have hc:b[i]=10∨i+1=b.length:=by
      simp only [u8_lf] at ht2
      by_cases h:b[i]=10
      ·exact .inl h
      ·simp [h] at ht2;exact .inr (by omega)
     rw [I38,L01,L51,List.take_zero,←G02 b from' i hf hlt,L09,←hp,L03 hlt,W3]
     rcases hc with h | h
     ·rw [if_pos h];rfl
     ·have hd:b.drop (i+1)=[]:=L07 (by omega)
      rw [hd]
      split
      ·rfl
      ·rw [show F7 ([]:Str) []=[] from rfl,G64 _ (by simp)];simp
    ·omega
   ·refine k5 (k4 (k1 ?_))
    refine A4 (A3 (A5 Z Z) Z (A3 (C6 Z Z (by omega)) Z (A3 (A6 Z Z) Z (A7 ?_))))
    refine k1 ?_
    refine ⟨(i+1,from',out),⟨?_,?_,?_,?_,?_⟩,?_,K60 ⟨⟨_,rfl,.same _⟩,⟨_,rfl,.same _⟩,⟨_,rfl,.same _⟩,⟨_,rfl,.same _⟩,trivial⟩ ⟨rfl,trivial⟩⟩
    all_goals dsimp only
    ·omega
    ·omega
    ·omega
    ·intro h
     simp [show (i:Int)+1=(b.length:Int) by omega] at ht2
    ·have hc:b[i]≠10:=fun h=>by simp [h] at ht2
     rw [←G02 b from' i hf hlt,←hp,L03 hlt,W3,if_neg hc]
    ·omega
  ·refine k6 (k2 ?_)
   refine A4 (A3 (A5 Z Z) Z (A3 (A6 Z Z) Z (A7 ?_)))
   refine k1 (k10 ?_)
   refine B8 (I2 Z Z Z) ?_
   have hi':i=b.length:=by simp at ht;omega
   subst hi'
   have:=he rfl
   subst this
   rw [L51,List.take_zero,L07 (Nat.le_refl _)] at hp
   rw [←hp];simp [F7]
end Go.Proofs.YtgejaedjnbjpoaaGreatDoor
namespace Go.Proofs.YtgejaedjnbjpoaaGreatDoor
open Go Go.AL
set_option maxRecDepth 100000
theorem u64_in {n:Int} (h:0≤n∧n < 18446744073709551616):IntKind.u64.wrap n=n:=by simp [IntKind.wrap,IntKind.signed,IntKind.bits];omega
def P7 (a n:Int):Int:=IntKind.u64.wrap a % n
theorem a6 (a:Int) {n:Int} (h:1≤n):0≤P7 a n∧P7 a n < n:=⟨Int.emod_nonneg _ (by omega),Int.emod_lt_of_pos _ (by omega)⟩
theorem D31 (a n:Int) (hn:1≤n) (hn':n≤9223372036854775807):FnOk Tryz.prog 15 [F2 a,F2 n] (fun rs=>rs=[F2 (P7 a n)]):=by
 refine FnOk.intro Tryz.func15 (by decide) Z Z Z Z ?_
 refine k2 ?_
 refine A4 (A3 (A6 Z Z) Z (A7 ?_))
 refine k1 (k2 ?_)
 have h1:IntKind.u64.wrap n=n:=u64_in (by omega)
 refine A4 (A3 (A5 Z Z) Z (A3 (S3 Z) Z (A3 (A5 Z Z) Z (A3 (S3 Z) Z (A3 (G96 Z Z (by (rw [h1];omega))) Z ?_)))));refine A3 (S3 Z) Z (A3 (A6 Z Z) Z (A7 ?_))
 refine k1 (k10 ?_)
 refine B8 (I2 Z Z Z) ?_
 have h2:=I06 a
 have h3:(IntKind.u64.wrap a).tmod n=IntKind.u64.wrap a % n:=Int.tmod_eq_emod_of_nonneg h2
 have h4:=a6 a hn
 unfold P7 at *
 rw [h1,h3,H00 ⟨by omega,by omega⟩]
def xor64 (a b:Int):Int:=IntKind.u64.wrap ((BitVec.ofInt IntKind.u64.bits a ^^^ BitVec.ofInt IntKind.u64.bits b).toNat:Int)
def shr64 (a n:Int):Int:=a.fdiv (2 ^ (min n.toNat IntKind.u64.bits))
def at0 (k:Int):Int:=IntKind.u64.wrap (IntKind.u64.wrap (k+1)*11400714819323198485)
def at1 (raw:List Int) (k:Int):Int:=if 0 < raw.length then xor64 (at0 k) (IntKind.u64.wrap (raw.getD (k.tmod raw.length).toNat 0)) else at0 k
def at2 (x:Int):Int:=IntKind.u64.wrap (xor64 x (shr64 x 31)*13787848793156543929)
def n7 (raw:List Int) (k:Int):Int:=IntKind.i64.wrap (shr64 (xor64 (at2 (at1 raw k)) (shr64 (at2 (at1 raw k)) 29)) 1)
theorem F82 (raw:List Int) (k:Int) (h0:0≤k) (h1:k≤1099511627776):FnOk Tryz.prog 22 [Q9 raw,F2 k] (fun rs=>rs=[F2 (n7 raw k)]):=by
 refine FnOk.intro Tryz.func22 (by decide) Z Z Z Z ?_
 refine I72 (t:=0) rfl (.pure _ _ _ _) fun hlen=>?_
 refine k2 ?_
 refine A4 (A3 (A6 Z Z) Z (A7 ?_))
 refine k1 (k2 ?_)
 refine A4 (A3 (A5 Z Z) Z (A3 (C6 Z Z (by omega)) Z (A3 (S3 Z) Z (A3 (G33 Z Z) Z (A3 (A6 Z Z) Z (A7 ?_))))))
 refine J8 ?_
 refine u9 [(0,D2 Int 1 G6 raw),(1,C0 k),(5,I3 (.int .u64 (at1 raw k)))] [] ?_ ?_
 ·refine k2 ?_
  refine A4 (A3 (A5 Z Z) Z (A3 (F1 Z (.pure _ _ _ _)) Z (A3 (R5 Z Z) Z (A7 ?_))))
  refine k1 ?_
  refine B4 rfl (fun ht=>?_) (fun ht=>?_)
  ·have hpos:0 < raw.length:=by have:=A0 ht;omega
   have hm0:0≤k.tmod raw.length:=Int.tmod_nonneg _ h0
   have hm1:k.tmod raw.length < raw.length:=Int.tmod_lt_of_pos _ (by omega)
   have hv:raw[(k.tmod raw.length).toNat]?=some (raw.getD (k.tmod raw.length).toNat 0):=by
    rw [L00,K97 (by omega)];rfl
   skip
   refine A4 (A3 (A5 Z Z) Z (A3 (A5 Z Z) Z (A3 (A5 Z Z) Z (A3 (A5 Z Z) Z (A3 (F1 Z (.pure _ _ _ _)) Z (A3 (G96 Z Z (by omega)) Z (A3 (B9 Z (.pure _ _ _ _) Z (by omega) hv) Z (A3 (C8 Z Z) Z (A3 (S3 Z) Z (A3 (d6 Z Z Z (fun _=>rfl)) Z (A3 (A6 Z Z) Z (A7 ?_))))))))))))
   refine k1 ?_
   rw [at1,if_pos hpos]
   exact K60 ⟨le1 rfl,le1 rfl,le1 rfl,trivial⟩ trivial
  ·have hpos:¬0 < raw.length:=by have:=A1 ht;omega
   refine k5 (k1 ?_)
   rw [at1,if_neg hpos]
   exact K60 ⟨le1 rfl,le1 rfl,le1 rfl,trivial⟩ trivial
 ·refine k2 ?_
  refine A4 (A3 (A5 Z Z) Z (A3 (A5 Z Z) Z (A3 (C08 Z Z (by omega)) Z (A3 (d6 Z Z Z (fun _=>rfl)) Z (A3 (G33 Z Z) Z (A3 (A6 Z Z) Z (A7 ?_)))))))
  refine k1 (k2 ?_)
  refine A4 (A3 (A5 Z Z) Z (A3 (A5 Z Z) Z (A3 (C08 Z Z (by omega)) Z (A3 (d6 Z Z Z (fun _=>rfl)) Z (A3 (C08 Z Z (by omega)) Z (A3 (S3 Z) Z (A3 (A6 Z Z) Z (A7 ?_))))))))
  refine k1 (k10 ?_)
  exact B8 (I2 rfl rfl rfl) rfl
def lineTab:List Str:=[[97],[98],[99],[97,98],[98,97],[],[97,97],[98,32,97],[120,43,121],[92]]
def v7 (k:Int):Str:=lineTab.getD (P7 k 10).toNat []
theorem H16:∀s∈lineTab,s.length≤3:=by decide
theorem A98 (k:Int):(v7 k).length≤3:=by
 unfold v7
 rw [L00]
 cases h:lineTab[(P7 k 10).toNat]? with
 | none=>simp
 | some s=>exact H16 s (L13 h)
theorem H17 (k:Int):FnOk Tryz.prog 21 [F2 k] (fun rs=>rs=[G7 (v7 k)]):=by
 refine FnOk.intro Tryz.func21 (by decide) Z Z Z Z ?_
 refine k2 ?_
 refine A4 (A3 (A6 Z Z) Z (A7 ?_))
 refine k1 (k2 ?_)
 have hm:=a6 k (n:=10) (by decide)
 have hv:lineTab[(P7 k 10).toNat]?=some (v7 k):=by
  unfold v7
  rw [L00,K97 (show (P7 k 10).toNat < lineTab.length by simp [lineTab];omega)];rfl
 refine A4 (A3 (E4 (c:=M1) (ys:=lineTab) (F3 Z Z Z Z (F3 Z Z Z Z (F3 Z Z Z Z (F3 Z Z Z Z (F3 Z Z Z Z (F3 Z Z Z Z (F3 Z Z Z Z (F3 Z Z Z Z (F3 Z Z Z Z (F3 Z Z Z Z I6)))))))))) Z Z Z) Z (A3 (A5 Z Z) Z (C1 (D31 k 10 (by decide) (by decide)) Z Z Z ?_)));rintro _ rfl;refine A3 (B9 Z (.pure _ _ _ _) Z (by omega) hv) Z (A3 (C8 Z Z) Z (A3 (A6 Z Z) Z (A7 ?_)))
 refine k1 (k10 ?_)
 exact B8 (I2 rfl rfl rfl) rfl
def S5 (raw:List Int) (from':Int) (kinds:Int) (m:Nat):Str:=((List.range m).map fun (i:Nat)=>v7 (P7 (n7 raw (from'+1+(i:Int))) kinds)++[10]).flatten
def W6 (raw:List Int) (from' n kinds:Int):Str :=
 let s:=S5 raw from' kinds (P7 (n7 raw from') (n+1)).toNat
 if ((n7 raw (from'+90)).tmod 4=0∧(1:Int) < s.length)∧((s.getD (s.length - 2) 0).toNat:Int)≠10 then s.take (s.length - 1) else s
theorem A32 (raw:List Int) (from' kinds:Int) (m:Nat):S5 raw from' kinds (m+1)=S5 raw from' kinds m++v7 (P7 (n7 raw (from'+1+(m:Int))) kinds)++[10]:=by
 unfold S5;rw [L38,L14,L28];simp
theorem C17 (raw:List Int) (from' kinds:Int) (m:Nat):(S5 raw from' kinds m).length≤4*m:=by
 induction m with
 | zero=>simp [S5]
 | succ m ih=>have:=A98 (P7 (n7 raw (from'+1+(m:Int))) kinds);rw [A32];simp only [K96,K99,L02];omega
theorem I77 (raw:List Int) (from' n kinds:Int) (h0:0≤from'∧from'≤1073741824) (h1:0≤n∧n≤1048576) (h2:1≤kinds∧kinds≤1048576) :
  FnOk Tryz.prog 55 [Q9 raw,F2 from',F2 n,F2 kinds] (fun rs=>rs=[G7 (W6 raw from' n kinds)]):=by
 obtain ⟨m,hm⟩:∃m:Nat,P7 (n7 raw from') (n+1)=m:=⟨(P7 (n7 raw from') (n+1)).toNat,by have:=a6 (n7 raw from') (n:=n+1) (by omega);omega⟩
 have hmi:=a6 (n7 raw from') (n:=n+1) (by omega)
 have hml:m≤1048576:=by omega
 refine FnOk.intro Tryz.func55 (by decide) Z Z Z Z ?_
 refine k2 ?_
 refine A4 (A3 (A6 Z Z) Z (A7 ?_))
 refine k1 (k2 ?_)
 refine A4 (A3 (A5 Z Z) Z (A3 (A5 Z Z) Z (C1 (F82 raw from' (by omega) (by omega)) Z Z Z ?_)));rintro _ rfl;refine A3 (A5 Z Z) Z (A3 (C6 Z Z (by omega)) Z (C1 (D31 _ (n+1) (by omega) (by omega)) Z Z Z ?_));rintro _ rfl;refine A3 (A6 Z Z) Z (A7 ?_)
 refine k1 (k2 ?_)
 rw [hm]
 refine A4 (A3 (A6 Z Z) Z (A7 ?_))
 refine k1 (k2 (k2 ?_))
 refine A4 (A3 (A6 Z Z) Z (A7 ?_))
 refine k1 (k3 ?_)
 refine E1 (X:=Nat) (fun i=>([(0,D2 Int 1 G6 raw),(1,C0 from'),(2,C0 m),(3,C0 kinds),(9,J3 (S5 raw from' kinds i)),(10,C0 i)],[])) (fun i=>i≤m) (fun i=>m - i) 0 (Nat.zero_le _) (K60 ⟨le1 rfl,le1 rfl,le1 rfl,le1 rfl,le1 rfl,le1 rfl,trivial⟩ trivial) ?_
 intro i hi
 dsimp only at hi ⊢
 have hbl:=C17 raw from' kinds i
 refine k2 (k2 ?_)
 refine A4 (A3 (A5 Z Z) Z (A3 (A5 Z Z) Z (A3 (E6 Z Z) Z (A7 ?_))))
 refine k1 ?_
 refine B4 rfl (fun ht=>?_) (fun ht=>?_)
 ·have hlt:i < m:=by have:=A0 ht;omega
  have hll:=A98 (P7 (n7 raw (from'+1+(i:Int))) kinds)
  refine k5 (k1 (k2 (k3 ?_)))
  refine A4 (A3 (A5 Z Z) Z (A3 (A5 Z Z) Z (A3 (A5 Z Z) Z (A3 (C6 Z Z (by omega)) Z (A3 (A5 Z Z) Z (A3 (C6 Z Z (by omega)) Z (C1 (F82 raw _ (by omega) (by omega)) Z Z Z ?_)))))));rintro _ rfl;refine A3 (A5 Z Z) Z (C1 (D31 _ kinds (by omega) (by omega)) Z Z Z ?_);rintro _ rfl;refine C1 (H17 _) Z Z Z ?_;rintro _ rfl;refine A3 (I4 Z Z (by omega)) Z (A3 (I4 Z Z (by (simp only [K96,K99,L02];omega))) Z (A3 (A6 Z Z) Z (A7 ?_)))
  refine k4 (k1 ?_)
  refine A4 (A3 (A5 Z Z) Z (A3 (C6 Z Z (by omega)) Z (A3 (A6 Z Z) Z (A7 ?_))))
  refine k1 ?_
  refine ⟨i+1,by omega,by omega,?_⟩
  rw [A32]
  exact K60 ⟨le1 rfl,le1 rfl,le1 rfl,le1 rfl,le1 rfl,le1 rfl,trivial⟩ trivial
 ·have hi':i=m:=by have:=A1 ht;omega
  subst hi'
  obtain ⟨s,hs⟩:∃s,s=S5 raw from' kinds i:=⟨_,rfl⟩
  have hv:(1:Int) < s.length→s[((s.length:Int) - 2).toNat]?=some (s.getD (s.length - 2) 0):=fun h=>by
   rw [show ((s.length:Int) - 2).toNat=s.length - 2 by omega,L00,K97 (by omega)];rfl
  have hbo:W6 raw from' n kinds=if ((n7 raw (from'+90)).tmod 4=0∧(1:Int) < s.length)∧((s.getD (s.length - 2) 0).toNat:Int)≠10 then s.take (s.length - 1) else s:=by
   simp only [W6,hm,L01,←hs]
  rw [←hs] at hbl
  refine k6 (k2 (k2 ?_))
  rw [←hs]
  refine A4 (A3 (A5 Z Z) Z (A3 (A5 Z Z) Z (A3 (C6 Z Z (by omega)) Z (C1 (F82 raw _ (by omega) (by omega)) Z Z Z ?_))));rintro _ rfl;refine A3 (G96 Z Z (by omega)) Z (A3 (I1 Z Z) Z (A3 (A5 Z Z) Z (B0 Z Z Z Z (fun hg=>by rw [hg];exact A5 Z Z) ?_)));refine B0 Z Z Z Z (fun hg=>by rw [hg];exact E7 Z) ?_;refine B0 Z Z Z Z (fun hg=>by rw [hg];exact R5 Z Z) ?_;refine A3 (B5 Z (fun h=>by first | rfl | (rw [h];rfl)) (fun h=>by first | rfl | (rw [h];rfl))) Z ?_;refine A3 (A5 Z Z) Z (B0 Z Z Z Z (fun hg=>by rw [hg];exact A5 Z Z) ?_);refine B0 Z Z Z Z (fun hg=>by rw [hg];exact A5 Z Z) ?_;refine B0 Z Z Z Z (fun hg=>by rw [hg];exact E7 Z) ?_;refine B0 Z Z Z Z (fun hg=>by have hq:=hg;(try simp at hq);rw [hg];exact Q4 Z Z (by omega)) ?_;refine B0 Z Z Z Z (fun hg=>by have hq:=hg;(try simp at hq);rw [hg];exact L5 Z Z (by omega) (hv (by omega))) ?_;refine B0 Z Z Z Z (fun hg=>by rw [hg];exact O6 Z Z) ?_;refine A3 (B5 Z (fun h=>by first | rfl | (rw [h];rfl)) (fun h=>by first | rfl | (rw [h];rfl))) Z ?_;refine A7 ?_
  refine k1 ?_
  refine B4 rfl (fun ht=>?_) (fun ht=>?_)
  ·simp only [L1] at ht
   have h:=A0 ht
   skip
   refine A4 (A3 (A5 Z Z) Z (A3 (A5 Z Z) Z (A3 (E7 Z) Z (A3 (Q4 Z Z (by omega)) Z (A3 (A90 Z Z (by omega) (by omega)) Z (A3 (A6 Z Z) Z (A7 ?_)))))))
   refine k1 (k2 ?_)
   refine A4 (A3 (A5 Z Z) Z (A3 (A6 Z Z) Z (A7 ?_)))
   refine k1 (k10 ?_)
   exact B8 (I2 rfl rfl rfl) (by rw [hbo,if_pos h,show ((s.length:Int) - 1).toNat=s.length - 1 by omega])
  ·simp only [L1] at ht
   have h:=A1 ht
   refine k5 (k1 (k2 ?_))
   refine A4 (A3 (A5 Z Z) Z (A3 (A6 Z Z) Z (A7 ?_)))
   refine k1 (k10 ?_)
   exact B8 (I2 rfl rfl rfl) (by rw [hbo,if_neg h])
theorem C42 (raw:List Int) (from' n kinds:Int) (h1:0≤n):((W6 raw from' n kinds).length:Int)≤4*n:=by
 have h:=a6 (n7 raw from') (n:=n+1) (by omega)
 have h2:=C17 raw from' kinds (P7 (n7 raw from') (n+1)).toNat
 unfold W6
 simp only
 split
 ·simp only [L08];omega
 ·omega
def n8 (raw:List Int) (from':Int) (i:Nat) (s:Str):List Str→Str
 | []=>s
 | x::r=>if (n7 raw (from'+(i:Int))).tmod 6=0 then n8 raw from' (i+1) s r
  else if (n7 raw (from'+(i:Int))).tmod 6=1 then n8 raw from' (i+1) (s++v7 (n7 raw (from'+40+(i:Int)))++[10]++x) r
  else n8 raw from' (i+1) (s++x) r
def C43 (blob:Str) (raw:List Int) (from':Int):Str:=n8 raw from' 0 [] (C3 blob)
theorem A99 (raw:List Int) (from':Int):∀(l:List Str) (i:Nat) (s:Str),(n8 raw from' i s l).length≤s.length+l.flatten.length+4*l.length
 | [],i,s=>by simp [n8]
 | x::r,i,s=>by
  have h1:=A99 raw from' r (i+1) s
  have h2:=A99 raw from' r (i+1) (s++v7 (n7 raw (from'+40+(i:Int)))++[10]++x)
  have h3:=A99 raw from' r (i+1) (s++x)
  have h4:=A98 (n7 raw (from'+40+(i:Int)))
  simp only [K96,K99,L02,L16] at *
  unfold n8
  split
  ·omega
  ·split<;>omega
theorem D32 (s cur:Str):(F7 cur s).flatten=cur++s:=by
 induction s generalizing cur with
 | nil=>unfold F7;split<;>simp [*]
 | cons c r ih=>unfold F7;split<;>simp [ih]
theorem A04 (s:Str):(C3 s).flatten=s:=D32 s []
theorem near_ok (blob:Str) (raw:List Int) (from':Int) (hb:blob.length≤16777216) (h0:0≤from'∧from'≤1073741824) :
  FnOk Tryz.prog 23 [G7 blob,Q9 raw,F2 from'] (fun rs=>rs=[G7 (C43 blob raw from')]):=by
 have hll:=Y3 blob
 have hlf:=A04 blob
 have hlf':(C3 blob).flatten.length=blob.length:=by rw [hlf]
 refine FnOk.intro Tryz.func23 (by decide) Z Z Z Z ?_
 refine k2 ?_
 refine A4 (A3 (A6 Z Z) Z (A7 ?_))
 refine k1 (k2 ?_)
 refine A4 (A3 (A5 Z Z) Z (C1 (J97 blob (by omega)) Z Z Z ?_));rintro _ rfl;refine A3 (A6 Z Z) Z (A7 ?_)
 refine k1 (k2 ?_)
 obtain ⟨l,hl⟩:∃l,l=C3 blob:=⟨_,rfl⟩
 have hno:C43 blob raw from'=n8 raw from' 0 [] l:=by rw [C43,hl]
 rw [←hl] at hll hlf' ⊢
 refine A4 (A3 (A6 Z Z) Z (A7 ?_))
 refine k1 (k2 (k2 ?_))
 refine A4 (A3 (A6 Z Z) Z (A7 ?_))
 refine k1 (k3 ?_)
 refine E1 (X:=Nat × Str) (fun x=>([(1,D2 Int 1 G6 raw),(2,C0 from'),(7,D2 Str 1 M1 l),(8,J3 x.2),(9,C0 x.1)],[])) (fun x=>x.1≤l.length∧x.2.length≤(l.take x.1).flatten.length+4*x.1∧n8 raw from' x.1 x.2 (l.drop x.1)=n8 raw from' 0 [] l) (fun x=>l.length - x.1) (0,[]) (by simp) (K60 ⟨le1 rfl,le1 rfl,le1 rfl,le1 rfl,le1 rfl,trivial⟩ trivial) ?_
 rintro ⟨i,s⟩ ⟨hi,hs,hp⟩
 dsimp only at hi hs hp ⊢
 have hle:=B32 l i
 refine k2 (k2 ?_)
 refine A4 (A3 (A5 Z Z) Z (A3 (A5 Z Z) Z (A3 (F1 Z (.pure _ _ _ _)) Z (A3 (E6 Z Z) Z (A7 ?_)))))
 refine k1 ?_
 refine B4 rfl (fun ht=>?_) (fun ht=>?_)
 ·have hlt:i < l.length:=by have:=A0 ht;omega
  have hv:l[i]?=some l[i]:=by simp [hlt]
  have hle2:=B32 l (i+1)
  have hst:=A50 l i hlt
  rw [hst,K96] at hle2
  rw [L03 hlt,n8] at hp
  refine k5 (k1 (k2 (k3 (k2 (k2 ?_)))))
  refine A4 (A3 (A5 Z Z) Z (A3 (A5 Z Z) Z (A3 (A5 Z Z) Z (A3 (C6 Z Z (by omega)) Z (C1 (F82 raw _ (by omega) (by omega)) Z Z Z ?_)))));rintro _ rfl;refine A3 (G96 Z Z (by omega)) Z (A7 ?_)
  refine k1 (k3 (k2 ?_))
  refine A4 (A3 (I1 Z Z) Z (A3 (A6 Z Z) Z (A7 ?_)))
  refine k1 ?_
  refine B4 rfl (fun ht=>?_) (fun ht=>?_)
  ·rw [if_pos (A0 ht)] at hp
   refine k6 (k9 Z (k7 (k8 Z (k1 ?_))))
   refine A4 (A3 (A5 Z Z) Z (A3 (C6 Z Z (by omega)) Z (A3 (A6 Z Z) Z (A7 ?_))))
   refine k1 ?_
   exact ⟨(i+1,s),⟨by dsimp only;omega,by dsimp only;rw [hst,K96];omega,hp⟩,by dsimp only;omega,K60 ⟨le1 rfl,le1 rfl,le1 rfl,le1 rfl,le1 rfl,trivial⟩ trivial⟩
  ·rw [if_neg (A1 ht)] at hp
   refine k2 ?_
   refine A4 (A3 (I1 Z Z) Z (A3 (A6 Z Z) Z (A7 ?_)))
   refine k1 ?_
   refine B4 rfl (fun ht=>?_) (fun ht=>?_)
   ·rw [if_pos (A0 ht)] at hp
    have h4:=A98 (n7 raw (from'+40+(i:Int)))
    skip
    refine A4 (A3 (A5 Z Z) Z (A3 (A5 Z Z) Z (A3 (A5 Z Z) Z (A3 (C6 Z Z (by omega)) Z (A3 (A5 Z Z) Z (A3 (C6 Z Z (by omega)) Z (C1 (F82 raw _ (by omega) (by omega)) Z Z Z ?_)))))));rintro _ rfl;refine C1 (H17 _) Z Z Z ?_;rintro _ rfl;refine A3 (I4 Z Z (by omega)) Z (A3 (I4 Z Z (by (simp only [K96,K99,L02];omega))) Z (A3 (A6 Z Z) Z (A7 ?_)))
    refine k4 (k1 ?_)
    refine A4 (A3 (A5 Z Z) Z (A3 (A5 Z Z) Z (A3 (A5 Z Z) Z (A3 (B9 Z (.pure _ _ _ _) Z (by omega) hv) Z (A3 (C8 Z Z) Z (A3 (I4 Z Z (by (simp only [K96,K99,L02];omega))) Z (A3 (A6 Z Z) Z (A7 ?_))))))))
    refine k4 (k1 ?_)
    refine A4 (A3 (A5 Z Z) Z (A3 (C6 Z Z (by omega)) Z (A3 (A6 Z Z) Z (A7 ?_))))
    refine k1 ?_
    exact ⟨(i+1,s++v7 (n7 raw (from'+40+(i:Int)))++[10]++l[i]),⟨by dsimp only;omega,by dsimp only;rw [hst];simp only [K96,K99,L02];omega,hp⟩,by dsimp only;omega,K60 ⟨le1 rfl,le1 rfl,le1 rfl,le1 rfl,le1 rfl,trivial⟩ trivial⟩
   ·rw [if_neg (A1 ht)] at hp
    refine k5 (k4 (k1 ?_))
    refine A4 (A3 (A5 Z Z) Z (A3 (A5 Z Z) Z (A3 (A5 Z Z) Z (A3 (B9 Z (.pure _ _ _ _) Z (by omega) hv) Z (A3 (C8 Z Z) Z (A3 (I4 Z Z (by omega)) Z (A3 (A6 Z Z) Z (A7 ?_))))))))
    refine k4 (k1 ?_)
    refine A4 (A3 (A5 Z Z) Z (A3 (C6 Z Z (by omega)) Z (A3 (A6 Z Z) Z (A7 ?_))))
    refine k1 ?_
    exact ⟨(i+1,s++l[i]),⟨by dsimp only;omega,by dsimp only;rw [hst,K96,K96];omega,hp⟩,by dsimp only;omega,K60 ⟨le1 rfl,le1 rfl,le1 rfl,le1 rfl,le1 rfl,trivial⟩ trivial⟩
 ·have hi':i=l.length:=by have:=A1 ht;omega
  rw [hi',L07 (Nat.le_refl _)] at hp
  refine k6 (k2 ?_)
  refine A4 (A3 (A5 Z Z) Z (A3 (A6 Z Z) Z (A7 ?_)))
  refine k1 (k10 ?_)
  exact B8 (I2 rfl rfl rfl) (by rw [hno,←hp];rfl)
def v8 (raw:List Int) (lines:Int) (p:Nat):Str :=
 if (n7 raw (500+(p:Int))).tmod 5=0 then W6 raw (600+50*(p:Int)) lines 4 else if (n7 raw (500+(p:Int))).tmod 5=1 then W6 raw 0 lines 5 else C43 (W6 raw 0 lines 5) raw (600+50*(p:Int))
def Z4 (raw:List Int) (n:Nat) (lines:Int):List Str:=(List.range n).map (v8 raw lines)
theorem E57 (raw:List Int) (lines:Int) (p:Nat) (h:0≤lines):((v8 raw lines p).length:Int)≤20*lines:=by
 have h1:=C42 raw (600+50*(p:Int)) lines 4 h
 have h2:=C42 raw 0 lines 5 h
 have h3:=A99 raw (600+50*(p:Int)) (C3 (W6 raw 0 lines 5)) 0 []
 have h4:=Y3 (W6 raw 0 lines 5)
 rw [A04] at h3
 simp only [L02] at h3
 unfold v8 C43
 split
 ·omega
 ·split<;>omega
theorem J98 (raw:List Int) (n:Nat) (lines:Int) (h1:n≤1024) (h2:0≤lines∧lines≤524288):FnOk Tryz.prog 44 [Q9 raw,F2 n,F2 lines] (fun rs=>rs=[m6 (Z4 raw n lines)]):=by
 have hfl:=C42 raw 0 lines 5 h2.1
 refine FnOk.intro Tryz.func44 (by decide) Z Z Z Z ?_
 refine k2 ?_
 refine A4 (A3 (A6 Z Z) Z (A7 ?_))
 refine k1 (k2 ?_)
 refine A4 (A3 (A5 Z Z) Z (A3 (A5 Z Z) Z (C1 (I77 raw 0 lines 5 (by omega) (by omega) (by omega)) Z Z Z ?_)));rintro _ rfl;refine A3 (A6 Z Z) Z (A7 ?_)
 refine k1 (k2 ?_)
 refine A4 (C7 (H99 13 (c:=M1) (ys:=[]) I6 Z Z Z (by first | rfl | (simp [G3,H7,Ob.free,SV.free,S1.free,TC.free]<;>rfl))) Z ?_);refine A3 (A6 Z Z) Z (A7 ?_)
 refine k1 (k2 (k2 ?_))
 refine A4 (A3 (A6 Z Z) Z (A7 ?_))
 refine k1 (k3 ?_)
 refine E1 (X:=Nat) (fun p=>([(0,D2 Int 1 G6 raw),(1,C0 n),(2,C0 lines),(7,J3 (W6 raw 0 lines 5)),(8,.s (.one (.buf 13 Str 1 M1 (Z4 raw p lines)))),(9,C0 p)],[(13,.spare (Z4 raw p lines).length 1 9)])) (fun p=>p≤n) (fun p=>n - p) 0 (Nat.zero_le _) (K60 ⟨le1 rfl,le1 rfl,le1 rfl,le1 rfl,le1 rfl,le1 rfl,trivial⟩ ⟨rfl,trivial⟩) ?_
 intro p hp
 dsimp only at hp ⊢
 have hst:Z4 raw (p+1) lines=Z4 raw p lines++[v8 raw lines p]:=by unfold Z4;rw [L38,L14];rfl
 have hbl:(Z4 raw p lines).length=p:=by simp [Z4]
 refine k2 (k2 ?_)
 refine A4 (A3 (A5 Z Z) Z (A3 (A5 Z Z) Z (A3 (E6 Z Z) Z (A7 ?_))))
 refine k1 ?_
 refine B4 rfl (fun ht=>?_) (fun ht=>?_)
 ·have hlt:p < n:=by have:=A0 ht;omega
  refine k5 (k1 (k2 (k3 (k2 ?_))))
  refine A4 (A3 (A5 Z Z) Z (A3 (A5 Z Z) Z (A3 (C6 Z Z (by omega)) Z (C1 (F82 raw _ (by omega) (by omega)) Z Z Z ?_))));rintro _ rfl;refine A3 (G96 Z Z (by omega)) Z (A7 ?_)
  refine k1 (k3 (k2 ?_))
  refine A4 (A3 (I1 Z Z) Z (A3 (A6 Z Z) Z (A7 ?_)))
  refine k1 ?_
  refine B4 rfl (fun ht=>?_) (fun ht=>?_)
  ·have hb:v8 raw lines p=W6 raw (600+50*(p:Int)) lines 4:=by rw [v8,if_pos (A0 ht)]
   skip
   refine A4 (A3 (A5 Z Z) Z (A3 (A5 Z Z) Z (A3 (A5 Z Z) Z (A3 (B37 Z Z (by omega)) Z (A3 (C6 Z Z (by omega)) Z (A3 (A5 Z Z) Z (C1 (I77 raw _ lines 4 (by omega) (by omega) (by omega)) Z Z Z ?_)))))));rintro _ rfl;refine A3 (E4 (c:=M1) (ys:=[_]) (F3 Z Z Z Z I6) Z Z Z) Z (C7 (L0 Z Z Z (.pure _ _ _ _) (by (simp only [K99,L02];omega)) Z) Z (A3 (A6 Z Z) Z (A7 ?_)))
   refine k4 (k4 (k1 ?_))
   refine A4 (A3 (A5 Z Z) Z (A3 (C6 Z Z (by omega)) Z (A3 (A6 Z Z) Z (A7 ?_))))
   refine k1 ?_
   refine ⟨p+1,by omega,by omega,?_⟩
   rw [hst,hb]
   exact K60 ⟨le1 rfl,le1 rfl,le1 rfl,le1 rfl,le1 rfl,le1 rfl,trivial⟩ ⟨rfl,trivial⟩
  ·have h5:=A1 ht
   refine k2 ?_
   refine A4 (A3 (I1 Z Z) Z (A3 (A6 Z Z) Z (A7 ?_)))
   refine k1 ?_
   refine B4 rfl (fun ht=>?_) (fun ht=>?_)
   ·have hb:v8 raw lines p=W6 raw 0 lines 5:=by rw [v8,if_neg h5,if_pos (A0 ht)]
    skip
    refine A4 (A3 (A5 Z Z) Z (A3 (A5 Z Z) Z (A3 (E4 (c:=M1) (ys:=[_]) (F3 Z Z Z Z I6) Z Z Z) Z (C7 (L0 Z Z Z (.pure _ _ _ _) (by (simp only [K99,L02];omega)) Z) Z (A3 (A6 Z Z) Z (A7 ?_))))))
    refine k4 (k4 (k1 ?_))
    refine A4 (A3 (A5 Z Z) Z (A3 (C6 Z Z (by omega)) Z (A3 (A6 Z Z) Z (A7 ?_))))
    refine k1 ?_
    refine ⟨p+1,by omega,by omega,?_⟩
    rw [hst,hb]
    exact K60 ⟨le1 rfl,le1 rfl,le1 rfl,le1 rfl,le1 rfl,le1 rfl,trivial⟩ ⟨rfl,trivial⟩
   ·have hb:v8 raw lines p=C43 (W6 raw 0 lines 5) raw (600+50*(p:Int)):=by rw [v8,if_neg h5,if_neg (A1 ht)]
    skip
    refine A4 (A3 (A5 Z Z) Z (A3 (A5 Z Z) Z (A3 (A5 Z Z) Z (A3 (A5 Z Z) Z (A3 (B37 Z Z (by omega)) Z (A3 (C6 Z Z (by omega)) Z (C1 (near_ok _ raw _ (by omega) (by omega)) Z Z Z ?_)))))));rintro _ rfl;refine A3 (E4 (c:=M1) (ys:=[_]) (F3 Z Z Z Z I6) Z Z Z) Z (C7 (L0 Z Z Z (.pure _ _ _ _) (by (simp only [K99,L02];omega)) Z) Z (A3 (A6 Z Z) Z (A7 ?_)))
    refine k4 (k4 (k1 ?_))
    refine A4 (A3 (A5 Z Z) Z (A3 (C6 Z Z (by omega)) Z (A3 (A6 Z Z) Z (A7 ?_))))
    refine k1 ?_
    refine ⟨p+1,by omega,by omega,?_⟩
    rw [hst,hb]
    exact K60 ⟨le1 rfl,le1 rfl,le1 rfl,le1 rfl,le1 rfl,le1 rfl,trivial⟩ ⟨rfl,trivial⟩
 ·have hp':p=n:=by have:=A1 ht;omega
  refine k6 (k2 ?_)
  refine A4 (A3 (A5 Z Z) Z (A3 (A6 Z Z) Z (A7 ?_)))
  refine k1 (k10 ?_)
  exact B8 (I2 rfl rfl rfl) (by rw [hp'])
end Go.Proofs.YtgejaedjnbjpoaaGreatDoor
namespace Go.Proofs.YtgejaedjnbjpoaaGreatDoor
open Go Go.AL
set_option maxRecDepth 100000
theorem F83 (s:Str):(ByteArray.mk s.toArray).size=s.length:=by simp [ByteArray.size]
theorem G48 (s p:Str) (hs:s.length≤1099511627776):FnOk Tryz.prog 209 [G7 s,G7 p] (fun rs=>rs=[E3 (Lib.hasSuffix s p)]) :=
 K66 (xs:=[.string ⟨s.toArray⟩,.string ⟨p.toArray⟩]) ⟨_,rfl,rfl,rfl⟩ rfl fun w=>by simpa using Tryz.strings_HasSuffix ⟨s.toArray⟩ ⟨p.toArray⟩ w (by rw [F83];omega)
theorem C18 (s p:Str) (hs:s.length≤1099511627776):FnOk Tryz.prog 224 [G7 s,G7 p] (fun rs=>rs=[G7 (Lib.trimSuffix s p)]) :=
 K66 (xs:=[.string ⟨s.toArray⟩,.string ⟨p.toArray⟩]) ⟨_,rfl,rfl,rfl⟩ rfl fun w=>by simpa using Tryz.strings_TrimSuffix ⟨s.toArray⟩ ⟨p.toArray⟩ w (by rw [F83];omega)
theorem G49 (s:Str) (c:UInt8):FnOk Tryz.prog 231 [G7 s,G7 [c]] (fun rs=>rs=[E3 (decide (0≤Lib.indexByte s c))]) :=
 K66 (xs:=[.string ⟨s.toArray⟩,.string ⟨#[c]⟩]) ⟨_,rfl,rfl,rfl⟩ rfl fun w=>by simpa using Tryz.strings_Contains_one ⟨s.toArray⟩ c w
theorem B91 (s:Str) (hs:s.length≤1099511627776):FnOk Tryz.prog 142 [G7 s] (fun rs=>rs=[E3 (ended s)]):=by
 refine FnOk.intro Tryz.func142 (by decide) Z Z Z Z ?_
 refine k2 ?_
 refine A4 (A3 (A6 Z Z) Z (A7 ?_))
 refine k1 (k2 ?_)
 refine A4 (A3 (A5 Z Z) Z (C1 (G48 s [10] hs) Z Z Z ?_));rintro _ rfl;refine A3 (A6 Z Z) Z (A7 ?_)
 rw [C97]
 refine k1 (k10 ?_)
 exact B8 (I2 rfl rfl rfl) rfl
theorem J99 (s:Str) (hs:s.length≤1099511627776):FnOk Tryz.prog 232 [G7 s] (fun rs=>rs=[G7 (B08 s)]):=by
 refine FnOk.intro Tryz.func232 (by decide) Z Z Z Z ?_
 refine k2 ?_
 refine A4 (A3 (A6 Z Z) Z (A7 ?_))
 refine k1 (k2 ?_)
 refine A4 (A3 (A5 Z Z) Z (C1 (C18 s [10] hs) Z Z Z ?_));rintro _ rfl;refine A3 (A6 Z Z) Z (A7 ?_)
 rw [C24]
 refine k1 (k10 ?_)
 exact B8 (I2 rfl rfl rfl) rfl
theorem H18 (r:Row) (c:Int) (hr:0≤r.Marks∧r.Marks < 4294967296):FnOk Tryz.prog 188 [pRow r,F2 c] (fun rs=>rs=[E3 (s9 r c)]):=by
 refine FnOk.intro Tryz.func188 (by decide) Z Z Z Z ?_
 refine k2 ?_
 refine A4 (C7 (R1 2 Z Z Z) Z (A3 (A6 Z Z) Z (A7 ?_)))
 refine k1 (k2 (k2 ?_))
 refine A4 (A3 (A5 Z Z) Z (A3 (E6 Z Z) Z (A3 (A5 Z Z) Z (B0 Z Z Z Z (fun hg=>by rw [hg];exact A5 Z Z) ?_))));refine B0 Z Z Z Z (fun hg=>by rw [hg];exact A12 Z Z) ?_;refine A3 (B5 Z (fun h=>by first | rfl | (rw [h];rfl)) (fun h=>by first | rfl | (rw [h];rfl))) Z ?_;refine A7 ?_
 refine k1 ?_
 refine B4 rfl (fun ht=>?_) (fun ht=>?_)
 ·have h:=A0 (or_pick.symm.trans ht)
  refine k2 ?_
  refine A4 (A3 (A6 Z Z) Z (A7 ?_))
  refine k1 (k10 (k11 ?_))
  exact B8 (I2 rfl rfl rfl) (by rw [s9,if_neg (by omega),if_pos (by omega)])
 ·have h:=A1 (or_pick.symm.trans ht)
  refine k5 (k1 (k2 (k2 ?_)))
  refine A4 (A3 (A5 Z Z) Z (A3 (E6 Z Z) Z (A7 ?_)))
  refine k1 ?_
  refine B4 rfl (fun ht=>?_) (fun ht=>?_)
  ·have h2:=A0 ht
   refine k2 ?_
   refine A4 (A3 (A8 Z) Z (A3 (A9 Z Z Z) Z (A3 (F0 Z) Z (A3 (A6 Z Z) Z (A7 ?_)))))
   refine k1 (k10 (k11 ?_))
   exact B8 (I2 rfl rfl rfl) (by rw [s9,if_pos (by omega)])
  ·have h2:=A1 ht
   refine k5 (k1 (k2 ?_))
   refine D4 (by kernel_rfl) (by kernel_rfl) (B1 (A8 Z) Z Z (B1 (A9 Z Z Z) Z Z (B1 (A8 Z) Z Z (B1 (A9 Z Z Z) Z Z (B1 (A5 Z Z) Z Z (B1 (C08 Z Z (by omega)) Z Z (B1 (d6 Z Z Z (fun _=>rfl)) Z Z (B1 (I1 Z Z) Z Z (B1 (n_eql_b Z Z TyBool.out) Z Z (B1 (A6 Z Z) Z Z (L4 ?_)))))))))))
   refine k1 (k10 ?_)
   refine B8 (I2 Z Z Z) ?_
   have h3:0≤r.Marks / 2 ^ c.toNat:=Int.ediv_nonneg hr.1 (Int.pow_nonneg (by decide))
   have h4:r.Marks / 2 ^ c.toNat≤r.Marks:=Int.ediv_le_self _ hr.1
   rw [s9,if_neg (by omega),if_neg (by omega),I89 r.Marks c (by omega),H46 _ (by omega),Bool.beq_comm]
   rfl
theorem E58 (r:Row) (n:Int) (hn:1≤n∧n≤32) (hr:0≤r.Marks∧r.Marks < 4294967296):FnOk Tryz.prog 169 [pRow r,F2 n] (fun rs=>rs=[E3 (T6 n.toNat r)]):=by
 refine FnOk.intro Tryz.func169 (by decide) Z Z Z Z ?_
 refine k2 ?_
 refine A4 (C7 (R1 2 Z Z Z) Z (A3 (A6 Z Z) Z (A7 ?_)))
 refine k1 (k2 ?_)
 refine A4 (A3 (A8 Z) Z (A3 (A9 Z Z Z) Z (A3 (C08 Z Z (by omega)) Z (A3 (A5 Z Z) Z (A3 (Q4 Z Z (by omega)) Z (A3 (C08 Z Z (by omega)) Z (A3 (I1 Z Z) Z (A3 (A5 Z Z) Z (B0 Z Z Z Z (fun hg=>by rw [hg];exact A8 Z) ?_)))))))));refine B0 Z Z Z Z (fun hg=>by rw [hg];exact A9 Z Z Z) ?_;refine B0 Z Z Z Z (fun hg=>by rw [hg];exact F0 Z) ?_;refine B0 Z Z Z Z (fun hg=>by rw [hg];exact A5 Z Z) ?_;refine O4 Z Z Z (.gd (.val _)) Z (fun hg=>by obtain ⟨hg1,hg2⟩:=Y0 hg;(try rw [hg1]);(try rw [hg2]);exact A8 Z) ?_;refine O4 Z Z Z (.gd (.val _)) Z (fun hg=>by obtain ⟨hg1,hg2⟩:=Y0 hg;(try rw [hg1]);(try rw [hg2]);exact A9 Z Z Z) ?_;refine O4 Z Z Z (.gd (.val _)) Z (fun hg=>by obtain ⟨hg1,hg2⟩:=Y0 hg;(try rw [hg1]);(try rw [hg2]);exact O6 Z Z) ?_;refine B0 Z Z Z Z (fun hg=>by rw [hg];exact B5 Z (fun h=>by first | rfl | (rw [h];rfl)) (fun h=>by first | rfl | (rw [h];rfl))) ?_;refine A3 (B5 Z (fun h=>by first | rfl | (rw [h];rfl)) (fun h=>by first | rfl | (rw [h];rfl))) Z ?_;refine A3 (A6 Z Z) Z (A7 ?_)
 refine k1 (k10 ?_)
 refine B8 (I2 Z Z Z) ?_
 have h0:0≤r.Marks / 2 ^ n.toNat:=Int.ediv_nonneg hr.1 (Int.pow_nonneg (by decide))
 have e1:r.Marks.fdiv (2 ^ (min (1:Int).toNat IntKind.u32.bits))=r.Marks / 2:=by
  rw [I89 r.Marks 1 (by omega)];rfl
 have e2:(r.Marks / 2).fdiv (2 ^ (min (n - 1).toNat IntKind.u32.bits))=r.Marks / 2 ^ n.toNat:=by
  rw [I89 (r.Marks / 2) (n - 1) (by omega),Int.ediv_ediv_of_nonneg (by decide)]
  have:n.toNat=(n - 1).toNat+1:=by omega
  rw [this,Int.pow_succ,Int.mul_comm]
 have e3:(if decide ((r.Marks.fdiv (2 ^ (min (1:Int).toNat IntKind.u32.bits))).fdiv (2 ^ (min (n - 1).toNat IntKind.u32.bits))=0)=true then (if (!r.Lost)=true then true else decide (r.Marks≠0)) else false)=T6 n.toNat r:=by
  rw [e1,e2,T6]
  cases r.Lost<;>by_cases hz:r.Marks / 2 ^ n.toNat=0<;>by_cases hy:r.Marks=0<;>simp [hz,hy]
 rw [←e3]
theorem B00 (r:Row) (hs:r.Text.length≤1099511627776):FnOk Tryz.prog 171 [pRow r] (fun rs=>rs=[E3 (J7 r.Text)]):=by
 refine FnOk.intro Tryz.func171 (by decide) Z Z Z Z ?_
 refine k2 ?_
 refine A4 (C7 (R1 1 Z Z Z) Z (A3 (A6 Z Z) Z (A7 ?_)))
 refine k1 (k2 ?_)
 refine A4 (A3 (A8 Z) Z (A3 (A9 Z Z Z) Z (A3 (A89 Z Z) Z (A3 (A5 Z Z) Z (B0 Z Z Z Z (fun hg=>by rw [hg];exact A8 Z) ?_)))));refine B0 Z Z Z Z (fun hg=>by rw [hg];exact A9 Z Z Z) ?_;refine B0 Z Z Z Z (fun hg=>by have hq:=hg;(try simp at hq);rw [hg];exact K9 (J99 r.Text hs) Z Z) ?_;refine B0 Z Z Z Z (fun hg=>by have hq:=hg;(try simp at hq);rw [hg];exact K9 (G49 (B08 r.Text) 10) Z Z) ?_;refine B0 Z Z Z Z (fun hg=>by rw [hg];exact F0 Z) ?_;refine A3 (B5 Z (fun h=>by first | rfl | (rw [h];rfl)) (fun h=>by first | rfl | (rw [h];rfl))) Z ?_;refine A3 (A6 Z Z) Z (A7 ?_)
 refine k1 (k10 ?_)
 refine B8 (I2 Z Z Z) ?_
 rw [←J53]
theorem I78 (r:Row) (res:Bool) (par:Int) (hs:r.Text.length≤1099511627776) :
  FnIo Tryz.prog 172 [pRow r] [.v (.bool res),.v (.int .u32 par)] (fun rs cs=>rs=[E3 (C25 res par r)]∧cs=[.v (.bool (B64 res r)),.v (.int .u32 (B65 par r))]):=by
 refine FnIo.intro Tryz.func172 (by decide) Z Z Z Z ?_
 refine k2 ?_
 refine A4 (C7 (R1 3 Z Z Z) Z (A3 (A6 Z Z) Z (A7 ?_)))
 refine k1 (k2 ?_)
 refine A4 (A3 (A8 Z) Z (A3 (A9 Z Z Z) Z (A3 (A6 Z Z) Z (A7 ?_))))
 refine J8 ?_
 refine u9 [(3,.s (.one (.ref 3 0))),(0,.s (.one (.ref self 0))),(5,I3 (.int .u32 (F60 r)))] [(3,.box (pRow r).s1.cells),(self,.box [.p (.v (.bool res)),.p (.v (.int .u32 par))])] ?_ ?_
 ·refine k2 ?_
  refine A4 (A3 (A8 Z) Z (A3 (A9 Z Z Z) Z (A3 (F0 Z) Z (A7 ?_))))
  refine k1 ?_
  refine B4 rfl (fun ht=>?_) (fun ht=>?_)
  ·have h:r.Lost=false:=by simpa using ht
   skip
   refine A4 (A3 (A5 Z Z) Z (A3 (n_compl Z Z (fun _=>rfl)) Z (A3 (A6 Z Z) Z (A7 ?_))))
   refine k1 ?_
   rw [F60,if_neg (by rw [h];simp)]
   exact K60 ⟨le1 rfl,le1 rfl,le1 rfl,trivial⟩ ⟨rfl,rfl,trivial⟩
  ·have h:r.Lost=true:=by simpa using ht
   refine k5 (k1 ?_)
   rw [F60,if_pos h]
   exact K60 ⟨le1 rfl,le1 rfl,le1 rfl,trivial⟩ ⟨rfl,rfl,trivial⟩
 refine k2 ?_
 refine A4 (A3 (A5 Z Z) Z (A3 (B2 Z) Z (A3 (A8 Z) Z (A3 (A9 Z Z Z) Z (A3 (A5 Z Z) Z (A3 (d6 Z Z Z (fun _=>rfl)) Z (A3 (I1 Z Z) Z (A3 (A5 Z Z) Z (B0 Z Z Z Z (fun hg=>by rw [hg];exact A8 Z) ?_)))))))));refine B0 Z Z Z Z (fun hg=>by rw [hg];exact A9 Z Z Z) ?_;refine B0 Z Z Z Z (fun hg=>by rw [hg];exact A5 Z Z) ?_;refine O4 Z Z Z (.gd (.val _)) Z (fun hg=>by obtain ⟨hg1,hg2⟩:=Y0 hg;(try rw [hg1]);(try rw [hg2]);exact A5 Z Z) ?_;refine O4 Z Z Z (.gd (.val _)) Z (fun hg=>by obtain ⟨hg1,hg2⟩:=Y0 hg;(try rw [hg1]);(try rw [hg2]);exact B2 Z) ?_;refine O4 Z Z Z (.gd (.val _)) Z (fun hg=>by obtain ⟨hg1,hg2⟩:=Y0 hg;(try rw [hg1]);(try rw [hg2]);exact A8 Z) ?_;refine O4 Z Z Z (.gd (.val _)) Z (fun hg=>by obtain ⟨hg1,hg2⟩:=Y0 hg;(try rw [hg1]);(try rw [hg2]);exact A9 Z Z Z) ?_;refine O4 Z Z Z (.gd (.val _)) Z (fun hg=>by obtain ⟨hg1,hg2⟩:=Y0 hg;(try rw [hg1]);(try rw [hg2]);exact F0 Z) ?_;refine B0 Z Z Z Z (fun hg=>by rw [hg];exact B5 Z (fun h=>by first | rfl | (rw [h];rfl)) (fun h=>by first | rfl | (rw [h];rfl))) ?_;refine A3 (B5 Z (fun h=>by first | rfl | (rw [h];rfl)) (fun h=>by first | rfl | (rw [h];rfl))) Z ?_;refine A3 (A6 Z Z) Z (A7 ?_)
 refine k1 (k2 (k2 ?_))
 refine A4 (A3 (A8 Z) Z (A3 (A9 Z Z Z) Z (C1 (B91 r.Text hs) Z Z Z ?_)));rintro _ rfl;refine A3 (F0 Z) Z (A7 ?_)
 have hok:(if decide (H48 par (F60 r)=0)=true then (if r.Lost=true then true else !res) else false)=C25 res par r:=by
  rw [C25]
  cases r.Lost<;>cases res<;>by_cases h:H48 par (F60 r)=0<;>simp [h]
 refine k1 ?_
 refine B4 rfl (fun ht=>?_) (fun ht=>?_)
 ·have h:ended r.Text=false:=by simpa using ht
  refine k2 ?_
  refine A4 (A3 (A5 Z Z) Z (A3 (B2 Z) Z (A3 (A8 Z) Z (A3 (A9 Z Z Z) Z (A3 (A5 Z Z) Z (A3 (d6 Z Z Z (fun _=>rfl)) Z (A3 (B2 Z) Z (A3 (A8 Z) Z (E5 (B7 TySz.out Z Z Z Z Z Z) (A7 ?_))))))))))
  refine k1 ?_
  refine A4 (A3 (A5 Z Z) Z (A3 (A5 Z Z) Z (A3 (B2 Z) Z (A3 (A8 Z) Z (A3 (A9 Z Z Z) Z (A3 (A5 Z Z) Z (B0 Z Z Z Z (fun hg=>by rw [hg];exact A8 Z) ?_)))))));refine B0 Z Z Z Z (fun hg=>by rw [hg];exact A9 Z Z Z) ?_;refine B0 Z Z Z Z (fun hg=>by rw [hg];exact F0 Z) ?_;refine A3 (B5 Z (fun h=>by first | rfl | (rw [h];rfl)) (fun h=>by first | rfl | (rw [h];rfl))) Z ?_;refine A3 (B2 Z) Z (A3 (A8 Z) Z (E5 (B7 TySz.out Z Z Z Z Z Z) (A7 ?_)))
  refine k1 (k2 ?_)
  refine A4 (A3 (A5 Z Z) Z (A3 (A6 Z Z) Z (A7 ?_)))
  refine k1 (k10 ?_)
  refine io_ret (I2 rfl rfl rfl) rfl rfl ⟨by rw [←hok];rfl,?_⟩
  have ea:B64 res r=(res||!r.Lost):=by rw [B64,h];rfl
  have ep:B65 par r=J9 par (F60 r):=by rw [B65,h];rfl
  rw [ea,ep]
  cases res<;>rfl
 ·have h:ended r.Text=true:=by simpa using ht
  refine k5 (k1 (k2 ?_))
  refine A4 (A3 (A5 Z Z) Z (A3 (A6 Z Z) Z (A7 ?_)))
  refine k1 (k10 ?_)
  exact io_ret (I2 rfl rfl rfl) rfl rfl ⟨by rw [←hok];rfl,by rw [B64,B65,if_pos h,if_pos h]⟩
theorem F84 (t:Table) (hr:K3 t.Rows) (hl:t.Rows.length≤536870911) (hx:V7 t.Rows≤536870912):FnOk Tryz.prog 109 [pTable t] (fun rs=>rs=[F2 (J2 t)]):=by
 refine FnOk.intro Tryz.func109 (by decide) Z Z Z Z ?_
 refine k2 ?_
 refine A4 (C7 (R1 1 Z Z Z) Z (A3 (A6 Z Z) Z (A7 ?_)))
 refine k1 (k2 (k2 ?_))
 refine A4 (A3 (A8 Z) Z (A3 (A9 Z Z Z) Z (A3 (E6 Z Z) Z (A3 (A5 Z Z) Z (B0 Z Z Z Z (fun hg=>by rw [hg];exact A8 Z) ?_)))));refine B0 Z Z Z Z (fun hg=>by rw [hg];exact A9 Z Z Z) ?_;refine B0 Z Z Z Z (fun hg=>by rw [hg];exact R5 Z Z) ?_;refine A3 (B5 Z (fun h=>by first | rfl | (rw [h];rfl)) (fun h=>by first | rfl | (rw [h];rfl))) Z ?_;refine A7 ?_
 refine k1 ?_
 refine B4 rfl (fun ht=>?_) (fun ht=>?_)
 ·have h:=A0 (or_pick.symm.trans ht)
  refine k2 ?_
  refine A4 (A3 (A6 Z Z) Z (A7 ?_))
  refine k1 (k10 (k11 ?_))
  exact B8 (I2 rfl rfl rfl) (by rw [J2,if_pos h])
 ·have h:=A1 (or_pick.symm.trans ht)
  refine K4 [(1,.s (.one (.ref 1 0)))] [(1,.box [.p (.v (.int .i64 t.Parents)),.p (.list Row 3 rowC t.Rows)])] (K60 ⟨le1 rfl,trivial⟩ ⟨rfl,trivial⟩) ?_
  refine k5 (k1 (k2 (k2 ?_)))
  refine A4 (A3 (A8 Z) Z (A3 (A9 Z Z Z) Z (A3 (F1 Z (.pure _ _ _ _)) Z (A3 (A5 Z Z) Z (A7 ?_)))))
  refine k1 (k3 ?_)
  refine E1 (X:=Nat) (fun i=>([(1,.s (.one (.ref 1 0))),(17,D2 Row 3 rowC t.Rows),(18,C0 t.Rows.length),(19,C0 i)],[(1,.box [.p (.v (.int .i64 t.Parents)),.p (.list Row 3 rowC t.Rows)])])) (fun i=>i≤t.Rows.length∧P3 t.Rows t.Parents.toNat=P3 (t.Rows.drop i) t.Parents.toNat) (fun i=>t.Rows.length - i) 0 ⟨Nat.zero_le _,rfl⟩ (K60 ⟨le1 rfl,le1 rfl,le1 rfl,le1 rfl,trivial⟩ ⟨rfl,trivial⟩) ?_
  rintro i ⟨hi,hp⟩
  dsimp only at hi hp ⊢
  refine k2 ?_
  refine A4 (A3 (E6 Z Z) Z (A7 ?_))
  refine k1 (k2 ?_)
  refine B4 rfl (fun ht=>?_) (fun ht=>?_)
  ·have hlt:i < t.Rows.length:=by have:=A0 ht;omega
   have hv:t.Rows[i]?=some t.Rows[i]:=by simp [hlt]
   rw [L03 hlt,C95] at hp
   refine k5 (k1 (k2 (k3 (k2 ?_))))
   refine A4 (A3 (B9 Z (.pure _ _ _ _) Z (by omega) hv) Z (A3 (F4 Z Z) Z (C7 (F9 4 Z) Z (E5 (B7 TySz.out Z Z Z Z Z Z) (A7 ?_)))))
   refine k1 (k2 ?_)
   refine A4 (A3 (D5 Z Z Z) Z (A3 (A8 Z) Z (A3 (A9 Z Z Z) Z (C1 (E58 t.Rows[i] t.Parents (by omega) (hr _ (L15 hlt))) Z Z Z ?_))));rintro _ rfl;refine A3 (F0 Z) Z (A7 ?_)
   refine k1 ?_
   refine B4 rfl (fun ht=>?_) (fun ht=>?_)
   ·have h2:T6 t.Parents.toNat t.Rows[i]=false:=by simpa using ht
    rw [h2,Bool.false_and] at hp
    refine k2 ?_
    refine A4 (A3 (A6 Z Z) Z (A7 ?_))
    refine k1 (k10 (k12 (k11 (k11 (k12 (k11 ?_))))))
    exact B8 (I2 rfl rfl rfl) (by rw [J2,if_neg h,if_pos hp])
   ·have h2:T6 t.Parents.toNat t.Rows[i]=true:=by simpa using ht
    rw [h2,Bool.true_and] at hp
    refine k5 (k4 (k1 ?_))
    refine A4 (A3 (C6 Z Z (by omega)) Z (A3 (A5 Z Z) Z (A7 ?_)))
    refine k1 ?_
    exact ⟨i+1,⟨by omega,hp⟩,by omega,K60 ⟨le1 rfl,le1 rfl,le1 rfl,le1 rfl,trivial⟩ ⟨rfl,trivial⟩⟩
  ·have hil:i=t.Rows.length:=by have:=A1 ht;omega
   rw [hil,L07 (Nat.le_refl _)] at hp
   have hm:P3 t.Rows t.Parents.toNat=true:=hp
   refine K4 [(1,.s (.one (.ref 1 0)))] [(1,.box [.p (.v (.int .i64 t.Parents)),.p (.list Row 3 rowC t.Rows)])] (K60 ⟨le1 rfl,trivial⟩ ⟨rfl,trivial⟩) ?_
   clear hil ht hp hi
   have hat:=E85 t.Rows t.Parents.toNat (by omega) hm hr
   refine k6 (k2 ?_)
   refine A4 (C7 (F9 5 Z) Z (A7 ?_))
   refine k1 (k2 (k2 ?_))
   refine A4 (A3 (A8 Z) Z (A3 (A9 Z Z Z) Z (A3 (F1 Z (.pure _ _ _ _)) Z (A3 (A5 Z Z) Z (A7 ?_)))))
   refine k1 (k3 ?_)
   refine E1 (X:=Nat × Bool × Int) (fun x=>([(1,.s (.one (.ref 1 0))),(5,.s (.one (.ref 5 0))),(30,D2 Row 3 rowC t.Rows),(31,C0 t.Rows.length),(32,C0 x.1)],[(1,.box [.p (.v (.int .i64 t.Parents)),.p (.list Row 3 rowC t.Rows)]),(5,.box [.p (.v (.bool x.2.1)),.p (.v (.int .u32 x.2.2))])])) (fun x=>x.1≤t.Rows.length∧Q1 false 0 t.Rows=Q1 x.2.1 x.2.2 (t.Rows.drop x.1)) (fun x=>t.Rows.length - x.1) (0,false,0) ⟨Nat.zero_le _,rfl⟩ (K60 ⟨le1 rfl,le1 rfl,le1 rfl,le1 rfl,le1 rfl,trivial⟩ ⟨rfl,rfl,trivial⟩) ?_
   rintro ⟨i,res,par⟩ ⟨hi,hp⟩
   dsimp only at hi hp ⊢
   refine k2 ?_
   refine A4 (A3 (E6 Z Z) Z (A7 ?_))
   refine k1 (k2 ?_)
   refine B4 rfl (fun ht=>?_) (fun ht=>?_)
   ·have hlt:i < t.Rows.length:=by have:=A0 ht;omega
    have hv:t.Rows[i]?=some t.Rows[i]:=by simp [hlt]
    have htl:=H45 t.Rows _ (L15 hlt)
    rw [L03 hlt,Q1] at hp
    refine k5 (k1 (k2 (k3 (k2 ?_))))
    refine A4 (A3 (B9 Z (.pure _ _ _ _) Z (by omega) hv) Z (A3 (F4 Z Z) Z (C7 (F9 7 Z) Z (E5 (B7 TySz.out Z Z Z Z Z Z) (A7 ?_)))))
    refine k1 (k2 ?_)
    by_cases hs:J7 t.Rows[i].Text=true
    ·refine A4 (A3 (D5 Z Z Z) Z (C1 (B00 t.Rows[i] (by omega)) Z Z Z ?_));rintro _ rfl;refine A3 (F0 Z) Z (A3 (A5 Z Z) Z (X1 Z Z Z (by rw [hs];rfl) ?_));refine A3 (D5 Z Z Z) Z (X1 Z Z Z (by rw [hs];rfl) ?_);refine H02 (I78 t.Rows[i] res par (by omega)) Z Z Z Z Z Z ?_;rintro _ _ ⟨rfl,rfl⟩;refine B0 Z Z Z Z (fun hg=>by rw [hg];exact F0 Z) ?_;refine A3 (B5 Z (fun h=>by first | rfl | (rw [h];rfl)) (fun h=>by first | rfl | (rw [h];rfl))) Z ?_;refine A7 ?_
     refine k1 ?_
     refine B4 rfl (fun ht=>?_) (fun ht=>?_)
     ·have h2:C25 res par t.Rows[i]=false:=by rw [hs] at ht;simpa using ht
      rw [hs,h2,Bool.true_and,Bool.false_and] at hp
      refine k2 ?_
      refine A4 (A3 (A6 Z Z) Z (A7 ?_))
      refine k1 (k10 (k12 (k11 (k11 (k12 (k11 ?_))))))
      exact B8 (I2 rfl rfl rfl) (by rw [J2,if_neg h,if_neg (by simp [hm]),if_pos (by rw [←hat];exact hp)])
     ·have h2:C25 res par t.Rows[i]=true:=by rw [hs] at ht;simpa using ht
      rw [hs,h2,Bool.true_and,Bool.true_and] at hp
      refine k5 (k4 (k1 ?_))
      refine A4 (A3 (C6 Z Z (by omega)) Z (A3 (A5 Z Z) Z (A7 ?_)))
      refine k1 ?_
      exact ⟨(i+1,_,_),⟨by dsimp only;omega,hp⟩,by dsimp only;omega,K60 ⟨le1 rfl,le1 rfl,le1 rfl,le1 rfl,le1 rfl,trivial⟩ ⟨rfl,rfl,trivial⟩⟩
    ·have hs':J7 t.Rows[i].Text=false:=by simpa using hs
     refine A4 (A3 (D5 Z Z Z) Z (C1 (B00 t.Rows[i] (by omega)) Z Z Z ?_));rintro _ rfl;refine A3 (F0 Z) Z (A3 (A5 Z Z) Z (B0 Z Z Z Z (fun hg=>by rw [hg];exact D5 Z Z Z) ?_));refine T9 Z Z Z (by rw [hs'];decide) Z ?_;refine T9 Z Z Z (by rw [hs'];decide) Z ?_;refine A3 (B5 (q:=true) Z (fun h=>rfl) (fun h=>by rw [hs'] at h;cases h)) Z ?_;refine A7 ?_
     rw [hs',Bool.false_and,Bool.false_and] at hp
     refine k1 ?_
     refine B4 rfl (fun ht=>?_) (fun ht=>?_)
     ·refine k2 ?_
      refine A4 (A3 (A6 Z Z) Z (A7 ?_))
      refine k1 (k10 (k12 (k11 (k11 (k12 (k11 ?_))))))
      exact B8 (I2 rfl rfl rfl) (by rw [J2,if_neg h,if_neg (by simp [hm]),if_pos (by rw [←hat];exact hp)])
     ·rw [hs'] at ht;cases ht
   ·have hil:i=t.Rows.length:=by have:=A1 ht;omega
    rw [hil,L07 (Nat.le_refl _)] at hp
    have hp':Q1 false 0 t.Rows=true:=hp
    refine k6 (k2 ?_)
    refine A4 (A3 (A6 Z Z) Z (A7 ?_))
    refine k1 (k10 ?_)
    exact B8 (I2 rfl rfl rfl) (by rw [J2,if_neg h,if_neg (by simp [hm]),if_neg (by rw [←hat,hp'];simp)])
def isBld (ob:Obs) (xs:Str):Prop:=(∃a,(a=.p (.v (.pointer none))∨a=.ref 700 0)∧C2 ob 700=some (.tbx 144 [a,.buf 701 UInt8 1 u8C xs]))∧C2 ob 701=some (.spare xs.length 1 5)
abbrev bldObs (ob:Obs) (ys xs:Str):Obs:=(700,.tbx 144 [.ref 700 0,.buf 701 UInt8 1 u8C xs])::(701,.spare xs.length 1 5)::Obs.forget 701 ((700,.tbx 144 [.ref 700 0,.buf 701 UInt8 1 u8C ys])::ob)
def I79:Go.Shelf.Ren:=⟨fun | 240=>165 | 276=>227 | n=>n,fun | 72=>144 | 70=>142 | 164=>278 | 37=>133 | n=>n,fun n=>n⟩
theorem ccLays:Go.Proofs.Lays.n240 Tryz.prog I79:={
 mixed:=by kernel_rfl
 f240:=Tryz.func165.trans (congrArg some (by kernel_rfl))
 f276:=Tryz.func227.trans (congrArg some (by kernel_rfl))
 t0:=Tryz.underlying0
 a0:=Tryz.isAgg0
 z0:=Tryz.sizeOf0
 v0:=Tryz.zeroValue0
 t4:=Tryz.underlying4
 a4:=Tryz.isAgg4
 z4:=Tryz.sizeOf4
 v4:=Tryz.zeroValue4
 t9:=Tryz.underlying9
 a9:=Tryz.isAgg9
 z9:=Tryz.sizeOf9
 v9:=Tryz.zeroValue9
 t20:=Tryz.underlying20
 a20:=Tryz.isAgg20
 z20:=Tryz.sizeOf20
 v20:=Tryz.zeroValue20
 t70:=Tryz.underlying142
 a70:=Tryz.isAgg142
 z70:=Tryz.sizeOf142
 v70:=Tryz.zeroValue142
 t72:=Tryz.underlying144
 a72:=Tryz.isAgg144
 z72:=Tryz.sizeOf144
 v72:=Tryz.zeroValue144
 t164:=Tryz.underlying278
 a164:=Tryz.isAgg278
 z164:=Tryz.sizeOf278
 v164:=Tryz.zeroValue278 }
theorem ccX:Builder.X72 Tryz.prog I79:={
 sizeBuilder:=by kernel_rfl
 liesBuilder:=by kernel_rfl }
theorem C19 {gf:Fr} {ob:Obs} {a t:TC} (hk:C2 ob 700=some (.tbx 144 [a,t])) (ha:a=.p (.v (.pointer none))∨a=.ref 700 0) :
  AL.Met Tryz.prog 165 [.one (.ref 700 0)] gf ob [] (fun rs ob'=>rs=[]∧ob'=(700,.tbx 144 [.ref 700 0,t])::ob) :=
 AL.Met.copyCheck ⟨_,rfl,rfl,rfl⟩ (fun b w h1 h2 h3=>Any.Builder_copyCheck_fresh (ρ:=I79) ccLays ccX b w h1 h2 h3) (fun b w h=>Any.Builder_copyCheck_used (ρ:=I79) ccLays ccX b w h) hk ha
theorem P5 {gf:Fr} {ob:Obs} {xs s:Str} (hb:isBld ob xs) (hlen:xs.length+s.length≤1073741824) :
  AL.Met Tryz.prog 88 [.one (.ref 700 0),.one (.p (.v (.string ⟨s.toArray⟩)))] gf ob [701] (fun rs ob'=>rs=[.one (.p (.v (.int .i64 s.length))),.one (.p (.v .nilIface))]∧ob'=bldObs ob xs (xs++s)):=by
 obtain ⟨⟨a,ha,hk⟩,hk1⟩:=hb
 refine AL.Met.intro Tryz.func88 (by decide) Z Z Z ?_
 refine k2 ?_
 refine A4 (A3 (A6 Z Z) Z (A3 (A6 Z Z) Z (A7 ?_)))
 refine k1 (k2 ?_)
 refine A4 (A3 (A5 Z Z) Z (T3 (C19 hk ha) Z Z Z ?_));rintro _ _ ⟨rfl,rfl⟩;refine A7 ?_
 refine k1 (k2 ?_)
 refine A4 (A3 (A5 Z Z) Z (A3 (A5 Z Z) Z (A3 (B2 Z) Z (A3 (A8 Z) Z (A3 (D68 Z Z Z) Z (A3 (A5 Z Z) Z (C7 (C33 TyStr.out Z hk1 Z (by first | omega | (simp;omega)) Z) Z (A3 (B2 Z) Z (A3 (A8 Z) Z (E5 (C71 TySz.out Z Z Z Z Z Z) (A7 ?_)))))))))))
 refine k1 (k2 ?_)
 refine A4 (A3 (A5 Z Z) Z (A3 (E7 Z) Z (A3 (A6 Z Z) Z (A3 (A6 Z Z) Z (A7 ?_)))))
 refine k1 (k10 ?_)
 exact G8 (A75 rfl rfl rfl) (by repeat (first | exact C5 | refine tail_cons rfl ?_ | refine D3 _ ?_)) (fun _ _ h=>h) ⟨rfl,rfl⟩
theorem C20 {gf:Fr} {ob:Obs} {xs:Str} {c:UInt8} (hb:isBld ob xs) (hlen:xs.length+1≤1073741824) :
  AL.Met Tryz.prog 144 [.one (.ref 700 0),.one (.p (.v (.int .u8 c.toNat)))] gf ob [701] (fun rs ob'=>rs=[.one (.p (.v .nilIface))]∧ob'=bldObs ob xs (xs++[c])):=by
 obtain ⟨⟨a,ha,hk⟩,hk1⟩:=hb
 refine AL.Met.intro Tryz.func144 (by decide) Z Z Z ?_
 refine k2 ?_
 refine A4 (A3 (A6 Z Z) Z (A7 ?_))
 refine k1 (k2 ?_)
 refine A4 (A3 (A5 Z Z) Z (T3 (C19 hk ha) Z Z Z ?_));rintro _ _ ⟨rfl,rfl⟩;refine A7 ?_
 refine k1 (k2 ?_)
 refine A4 (A3 (A5 Z Z) Z (A3 (A5 Z Z) Z (A3 (B2 Z) Z (A3 (A8 Z) Z (A3 (D68 Z Z Z) Z (A3 (A5 Z Z) Z (A3 (E4 (c:=u8C) (ys:=[c]) (F3 Z Z Z Z I6) Z Z Z) Z (C7 (L0 Z hk1 Z (.pure _ _ _ _) (by (simp;omega)) Z) Z (A3 (B2 Z) Z (A3 (A8 Z) Z (E5 (C71 TySz.out Z Z Z Z Z Z) (A7 ?_))))))))))))
 refine k1 (k2 ?_)
 refine A4 (A3 (A6 Z Z) Z (A7 ?_))
 refine k1 (k10 ?_)
 exact G8 (R6 rfl rfl) (by repeat (first | exact C5 | refine tail_cons rfl ?_ | refine D3 _ ?_)) (fun _ _ h=>h) ⟨rfl,rfl⟩
end Go.Proofs.YtgejaedjnbjpoaaGreatDoor
