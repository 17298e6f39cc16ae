/- Walks of the program's functions. -/
import Derived.Test.YtbiadkkamhpdnaaGreatDoorTy
import Derived.Test.YtbiadkkamhpdnaaGreatDoorFs
import Derived.Test.YtbiadkkamhpdnaaGreatDoorSh
set_option linter.unusedSimpArgs false
namespace Go.Proofs.YtbiadkkamhpdnaaGreatDoor
open Go Go.AL
set_option maxRecDepth 100000
theorem H91 (p:Int):0≤IntKind.u64.wrap p:=by simp [IntKind.wrap,IntKind.signed,IntKind.bits];omega
theorem J71 (b:Str) (hb:b.length≤536870912):FnOk Tryz.prog 70 [G7 b] (fun rs=>rs=[Z6 (C1 b)]):=by
 refine FnOk.intro Tryz.func70 (by decide) Z Z Z Z ?_
 refine k2 ?_
 refine A4 (A3 (A6 Z Z) Z (A7 ?_))
 refine k1 (k2 ?_)
 refine A4 (C7 (B77 3 _ L0 Z) Z (A7 ?_))
 refine k1 (k2 ?_)
 refine A4 (A3 (A6 Z Z) Z (A7 ?_))
 refine k1 (k2 (k2 ?_))
 refine A4 (A3 (A6 Z Z) Z (A7 ?_))
 refine k1 (k3 ?_)
 refine E4 (X:=Nat × Nat × List Str) (fun x=>([(0,J0 b),(3,.s (.one (.buf 3 Str 1 L0 x.2.2))),(4,C2 x.2.1),(5,C2 x.1)],[(3,.spare x.2.2.length 1 9)]))
  (fun x=>x.1≤b.length∧x.2.1≤x.1∧x.2.2.length≤x.1∧(x.1=b.length→x.2.1=x.1)∧x.2.2++F8 ((b.drop x.2.1).take (x.1 - x.2.1)) (b.drop x.1)=C1 b) (fun x=>b.length - x.1) (0,0,[]) (by simp [C1]) ?_ ?_
 ·exact K19 ⟨⟨_,rfl,.same _⟩,⟨_,rfl,.same _⟩,⟨_,rfl,.same _⟩,⟨_,rfl,.same _⟩,trivial⟩ ⟨rfl,trivial⟩
 ·rintro ⟨i,from',out⟩ ⟨hi,hf,ho,he,hp⟩
  dsimp only at hi hf ho he hp ⊢
  refine k2 (k2 ?_)
  refine A4 (A3 (A5 Z Z) Z (A3 (A5 Z Z) Z (A3 (E3 Z) Z (A3 (E5 Z Z) Z (A7 ?_)))))
  refine k1 ?_
  refine B4 rfl (fun ht=>?_) (fun ht=>?_)
  ·have hlt:i < b.length:=by simpa using ht
   have hv:b[i]?=some b[i]:=by simp [hlt]
   refine k5 (k1 (k2 (k3 (k2 ?_))))
   refine A4 (A3 (A5 Z Z) Z (A3 (A5 Z Z) Z (A3 (L3 Z Z (by omega) hv) Z (A3 (J3 Z Z) Z (A3 (A5 Z Z) Z (B0 Z Z Z Z (fun hg=>by rw [hg];exact A5 Z Z) ?_))))));refine B0 Z Z Z Z (fun hg=>by have hq:=hg;(try simp at hq);rw [hg];exact C6 Z Z (by omega)) ?_;refine B0 Z Z Z Z (fun hg=>by rw [hg];exact A5 Z Z) ?_;refine B0 Z Z Z Z (fun hg=>by rw [hg];exact E3 Z) ?_;refine B0 Z Z Z Z (fun hg=>by rw [hg];exact J3 Z Z) ?_;refine A3 (B5 Z (fun h=>by first | rfl | (rw [h];rfl)) (fun h=>by first | rfl | (rw [h];rfl))) Z ?_;refine A7 ?_
   refine k1 ?_
   refine B4 rfl (fun ht2=>?_) (fun ht2=>?_)
   ·refine k2 ?_
    refine A4 (A3 (A5 Z Z) Z (A3 (A5 Z Z) Z (A3 (A5 Z Z) Z (A3 (A5 Z Z) Z (A3 (C6 Z Z (by omega)) Z (A3 (C61 Z Z Z (by omega) (by omega) (by omega)) Z (A3 (E2 (c:=L0) (ys:=[_]) (E9 Z Z Z Z I4) Z Z Z) Z (C7 (L1 Z Z Z (.pure _ _ _ _) (by simp;omega) Z) Z (A3 (A6 Z Z) Z (A7 ?_))))))))))
    refine k1 ?_
    refine A4 (A3 (A5 Z Z) Z (A3 (C6 Z Z (by omega)) Z (A3 (A6 Z Z) Z (A7 ?_))))
    refine k4 (k1 ?_)
    refine A4 (A3 (A5 Z Z) Z (A3 (C6 Z Z (by omega)) Z (A3 (A6 Z Z) Z (A7 ?_))))
    refine k1 ?_
    refine ⟨(i+1,i+1,_),⟨?_,?_,?_,?_,?_⟩,?_,K19 ⟨⟨_,rfl,.same _⟩,⟨_,rfl,.same _⟩,⟨_,rfl,.same _⟩,⟨_,rfl,.same _⟩,trivial⟩ ⟨rfl,trivial⟩⟩
    all_goals dsimp only
    ·omega
    ·omega
    ·simp;omega
    ·omega
    ·have hc:b[i]=10∨i+1=b.length:=by
      simp only [u8_lf] at ht2
      by_cases h:b[i]=10
      ·exact .inl h
      ·simp [h] at ht2;exact .inr (by omega)
     rw [I20,K62,L12,List.take_zero,←F81 b from' i hf hlt,K68,←hp,K64 hlt,W5]
     rcases hc with h | h
     ·rw [if_pos h];rfl
     ·have hd:b.drop (i+1)=[]:=K66 (by omega)
      rw [hd]
      split
      ·rfl
      ·rw [show F8 ([]:Str) []=[] from rfl,G44 _ (by simp)];simp
    ·omega
   ·refine k5 (k4 (k1 ?_))
    refine A4 (A3 (A5 Z Z) Z (A3 (C6 Z Z (by omega)) Z (A3 (A6 Z Z) Z (A7 ?_))))
    refine k1 ?_
    refine ⟨(i+1,from',out),⟨?_,?_,?_,?_,?_⟩,?_,K19 ⟨⟨_,rfl,.same _⟩,⟨_,rfl,.same _⟩,⟨_,rfl,.same _⟩,⟨_,rfl,.same _⟩,trivial⟩ ⟨rfl,trivial⟩⟩
    all_goals dsimp only
    ·omega
    ·omega
    ·omega
    ·intro h
     simp [show (i:Int)+1=(b.length:Int) by omega] at ht2
    ·have hc:b[i]≠10:=fun h=>by simp [h] at ht2
     rw [←F81 b from' i hf hlt,←hp,K64 hlt,W5,if_neg hc]
    ·omega
  ·refine k6 (k2 ?_)
   refine A4 (A3 (A5 Z Z) Z (A3 (A6 Z Z) Z (A7 ?_)))
   refine k1 (k10 ?_)
   refine B8 (J6 Z Z Z) ?_
   have hi':i=b.length:=by simp at ht;omega
   subst hi'
   have:=he rfl
   subst this
   rw [L12,List.take_zero,K66 (Nat.le_refl _)] at hp
   rw [←hp];simp [F8]
end Go.Proofs.YtbiadkkamhpdnaaGreatDoor
namespace Go.Proofs.YtbiadkkamhpdnaaGreatDoor
open Go Go.AL
set_option maxRecDepth 100000
theorem u64_in {n:Int} (h:0≤n∧n < 18446744073709551616):IntKind.u64.wrap n=n:=by simp [IntKind.wrap,IntKind.signed,IntKind.bits];omega
def Z7 (a n:Int):Int:=IntKind.u64.wrap a % n
theorem A27 (a:Int) {n:Int} (h:1≤n):0≤Z7 a n∧Z7 a n < n:=⟨Int.emod_nonneg _ (by omega),Int.emod_lt_of_pos _ (by omega)⟩
theorem G28 (a n:Int) (hn:1≤n) (hn':n≤9223372036854775807):FnOk Tryz.prog 18 [F0 a,F0 n] (fun rs=>rs=[F0 (Z7 a n)]):=by
 refine FnOk.intro Tryz.func18 (by decide) Z Z Z Z ?_
 refine k2 ?_
 refine A4 (A3 (A6 Z Z) Z (A7 ?_))
 refine k1 (k2 ?_)
 have h1:IntKind.u64.wrap n=n:=u64_in (by omega)
 refine A4 (A3 (A5 Z Z) Z (A3 (R9 Z) Z (A3 (A5 Z Z) Z (A3 (R9 Z) Z (A3 (G76 Z Z (by (rw [h1];omega))) Z ?_)))));refine A3 (R9 Z) Z (A3 (A6 Z Z) Z (A7 ?_))
 refine k1 (k10 ?_)
 refine B8 (J6 Z Z Z) ?_
 have h2:=H91 a
 have h3:(IntKind.u64.wrap a).tmod n=IntKind.u64.wrap a % n:=Int.tmod_eq_emod_of_nonneg h2
 have h4:=A27 a hn
 unfold Z7 at *
 rw [h1,h3,G80 ⟨by omega,by omega⟩]
def xor64 (a b:Int):Int:=IntKind.u64.wrap ((BitVec.ofInt IntKind.u64.bits a ^^^ BitVec.ofInt IntKind.u64.bits b).toNat:Int)
def shr64 (a n:Int):Int:=a.fdiv (2 ^ (min n.toNat IntKind.u64.bits))
def at0 (k:Int):Int:=IntKind.u64.wrap (IntKind.u64.wrap (k+1)*11400714819323198485)
def at1 (raw:List Int) (k:Int):Int:=if 0 < raw.length then xor64 (at0 k) (IntKind.u64.wrap (raw.getD (k.tmod raw.length).toNat 0)) else at0 k
def at2 (x:Int):Int:=IntKind.u64.wrap (xor64 x (shr64 x 31)*13787848793156543929)
def n6 (raw:List Int) (k:Int):Int:=IntKind.i64.wrap (shr64 (xor64 (at2 (at1 raw k)) (shr64 (at2 (at1 raw k)) 29)) 1)
theorem F58 (raw:List Int) (k:Int) (h0:0≤k) (h1:k≤1099511627776):FnOk Tryz.prog 25 [S9 raw,F0 k] (fun rs=>rs=[F0 (n6 raw k)]):=by
 refine FnOk.intro Tryz.func25 (by decide) Z Z Z Z ?_
 refine I56 (t:=0) rfl (.pure _ _ _ _) fun hlen=>?_
 refine k2 ?_
 refine A4 (A3 (A6 Z Z) Z (A7 ?_))
 refine k1 (k2 ?_)
 refine A4 (A3 (A5 Z Z) Z (A3 (C6 Z Z (by omega)) Z (A3 (R9 Z) Z (A3 (G13 Z Z) Z (A3 (A6 Z Z) Z (A7 ?_))))))
 refine J9 ?_
 refine u7 [(0,D3 Int 1 G9 raw),(1,C2 k),(5,I8 (.int .u64 (at1 raw k)))] [] ?_ ?_
 ·refine k2 ?_
  refine A4 (A3 (A5 Z Z) Z (A3 (F4 Z (.pure _ _ _ _)) Z (A3 (Q1 Z Z) Z (A7 ?_))))
  refine k1 ?_
  refine B4 rfl (fun ht=>?_) (fun ht=>?_)
  ·have hpos:0 < raw.length:=by have:=A0 ht;omega
   have hm0:0≤k.tmod raw.length:=Int.tmod_nonneg _ h0
   have hm1:k.tmod raw.length < raw.length:=Int.tmod_lt_of_pos _ (by omega)
   have hv:raw[(k.tmod raw.length).toNat]?=some (raw.getD (k.tmod raw.length).toNat 0):=by
    rw [K60,K57 (by omega)];rfl
   skip
   refine A4 (A3 (A5 Z Z) Z (A3 (A5 Z Z) Z (A3 (A5 Z Z) Z (A3 (A5 Z Z) Z (A3 (F4 Z (.pure _ _ _ _)) Z (A3 (G76 Z Z (by omega)) Z (A3 (C0 Z (.pure _ _ _ _) Z (by omega) hv) Z (A3 (C9 Z Z) Z (A3 (R9 Z) Z (A3 (l8 Z Z Z (fun _=>rfl)) Z (A3 (A6 Z Z) Z (A7 ?_))))))))))))
   refine k1 ?_
   rw [at1,if_pos hpos]
   exact K19 ⟨le1 rfl,le1 rfl,le1 rfl,trivial⟩ trivial
  ·have hpos:¬0 < raw.length:=by have:=A1 ht;omega
   refine k5 (k1 ?_)
   rw [at1,if_neg hpos]
   exact K19 ⟨le1 rfl,le1 rfl,le1 rfl,trivial⟩ trivial
 ·refine k2 ?_
  refine A4 (A3 (A5 Z Z) Z (A3 (A5 Z Z) Z (A3 (C59 Z Z (by omega)) Z (A3 (l8 Z Z Z (fun _=>rfl)) Z (A3 (G13 Z Z) Z (A3 (A6 Z Z) Z (A7 ?_)))))))
  refine k1 (k2 ?_)
  refine A4 (A3 (A5 Z Z) Z (A3 (A5 Z Z) Z (A3 (C59 Z Z (by omega)) Z (A3 (l8 Z Z Z (fun _=>rfl)) Z (A3 (C59 Z Z (by omega)) Z (A3 (R9 Z) Z (A3 (A6 Z Z) Z (A7 ?_))))))))
  refine k1 (k10 ?_)
  exact B8 (J6 rfl rfl rfl) rfl
def lineTab:List Str:=[[97],[98],[99],[97,98],[98,97],[],[97,97],[98,32,97],[120,43,121],[92]]
def u9 (k:Int):Str:=lineTab.getD (Z7 k 10).toNat []
theorem G98:∀s∈lineTab,s.length≤3:=by decide
theorem A89 (k:Int):(u9 k).length≤3:=by
 unfold u9
 rw [K60]
 cases h:lineTab[(Z7 k 10).toNat]? with
 | none=>simp
 | some s=>exact G98 s (K75 h)
theorem G99 (k:Int):FnOk Tryz.prog 24 [F0 k] (fun rs=>rs=[G7 (u9 k)]):=by
 refine FnOk.intro Tryz.func24 (by decide) Z Z Z Z ?_
 refine k2 ?_
 refine A4 (A3 (A6 Z Z) Z (A7 ?_))
 refine k1 (k2 ?_)
 have hm:=A27 k (n:=10) (by decide)
 have hv:lineTab[(Z7 k 10).toNat]?=some (u9 k):=by
  unfold u9
  rw [K60,K57 (show (Z7 k 10).toNat < lineTab.length by simp [lineTab];omega)];rfl
 refine A4 (A3 (E2 (c:=L0) (ys:=lineTab) (E9 Z Z Z Z (E9 Z Z Z Z (E9 Z Z Z Z (E9 Z Z Z Z (E9 Z Z Z Z (E9 Z Z Z Z (E9 Z Z Z Z (E9 Z Z Z Z (E9 Z Z Z Z (E9 Z Z Z Z I4)))))))))) Z Z Z) Z (A3 (A5 Z Z) Z (B9 (G28 k 10 (by decide) (by decide)) Z Z Z ?_)));rintro _ rfl;refine A3 (C0 Z (.pure _ _ _ _) Z (by omega) hv) Z (A3 (C9 Z Z) Z (A3 (A6 Z Z) Z (A7 ?_)))
 refine k1 (k10 ?_)
 exact B8 (J6 rfl rfl rfl) rfl
def S2 (raw:List Int) (from':Int) (kinds:Int) (m:Nat):Str:=((List.range m).map fun (i:Nat)=>u9 (Z7 (n6 raw (from'+1+(i:Int))) kinds)++[10]).flatten
def W8 (raw:List Int) (from' n kinds:Int):Str :=
 let s:=S2 raw from' kinds (Z7 (n6 raw from') (n+1)).toNat
 if ((n6 raw (from'+90)).tmod 4=0∧(1:Int) < s.length)∧((s.getD (s.length - 2) 0).toNat:Int)≠10 then s.take (s.length - 1) else s
theorem A28 (raw:List Int) (from' kinds:Int) (m:Nat):S2 raw from' kinds (m+1)=S2 raw from' kinds m++u9 (Z7 (n6 raw (from'+1+(m:Int))) kinds)++[10]:=by
 unfold S2;rw [K98,K73,K86];simp
theorem C11 (raw:List Int) (from' kinds:Int) (m:Nat):(S2 raw from' kinds m).length≤4*m:=by
 induction m with
 | zero=>simp [S2]
 | succ m ih=>have:=A89 (Z7 (n6 raw (from'+1+(m:Int))) kinds);rw [A28];simp only [K56,K58,K61];omega
theorem I60 (raw:List Int) (from' n kinds:Int) (h0:0≤from'∧from'≤1073741824) (h1:0≤n∧n≤1048576) (h2:1≤kinds∧kinds≤1048576) :
  FnOk Tryz.prog 64 [S9 raw,F0 from',F0 n,F0 kinds] (fun rs=>rs=[G7 (W8 raw from' n kinds)]):=by
 obtain ⟨m,hm⟩:∃m:Nat,Z7 (n6 raw from') (n+1)=m:=⟨(Z7 (n6 raw from') (n+1)).toNat,by have:=A27 (n6 raw from') (n:=n+1) (by omega);omega⟩
 have hmi:=A27 (n6 raw from') (n:=n+1) (by omega)
 have hml:m≤1048576:=by omega
 refine FnOk.intro Tryz.func64 (by decide) Z Z Z Z ?_
 refine k2 ?_
 refine A4 (A3 (A6 Z Z) Z (A7 ?_))
 refine k1 (k2 ?_)
 refine A4 (A3 (A5 Z Z) Z (A3 (A5 Z Z) Z (B9 (F58 raw from' (by omega) (by omega)) Z Z Z ?_)));rintro _ rfl;refine A3 (A5 Z Z) Z (A3 (C6 Z Z (by omega)) Z (B9 (G28 _ (n+1) (by omega) (by omega)) Z Z Z ?_));rintro _ rfl;refine A3 (A6 Z Z) Z (A7 ?_)
 refine k1 (k2 ?_)
 rw [hm]
 refine A4 (A3 (A6 Z Z) Z (A7 ?_))
 refine k1 (k2 (k2 ?_))
 refine A4 (A3 (A6 Z Z) Z (A7 ?_))
 refine k1 (k3 ?_)
 refine E4 (X:=Nat) (fun i=>([(0,D3 Int 1 G9 raw),(1,C2 from'),(2,C2 m),(3,C2 kinds),(9,J0 (S2 raw from' kinds i)),(10,C2 i)],[])) (fun i=>i≤m) (fun i=>m - i) 0 (Nat.zero_le _) (K19 ⟨le1 rfl,le1 rfl,le1 rfl,le1 rfl,le1 rfl,le1 rfl,trivial⟩ trivial) ?_
 intro i hi
 dsimp only at hi ⊢
 have hbl:=C11 raw from' kinds i
 refine k2 (k2 ?_)
 refine A4 (A3 (A5 Z Z) Z (A3 (A5 Z Z) Z (A3 (E5 Z Z) Z (A7 ?_))))
 refine k1 ?_
 refine B4 rfl (fun ht=>?_) (fun ht=>?_)
 ·have hlt:i < m:=by have:=A0 ht;omega
  have hll:=A89 (Z7 (n6 raw (from'+1+(i:Int))) kinds)
  refine k5 (k1 (k2 (k3 ?_)))
  refine A4 (A3 (A5 Z Z) Z (A3 (A5 Z Z) Z (A3 (A5 Z Z) Z (A3 (C6 Z Z (by omega)) Z (A3 (A5 Z Z) Z (A3 (C6 Z Z (by omega)) Z (B9 (F58 raw _ (by omega) (by omega)) Z Z Z ?_)))))));rintro _ rfl;refine A3 (A5 Z Z) Z (B9 (G28 _ kinds (by omega) (by omega)) Z Z Z ?_);rintro _ rfl;refine B9 (G99 _) Z Z Z ?_;rintro _ rfl;refine A3 (I2 Z Z (by omega)) Z (A3 (I2 Z Z (by (simp only [K56,K58,K61];omega))) Z (A3 (A6 Z Z) Z (A7 ?_)))
  refine k4 (k1 ?_)
  refine A4 (A3 (A5 Z Z) Z (A3 (C6 Z Z (by omega)) Z (A3 (A6 Z Z) Z (A7 ?_))))
  refine k1 ?_
  refine ⟨i+1,by omega,by omega,?_⟩
  rw [A28]
  exact K19 ⟨le1 rfl,le1 rfl,le1 rfl,le1 rfl,le1 rfl,le1 rfl,trivial⟩ trivial
 ·have hi':i=m:=by have:=A1 ht;omega
  subst hi'
  obtain ⟨s,hs⟩:∃s,s=S2 raw from' kinds i:=⟨_,rfl⟩
  have hv:(1:Int) < s.length→s[((s.length:Int) - 2).toNat]?=some (s.getD (s.length - 2) 0):=fun h=>by
   rw [show ((s.length:Int) - 2).toNat=s.length - 2 by omega,K60,K57 (by omega)];rfl
  have hbo:W8 raw from' n kinds=if ((n6 raw (from'+90)).tmod 4=0∧(1:Int) < s.length)∧((s.getD (s.length - 2) 0).toNat:Int)≠10 then s.take (s.length - 1) else s:=by
   simp only [W8,hm,K62,←hs]
  rw [←hs] at hbl
  refine k6 (k2 (k2 ?_))
  rw [←hs]
  refine A4 (A3 (A5 Z Z) Z (A3 (A5 Z Z) Z (A3 (C6 Z Z (by omega)) Z (B9 (F58 raw _ (by omega) (by omega)) Z Z Z ?_))));rintro _ rfl;refine A3 (G76 Z Z (by omega)) Z (A3 (J3 Z Z) Z (A3 (A5 Z Z) Z (B0 Z Z Z Z (fun hg=>by rw [hg];exact A5 Z Z) ?_)));refine B0 Z Z Z Z (fun hg=>by rw [hg];exact E3 Z) ?_;refine B0 Z Z Z Z (fun hg=>by rw [hg];exact Q1 Z Z) ?_;refine A3 (B5 Z (fun h=>by first | rfl | (rw [h];rfl)) (fun h=>by first | rfl | (rw [h];rfl))) Z ?_;refine A3 (A5 Z Z) Z (B0 Z Z Z Z (fun hg=>by rw [hg];exact A5 Z Z) ?_);refine B0 Z Z Z Z (fun hg=>by rw [hg];exact A5 Z Z) ?_;refine B0 Z Z Z Z (fun hg=>by rw [hg];exact E3 Z) ?_;refine B0 Z Z Z Z (fun hg=>by have hq:=hg;(try simp at hq);rw [hg];exact S6 Z Z (by omega)) ?_;refine B0 Z Z Z Z (fun hg=>by have hq:=hg;(try simp at hq);rw [hg];exact L3 Z Z (by omega) (hv (by omega))) ?_;refine B0 Z Z Z Z (fun hg=>by rw [hg];exact N6 Z Z) ?_;refine A3 (B5 Z (fun h=>by first | rfl | (rw [h];rfl)) (fun h=>by first | rfl | (rw [h];rfl))) Z ?_;refine A7 ?_
  refine k1 ?_
  refine B4 rfl (fun ht=>?_) (fun ht=>?_)
  ·simp only [K1] at ht
   have h:=A0 ht
   skip
   refine A4 (A3 (A5 Z Z) Z (A3 (A5 Z Z) Z (A3 (E3 Z) Z (A3 (S6 Z Z (by omega)) Z (A3 (A79 Z Z (by omega) (by omega)) Z (A3 (A6 Z Z) Z (A7 ?_)))))))
   refine k1 (k2 ?_)
   refine A4 (A3 (A5 Z Z) Z (A3 (A6 Z Z) Z (A7 ?_)))
   refine k1 (k10 ?_)
   exact B8 (J6 rfl rfl rfl) (by rw [hbo,if_pos h,show ((s.length:Int) - 1).toNat=s.length - 1 by omega])
  ·simp only [K1] at ht
   have h:=A1 ht
   refine k5 (k1 (k2 ?_))
   refine A4 (A3 (A5 Z Z) Z (A3 (A6 Z Z) Z (A7 ?_)))
   refine k1 (k10 ?_)
   exact B8 (J6 rfl rfl rfl) (by rw [hbo,if_neg h])
theorem C37 (raw:List Int) (from' n kinds:Int) (h1:0≤n):((W8 raw from' n kinds).length:Int)≤4*n:=by
 have h:=A27 (n6 raw from') (n:=n+1) (by omega)
 have h2:=C11 raw from' kinds (Z7 (n6 raw from') (n+1)).toNat
 unfold W8
 simp only
 split
 ·simp only [K70];omega
 ·omega
def n7 (raw:List Int) (from':Int) (i:Nat) (s:Str):List Str→Str
 | []=>s
 | x::r=>if (n6 raw (from'+(i:Int))).tmod 6=0 then n7 raw from' (i+1) s r
  else if (n6 raw (from'+(i:Int))).tmod 6=1 then n7 raw from' (i+1) (s++u9 (n6 raw (from'+40+(i:Int)))++[10]++x) r
  else n7 raw from' (i+1) (s++x) r
def C38 (blob:Str) (raw:List Int) (from':Int):Str:=n7 raw from' 0 [] (C1 blob)
theorem A90 (raw:List Int) (from':Int):∀(l:List Str) (i:Nat) (s:Str),(n7 raw from' i s l).length≤s.length+l.flatten.length+4*l.length
 | [],i,s=>by simp [n7]
 | x::r,i,s=>by
  have h1:=A90 raw from' r (i+1) s
  have h2:=A90 raw from' r (i+1) (s++u9 (n6 raw (from'+40+(i:Int)))++[10]++x)
  have h3:=A90 raw from' r (i+1) (s++x)
  have h4:=A89 (n6 raw (from'+40+(i:Int)))
  simp only [K56,K58,K61,K72] at *
  unfold n7
  split
  ·omega
  ·split<;>omega
theorem D23 (s cur:Str):(F8 cur s).flatten=cur++s:=by
 induction s generalizing cur with
 | nil=>unfold F8;split<;>simp [*]
 | cons c r ih=>unfold F8;split<;>simp [ih]
theorem A02 (s:Str):(C1 s).flatten=s:=D23 s []
theorem near_ok (blob:Str) (raw:List Int) (from':Int) (hb:blob.length≤16777216) (h0:0≤from'∧from'≤1073741824) :
  FnOk Tryz.prog 26 [G7 blob,S9 raw,F0 from'] (fun rs=>rs=[G7 (C38 blob raw from')]):=by
 have hll:=Y3 blob
 have hlf:=A02 blob
 have hlf':(C1 blob).flatten.length=blob.length:=by rw [hlf]
 refine FnOk.intro Tryz.func26 (by decide) Z Z Z Z ?_
 refine k2 ?_
 refine A4 (A3 (A6 Z Z) Z (A7 ?_))
 refine k1 (k2 ?_)
 refine A4 (A3 (A5 Z Z) Z (B9 (J71 blob (by omega)) Z Z Z ?_));rintro _ rfl;refine A3 (A6 Z Z) Z (A7 ?_)
 refine k1 (k2 ?_)
 obtain ⟨l,hl⟩:∃l,l=C1 blob:=⟨_,rfl⟩
 have hno:C38 blob raw from'=n7 raw from' 0 [] l:=by rw [C38,hl]
 rw [←hl] at hll hlf' ⊢
 refine A4 (A3 (A6 Z Z) Z (A7 ?_))
 refine k1 (k2 (k2 ?_))
 refine A4 (A3 (A6 Z Z) Z (A7 ?_))
 refine k1 (k3 ?_)
 refine E4 (X:=Nat × Str) (fun x=>([(1,D3 Int 1 G9 raw),(2,C2 from'),(7,D3 Str 1 L0 l),(8,J0 x.2),(9,C2 x.1)],[])) (fun x=>x.1≤l.length∧x.2.length≤(l.take x.1).flatten.length+4*x.1∧n7 raw from' x.1 x.2 (l.drop x.1)=n7 raw from' 0 [] l) (fun x=>l.length - x.1) (0,[]) (by simp) (K19 ⟨le1 rfl,le1 rfl,le1 rfl,le1 rfl,le1 rfl,trivial⟩ trivial) ?_
 rintro ⟨i,s⟩ ⟨hi,hs,hp⟩
 dsimp only at hi hs hp ⊢
 have hle:=c7 l i
 refine k2 (k2 ?_)
 refine A4 (A3 (A5 Z Z) Z (A3 (A5 Z Z) Z (A3 (F4 Z (.pure _ _ _ _)) Z (A3 (E5 Z Z) Z (A7 ?_)))))
 refine k1 ?_
 refine B4 rfl (fun ht=>?_) (fun ht=>?_)
 ·have hlt:i < l.length:=by have:=A0 ht;omega
  have hv:l[i]?=some l[i]:=by simp [hlt]
  have hle2:=c7 l (i+1)
  have hst:=p5 l i hlt
  rw [hst,K56] at hle2
  rw [K64 hlt,n7] at hp
  refine k5 (k1 (k2 (k3 (k2 (k2 ?_)))))
  refine A4 (A3 (A5 Z Z) Z (A3 (A5 Z Z) Z (A3 (A5 Z Z) Z (A3 (C6 Z Z (by omega)) Z (B9 (F58 raw _ (by omega) (by omega)) Z Z Z ?_)))));rintro _ rfl;refine A3 (G76 Z Z (by omega)) Z (A7 ?_)
  refine k1 (k3 (k2 ?_))
  refine A4 (A3 (J3 Z Z) Z (A3 (A6 Z Z) Z (A7 ?_)))
  refine k1 ?_
  refine B4 rfl (fun ht=>?_) (fun ht=>?_)
  ·rw [if_pos (A0 ht)] at hp
   refine k6 (k9 Z (k7 (k8 Z (k1 ?_))))
   refine A4 (A3 (A5 Z Z) Z (A3 (C6 Z Z (by omega)) Z (A3 (A6 Z Z) Z (A7 ?_))))
   refine k1 ?_
   exact ⟨(i+1,s),⟨by dsimp only;omega,by dsimp only;rw [hst,K56];omega,hp⟩,by dsimp only;omega,K19 ⟨le1 rfl,le1 rfl,le1 rfl,le1 rfl,le1 rfl,trivial⟩ trivial⟩
  ·rw [if_neg (A1 ht)] at hp
   refine k2 ?_
   refine A4 (A3 (J3 Z Z) Z (A3 (A6 Z Z) Z (A7 ?_)))
   refine k1 ?_
   refine B4 rfl (fun ht=>?_) (fun ht=>?_)
   ·rw [if_pos (A0 ht)] at hp
    have h4:=A89 (n6 raw (from'+40+(i:Int)))
    skip
    refine A4 (A3 (A5 Z Z) Z (A3 (A5 Z Z) Z (A3 (A5 Z Z) Z (A3 (C6 Z Z (by omega)) Z (A3 (A5 Z Z) Z (A3 (C6 Z Z (by omega)) Z (B9 (F58 raw _ (by omega) (by omega)) Z Z Z ?_)))))));rintro _ rfl;refine B9 (G99 _) Z Z Z ?_;rintro _ rfl;refine A3 (I2 Z Z (by omega)) Z (A3 (I2 Z Z (by (simp only [K56,K58,K61];omega))) Z (A3 (A6 Z Z) Z (A7 ?_)))
    refine k4 (k1 ?_)
    refine A4 (A3 (A5 Z Z) Z (A3 (A5 Z Z) Z (A3 (A5 Z Z) Z (A3 (C0 Z (.pure _ _ _ _) Z (by omega) hv) Z (A3 (C9 Z Z) Z (A3 (I2 Z Z (by (simp only [K56,K58,K61];omega))) Z (A3 (A6 Z Z) Z (A7 ?_))))))))
    refine k4 (k1 ?_)
    refine A4 (A3 (A5 Z Z) Z (A3 (C6 Z Z (by omega)) Z (A3 (A6 Z Z) Z (A7 ?_))))
    refine k1 ?_
    exact ⟨(i+1,s++u9 (n6 raw (from'+40+(i:Int)))++[10]++l[i]),⟨by dsimp only;omega,by dsimp only;rw [hst];simp only [K56,K58,K61];omega,hp⟩,by dsimp only;omega,K19 ⟨le1 rfl,le1 rfl,le1 rfl,le1 rfl,le1 rfl,trivial⟩ trivial⟩
   ·rw [if_neg (A1 ht)] at hp
    refine k5 (k4 (k1 ?_))
    refine A4 (A3 (A5 Z Z) Z (A3 (A5 Z Z) Z (A3 (A5 Z Z) Z (A3 (C0 Z (.pure _ _ _ _) Z (by omega) hv) Z (A3 (C9 Z Z) Z (A3 (I2 Z Z (by omega)) Z (A3 (A6 Z Z) Z (A7 ?_))))))))
    refine k4 (k1 ?_)
    refine A4 (A3 (A5 Z Z) Z (A3 (C6 Z Z (by omega)) Z (A3 (A6 Z Z) Z (A7 ?_))))
    refine k1 ?_
    exact ⟨(i+1,s++l[i]),⟨by dsimp only;omega,by dsimp only;rw [hst,K56,K56];omega,hp⟩,by dsimp only;omega,K19 ⟨le1 rfl,le1 rfl,le1 rfl,le1 rfl,le1 rfl,trivial⟩ trivial⟩
 ·have hi':i=l.length:=by have:=A1 ht;omega
  rw [hi',K66 (Nat.le_refl _)] at hp
  refine k6 (k2 ?_)
  refine A4 (A3 (A5 Z Z) Z (A3 (A6 Z Z) Z (A7 ?_)))
  refine k1 (k10 ?_)
  exact B8 (J6 rfl rfl rfl) (by rw [hno,←hp];rfl)
def v6 (raw:List Int) (lines:Int) (p:Nat):Str :=
 if (n6 raw (500+(p:Int))).tmod 5=0 then W8 raw (600+50*(p:Int)) lines 4 else if (n6 raw (500+(p:Int))).tmod 5=1 then W8 raw 0 lines 5 else C38 (W8 raw 0 lines 5) raw (600+50*(p:Int))
def Z4 (raw:List Int) (n:Nat) (lines:Int):List Str:=(List.range n).map (v6 raw lines)
theorem H92 (raw:List Int) (lines:Int) (p:Nat) (h:0≤lines):((v6 raw lines p).length:Int)≤20*lines:=by
 have h1:=C37 raw (600+50*(p:Int)) lines 4 h
 have h2:=C37 raw 0 lines 5 h
 have h3:=A90 raw (600+50*(p:Int)) (C1 (W8 raw 0 lines 5)) 0 []
 have h4:=Y3 (W8 raw 0 lines 5)
 rw [A02] at h3
 simp only [K61] at h3
 unfold v6 C38
 split
 ·omega
 ·split<;>omega
theorem J72 (raw:List Int) (n:Nat) (lines:Int) (h1:n≤1024) (h2:0≤lines∧lines≤524288):FnOk Tryz.prog 61 [S9 raw,F0 n,F0 lines] (fun rs=>rs=[Z6 (Z4 raw n lines)]):=by
 have hfl:=C37 raw 0 lines 5 h2.1
 refine FnOk.intro Tryz.func61 (by decide) Z Z Z Z ?_
 refine k2 ?_
 refine A4 (A3 (A6 Z Z) Z (A7 ?_))
 refine k1 (k2 ?_)
 refine A4 (A3 (A5 Z Z) Z (A3 (A5 Z Z) Z (B9 (I60 raw 0 lines 5 (by omega) (by omega) (by omega)) Z Z Z ?_)));rintro _ rfl;refine A3 (A6 Z Z) Z (A7 ?_)
 refine k1 (k2 ?_)
 refine A4 (C7 (H84 13 (c:=L0) (ys:=[]) I4 Z Z Z (by first | rfl | (simp [G3,I1,Ob.free,SV.free,S1.free,TC.free]<;>rfl))) Z ?_);refine A3 (A6 Z Z) Z (A7 ?_)
 refine k1 (k2 (k2 ?_))
 refine A4 (A3 (A6 Z Z) Z (A7 ?_))
 refine k1 (k3 ?_)
 refine E4 (X:=Nat) (fun p=>([(0,D3 Int 1 G9 raw),(1,C2 n),(2,C2 lines),(7,J0 (W8 raw 0 lines 5)),(8,.s (.one (.buf 13 Str 1 L0 (Z4 raw p lines)))),(9,C2 p)],[(13,.spare (Z4 raw p lines).length 1 9)])) (fun p=>p≤n) (fun p=>n - p) 0 (Nat.zero_le _) (K19 ⟨le1 rfl,le1 rfl,le1 rfl,le1 rfl,le1 rfl,le1 rfl,trivial⟩ ⟨rfl,trivial⟩) ?_
 intro p hp
 dsimp only at hp ⊢
 have hst:Z4 raw (p+1) lines=Z4 raw p lines++[v6 raw lines p]:=by unfold Z4;rw [K98,K73];rfl
 have hbl:(Z4 raw p lines).length=p:=by simp [Z4]
 refine k2 (k2 ?_)
 refine A4 (A3 (A5 Z Z) Z (A3 (A5 Z Z) Z (A3 (E5 Z Z) Z (A7 ?_))))
 refine k1 ?_
 refine B4 rfl (fun ht=>?_) (fun ht=>?_)
 ·have hlt:p < n:=by have:=A0 ht;omega
  refine k5 (k1 (k2 (k3 (k2 ?_))))
  refine A4 (A3 (A5 Z Z) Z (A3 (A5 Z Z) Z (A3 (C6 Z Z (by omega)) Z (B9 (F58 raw _ (by omega) (by omega)) Z Z Z ?_))));rintro _ rfl;refine A3 (G76 Z Z (by omega)) Z (A7 ?_)
  refine k1 (k3 (k2 ?_))
  refine A4 (A3 (J3 Z Z) Z (A3 (A6 Z Z) Z (A7 ?_)))
  refine k1 ?_
  refine B4 rfl (fun ht=>?_) (fun ht=>?_)
  ·have hb:v6 raw lines p=W8 raw (600+50*(p:Int)) lines 4:=by rw [v6,if_pos (A0 ht)]
   skip
   refine A4 (A3 (A5 Z Z) Z (A3 (A5 Z Z) Z (A3 (A5 Z Z) Z (A3 (B28 Z Z (by omega)) Z (A3 (C6 Z Z (by omega)) Z (A3 (A5 Z Z) Z (B9 (I60 raw _ lines 4 (by omega) (by omega) (by omega)) Z Z Z ?_)))))));rintro _ rfl;refine A3 (E2 (c:=L0) (ys:=[_]) (E9 Z Z Z Z I4) Z Z Z) Z (C7 (L1 Z Z Z (.pure _ _ _ _) (by (simp only [K58,K61];omega)) Z) Z (A3 (A6 Z Z) Z (A7 ?_)))
   refine k4 (k4 (k1 ?_))
   refine A4 (A3 (A5 Z Z) Z (A3 (C6 Z Z (by omega)) Z (A3 (A6 Z Z) Z (A7 ?_))))
   refine k1 ?_
   refine ⟨p+1,by omega,by omega,?_⟩
   rw [hst,hb]
   exact K19 ⟨le1 rfl,le1 rfl,le1 rfl,le1 rfl,le1 rfl,le1 rfl,trivial⟩ ⟨rfl,trivial⟩
  ·have h5:=A1 ht
   refine k2 ?_
   refine A4 (A3 (J3 Z Z) Z (A3 (A6 Z Z) Z (A7 ?_)))
   refine k1 ?_
   refine B4 rfl (fun ht=>?_) (fun ht=>?_)
   ·have hb:v6 raw lines p=W8 raw 0 lines 5:=by rw [v6,if_neg h5,if_pos (A0 ht)]
    skip
    refine A4 (A3 (A5 Z Z) Z (A3 (A5 Z Z) Z (A3 (E2 (c:=L0) (ys:=[_]) (E9 Z Z Z Z I4) Z Z Z) Z (C7 (L1 Z Z Z (.pure _ _ _ _) (by (simp only [K58,K61];omega)) Z) Z (A3 (A6 Z Z) Z (A7 ?_))))))
    refine k4 (k4 (k1 ?_))
    refine A4 (A3 (A5 Z Z) Z (A3 (C6 Z Z (by omega)) Z (A3 (A6 Z Z) Z (A7 ?_))))
    refine k1 ?_
    refine ⟨p+1,by omega,by omega,?_⟩
    rw [hst,hb]
    exact K19 ⟨le1 rfl,le1 rfl,le1 rfl,le1 rfl,le1 rfl,le1 rfl,trivial⟩ ⟨rfl,trivial⟩
   ·have hb:v6 raw lines p=C38 (W8 raw 0 lines 5) raw (600+50*(p:Int)):=by rw [v6,if_neg h5,if_neg (A1 ht)]
    skip
    refine A4 (A3 (A5 Z Z) Z (A3 (A5 Z Z) Z (A3 (A5 Z Z) Z (A3 (A5 Z Z) Z (A3 (B28 Z Z (by omega)) Z (A3 (C6 Z Z (by omega)) Z (B9 (near_ok _ raw _ (by omega) (by omega)) Z Z Z ?_)))))));rintro _ rfl;refine A3 (E2 (c:=L0) (ys:=[_]) (E9 Z Z Z Z I4) Z Z Z) Z (C7 (L1 Z Z Z (.pure _ _ _ _) (by (simp only [K58,K61];omega)) Z) Z (A3 (A6 Z Z) Z (A7 ?_)))
    refine k4 (k4 (k1 ?_))
    refine A4 (A3 (A5 Z Z) Z (A3 (C6 Z Z (by omega)) Z (A3 (A6 Z Z) Z (A7 ?_))))
    refine k1 ?_
    refine ⟨p+1,by omega,by omega,?_⟩
    rw [hst,hb]
    exact K19 ⟨le1 rfl,le1 rfl,le1 rfl,le1 rfl,le1 rfl,le1 rfl,trivial⟩ ⟨rfl,trivial⟩
 ·have hp':p=n:=by have:=A1 ht;omega
  refine k6 (k2 ?_)
  refine A4 (A3 (A5 Z Z) Z (A3 (A6 Z Z) Z (A7 ?_)))
  refine k1 (k10 ?_)
  exact B8 (J6 rfl rfl rfl) (by rw [hp'])
end Go.Proofs.YtbiadkkamhpdnaaGreatDoor
namespace Go.Proofs.YtbiadkkamhpdnaaGreatDoor
open Go Go.AL
set_option maxRecDepth 100000
theorem F59 (s:Str):(ByteArray.mk s.toArray).size=s.length:=by simp [ByteArray.size]
theorem G29 (s p:Str) (hs:s.length≤1099511627776):FnOk Tryz.prog 200 [G7 s,G7 p] (fun rs=>rs=[E8 (Lib.hasSuffix s p)]) :=
 K25 (xs:=[.string ⟨s.toArray⟩,.string ⟨p.toArray⟩]) ⟨_,rfl,rfl,rfl⟩ rfl fun w=>by simpa using Tryz.strings_HasSuffix ⟨s.toArray⟩ ⟨p.toArray⟩ w (by rw [F59];omega)
theorem C12 (s p:Str) (hs:s.length≤1099511627776):FnOk Tryz.prog 225 [G7 s,G7 p] (fun rs=>rs=[G7 (Lib.trimSuffix s p)]) :=
 K25 (xs:=[.string ⟨s.toArray⟩,.string ⟨p.toArray⟩]) ⟨_,rfl,rfl,rfl⟩ rfl fun w=>by simpa using Tryz.strings_TrimSuffix ⟨s.toArray⟩ ⟨p.toArray⟩ w (by rw [F59];omega)
theorem G30 (s:Str) (c:UInt8):FnOk Tryz.prog 125 [G7 s,.one (.v (.int .u8 c.toNat))] (fun rs=>rs=[F0 (Lib.indexByte s c)]) :=
 K25 (xs:=[.string ⟨s.toArray⟩,.int .u8 c.toNat]) ⟨_,rfl,rfl,rfl⟩ rfl fun w=>by simpa using Tryz.strings_IndexByte ⟨s.toArray⟩ c.toNat w
theorem G31 (s:Str) (c:UInt8):FnOk Tryz.prog 209 [G7 s,G7 [c]] (fun rs=>rs=[E8 (decide (0≤Lib.indexByte s c))]) :=
 K25 (xs:=[.string ⟨s.toArray⟩,.string ⟨#[c]⟩]) ⟨_,rfl,rfl,rfl⟩ rfl fun w=>by simpa using Tryz.strings_Contains_one ⟨s.toArray⟩ c w
theorem J73 (l:List Str) (hl:l.length≤536870912) (hf:l.flatten.length≤536870912):FnOk Tryz.prog 126 [Z6 l,G7 []] (fun rs=>rs=[G7 l.flatten]):=by
 have hmap:(l.map fun s=>(⟨s.toArray⟩:ByteArray)).map (·.data.toList)=l:=by rw [K93];simp [Function.comp_def]
 refine K42 ⟨_,rfl,rfl,rfl⟩ (fun h a c w=>?_) (fun b o c w hne hc hb hcap=>?_)
 ·subst h;exact Tryz.strings_Join_none a c _ w
 ·have:=Tryz.strings_Join b o c (l.map fun s=>(⟨s.toArray⟩:ByteArray)) ⟨#[]⟩ w hc hb (by rw [K84];omega) (by rw [K84];exact hcap) (by rw [hmap];show (Lib.join l []).length≤_;rw [H32];omega)
  rw [K84,hmap] at this
  have e:Lib.join l (⟨#[]⟩:ByteArray).data.toList=l.flatten:=H32 l
  rw [e] at this
  exact this
theorem B83 (s:Str) (hs:s.length≤1099511627776):FnOk Tryz.prog 137 [G7 s] (fun rs=>rs=[E8 (ended s)]):=by
 refine FnOk.intro Tryz.func137 (by decide) Z Z Z Z ?_
 refine k2 ?_
 refine A4 (A3 (A6 Z Z) Z (A7 ?_))
 refine k1 (k2 ?_)
 refine A4 (A3 (A5 Z Z) Z (B9 (G29 s [10] hs) Z Z Z ?_));rintro _ rfl;refine A3 (A6 Z Z) Z (A7 ?_)
 rw [C91]
 refine k1 (k10 ?_)
 exact B8 (J6 rfl rfl rfl) rfl
theorem J74 (s:Str) (hs:s.length≤1099511627776):FnOk Tryz.prog 210 [G7 s] (fun rs=>rs=[G7 (B00 s)]):=by
 refine FnOk.intro Tryz.func210 (by decide) Z Z Z Z ?_
 refine k2 ?_
 refine A4 (A3 (A6 Z Z) Z (A7 ?_))
 refine k1 (k2 ?_)
 refine A4 (A3 (A5 Z Z) Z (B9 (C12 s [10] hs) Z Z Z ?_));rintro _ rfl;refine A3 (A6 Z Z) Z (A7 ?_)
 rw [C18]
 refine k1 (k10 ?_)
 exact B8 (J6 rfl rfl rfl) rfl
theorem D60 (r:Row) (c:Int) (hr:0≤r.Marks∧r.Marks < 4294967296):FnOk Tryz.prog 177 [pRow r,F0 c] (fun rs=>rs=[E8 (a8 r c)]):=by
 refine FnOk.intro Tryz.func177 (by decide) Z Z Z Z ?_
 refine k2 ?_
 refine A4 (C7 (T7 2 Z Z Z) Z (A3 (A6 Z Z) Z (A7 ?_)))
 refine k1 (k2 (k2 ?_))
 refine A4 (A3 (A5 Z Z) Z (A3 (E5 Z Z) Z (A3 (A5 Z Z) Z (B0 Z Z Z Z (fun hg=>by rw [hg];exact A5 Z Z) ?_))));refine B0 Z Z Z Z (fun hg=>by rw [hg];exact s8 Z Z) ?_;refine A3 (B5 Z (fun h=>by first | rfl | (rw [h];rfl)) (fun h=>by first | rfl | (rw [h];rfl))) Z ?_;refine A7 ?_
 refine k1 ?_
 refine B4 rfl (fun ht=>?_) (fun ht=>?_)
 ·have h:=A0 (or_pick.symm.trans ht)
  refine k2 ?_
  refine A4 (A3 (A6 Z Z) Z (A7 ?_))
  refine k1 (k10 (k11 ?_))
  exact B8 (J6 rfl rfl rfl) (by rw [a8,if_neg (by omega),if_pos (by omega)])
 ·have h:=A1 (or_pick.symm.trans ht)
  refine k5 (k1 (k2 (k2 ?_)))
  refine A4 (A3 (A5 Z Z) Z (A3 (E5 Z Z) Z (A7 ?_)))
  refine k1 ?_
  refine B4 rfl (fun ht=>?_) (fun ht=>?_)
  ·have h2:=A0 ht
   refine k2 ?_
   refine A4 (A3 (A8 Z) Z (A3 (A9 Z Z Z) Z (A3 (F7 Z) Z (A3 (A6 Z Z) Z (A7 ?_)))))
   refine k1 (k10 (k11 ?_))
   exact B8 (J6 rfl rfl rfl) (by rw [a8,if_pos (by omega)])
  ·have h2:=A1 ht
   refine k5 (k1 (k2 ?_))
   refine D7 (by kernel_rfl) (by kernel_rfl) (B1 (A8 Z) Z Z (B1 (A9 Z Z Z) Z Z (B1 (A8 Z) Z Z (B1 (A9 Z Z Z) Z Z (B1 (A5 Z Z) Z Z (B1 (C59 Z Z (by omega)) Z Z (B1 (l8 Z Z Z (fun _=>rfl)) Z Z (B1 (J3 Z Z) Z Z (B1 (n_eql_b Z Z TyBool.out) Z Z (B1 (A6 Z Z) Z Z (M2 ?_)))))))))))
   refine k1 (k10 ?_)
   refine B8 (J6 Z Z Z) ?_
   have h3:0≤r.Marks / 2 ^ c.toNat:=Int.ediv_nonneg hr.1 (Int.pow_nonneg (by decide))
   have h4:r.Marks / 2 ^ c.toNat≤r.Marks:=Int.ediv_le_self _ hr.1
   rw [a8,if_neg (by omega),if_neg (by omega),I73 r.Marks c (by omega),H29 _ (by omega),Bool.beq_comm]
   rfl
theorem E41 (r:Row) (n:Int) (hn:1≤n∧n≤32) (hr:0≤r.Marks∧r.Marks < 4294967296):FnOk Tryz.prog 155 [pRow r,F0 n] (fun rs=>rs=[E8 (R7 n.toNat r)]):=by
 refine FnOk.intro Tryz.func155 (by decide) Z Z Z Z ?_
 refine k2 ?_
 refine A4 (C7 (T7 2 Z Z Z) Z (A3 (A6 Z Z) Z (A7 ?_)))
 refine k1 (k2 ?_)
 refine A4 (A3 (A8 Z) Z (A3 (A9 Z Z Z) Z (A3 (C59 Z Z (by omega)) Z (A3 (A5 Z Z) Z (A3 (S6 Z Z (by omega)) Z (A3 (C59 Z Z (by omega)) Z (A3 (J3 Z Z) Z (A3 (A5 Z Z) Z (B0 Z Z Z Z (fun hg=>by rw [hg];exact A8 Z) ?_)))))))));refine B0 Z Z Z Z (fun hg=>by rw [hg];exact A9 Z Z Z) ?_;refine B0 Z Z Z Z (fun hg=>by rw [hg];exact F7 Z) ?_;refine B0 Z Z Z Z (fun hg=>by rw [hg];exact A5 Z Z) ?_;refine J4 Z Z Z (.gd (.val _)) Z (fun hg=>by obtain ⟨hg1,hg2⟩:=N4 hg;(try rw [hg1]);(try rw [hg2]);exact A8 Z) ?_;refine J4 Z Z Z (.gd (.val _)) Z (fun hg=>by obtain ⟨hg1,hg2⟩:=N4 hg;(try rw [hg1]);(try rw [hg2]);exact A9 Z Z Z) ?_;refine J4 Z Z Z (.gd (.val _)) Z (fun hg=>by obtain ⟨hg1,hg2⟩:=N4 hg;(try rw [hg1]);(try rw [hg2]);exact N6 Z Z) ?_;refine B0 Z Z Z Z (fun hg=>by rw [hg];exact B5 Z (fun h=>by first | rfl | (rw [h];rfl)) (fun h=>by first | rfl | (rw [h];rfl))) ?_;refine A3 (B5 Z (fun h=>by first | rfl | (rw [h];rfl)) (fun h=>by first | rfl | (rw [h];rfl))) Z ?_;refine A3 (A6 Z Z) Z (A7 ?_)
 refine k1 (k10 ?_)
 refine B8 (J6 Z Z Z) ?_
 have h0:0≤r.Marks / 2 ^ n.toNat:=Int.ediv_nonneg hr.1 (Int.pow_nonneg (by decide))
 have e1:r.Marks.fdiv (2 ^ (min (1:Int).toNat IntKind.u32.bits))=r.Marks / 2:=by
  rw [I73 r.Marks 1 (by omega)];rfl
 have e2:(r.Marks / 2).fdiv (2 ^ (min (n - 1).toNat IntKind.u32.bits))=r.Marks / 2 ^ n.toNat:=by
  rw [I73 (r.Marks / 2) (n - 1) (by omega),Int.ediv_ediv_of_nonneg (by decide)]
  have:n.toNat=(n - 1).toNat+1:=by omega
  rw [this,Int.pow_succ,Int.mul_comm]
 have e3:(if decide ((r.Marks.fdiv (2 ^ (min (1:Int).toNat IntKind.u32.bits))).fdiv (2 ^ (min (n - 1).toNat IntKind.u32.bits))=0)=true then (if (!r.Lost)=true then true else decide (r.Marks≠0)) else false)=R7 n.toNat r:=by
  rw [e1,e2,R7]
  cases r.Lost<;>by_cases hz:r.Marks / 2 ^ n.toNat=0<;>by_cases hy:r.Marks=0<;>simp [hz,hy]
 rw [←e3]
theorem A91 (r:Row) (hs:r.Text.length≤1099511627776):FnOk Tryz.prog 157 [pRow r] (fun rs=>rs=[E8 (H8 r.Text)]):=by
 refine FnOk.intro Tryz.func157 (by decide) Z Z Z Z ?_
 refine k2 ?_
 refine A4 (C7 (T7 1 Z Z Z) Z (A3 (A6 Z Z) Z (A7 ?_)))
 refine k1 (k2 ?_)
 refine A4 (A3 (A8 Z) Z (A3 (A9 Z Z Z) Z (A3 (A78 Z Z) Z (A3 (A5 Z Z) Z (B0 Z Z Z Z (fun hg=>by rw [hg];exact A8 Z) ?_)))));refine B0 Z Z Z Z (fun hg=>by rw [hg];exact A9 Z Z Z) ?_;refine B0 Z Z Z Z (fun hg=>by have hq:=hg;(try simp at hq);rw [hg];exact O0 (J74 r.Text hs) Z Z) ?_;refine B0 Z Z Z Z (fun hg=>by have hq:=hg;(try simp at hq);rw [hg];exact O0 (G31 (B00 r.Text) 10) Z Z) ?_;refine B0 Z Z Z Z (fun hg=>by rw [hg];exact F7 Z) ?_;refine A3 (B5 Z (fun h=>by first | rfl | (rw [h];rfl)) (fun h=>by first | rfl | (rw [h];rfl))) Z ?_;refine A3 (A6 Z Z) Z (A7 ?_)
 refine k1 (k10 ?_)
 refine B8 (J6 Z Z Z) ?_
 rw [←J31]
theorem J75 (l:List Str) (hf:l.flatten.length≤536870911) (hll:l.length≤536870911):FnOk Tryz.prog 68 [Z6 l] (fun rs=>rs=[G7 (A59 l).1,F0 (A59 l).2]):=by
 refine FnOk.intro Tryz.func68 (by decide) Z Z Z Z ?_
 refine k2 ?_
 refine A4 (A3 (A6 Z Z) Z (A3 (A6 Z Z) Z (A7 ?_)))
 refine k1 (k2 ?_)
 refine A4 (A3 (A6 Z Z) Z (A7 ?_))
 refine k1 (k2 (k2 ?_))
 refine A4 (A3 (A5 Z Z) Z (A3 (F4 Z (.pure _ _ _ _)) Z (A3 (A5 Z Z) Z (A7 ?_))))
 refine k1 (k3 ?_)
 refine E4 (X:=Nat) (fun i=>([(0,D3 Str 1 L0 l),(4,C2 (l.take i).flatten.length),(8,D3 Str 1 L0 l),(9,C2 l.length),(10,C2 i)],[])) (fun i=>i≤l.length∧v8 l=v8 (l.drop i)) (fun i=>l.length - i) 0 ⟨Nat.zero_le _,by simp⟩ (K19 ⟨le1 rfl,le1 rfl,le1 rfl,le1 rfl,le1 rfl,trivial⟩ trivial) ?_
 rintro i ⟨hi,hp⟩
 dsimp only at hi hp ⊢
 have hfl:=c7 l i
 refine k2 ?_
 refine A4 (A3 (E5 Z Z) Z (A7 ?_))
 refine k1 (k2 ?_)
 refine B4 rfl (fun ht=>?_) (fun ht=>?_)
 ·have hlt:i < l.length:=by have:=A0 ht;omega
  have hv:l[i]?=some l[i]:=by simp [hlt]
  have hfl2:=c7 l (i+1)
  have hst:(l.take (i+1)).flatten.length=(l.take i).flatten.length+l[i].length:=by rw [p5 l i hlt,K56]
  have hbad:=H31 l[i] (l.drop (i+1))
  rw [K64 hlt,B53] at hp
  have hemp:(l.drop (i+1)).isEmpty=decide (l.length≤i+1):=by rw [Bool.eq_iff_iff];simp
  rw [hemp] at hbad
  unfold G51 at hbad
  refine k5 (k1 (k2 (k3 (k2 ?_))))
  refine A4 (A3 (A5 Z Z) Z (A3 (C0 Z (.pure _ _ _ _) Z (by omega) hv) Z (A3 (C9 Z Z) Z (A3 (A6 Z Z) Z (A3 (A6 Z Z) Z (A7 ?_))))))
  refine k1 (k2 ?_)
  refine A4 (A3 (A5 Z Z) Z (B9 (G30 l[i] 10) Z Z Z ?_));rintro _ rfl;refine A3 (A6 Z Z) Z (A7 ?_)
  refine k1 (k2 (k2 ?_))
  refine A4 (A3 (A5 Z Z) Z (A3 (T9 Z Z) Z (A3 (A5 Z Z) Z (B0 Z Z Z Z (fun hg=>by rw [hg];exact A5 Z Z) ?_))));refine B0 Z Z Z Z (fun hg=>by rw [hg];exact s8 Z Z) ?_;refine B0 Z Z Z Z (fun hg=>by rw [hg];exact A5 Z Z) ?_;refine J4 Z Z Z (.gd (.val _)) Z (fun hg=>by obtain ⟨hg1,hg2⟩:=N4 hg;(try rw [hg1]);(try rw [hg2]);exact A5 Z Z) ?_;refine J4 Z Z Z (.gd (.val _)) Z (fun hg=>by obtain ⟨hg1,hg2⟩:=N4 hg;(try rw [hg1]);(try rw [hg2]);exact A5 Z Z) ?_;refine J4 Z Z Z (.gd (.val _)) Z (fun hg=>by obtain ⟨hg1,hg2⟩:=N4 hg;(try rw [hg1]);(try rw [hg2]);exact E3 Z) ?_;refine J4 Z Z Z (.gd (.val _)) Z (fun hg=>by have hq:=hg;(try simp at hq);obtain ⟨hg1,hg2⟩:=N4 hg;(try rw [hg1]);(try rw [hg2]);exact S6 Z Z (by omega)) ?_;refine J4 Z Z Z (.gd (.val _)) Z (fun hg=>by obtain ⟨hg1,hg2⟩:=N4 hg;(try rw [hg1]);(try rw [hg2]);exact E5 Z Z) ?_;refine B0 Z Z Z Z (fun hg=>by rw [hg];exact B5 Z (fun h=>by first | rfl | (rw [h];rfl)) (fun h=>by first | rfl | (rw [h];rfl))) ?_;refine A3 (B5 Z (fun h=>by first | rfl | (rw [h];rfl)) (fun h=>by first | rfl | (rw [h];rfl))) Z ?_;refine A3 (A5 Z Z) Z (B0 Z Z Z Z (fun hg=>by rw [hg];exact A5 Z Z) ?_);refine B0 Z Z Z Z (fun hg=>by rw [hg];exact E5 Z Z) ?_;refine B0 Z Z Z Z (fun hg=>by rw [hg];exact A5 Z Z) ?_;refine J4 Z Z Z (.gd (.val _)) Z (fun hg=>by obtain ⟨hg1,hg2⟩:=N4 hg;(try rw [hg1]);(try rw [hg2]);exact A5 Z Z) ?_;refine J4 Z Z Z (.gd (.val _)) Z (fun hg=>by obtain ⟨hg1,hg2⟩:=N4 hg;(try rw [hg1]);(try rw [hg2]);exact A5 Z Z) ?_;refine J4 Z Z Z (.gd (.val _)) Z (fun hg=>by obtain ⟨hg1,hg2⟩:=N4 hg;(try rw [hg1]);(try rw [hg2]);exact F4 Z (.pure _ _ _ _)) ?_;refine J4 Z Z Z (.gd (.val _)) Z (fun hg=>by have hq:=hg;(try simp at hq);obtain ⟨hg1,hg2⟩:=N4 hg;(try rw [hg1]);(try rw [hg2]);exact S6 Z Z (by omega)) ?_;refine J4 Z Z Z (.gd (.val _)) Z (fun hg=>by obtain ⟨hg1,hg2⟩:=N4 hg;(try rw [hg1]);(try rw [hg2]);exact E5 Z Z) ?_;refine B0 Z Z Z Z (fun hg=>by rw [hg];exact B5 Z (fun h=>by first | rfl | (rw [h];rfl)) (fun h=>by first | rfl | (rw [h];rfl))) ?_;refine A3 (B5 Z (fun h=>by first | rfl | (rw [h];rfl)) (fun h=>by first | rfl | (rw [h];rfl))) Z ?_;refine A7 ?_
  refine k1 ?_
  refine B4 rfl (fun ht=>?_) (fun ht=>?_)
  ·simp only [K1,or_pick] at ht
   have h1:=A0 ht
   have h2:=hbad.1 (by
    rcases h1 with (h | h) | h
    ·exact .inl h
    ·exact .inr (.inl h)
    ·exact .inr (.inr ⟨h.1,by simp only [decide_eq_false_iff_not];omega⟩))
   rw [hemp,h2,Bool.false_and] at hp
   refine k2 ?_
   refine A4 (A3 (A6 Z Z) Z (A3 (A6 Z Z) Z (A7 ?_)))
   refine k1 (k10 (k11 (k12 (k11 (k11 (k12 (k11 ?_)))))))
   exact B8 (Z3 rfl rfl rfl rfl rfl) (by rw [A59,if_pos hp])
  ·simp only [K1,or_pick] at ht
   have h1:=A1 ht
   have h2:(H8 l[i]&&(decide (l.length≤i+1)||ended l[i]))=true:=by
    cases h3:(H8 l[i]&&(decide (l.length≤i+1)||ended l[i]))
    ·have h4:=hbad.2 h3
     simp only [decide_eq_false_iff_not] at h4
     refine absurd ?_ h1
     rcases h4 with h | h | h
     ·exact .inl (.inl h)
     ·exact .inl (.inr h)
     ·exact .inr ⟨h.1,by omega⟩
    ·rfl
   rw [hemp,h2,Bool.true_and] at hp
   refine k5 (k1 ?_)
   refine A4 (A3 (A5 Z Z) Z (A3 (A5 Z Z) Z (A3 (E3 Z) Z (A3 (C6 Z Z (by omega)) Z (A3 (A6 Z Z) Z (A7 ?_))))))
   refine k4 (k1 ?_)
   refine A4 (A3 (C6 Z Z (by omega)) Z (A3 (A5 Z Z) Z (A7 ?_)))
   refine k1 ?_
   refine ⟨i+1,⟨by omega,hp⟩,by omega,?_⟩
   rw [hst]
   exact K19 ⟨le1 rfl,le1 rfl,le1 rfl,le1 rfl,le1 rfl,trivial⟩ trivial
 ·have hil:i=l.length:=by have:=A1 ht;omega
  rw [hil,K87] at hfl ⊢
  rw [hil,K66 (Nat.le_refl _)] at hp
  refine k6 (k2 (k2 ?_))
  refine A4 (A3 (A5 Z Z) Z (A3 (Q1 Z Z) Z (A3 (A5 Z Z) Z (B0 Z Z Z Z (fun hg=>by rw [hg];exact A5 Z Z) ?_))));refine B0 Z Z Z Z (fun hg=>by rw [hg];exact F4 Z (.pure _ _ _ _)) ?_;refine B0 Z Z Z Z (fun hg=>by rw [hg];exact Q1 Z Z) ?_;refine A3 (B5 Z (fun h=>by first | rfl | (rw [h];rfl)) (fun h=>by first | rfl | (rw [h];rfl))) Z ?_;refine A7 ?_
  refine k1 ?_
  refine B4 rfl (fun ht=>?_) (fun ht=>?_)
  ·have h1:=A0 (or_pick.symm.trans ht)
   refine k2 ?_
   refine A4 (A3 (A6 Z Z) Z (A3 (A6 Z Z) Z (A7 ?_)))
   refine k1 (k10 (k11 ?_))
   exact B8 (Z3 rfl rfl rfl rfl rfl) (by rw [A59,if_neg (by rw [hp];simp [v8]),if_pos (by omega)])
  ·have h1:=A1 (or_pick.symm.trans ht)
   refine k5 (k1 (k2 ?_))
   refine A4 (A3 (A5 Z Z) Z (B9 (J73 l (by omega) (by omega)) Z Z Z ?_));rintro _ rfl;refine A3 (A6 Z Z) Z (A3 (A6 Z Z) Z (A7 ?_))
   refine k1 (k10 ?_)
   exact B8 (Z3 rfl rfl rfl rfl rfl) (by rw [A59,if_neg (by rw [hp];simp [v8]),if_neg (by omega)])
theorem I61 (r:Row) (res:Bool) (par:Int) (hs:r.Text.length≤1099511627776) :
  FnIo Tryz.prog 158 [pRow r] [.v (.bool res),.v (.int .u32 par)] (fun rs cs=>rs=[E8 (C20 res par r)]∧cs=[.v (.bool (B54 res r)),.v (.int .u32 (B55 par r))]):=by
 refine FnIo.intro Tryz.func158 (by decide) Z Z Z Z ?_
 refine k2 ?_
 refine A4 (C7 (T7 3 Z Z Z) Z (A3 (A6 Z Z) Z (A7 ?_)))
 refine k1 (k2 ?_)
 refine A4 (A3 (A8 Z) Z (A3 (A9 Z Z Z) Z (A3 (A6 Z Z) Z (A7 ?_))))
 refine J9 ?_
 refine u7 [(3,.s (.one (.ref 3 0))),(0,.s (.one (.ref self 0))),(5,I8 (.int .u32 (F39 r)))] [(3,.box (pRow r).s1.cells),(self,.box [.p (.v (.bool res)),.p (.v (.int .u32 par))])] ?_ ?_
 ·refine k2 ?_
  refine A4 (A3 (A8 Z) Z (A3 (A9 Z Z Z) Z (A3 (F7 Z) Z (A7 ?_))))
  refine k1 ?_
  refine B4 rfl (fun ht=>?_) (fun ht=>?_)
  ·have h:r.Lost=false:=by simpa using ht
   skip
   refine A4 (A3 (A5 Z Z) Z (A3 (n_compl Z Z (fun _=>rfl)) Z (A3 (A6 Z Z) Z (A7 ?_))))
   refine k1 ?_
   rw [F39,if_neg (by rw [h];simp)]
   exact K19 ⟨le1 rfl,le1 rfl,le1 rfl,trivial⟩ ⟨rfl,rfl,trivial⟩
  ·have h:r.Lost=true:=by simpa using ht
   refine k5 (k1 ?_)
   rw [F39,if_pos h]
   exact K19 ⟨le1 rfl,le1 rfl,le1 rfl,trivial⟩ ⟨rfl,rfl,trivial⟩
 refine k2 ?_
 refine A4 (A3 (A5 Z Z) Z (A3 (B2 Z) Z (A3 (A8 Z) Z (A3 (A9 Z Z Z) Z (A3 (A5 Z Z) Z (A3 (l8 Z Z Z (fun _=>rfl)) Z (A3 (J3 Z Z) Z (A3 (A5 Z Z) Z (B0 Z Z Z Z (fun hg=>by rw [hg];exact A8 Z) ?_)))))))));refine B0 Z Z Z Z (fun hg=>by rw [hg];exact A9 Z Z Z) ?_;refine B0 Z Z Z Z (fun hg=>by rw [hg];exact A5 Z Z) ?_;refine J4 Z Z Z (.gd (.val _)) Z (fun hg=>by obtain ⟨hg1,hg2⟩:=N4 hg;(try rw [hg1]);(try rw [hg2]);exact A5 Z Z) ?_;refine J4 Z Z Z (.gd (.val _)) Z (fun hg=>by obtain ⟨hg1,hg2⟩:=N4 hg;(try rw [hg1]);(try rw [hg2]);exact B2 Z) ?_;refine J4 Z Z Z (.gd (.val _)) Z (fun hg=>by obtain ⟨hg1,hg2⟩:=N4 hg;(try rw [hg1]);(try rw [hg2]);exact A8 Z) ?_;refine J4 Z Z Z (.gd (.val _)) Z (fun hg=>by obtain ⟨hg1,hg2⟩:=N4 hg;(try rw [hg1]);(try rw [hg2]);exact A9 Z Z Z) ?_;refine J4 Z Z Z (.gd (.val _)) Z (fun hg=>by obtain ⟨hg1,hg2⟩:=N4 hg;(try rw [hg1]);(try rw [hg2]);exact F7 Z) ?_;refine B0 Z Z Z Z (fun hg=>by rw [hg];exact B5 Z (fun h=>by first | rfl | (rw [h];rfl)) (fun h=>by first | rfl | (rw [h];rfl))) ?_;refine A3 (B5 Z (fun h=>by first | rfl | (rw [h];rfl)) (fun h=>by first | rfl | (rw [h];rfl))) Z ?_;refine A3 (A6 Z Z) Z (A7 ?_)
 refine k1 (k2 (k2 ?_))
 refine A4 (A3 (A8 Z) Z (A3 (A9 Z Z Z) Z (B9 (B83 r.Text hs) Z Z Z ?_)));rintro _ rfl;refine A3 (F7 Z) Z (A7 ?_)
 have hok:(if decide (H33 par (F39 r)=0)=true then (if r.Lost=true then true else !res) else false)=C20 res par r:=by
  rw [C20]
  cases r.Lost<;>cases res<;>by_cases h:H33 par (F39 r)=0<;>simp [h]
 refine k1 ?_
 refine B4 rfl (fun ht=>?_) (fun ht=>?_)
 ·have h:ended r.Text=false:=by simpa using ht
  refine k2 ?_
  refine A4 (A3 (A5 Z Z) Z (A3 (B2 Z) Z (A3 (A8 Z) Z (A3 (A9 Z Z Z) Z (A3 (A5 Z Z) Z (A3 (l8 Z Z Z (fun _=>rfl)) Z (A3 (B2 Z) Z (A3 (A8 Z) Z (E1 (B7 TySz.out Z Z Z Z Z Z) (A7 ?_))))))))))
  refine k1 ?_
  refine A4 (A3 (A5 Z Z) Z (A3 (A5 Z Z) Z (A3 (B2 Z) Z (A3 (A8 Z) Z (A3 (A9 Z Z Z) Z (A3 (A5 Z Z) Z (B0 Z Z Z Z (fun hg=>by rw [hg];exact A8 Z) ?_)))))));refine B0 Z Z Z Z (fun hg=>by rw [hg];exact A9 Z Z Z) ?_;refine B0 Z Z Z Z (fun hg=>by rw [hg];exact F7 Z) ?_;refine A3 (B5 Z (fun h=>by first | rfl | (rw [h];rfl)) (fun h=>by first | rfl | (rw [h];rfl))) Z ?_;refine A3 (B2 Z) Z (A3 (A8 Z) Z (E1 (B7 TySz.out Z Z Z Z Z Z) (A7 ?_)))
  refine k1 (k2 ?_)
  refine A4 (A3 (A5 Z Z) Z (A3 (A6 Z Z) Z (A7 ?_)))
  refine k1 (k10 ?_)
  refine io_ret (J6 rfl rfl rfl) rfl rfl ⟨by rw [←hok];rfl,?_⟩
  have ea:B54 res r=(res||!r.Lost):=by rw [B54,h];rfl
  have ep:B55 par r=K9 par (F39 r):=by rw [B55,h];rfl
  rw [ea,ep]
  cases res<;>rfl
 ·have h:ended r.Text=true:=by simpa using ht
  refine k5 (k1 (k2 ?_))
  refine A4 (A3 (A5 Z Z) Z (A3 (A6 Z Z) Z (A7 ?_)))
  refine k1 (k10 ?_)
  exact io_ret (J6 rfl rfl rfl) rfl rfl ⟨by rw [←hok];rfl,by rw [B54,B55,if_pos h,if_pos h]⟩
theorem F60 (t:Table) (hr:J8 t.Rows) (hl:t.Rows.length≤536870911) (hx:P5 t.Rows≤536870912):FnOk Tryz.prog 116 [pTable t] (fun rs=>rs=[F0 (M6 t)]):=by
 refine FnOk.intro Tryz.func116 (by decide) Z Z Z Z ?_
 refine k2 ?_
 refine A4 (C7 (T7 1 Z Z Z) Z (A3 (A6 Z Z) Z (A7 ?_)))
 refine k1 (k2 (k2 ?_))
 refine A4 (A3 (A8 Z) Z (A3 (A9 Z Z Z) Z (A3 (E5 Z Z) Z (A3 (A5 Z Z) Z (B0 Z Z Z Z (fun hg=>by rw [hg];exact A8 Z) ?_)))));refine B0 Z Z Z Z (fun hg=>by rw [hg];exact A9 Z Z Z) ?_;refine B0 Z Z Z Z (fun hg=>by rw [hg];exact Q1 Z Z) ?_;refine A3 (B5 Z (fun h=>by first | rfl | (rw [h];rfl)) (fun h=>by first | rfl | (rw [h];rfl))) Z ?_;refine A7 ?_
 refine k1 ?_
 refine B4 rfl (fun ht=>?_) (fun ht=>?_)
 ·have h:=A0 (or_pick.symm.trans ht)
  refine k2 ?_
  refine A4 (A3 (A6 Z Z) Z (A7 ?_))
  refine k1 (k10 (k11 ?_))
  exact B8 (J6 rfl rfl rfl) (by rw [M6,if_pos h])
 ·have h:=A1 (or_pick.symm.trans ht)
  refine L8 [(1,.s (.one (.ref 1 0)))] [(1,.box [.p (.v (.int .i64 t.Parents)),.p (.list Row 3 rowC t.Rows)])] (K19 ⟨le1 rfl,trivial⟩ ⟨rfl,trivial⟩) ?_
  refine k5 (k1 (k2 (k2 ?_)))
  refine A4 (A3 (A8 Z) Z (A3 (A9 Z Z Z) Z (A3 (F4 Z (.pure _ _ _ _)) Z (A3 (A5 Z Z) Z (A7 ?_)))))
  refine k1 (k3 ?_)
  refine E4 (X:=Nat) (fun i=>([(1,.s (.one (.ref 1 0))),(17,D3 Row 3 rowC t.Rows),(18,C2 t.Rows.length),(19,C2 i)],[(1,.box [.p (.v (.int .i64 t.Parents)),.p (.list Row 3 rowC t.Rows)])])) (fun i=>i≤t.Rows.length∧R4 t.Rows t.Parents.toNat=R4 (t.Rows.drop i) t.Parents.toNat) (fun i=>t.Rows.length - i) 0 ⟨Nat.zero_le _,rfl⟩ (K19 ⟨le1 rfl,le1 rfl,le1 rfl,le1 rfl,trivial⟩ ⟨rfl,trivial⟩) ?_
  rintro i ⟨hi,hp⟩
  dsimp only at hi hp ⊢
  refine k2 ?_
  refine A4 (A3 (E5 Z Z) Z (A7 ?_))
  refine k1 (k2 ?_)
  refine B4 rfl (fun ht=>?_) (fun ht=>?_)
  ·have hlt:i < t.Rows.length:=by have:=A0 ht;omega
   have hv:t.Rows[i]?=some t.Rows[i]:=by simp [hlt]
   rw [K64 hlt,C89] at hp
   refine k5 (k1 (k2 (k3 (k2 ?_))))
   refine A4 (A3 (C0 Z (.pure _ _ _ _) Z (by omega) hv) Z (A3 (H1 Z Z) Z (C7 (G4 4 Z) Z (E1 (B7 TySz.out Z Z Z Z Z Z) (A7 ?_)))))
   refine k1 (k2 ?_)
   refine A4 (A3 (D2 Z Z Z) Z (A3 (A8 Z) Z (A3 (A9 Z Z Z) Z (B9 (E41 t.Rows[i] t.Parents (by omega) (hr _ (K76 hlt))) Z Z Z ?_))));rintro _ rfl;refine A3 (F7 Z) Z (A7 ?_)
   refine k1 ?_
   refine B4 rfl (fun ht=>?_) (fun ht=>?_)
   ·have h2:R7 t.Parents.toNat t.Rows[i]=false:=by simpa using ht
    rw [h2,Bool.false_and] at hp
    refine k2 ?_
    refine A4 (A3 (A6 Z Z) Z (A7 ?_))
    refine k1 (k10 (k12 (k11 (k11 (k12 (k11 ?_))))))
    exact B8 (J6 rfl rfl rfl) (by rw [M6,if_neg h,if_pos hp])
   ·have h2:R7 t.Parents.toNat t.Rows[i]=true:=by simpa using ht
    rw [h2,Bool.true_and] at hp
    refine k5 (k4 (k1 ?_))
    refine A4 (A3 (C6 Z Z (by omega)) Z (A3 (A5 Z Z) Z (A7 ?_)))
    refine k1 ?_
    exact ⟨i+1,⟨by omega,hp⟩,by omega,K19 ⟨le1 rfl,le1 rfl,le1 rfl,le1 rfl,trivial⟩ ⟨rfl,trivial⟩⟩
  ·have hil:i=t.Rows.length:=by have:=A1 ht;omega
   rw [hil,K66 (Nat.le_refl _)] at hp
   have hm:R4 t.Rows t.Parents.toNat=true:=hp
   refine L8 [(1,.s (.one (.ref 1 0)))] [(1,.box [.p (.v (.int .i64 t.Parents)),.p (.list Row 3 rowC t.Rows)])] (K19 ⟨le1 rfl,trivial⟩ ⟨rfl,trivial⟩) ?_
   clear hil ht hp hi
   have hat:=E66 t.Rows t.Parents.toNat (by omega) hm hr
   refine k6 (k2 ?_)
   refine A4 (C7 (G4 5 Z) Z (A7 ?_))
   refine k1 (k2 (k2 ?_))
   refine A4 (A3 (A8 Z) Z (A3 (A9 Z Z Z) Z (A3 (F4 Z (.pure _ _ _ _)) Z (A3 (A5 Z Z) Z (A7 ?_)))))
   refine k1 (k3 ?_)
   refine E4 (X:=Nat × Bool × Int) (fun x=>([(1,.s (.one (.ref 1 0))),(5,.s (.one (.ref 5 0))),(30,D3 Row 3 rowC t.Rows),(31,C2 t.Rows.length),(32,C2 x.1)],[(1,.box [.p (.v (.int .i64 t.Parents)),.p (.list Row 3 rowC t.Rows)]),(5,.box [.p (.v (.bool x.2.1)),.p (.v (.int .u32 x.2.2))])])) (fun x=>x.1≤t.Rows.length∧P8 false 0 t.Rows=P8 x.2.1 x.2.2 (t.Rows.drop x.1)) (fun x=>t.Rows.length - x.1) (0,false,0) ⟨Nat.zero_le _,rfl⟩ (K19 ⟨le1 rfl,le1 rfl,le1 rfl,le1 rfl,le1 rfl,trivial⟩ ⟨rfl,rfl,trivial⟩) ?_
   rintro ⟨i,res,par⟩ ⟨hi,hp⟩
   dsimp only at hi hp ⊢
   refine k2 ?_
   refine A4 (A3 (E5 Z Z) Z (A7 ?_))
   refine k1 (k2 ?_)
   refine B4 rfl (fun ht=>?_) (fun ht=>?_)
   ·have hlt:i < t.Rows.length:=by have:=A0 ht;omega
    have hv:t.Rows[i]?=some t.Rows[i]:=by simp [hlt]
    have htl:=H28 t.Rows _ (K76 hlt)
    rw [K64 hlt,P8] at hp
    refine k5 (k1 (k2 (k3 (k2 ?_))))
    refine A4 (A3 (C0 Z (.pure _ _ _ _) Z (by omega) hv) Z (A3 (H1 Z Z) Z (C7 (G4 7 Z) Z (E1 (B7 TySz.out Z Z Z Z Z Z) (A7 ?_)))))
    refine k1 (k2 ?_)
    by_cases hs:H8 t.Rows[i].Text=true
    ·refine A4 (A3 (D2 Z Z Z) Z (B9 (A91 t.Rows[i] (by omega)) Z Z Z ?_));rintro _ rfl;refine A3 (F7 Z) Z (A3 (A5 Z Z) Z (X9 Z Z Z (by rw [hs];rfl) ?_));refine A3 (D2 Z Z Z) Z (X9 Z Z Z (by rw [hs];rfl) ?_);refine G83 (I61 t.Rows[i] res par (by omega)) Z Z Z Z Z Z ?_;rintro _ _ ⟨rfl,rfl⟩;refine B0 Z Z Z Z (fun hg=>by rw [hg];exact F7 Z) ?_;refine A3 (B5 Z (fun h=>by first | rfl | (rw [h];rfl)) (fun h=>by first | rfl | (rw [h];rfl))) Z ?_;refine A7 ?_
     refine k1 ?_
     refine B4 rfl (fun ht=>?_) (fun ht=>?_)
     ·have h2:C20 res par t.Rows[i]=false:=by rw [hs] at ht;simpa using ht
      rw [hs,h2,Bool.true_and,Bool.false_and] at hp
      refine k2 ?_
      refine A4 (A3 (A6 Z Z) Z (A7 ?_))
      refine k1 (k10 (k12 (k11 (k11 (k12 (k11 ?_))))))
      exact B8 (J6 rfl rfl rfl) (by rw [M6,if_neg h,if_neg (by simp [hm]),if_pos (by rw [←hat];exact hp)])
     ·have h2:C20 res par t.Rows[i]=true:=by rw [hs] at ht;simpa using ht
      rw [hs,h2,Bool.true_and,Bool.true_and] at hp
      refine k5 (k4 (k1 ?_))
      refine A4 (A3 (C6 Z Z (by omega)) Z (A3 (A5 Z Z) Z (A7 ?_)))
      refine k1 ?_
      exact ⟨(i+1,_,_),⟨by dsimp only;omega,hp⟩,by dsimp only;omega,K19 ⟨le1 rfl,le1 rfl,le1 rfl,le1 rfl,le1 rfl,trivial⟩ ⟨rfl,rfl,trivial⟩⟩
    ·have hs':H8 t.Rows[i].Text=false:=by simpa using hs
     refine A4 (A3 (D2 Z Z Z) Z (B9 (A91 t.Rows[i] (by omega)) Z Z Z ?_));rintro _ rfl;refine A3 (F7 Z) Z (A3 (A5 Z Z) Z (B0 Z Z Z Z (fun hg=>by rw [hg];exact D2 Z Z Z) ?_));refine Q7 Z Z Z (by rw [hs'];decide) Z ?_;refine Q7 Z Z Z (by rw [hs'];decide) Z ?_;refine A3 (B5 (q:=true) Z (fun h=>rfl) (fun h=>by rw [hs'] at h;cases h)) Z ?_;refine A7 ?_
     rw [hs',Bool.false_and,Bool.false_and] at hp
     refine k1 ?_
     refine B4 rfl (fun ht=>?_) (fun ht=>?_)
     ·refine k2 ?_
      refine A4 (A3 (A6 Z Z) Z (A7 ?_))
      refine k1 (k10 (k12 (k11 (k11 (k12 (k11 ?_))))))
      exact B8 (J6 rfl rfl rfl) (by rw [M6,if_neg h,if_neg (by simp [hm]),if_pos (by rw [←hat];exact hp)])
     ·rw [hs'] at ht;cases ht
   ·have hil:i=t.Rows.length:=by have:=A1 ht;omega
    rw [hil,K66 (Nat.le_refl _)] at hp
    have hp':P8 false 0 t.Rows=true:=hp
    refine k6 (k2 ?_)
    refine A4 (A3 (A6 Z Z) Z (A7 ?_))
    refine k1 (k10 ?_)
    exact B8 (J6 rfl rfl rfl) (by rw [M6,if_neg h,if_neg (by simp [hm]),if_neg (by rw [←hat,hp'];simp)])
theorem H93 (t:Table) (c:Int) (hr:J8 t.Rows) (hl:t.Rows.length≤536870911) (hx:P5 t.Rows≤536870911):FnOk Tryz.prog 114 [pTable t,F0 c] (fun rs=>rs=[G7 (A59 (K0 t.Rows c)).1,F0 (A59 (K0 t.Rows c)).2]):=by
 refine FnOk.intro Tryz.func114 (by decide) Z Z Z Z ?_
 refine k2 ?_
 refine A4 (C7 (T7 2 Z Z Z) Z (A3 (A6 Z Z) Z (A3 (A6 Z Z) Z (A7 ?_))))
 refine k1 (k2 ?_)
 refine A4 (C7 (B77 6 _ L0 Z) Z (A7 ?_))
 refine k1 (k2 (k2 ?_))
 refine A4 (A3 (A8 Z) Z (A3 (A9 Z Z Z) Z (A3 (F4 Z (.pure _ _ _ _)) Z (A3 (A5 Z Z) Z (A7 ?_)))))
 refine k1 (k3 ?_)
 refine E4 (X:=Nat) (fun i=>([(1,C2 c),(2,.s (.one (.ref 2 0))),(6,.s (.one (.buf 6 Str 1 L0 (K0 (t.Rows.take i) c)))),(10,D3 Row 3 rowC t.Rows),(11,C2 t.Rows.length),(12,C2 i)],[(6,.spare (K0 (t.Rows.take i) c).length 1 9)])) (fun i=>i≤t.Rows.length) (fun i=>t.Rows.length - i) 0 (Nat.zero_le _) (K19 ⟨le1 rfl,le1 rfl,le1 rfl,le1 rfl,le1 rfl,le1 rfl,trivial⟩ ⟨rfl,trivial⟩) ?_
 intro i hi
 dsimp only at hi ⊢
 have hcl:=B88 (t.Rows.take i) c
 rw [K70] at hcl
 refine k2 ?_
 refine A4 (A3 (E5 Z Z) Z (A7 ?_))
 refine k1 (k2 ?_)
 refine B4 rfl (fun ht=>?_) (fun ht=>?_)
 ·have hlt:i < t.Rows.length:=by have:=A0 ht;omega
  have hv:t.Rows[i]?=some t.Rows[i]:=by simp [hlt]
  have hst:K0 (t.Rows.take (i+1)) c=K0 (t.Rows.take i) c++(if a8 t.Rows[i] c then [t.Rows[i].Text] else []):=by
   unfold K0
   rw [K67 hlt,L04,K73]
   cases hv:a8 t.Rows[i] c<;>simp [hv]
  refine k5 (k1 (k2 (k3 (k2 ?_))))
  refine A4 (A3 (C0 Z (.pure _ _ _ _) Z (by omega) hv) Z (A3 (H1 Z Z) Z (C7 (G4 8 Z) Z (E1 (B7 TySz.out Z Z Z Z Z Z) (A7 ?_)))))
  refine k1 (k2 ?_)
  refine A4 (A3 (D2 Z Z Z) Z (A3 (A5 Z Z) Z (B9 (D60 t.Rows[i] c (hr _ (K76 hlt))) Z Z Z ?_)));rintro _ rfl;refine A7 ?_
  refine k1 ?_
  refine B4 rfl (fun ht=>?_) (fun ht=>?_)
  ·rw [ht,if_pos rfl] at hst
   skip
   refine A4 (A3 (A5 Z Z) Z (A3 (A8 Z) Z (A3 (A9 Z Z Z) Z (A3 (E2 (c:=L0) (ys:=[_]) (E9 Z Z Z Z I4) Z Z Z) Z (C7 (L1 Z Z Z (.pure _ _ _ _) (by (simp only [K58,K61];omega)) Z) Z (A3 (A6 Z Z) Z (A7 ?_)))))))
   refine k4 (k1 ?_)
   refine A4 (A3 (C6 Z Z (by omega)) Z (A3 (A5 Z Z) Z (A7 ?_)))
   refine k1 ?_
   refine ⟨i+1,by omega,by omega,?_⟩
   rw [hst]
   exact K19 ⟨le1 rfl,le1 rfl,le1 rfl,le1 rfl,le1 rfl,le1 rfl,trivial⟩ ⟨rfl,trivial⟩
  ·rw [ht,if_neg (by simp),K81] at hst
   refine k5 (k4 (k1 ?_))
   refine A4 (A3 (C6 Z Z (by omega)) Z (A3 (A5 Z Z) Z (A7 ?_)))
   refine k1 ?_
   refine ⟨i+1,by omega,by omega,?_⟩
   rw [hst]
   exact K19 ⟨le1 rfl,le1 rfl,le1 rfl,le1 rfl,le1 rfl,le1 rfl,trivial⟩ ⟨rfl,trivial⟩
 ·have hil:i=t.Rows.length:=by have:=A1 ht;omega
  rw [hil,K87] at hcl ⊢
  have hfl:=I21 t.Rows c
  refine k6 (k2 ?_)
  refine A4 (A3 (A5 Z Z) Z (B9 (J75 (K0 t.Rows c) (by omega) (by omega)) Z Z Z ?_));rintro _ rfl;refine A3 (B3 Z Z) Z (A3 (B3 Z Z) Z (A3 (A6 Z Z) Z (A3 (A6 Z Z) Z (A7 ?_))))
  refine k1 (k10 ?_)
  exact B8 (Z3 rfl rfl rfl rfl rfl) rfl
theorem C39 (t:Table) (c:Int) (hr:J8 t.Rows) (hl:t.Rows.length≤536870911) (hx:P5 t.Rows≤536870911):FnOk Tryz.prog 60 [pTable t,F0 c] (fun rs=>rs=[G7 (T0 t c).1,F0 (T0 t c).2]):=by
 refine FnOk.intro Tryz.func60 (by decide) Z Z Z Z ?_
 refine k2 ?_
 refine A4 (C7 (T7 2 Z Z Z) Z (A3 (A6 Z Z) Z (A3 (A6 Z Z) Z (A7 ?_))))
 refine k1 (k2 (k2 ?_))
 refine A4 (A3 (D2 Z Z Z) Z (B9 (F60 t hr hl (by omega)) Z Z Z ?_));rintro _ rfl;refine A3 (A6 Z Z) Z (A7 ?_)
 refine k1 (k2 ?_)
 refine A4 (A3 (A5 Z Z) Z (A3 (N6 Z Z) Z (A7 ?_)))
 refine k1 ?_
 refine B4 rfl (fun ht=>?_) (fun ht=>?_)
 ·have h:=A0 ht
  refine k2 ?_
  refine A4 (A3 (A5 Z Z) Z (A3 (A6 Z Z) Z (A3 (A6 Z Z) Z (A7 ?_))))
  refine k1 (k10 (k11 ?_))
  exact B8 (Z3 rfl rfl rfl rfl rfl) (by rw [T0,if_pos h])
 ·have h:=A1 ht
  refine k5 (k1 (k2 (k2 ?_)))
  refine A4 (A3 (A5 Z Z) Z (A3 (E5 Z Z) Z (A3 (A5 Z Z) Z (B0 Z Z Z Z (fun hg=>by rw [hg];exact A5 Z Z) ?_))));refine B0 Z Z Z Z (fun hg=>by rw [hg];exact A8 Z) ?_;refine B0 Z Z Z Z (fun hg=>by rw [hg];exact A9 Z Z Z) ?_;refine B0 Z Z Z Z (fun hg=>by rw [hg];exact s8 Z Z) ?_;refine A3 (B5 Z (fun h=>by first | rfl | (rw [h];rfl)) (fun h=>by first | rfl | (rw [h];rfl))) Z ?_;refine A7 ?_
  refine k1 ?_
  refine B4 rfl (fun ht=>?_) (fun ht=>?_)
  ·have h2:=A0 (or_pick.symm.trans ht)
   refine k2 ?_
   refine A4 (A3 (A6 Z Z) Z (A3 (A6 Z Z) Z (A7 ?_)))
   refine k1 (k10 (k11 ?_))
   exact B8 (Z3 rfl rfl rfl rfl rfl) (by rw [T0,if_neg h,if_pos h2])
  ·have h2:=A1 (or_pick.symm.trans ht)
   refine k5 (k1 (k2 ?_))
   refine A4 (A3 (D2 Z Z Z) Z (A3 (A5 Z Z) Z (B9 (H93 t c hr hl hx) Z Z Z ?_)));rintro _ rfl;refine A3 (B3 Z Z) Z (A3 (B3 Z Z) Z (A3 (A6 Z Z) Z (A3 (A6 Z Z) Z (A7 ?_))))
   refine k1 (k10 ?_)
   exact B8 (Z3 rfl rfl rfl rfl rfl) (by rw [T0,if_neg h,if_neg h2])
def isBld (ob:Obs) (xs:Str):Prop:=(∃a,(a=.p (.v (.pointer none))∨a=.ref 700 0)∧C4 ob 700=some (.tbx 124 [a,.buf 701 UInt8 1 u8C xs]))∧C4 ob 701=some (.spare xs.length 1 5)
abbrev bldObs (ob:Obs) (ys xs:Str):Obs:=(700,.tbx 124 [.ref 700 0,.buf 701 UInt8 1 u8C xs])::(701,.spare xs.length 1 5)::Obs.forget 701 ((700,.tbx 124 [.ref 700 0,.buf 701 UInt8 1 u8C ys])::ob)
def I62:Go.Shelf.Ren:=⟨fun | 240=>147 | 276=>204 | n=>n,fun | 72=>124 | 70=>122 | 164=>240 | 37=>115 | n=>n,fun n=>n⟩
theorem ccLays:Go.Proofs.Lays.n240 Tryz.prog I62:={
 mixed:=by kernel_rfl
 f240:=Tryz.func147.trans (congrArg some (by kernel_rfl))
 f276:=Tryz.func204.trans (congrArg some (by kernel_rfl))
 t0:=Tryz.underlying0
 a0:=Tryz.isAgg0
 z0:=Tryz.sizeOf0
 v0:=Tryz.zeroValue0
 t4:=Tryz.underlying4
 a4:=Tryz.isAgg4
 z4:=Tryz.sizeOf4
 v4:=Tryz.zeroValue4
 t9:=Tryz.underlying9
 a9:=Tryz.isAgg9
 z9:=Tryz.sizeOf9
 v9:=Tryz.zeroValue9
 t20:=Tryz.underlying20
 a20:=Tryz.isAgg20
 z20:=Tryz.sizeOf20
 v20:=Tryz.zeroValue20
 t70:=Tryz.underlying122
 a70:=Tryz.isAgg122
 z70:=Tryz.sizeOf122
 v70:=Tryz.zeroValue122
 t72:=Tryz.underlying124
 a72:=Tryz.isAgg124
 z72:=Tryz.sizeOf124
 v72:=Tryz.zeroValue124
 t164:=Tryz.underlying240
 a164:=Tryz.isAgg240
 z164:=Tryz.sizeOf240
 v164:=Tryz.zeroValue240 }
theorem ccX:Builder.X72 Tryz.prog I62:={
 sizeBuilder:=by kernel_rfl
 liesBuilder:=by kernel_rfl }
theorem C13 {gf:Fr} {ob:Obs} {a t:TC} (hk:C4 ob 700=some (.tbx 124 [a,t])) (ha:a=.p (.v (.pointer none))∨a=.ref 700 0) :
  AL.Met Tryz.prog 147 [.one (.ref 700 0)] gf ob [] (fun rs ob'=>rs=[]∧ob'=(700,.tbx 124 [.ref 700 0,t])::ob) :=
 AL.Met.copyCheck ⟨_,rfl,rfl,rfl⟩ (fun b w h1 h2 h3=>Any.Builder_copyCheck_fresh (ρ:=I62) ccLays ccX b w h1 h2 h3) (fun b w h=>Any.Builder_copyCheck_used (ρ:=I62) ccLays ccX b w h) hk ha
theorem P3 {gf:Fr} {ob:Obs} {xs s:Str} (hb:isBld ob xs) (hlen:xs.length+s.length≤1073741824) :
  AL.Met Tryz.prog 85 [.one (.ref 700 0),.one (.p (.v (.string ⟨s.toArray⟩)))] gf ob [701] (fun rs ob'=>rs=[.one (.p (.v (.int .i64 s.length))),.one (.p (.v .nilIface))]∧ob'=bldObs ob xs (xs++s)):=by
 obtain ⟨⟨a,ha,hk⟩,hk1⟩:=hb
 refine AL.Met.intro Tryz.func85 (by decide) Z Z Z ?_
 refine k2 ?_
 refine A4 (A3 (A6 Z Z) Z (A3 (A6 Z Z) Z (A7 ?_)))
 refine k1 (k2 ?_)
 refine A4 (A3 (A5 Z Z) Z (U3 (C13 hk ha) Z Z Z ?_));rintro _ _ ⟨rfl,rfl⟩;refine A7 ?_
 refine k1 (k2 ?_)
 refine A4 (A3 (A5 Z Z) Z (A3 (A5 Z Z) Z (A3 (B2 Z) Z (A3 (A8 Z) Z (A3 (D56 Z Z Z) Z (A3 (A5 Z Z) Z (C7 (C27 TyStr.out Z hk1 Z (by first | omega | (simp;omega)) Z) Z (A3 (B2 Z) Z (A3 (A8 Z) Z (E1 (C69 TySz.out Z Z Z Z Z Z) (A7 ?_)))))))))))
 refine k1 (k2 ?_)
 refine A4 (A3 (A5 Z Z) Z (A3 (E3 Z) Z (A3 (A6 Z Z) Z (A3 (A6 Z Z) Z (A7 ?_)))))
 refine k1 (k10 ?_)
 exact H3 (A67 rfl rfl rfl) (by repeat (first | exact C5 | refine tail_cons rfl ?_ | refine D5 _ ?_)) (fun _ _ h=>h) ⟨rfl,rfl⟩
theorem C14 {gf:Fr} {ob:Obs} {xs:Str} {c:UInt8} (hb:isBld ob xs) (hlen:xs.length+1≤1073741824) :
  AL.Met Tryz.prog 136 [.one (.ref 700 0),.one (.p (.v (.int .u8 c.toNat)))] gf ob [701] (fun rs ob'=>rs=[.one (.p (.v .nilIface))]∧ob'=bldObs ob xs (xs++[c])):=by
 obtain ⟨⟨a,ha,hk⟩,hk1⟩:=hb
 refine AL.Met.intro Tryz.func136 (by decide) Z Z Z ?_
 refine k2 ?_
 refine A4 (A3 (A6 Z Z) Z (A7 ?_))
 refine k1 (k2 ?_)
 refine A4 (A3 (A5 Z Z) Z (U3 (C13 hk ha) Z Z Z ?_));rintro _ _ ⟨rfl,rfl⟩;refine A7 ?_
 refine k1 (k2 ?_)
 refine A4 (A3 (A5 Z Z) Z (A3 (A5 Z Z) Z (A3 (B2 Z) Z (A3 (A8 Z) Z (A3 (D56 Z Z Z) Z (A3 (A5 Z Z) Z (A3 (E2 (c:=u8C) (ys:=[c]) (E9 Z Z Z Z I4) Z Z Z) Z (C7 (L1 Z hk1 Z (.pure _ _ _ _) (by (simp;omega)) Z) Z (A3 (B2 Z) Z (A3 (A8 Z) Z (E1 (C69 TySz.out Z Z Z Z Z Z) (A7 ?_))))))))))))
 refine k1 (k2 ?_)
 refine A4 (A3 (A6 Z Z) Z (A7 ?_))
 refine k1 (k10 ?_)
 exact H3 (U2 rfl rfl) (by repeat (first | exact C5 | refine tail_cons rfl ?_ | refine D5 _ ?_)) (fun _ _ h=>h) ⟨rfl,rfl⟩
end Go.Proofs.YtbiadkkamhpdnaaGreatDoor
