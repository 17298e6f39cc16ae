/- Walks of the program's functions. -/
import Derived.Test.YtbiadkkamhpdnaaGreatDoorTy
import Derived.Test.YtbiadkkamhpdnaaGreatDoorFs
import Derived.Test.YtbiadkkamhpdnaaGreatDoorSh
set_option linter.unusedSimpArgs false
namespace Go.Proofs.YtbiadkkamhpdnaaGreatDoor
open Go Go.AL
set_option maxRecDepth 100000
theorem G43 (p:Int):0≤IntKind.u64.wrap p:=by simp [IntKind.wrap,IntKind.signed,IntKind.bits];omega
theorem I13 (b:Str) (hb:b.length≤536870912):FnOk Tryz.prog 70 [N6 b] (fun rs=>rs=[A64 (B7 b)]):=by
 refine FnOk.intro Tryz.func70 (by decide) Z Z Z Z ?_
 refine k2 ?_
 refine A4 (A3 (A6 Z Z) Z (A7 ?_))
 refine k1 (k2 ?_)
 refine A4 (C4 (B05 3 _ P3 Z) Z (A7 ?_))
 refine k1 (k2 ?_)
 refine A4 (A3 (A6 Z Z) Z (A7 ?_))
 refine k1 (k2 (k2 ?_))
 refine A4 (A3 (A6 Z Z) Z (A7 ?_))
 refine k1 (k3 ?_)
 refine E2 (X:=Nat × Nat × List Str) (fun x=>([(0,U4 b),(3,.s (.one (.buf 3 Str 1 P3 x.2.2))),(4,B8 x.2.1),(5,B8 x.1)],[(3,.spare x.2.2.length 1 9)]))
  (fun x=>x.1≤b.length∧x.2.1≤x.1∧x.2.2.length≤x.1∧(x.1=b.length→x.2.1=x.1)∧x.2.2++F4 ((b.drop x.2.1).take (x.1 - x.2.1)) (b.drop x.1)=B7 b) (fun x=>b.length - x.1) (0,0,[]) (by simp [B7]) ?_ ?_
 ·exact I62 ⟨⟨_,rfl,.same _⟩,⟨_,rfl,.same _⟩,⟨_,rfl,.same _⟩,⟨_,rfl,.same _⟩,trivial⟩ ⟨rfl,trivial⟩
 ·rintro ⟨i,from',out⟩ ⟨hi,hf,ho,he,hp⟩
  dsimp only at hi hf ho he hp ⊢
  refine k2 (k2 ?_)
  refine A4 (A3 (A5 Z Z) Z (A3 (A5 Z Z) Z (A3 (J4 Z) Z (A3 (F1 Z Z) Z (A7 ?_)))))
  refine k1 ?_
  refine B3 rfl (fun ht=>?_) (fun ht=>?_)
  ·have hlt:i < b.length:=by simpa using ht
   have hv:b[i]?=some b[i]:=by simp [hlt]
   refine k5 (k1 (k2 (k3 (k2 ?_))))
   refine A4 (A3 (A5 Z Z) Z (A3 (A5 Z Z) Z (A3 (T6 Z Z (by omega) hv) Z (A3 (O2 Z Z) Z (A3 (A5 Z Z) Z (B0 Z Z Z Z (fun hg=>by rw [hg];exact A5 Z Z) ?_))))));refine B0 Z Z Z Z (fun hg=>by have hq:=hg;(try simp at hq);rw [hg];exact C2 Z Z (by omega)) ?_;refine B0 Z Z Z Z (fun hg=>by rw [hg];exact A5 Z Z) ?_;refine B0 Z Z Z Z (fun hg=>by rw [hg];exact J4 Z) ?_;refine B0 Z Z Z Z (fun hg=>by rw [hg];exact O2 Z Z) ?_;refine A3 (B5 Z (fun h=>by first | rfl | (rw [h];rfl)) (fun h=>by first | rfl | (rw [h];rfl))) Z ?_;refine A7 ?_
   refine k1 ?_
   refine B3 rfl (fun ht2=>?_) (fun ht2=>?_)
   ·refine k2 ?_
    refine A4 (A3 (A5 Z Z) Z (A3 (A5 Z Z) Z (A3 (A5 Z Z) Z (A3 (A5 Z Z) Z (A3 (C2 Z Z (by omega)) Z (A3 (F47 Z Z Z (by omega) (by omega) (by omega)) Z (A3 (E1 (c:=P3) (ys:=[_]) (E6 Z Z Z Z I0) Z Z Z) Z (C4 (J8 Z Z Z (.pure _ _ _ _) (by simp;omega) Z) Z (A3 (A6 Z Z) Z (A7 ?_))))))))))
    refine k1 ?_
    refine A4 (A3 (A5 Z Z) Z (A3 (C2 Z Z (by omega)) Z (A3 (A6 Z Z) Z (A7 ?_))))
    refine k4 (k1 ?_)
    refine A4 (A3 (A5 Z Z) Z (A3 (C2 Z Z (by omega)) Z (A3 (A6 Z Z) Z (A7 ?_))))
    refine k1 ?_
    refine ⟨(i+1,i+1,_),⟨?_,?_,?_,?_,?_⟩,?_,I62 ⟨⟨_,rfl,.same _⟩,⟨_,rfl,.same _⟩,⟨_,rfl,.same _⟩,⟨_,rfl,.same _⟩,trivial⟩ ⟨rfl,trivial⟩⟩
    all_goals dsimp only
    ·omega
    ·omega
    ·simp;omega
    ·omega
    ·have hc:b[i]=10∨i+1=b.length:=by
      simp only [u8_lf] at ht2
      by_cases h:b[i]=10
      ·exact .inl h
      ·simp [h] at ht2;exact .inr (by omega)
     rw [G68,I99,Nat.sub_self,List.take_zero,←E57 b from' i hf hlt,J07,←hp,J00 hlt,j8]
     rcases hc with h | h
     ·rw [if_pos h];rfl
     ·have hd:b.drop (i+1)=[]:=J04 (by omega)
      rw [hd]
      split
      ·rfl
      ·rw [show F4 ([]:Str) []=[] from rfl,F14 _ (by simp)];simp
    ·omega
   ·refine k5 (k4 (k1 ?_))
    refine A4 (A3 (A5 Z Z) Z (A3 (C2 Z Z (by omega)) Z (A3 (A6 Z Z) Z (A7 ?_))))
    refine k1 ?_
    refine ⟨(i+1,from',out),⟨?_,?_,?_,?_,?_⟩,?_,I62 ⟨⟨_,rfl,.same _⟩,⟨_,rfl,.same _⟩,⟨_,rfl,.same _⟩,⟨_,rfl,.same _⟩,trivial⟩ ⟨rfl,trivial⟩⟩
    all_goals dsimp only
    ·omega
    ·omega
    ·omega
    ·intro h
     simp [show (i:Int)+1=(b.length:Int) by omega] at ht2
    ·have hc:b[i]≠10:=fun h=>by simp [h] at ht2
     rw [←E57 b from' i hf hlt,←hp,J00 hlt,j8,if_neg hc]
    ·omega
  ·refine k6 (k2 ?_)
   refine A4 (A3 (A5 Z Z) Z (A3 (A6 Z Z) Z (A7 ?_)))
   refine k1 (k10 ?_)
   refine C0 (I2 Z Z Z) ?_
   have hi':i=b.length:=by simp at ht;omega
   subst hi'
   have:=he rfl
   subst this
   rw [Nat.sub_self,List.take_zero,J04 (Nat.le_refl _)] at hp
   rw [←hp];simp [F4]
end Go.Proofs.YtbiadkkamhpdnaaGreatDoor
namespace Go.Proofs.YtbiadkkamhpdnaaGreatDoor
open Go Go.AL
set_option maxRecDepth 100000
theorem u64_in {n:Int} (h:0≤n∧n < 18446744073709551616):IntKind.u64.wrap n=n:=by simp [IntKind.wrap,IntKind.signed,IntKind.bits];omega
def Q3 (a n:Int):Int:=IntKind.u64.wrap a % n
theorem W3 (a:Int) {n:Int} (h:1≤n):0≤Q3 a n∧Q3 a n < n:=⟨Int.emod_nonneg _ (by omega),Int.emod_lt_of_pos _ (by omega)⟩
theorem D29 (a n:Int) (hn:1≤n) (hn':n≤9223372036854775807):FnOk Tryz.prog 18 [J0 a,J0 n] (fun rs=>rs=[J0 (Q3 a n)]):=by
 refine FnOk.intro Tryz.func18 (by decide) Z Z Z Z ?_
 refine k2 ?_
 refine A4 (A3 (A6 Z Z) Z (A7 ?_))
 refine k1 (k2 ?_)
 have h1:IntKind.u64.wrap n=n:=u64_in (by omega)
 refine A4 (A3 (A5 Z Z) Z (A3 (V3 Z) Z (A3 (A5 Z Z) Z (A3 (V3 Z) Z (A3 (F45 Z Z (by (rw [h1];omega))) Z ?_)))));refine A3 (V3 Z) Z (A3 (A6 Z Z) Z (A7 ?_))
 refine k1 (k10 ?_)
 refine C0 (I2 Z Z Z) ?_
 have h2:=G43 a
 have h3:(IntKind.u64.wrap a).tmod n=IntKind.u64.wrap a % n:=Int.tmod_eq_emod_of_nonneg h2
 have h4:=W3 a hn
 unfold Q3 at *
 rw [h1,h3,F50 ⟨by omega,by omega⟩]
def xor64 (a b:Int):Int:=IntKind.u64.wrap ((BitVec.ofInt IntKind.u64.bits a ^^^ BitVec.ofInt IntKind.u64.bits b).toNat:Int)
def shr64 (a n:Int):Int:=a.fdiv (2 ^ (min n.toNat IntKind.u64.bits))
def at0 (k:Int):Int:=IntKind.u64.wrap (IntKind.u64.wrap (k+1)*11400714819323198485)
def at1 (raw:List Int) (k:Int):Int:=if 0 < raw.length then xor64 (at0 k) (IntKind.u64.wrap (raw.getD (k.tmod raw.length).toNat 0)) else at0 k
def at2 (x:Int):Int:=IntKind.u64.wrap (xor64 x (shr64 x 31)*13787848793156543929)
def Z3 (raw:List Int) (k:Int):Int:=IntKind.i64.wrap (shr64 (xor64 (at2 (at1 raw k)) (shr64 (at2 (at1 raw k)) 29)) 1)
theorem E46 (raw:List Int) (k:Int) (h0:0≤k) (h1:k≤1099511627776):FnOk Tryz.prog 25 [P2 raw,J0 k] (fun rs=>rs=[J0 (Z3 raw k)]):=by
 refine FnOk.intro Tryz.func25 (by decide) Z Z Z Z ?_
 refine H04 (t:=0) rfl (.pure _ _ _ _) fun hlen=>?_
 refine k2 ?_
 refine A4 (A3 (A6 Z Z) Z (A7 ?_))
 refine k1 (k2 ?_)
 refine A4 (A3 (A5 Z Z) Z (A3 (C2 Z Z (by omega)) Z (A3 (V3 Z) Z (A3 (E87 Z Z) Z (A3 (A6 Z Z) Z (A7 ?_))))))
 refine K8 ?_
 refine A66 [(0,C7 Int 1 G5 raw),(1,B8 k),(5,H5 (.int .u64 (at1 raw k)))] [] ?_ ?_
 ·refine k2 ?_
  refine A4 (A3 (A5 Z Z) Z (A3 (E3 Z (.pure _ _ _ _)) Z (A3 (R1 Z Z) Z (A7 ?_))))
  refine k1 ?_
  refine B3 rfl (fun ht=>?_) (fun ht=>?_)
  ·have hpos:0 < raw.length:=by have:=A0 ht;omega
   have hm0:0≤k.tmod raw.length:=Int.tmod_nonneg _ h0
   have hm1:k.tmod raw.length < raw.length:=Int.tmod_lt_of_pos _ (by omega)
   have hv:raw[(k.tmod raw.length).toNat]?=some (raw.getD (k.tmod raw.length).toNat 0):=by
    rw [I98,I94 (by omega)];rfl
   skip
   refine A4 (A3 (A5 Z Z) Z (A3 (A5 Z Z) Z (A3 (A5 Z Z) Z (A3 (A5 Z Z) Z (A3 (E3 Z (.pure _ _ _ _)) Z (A3 (F45 Z Z (by omega)) Z (A3 (B4 Z (.pure _ _ _ _) Z (by omega) hv) Z (A3 (C5 Z Z) Z (A3 (V3 Z) Z (A3 (n4 Z Z Z (fun _=>rfl)) Z (A3 (A6 Z Z) Z (A7 ?_))))))))))))
   refine k1 ?_
   rw [at1,if_pos hpos]
   exact I62 ⟨le1 rfl,le1 rfl,le1 rfl,trivial⟩ trivial
  ·have hpos:¬0 < raw.length:=by have:=A1 ht;omega
   refine k5 (k1 ?_)
   rw [at1,if_neg hpos]
   exact I62 ⟨le1 rfl,le1 rfl,le1 rfl,trivial⟩ trivial
 ·refine k2 ?_
  refine A4 (A3 (A5 Z Z) Z (A3 (A5 Z Z) Z (A3 (B27 Z Z (by omega)) Z (A3 (n4 Z Z Z (fun _=>rfl)) Z (A3 (E87 Z Z) Z (A3 (A6 Z Z) Z (A7 ?_)))))))
  refine k1 (k2 ?_)
  refine A4 (A3 (A5 Z Z) Z (A3 (A5 Z Z) Z (A3 (B27 Z Z (by omega)) Z (A3 (n4 Z Z Z (fun _=>rfl)) Z (A3 (B27 Z Z (by omega)) Z (A3 (V3 Z) Z (A3 (A6 Z Z) Z (A7 ?_))))))))
  refine k1 (k10 ?_)
  exact C0 (I2 rfl rfl rfl) rfl
def lineTab:List Str:=[[97],[98],[99],[97,98],[98,97],[],[97,97],[98,32,97],[120,43,121],[92]]
def d5 (k:Int):Str:=lineTab.getD (Q3 k 10).toNat []
theorem F66:∀s∈lineTab,s.length≤3:=by decide
theorem A25 (k:Int):(d5 k).length≤3:=by
 unfold d5
 rw [I98]
 cases h:lineTab[(Q3 k 10).toNat]? with
 | none=>simp
 | some s=>exact F66 s (J10 h)
theorem F67 (k:Int):FnOk Tryz.prog 24 [J0 k] (fun rs=>rs=[N6 (d5 k)]):=by
 refine FnOk.intro Tryz.func24 (by decide) Z Z Z Z ?_
 refine k2 ?_
 refine A4 (A3 (A6 Z Z) Z (A7 ?_))
 refine k1 (k2 ?_)
 have hm:=W3 k (n:=10) (by decide)
 have hv:lineTab[(Q3 k 10).toNat]?=some (d5 k):=by
  unfold d5
  rw [I98,I94 (show (Q3 k 10).toNat < lineTab.length by simp [lineTab];omega)];rfl
 refine A4 (A3 (E1 (c:=P3) (ys:=lineTab) (E6 Z Z Z Z (E6 Z Z Z Z (E6 Z Z Z Z (E6 Z Z Z Z (E6 Z Z Z Z (E6 Z Z Z Z (E6 Z Z Z Z (E6 Z Z Z Z (E6 Z Z Z Z (E6 Z Z Z Z I0)))))))))) Z Z Z) Z (A3 (A5 Z Z) Z (C8 (D29 k 10 (by decide) (by decide)) Z Z Z ?_)));rintro _ rfl;refine A3 (B4 Z (.pure _ _ _ _) Z (by omega) hv) Z (A3 (C5 Z Z) Z (A3 (A6 Z Z) Z (A7 ?_)))
 refine k1 (k10 ?_)
 exact C0 (I2 rfl rfl rfl) rfl
def P9 (raw:List Int) (from':Int) (kinds:Int) (m:Nat):Str:=((List.range m).map fun (i:Nat)=>d5 (Q3 (Z3 raw (from'+1+(i:Int))) kinds)++[10]).flatten
def T9 (raw:List Int) (from' n kinds:Int):Str :=
 let s:=P9 raw from' kinds (Q3 (Z3 raw from') (n+1)).toNat
 if ((Z3 raw (from'+90)).tmod 4=0∧(1:Int) < s.length)∧((s.getD (s.length - 2) 0).toNat:Int)≠10 then s.take (s.length - 1) else s
theorem u9 (raw:List Int) (from' kinds:Int) (m:Nat):P9 raw from' kinds (m+1)=P9 raw from' kinds m++d5 (Q3 (Z3 raw (from'+1+(m:Int))) kinds)++[10]:=by
 unfold P9;rw [J32,J08,J14];simp
theorem B35 (raw:List Int) (from' kinds:Int) (m:Nat):(P9 raw from' kinds m).length≤4*m:=by
 induction m with
 | zero=>simp [P9]
 | succ m ih=>have:=A25 (Q3 (Z3 raw (from'+1+(m:Int))) kinds);rw [u9];simp only [I93,I95,I97];omega
theorem H10 (raw:List Int) (from' n kinds:Int) (h0:0≤from'∧from'≤1073741824) (h1:0≤n∧n≤1048576) (h2:1≤kinds∧kinds≤1048576) :
  FnOk Tryz.prog 64 [P2 raw,J0 from',J0 n,J0 kinds] (fun rs=>rs=[N6 (T9 raw from' n kinds)]):=by
 obtain ⟨m,hm⟩:∃m:Nat,Q3 (Z3 raw from') (n+1)=m:=⟨(Q3 (Z3 raw from') (n+1)).toNat,by have:=W3 (Z3 raw from') (n:=n+1) (by omega);omega⟩
 have hmi:=W3 (Z3 raw from') (n:=n+1) (by omega)
 have hml:m≤1048576:=by omega
 refine FnOk.intro Tryz.func64 (by decide) Z Z Z Z ?_
 refine k2 ?_
 refine A4 (A3 (A6 Z Z) Z (A7 ?_))
 refine k1 (k2 ?_)
 refine A4 (A3 (A5 Z Z) Z (A3 (A5 Z Z) Z (C8 (E46 raw from' (by omega) (by omega)) Z Z Z ?_)));rintro _ rfl;refine A3 (A5 Z Z) Z (A3 (C2 Z Z (by omega)) Z (C8 (D29 _ (n+1) (by omega) (by omega)) Z Z Z ?_));rintro _ rfl;refine A3 (A6 Z Z) Z (A7 ?_)
 refine k1 (k2 ?_)
 rw [hm]
 refine A4 (A3 (A6 Z Z) Z (A7 ?_))
 refine k1 (k2 (k2 ?_))
 refine A4 (A3 (A6 Z Z) Z (A7 ?_))
 refine k1 (k3 ?_)
 refine E2 (X:=Nat) (fun i=>([(0,C7 Int 1 G5 raw),(1,B8 from'),(2,B8 m),(3,B8 kinds),(9,U4 (P9 raw from' kinds i)),(10,B8 i)],[])) (fun i=>i≤m) (fun i=>m - i) 0 (Nat.zero_le _) (I62 ⟨le1 rfl,le1 rfl,le1 rfl,le1 rfl,le1 rfl,le1 rfl,trivial⟩ trivial) ?_
 intro i hi
 dsimp only at hi ⊢
 have hbl:=B35 raw from' kinds i
 refine k2 (k2 ?_)
 refine A4 (A3 (A5 Z Z) Z (A3 (A5 Z Z) Z (A3 (F1 Z Z) Z (A7 ?_))))
 refine k1 ?_
 refine B3 rfl (fun ht=>?_) (fun ht=>?_)
 ·have hlt:i < m:=by have:=A0 ht;omega
  have hll:=A25 (Q3 (Z3 raw (from'+1+(i:Int))) kinds)
  refine k5 (k1 (k2 (k3 ?_)))
  refine A4 (A3 (A5 Z Z) Z (A3 (A5 Z Z) Z (A3 (A5 Z Z) Z (A3 (C2 Z Z (by omega)) Z (A3 (A5 Z Z) Z (A3 (C2 Z Z (by omega)) Z (C8 (E46 raw _ (by omega) (by omega)) Z Z Z ?_)))))));rintro _ rfl;refine A3 (A5 Z Z) Z (C8 (D29 _ kinds (by omega) (by omega)) Z Z Z ?_);rintro _ rfl;refine C8 (F67 _) Z Z Z ?_;rintro _ rfl;refine A3 (J3 Z Z (by omega)) Z (A3 (J3 Z Z (by (simp only [I93,I95,I97];omega))) Z (A3 (A6 Z Z) Z (A7 ?_)))
  refine k4 (k1 ?_)
  refine A4 (A3 (A5 Z Z) Z (A3 (C2 Z Z (by omega)) Z (A3 (A6 Z Z) Z (A7 ?_))))
  refine k1 ?_
  refine ⟨i+1,by omega,by omega,?_⟩
  rw [u9]
  exact I62 ⟨le1 rfl,le1 rfl,le1 rfl,le1 rfl,le1 rfl,le1 rfl,trivial⟩ trivial
 ·have hi':i=m:=by have:=A1 ht;omega
  subst hi'
  obtain ⟨s,hs⟩:∃s,s=P9 raw from' kinds i:=⟨_,rfl⟩
  have hv:(1:Int) < s.length→s[((s.length:Int) - 2).toNat]?=some (s.getD (s.length - 2) 0):=fun h=>by
   rw [show ((s.length:Int) - 2).toNat=s.length - 2 by omega,I98,I94 (by omega)];rfl
  have hbo:T9 raw from' n kinds=if ((Z3 raw (from'+90)).tmod 4=0∧(1:Int) < s.length)∧((s.getD (s.length - 2) 0).toNat:Int)≠10 then s.take (s.length - 1) else s:=by
   simp only [T9,hm,I99,←hs]
  rw [←hs] at hbl
  refine k6 (k2 (k2 ?_))
  rw [←hs]
  refine A4 (A3 (A5 Z Z) Z (A3 (A5 Z Z) Z (A3 (C2 Z Z (by omega)) Z (C8 (E46 raw _ (by omega) (by omega)) Z Z Z ?_))));rintro _ rfl;refine A3 (F45 Z Z (by omega)) Z (A3 (O2 Z Z) Z (A3 (A5 Z Z) Z (B0 Z Z Z Z (fun hg=>by rw [hg];exact A5 Z Z) ?_)));refine B0 Z Z Z Z (fun hg=>by rw [hg];exact J4 Z) ?_;refine B0 Z Z Z Z (fun hg=>by rw [hg];exact R1 Z Z) ?_;refine A3 (B5 Z (fun h=>by first | rfl | (rw [h];rfl)) (fun h=>by first | rfl | (rw [h];rfl))) Z ?_;refine A3 (A5 Z Z) Z (B0 Z Z Z Z (fun hg=>by rw [hg];exact A5 Z Z) ?_);refine B0 Z Z Z Z (fun hg=>by rw [hg];exact A5 Z Z) ?_;refine B0 Z Z Z Z (fun hg=>by rw [hg];exact J4 Z) ?_;refine B0 Z Z Z Z (fun hg=>by have hq:=hg;(try simp at hq);rw [hg];exact Y1 Z Z (by omega)) ?_;refine B0 Z Z Z Z (fun hg=>by have hq:=hg;(try simp at hq);rw [hg];exact T6 Z Z (by omega) (hv (by omega))) ?_;refine B0 Z Z Z Z (fun hg=>by rw [hg];exact R4 Z Z) ?_;refine A3 (B5 Z (fun h=>by first | rfl | (rw [h];rfl)) (fun h=>by first | rfl | (rw [h];rfl))) Z ?_;refine A7 ?_
  refine k1 ?_
  refine B3 rfl (fun ht=>?_) (fun ht=>?_)
  ·simp only [Q4] at ht
   have h:=A0 ht
   skip
   refine A4 (A3 (A5 Z Z) Z (A3 (A5 Z Z) Z (A3 (J4 Z) Z (A3 (Y1 Z Z (by omega)) Z (A3 (E93 Z Z (by omega) (by omega)) Z (A3 (A6 Z Z) Z (A7 ?_)))))))
   refine k1 (k2 ?_)
   refine A4 (A3 (A5 Z Z) Z (A3 (A6 Z Z) Z (A7 ?_)))
   refine k1 (k10 ?_)
   exact C0 (I2 rfl rfl rfl) (by rw [hbo,if_pos h,show ((s.length:Int) - 1).toNat=s.length - 1 by omega])
  ·simp only [Q4] at ht
   have h:=A1 ht
   refine k5 (k1 (k2 ?_))
   refine A4 (A3 (A5 Z Z) Z (A3 (A6 Z Z) Z (A7 ?_)))
   refine k1 (k10 ?_)
   exact C0 (I2 rfl rfl rfl) (by rw [hbo,if_neg h])
theorem B51 (raw:List Int) (from' n kinds:Int) (h1:0≤n):((T9 raw from' n kinds).length:Int)≤4*n:=by
 have h:=W3 (Z3 raw from') (n:=n+1) (by omega)
 have h2:=B35 raw from' kinds (Q3 (Z3 raw from') (n+1)).toNat
 unfold T9
 simp only
 split
 ·simp only [J12];omega
 ·omega
def Z4 (raw:List Int) (from':Int) (i:Nat) (s:Str):List Str→Str
 | []=>s
 | x::r=>if (Z3 raw (from'+(i:Int))).tmod 6=0 then Z4 raw from' (i+1) s r
  else if (Z3 raw (from'+(i:Int))).tmod 6=1 then Z4 raw from' (i+1) (s++d5 (Z3 raw (from'+40+(i:Int)))++[10]++x) r
  else Z4 raw from' (i+1) (s++x) r
def B52 (blob:Str) (raw:List Int) (from':Int):Str:=Z4 raw from' 0 [] (B7 blob)
theorem A26 (raw:List Int) (from':Int):∀(l:List Str) (i:Nat) (s:Str),(Z4 raw from' i s l).length≤s.length+l.flatten.length+4*l.length
 | [],i,s=>by simp [Z4]
 | x::r,i,s=>by
  have h1:=A26 raw from' r (i+1) s
  have h2:=A26 raw from' r (i+1) (s++d5 (Z3 raw (from'+40+(i:Int)))++[10]++x)
  have h3:=A26 raw from' r (i+1) (s++x)
  have h4:=A25 (Z3 raw (from'+40+(i:Int)))
  simp only [I93,I95,I97,J05] at *
  unfold Z4
  split
  ·omega
  ·split<;>omega
theorem C23 (s cur:Str):(F4 cur s).flatten=cur++s:=by
 induction s generalizing cur with
 | nil=>unfold F4;split<;>simp [*]
 | cons c r ih=>unfold F4;split<;>simp [ih]
theorem n7 (s:Str):(B7 s).flatten=s:=C23 s []
theorem near_ok (blob:Str) (raw:List Int) (from':Int) (hb:blob.length≤16777216) (h0:0≤from'∧from'≤1073741824) :
  FnOk Tryz.prog 26 [N6 blob,P2 raw,J0 from'] (fun rs=>rs=[N6 (B52 blob raw from')]):=by
 have hll:=Z7 blob
 have hlf:=n7 blob
 have hlf':(B7 blob).flatten.length=blob.length:=by rw [hlf]
 refine FnOk.intro Tryz.func26 (by decide) Z Z Z Z ?_
 refine k2 ?_
 refine A4 (A3 (A6 Z Z) Z (A7 ?_))
 refine k1 (k2 ?_)
 refine A4 (A3 (A5 Z Z) Z (C8 (I13 blob (by omega)) Z Z Z ?_));rintro _ rfl;refine A3 (A6 Z Z) Z (A7 ?_)
 refine k1 (k2 ?_)
 obtain ⟨l,hl⟩:∃l,l=B7 blob:=⟨_,rfl⟩
 have hno:B52 blob raw from'=Z4 raw from' 0 [] l:=by rw [B52,hl]
 rw [←hl] at hll hlf' ⊢
 refine A4 (A3 (A6 Z Z) Z (A7 ?_))
 refine k1 (k2 (k2 ?_))
 refine A4 (A3 (A6 Z Z) Z (A7 ?_))
 refine k1 (k3 ?_)
 refine E2 (X:=Nat × Str) (fun x=>([(1,C7 Int 1 G5 raw),(2,B8 from'),(7,C7 Str 1 P3 l),(8,U4 x.2),(9,B8 x.1)],[])) (fun x=>x.1≤l.length∧x.2.length≤(l.take x.1).flatten.length+4*x.1∧Z4 raw from' x.1 x.2 (l.drop x.1)=Z4 raw from' 0 [] l) (fun x=>l.length - x.1) (0,[]) (by simp) (I62 ⟨le1 rfl,le1 rfl,le1 rfl,le1 rfl,le1 rfl,trivial⟩ trivial) ?_
 rintro ⟨i,s⟩ ⟨hi,hs,hp⟩
 dsimp only at hi hs hp ⊢
 have hle:=A53 l i
 refine k2 (k2 ?_)
 refine A4 (A3 (A5 Z Z) Z (A3 (A5 Z Z) Z (A3 (E3 Z (.pure _ _ _ _)) Z (A3 (F1 Z Z) Z (A7 ?_)))))
 refine k1 ?_
 refine B3 rfl (fun ht=>?_) (fun ht=>?_)
 ·have hlt:i < l.length:=by have:=A0 ht;omega
  have hv:l[i]?=some l[i]:=by simp [hlt]
  have hle2:=A53 l (i+1)
  have hst:=y2 l i hlt
  rw [hst,I93] at hle2
  rw [J00 hlt,Z4] at hp
  refine k5 (k1 (k2 (k3 (k2 (k2 ?_)))))
  refine A4 (A3 (A5 Z Z) Z (A3 (A5 Z Z) Z (A3 (A5 Z Z) Z (A3 (C2 Z Z (by omega)) Z (C8 (E46 raw _ (by omega) (by omega)) Z Z Z ?_)))));rintro _ rfl;refine A3 (F45 Z Z (by omega)) Z (A7 ?_)
  refine k1 (k3 (k2 ?_))
  refine A4 (A3 (O2 Z Z) Z (A3 (A6 Z Z) Z (A7 ?_)))
  refine k1 ?_
  refine B3 rfl (fun ht=>?_) (fun ht=>?_)
  ·rw [if_pos (A0 ht)] at hp
   refine k6 (k9 Z (k7 (k8 Z (k1 ?_))))
   refine A4 (A3 (A5 Z Z) Z (A3 (C2 Z Z (by omega)) Z (A3 (A6 Z Z) Z (A7 ?_))))
   refine k1 ?_
   exact ⟨(i+1,s),⟨by dsimp only;omega,by dsimp only;rw [hst,I93];omega,hp⟩,by dsimp only;omega,I62 ⟨le1 rfl,le1 rfl,le1 rfl,le1 rfl,le1 rfl,trivial⟩ trivial⟩
  ·rw [if_neg (A1 ht)] at hp
   refine k2 ?_
   refine A4 (A3 (O2 Z Z) Z (A3 (A6 Z Z) Z (A7 ?_)))
   refine k1 ?_
   refine B3 rfl (fun ht=>?_) (fun ht=>?_)
   ·rw [if_pos (A0 ht)] at hp
    have h4:=A25 (Z3 raw (from'+40+(i:Int)))
    skip
    refine A4 (A3 (A5 Z Z) Z (A3 (A5 Z Z) Z (A3 (A5 Z Z) Z (A3 (C2 Z Z (by omega)) Z (A3 (A5 Z Z) Z (A3 (C2 Z Z (by omega)) Z (C8 (E46 raw _ (by omega) (by omega)) Z Z Z ?_)))))));rintro _ rfl;refine C8 (F67 _) Z Z Z ?_;rintro _ rfl;refine A3 (J3 Z Z (by omega)) Z (A3 (J3 Z Z (by (simp only [I93,I95,I97];omega))) Z (A3 (A6 Z Z) Z (A7 ?_)))
    refine k4 (k1 ?_)
    refine A4 (A3 (A5 Z Z) Z (A3 (A5 Z Z) Z (A3 (A5 Z Z) Z (A3 (B4 Z (.pure _ _ _ _) Z (by omega) hv) Z (A3 (C5 Z Z) Z (A3 (J3 Z Z (by (simp only [I93,I95,I97];omega))) Z (A3 (A6 Z Z) Z (A7 ?_))))))))
    refine k4 (k1 ?_)
    refine A4 (A3 (A5 Z Z) Z (A3 (C2 Z Z (by omega)) Z (A3 (A6 Z Z) Z (A7 ?_))))
    refine k1 ?_
    exact ⟨(i+1,s++d5 (Z3 raw (from'+40+(i:Int)))++[10]++l[i]),⟨by dsimp only;omega,by dsimp only;rw [hst];simp only [I93,I95,I97];omega,hp⟩,by dsimp only;omega,I62 ⟨le1 rfl,le1 rfl,le1 rfl,le1 rfl,le1 rfl,trivial⟩ trivial⟩
   ·rw [if_neg (A1 ht)] at hp
    refine k5 (k4 (k1 ?_))
    refine A4 (A3 (A5 Z Z) Z (A3 (A5 Z Z) Z (A3 (A5 Z Z) Z (A3 (B4 Z (.pure _ _ _ _) Z (by omega) hv) Z (A3 (C5 Z Z) Z (A3 (J3 Z Z (by omega)) Z (A3 (A6 Z Z) Z (A7 ?_))))))))
    refine k4 (k1 ?_)
    refine A4 (A3 (A5 Z Z) Z (A3 (C2 Z Z (by omega)) Z (A3 (A6 Z Z) Z (A7 ?_))))
    refine k1 ?_
    exact ⟨(i+1,s++l[i]),⟨by dsimp only;omega,by dsimp only;rw [hst,I93,I93];omega,hp⟩,by dsimp only;omega,I62 ⟨le1 rfl,le1 rfl,le1 rfl,le1 rfl,le1 rfl,trivial⟩ trivial⟩
 ·have hi':i=l.length:=by have:=A1 ht;omega
  rw [hi',J04 (Nat.le_refl _)] at hp
  refine k6 (k2 ?_)
  refine A4 (A3 (A5 Z Z) Z (A3 (A6 Z Z) Z (A7 ?_)))
  refine k1 (k10 ?_)
  exact C0 (I2 rfl rfl rfl) (by rw [hno,←hp];rfl)
def d6 (raw:List Int) (lines:Int) (p:Nat):Str :=
 if (Z3 raw (500+(p:Int))).tmod 5=0 then T9 raw (600+50*(p:Int)) lines 4 else if (Z3 raw (500+(p:Int))).tmod 5=1 then T9 raw 0 lines 5 else B52 (T9 raw 0 lines 5) raw (600+50*(p:Int))
def V5 (raw:List Int) (n:Nat) (lines:Int):List Str:=(List.range n).map (d6 raw lines)
theorem D30 (raw:List Int) (lines:Int) (p:Nat) (h:0≤lines):((d6 raw lines p).length:Int)≤20*lines:=by
 have h1:=B51 raw (600+50*(p:Int)) lines 4 h
 have h2:=B51 raw 0 lines 5 h
 have h3:=A26 raw (600+50*(p:Int)) (B7 (T9 raw 0 lines 5)) 0 []
 have h4:=Z7 (T9 raw 0 lines 5)
 rw [n7] at h3
 simp only [I97] at h3
 unfold d6 B52
 split
 ·omega
 ·split<;>omega
theorem I14 (raw:List Int) (n:Nat) (lines:Int) (h1:n≤1024) (h2:0≤lines∧lines≤524288):FnOk Tryz.prog 61 [P2 raw,J0 n,J0 lines] (fun rs=>rs=[A64 (V5 raw n lines)]):=by
 have hfl:=B51 raw 0 lines 5 h2.1
 refine FnOk.intro Tryz.func61 (by decide) Z Z Z Z ?_
 refine k2 ?_
 refine A4 (A3 (A6 Z Z) Z (A7 ?_))
 refine k1 (k2 ?_)
 refine A4 (A3 (A5 Z Z) Z (A3 (A5 Z Z) Z (C8 (H10 raw 0 lines 5 (by omega) (by omega) (by omega)) Z Z Z ?_)));rintro _ rfl;refine A3 (A6 Z Z) Z (A7 ?_)
 refine k1 (k2 ?_)
 refine A4 (C4 (G39 13 (c:=P3) (ys:=[]) I0 Z Z Z (by first | rfl | (simp [H1,H8,Ob.free,SV.free,S1.free,TC.free]<;>rfl))) Z ?_);refine A3 (A6 Z Z) Z (A7 ?_)
 refine k1 (k2 (k2 ?_))
 refine A4 (A3 (A6 Z Z) Z (A7 ?_))
 refine k1 (k3 ?_)
 refine E2 (X:=Nat) (fun p=>([(0,C7 Int 1 G5 raw),(1,B8 n),(2,B8 lines),(7,U4 (T9 raw 0 lines 5)),(8,.s (.one (.buf 13 Str 1 P3 (V5 raw p lines)))),(9,B8 p)],[(13,.spare (V5 raw p lines).length 1 9)])) (fun p=>p≤n) (fun p=>n - p) 0 (Nat.zero_le _) (I62 ⟨le1 rfl,le1 rfl,le1 rfl,le1 rfl,le1 rfl,le1 rfl,trivial⟩ ⟨rfl,trivial⟩) ?_
 intro p hp
 dsimp only at hp ⊢
 have hst:V5 raw (p+1) lines=V5 raw p lines++[d6 raw lines p]:=by unfold V5;rw [J32,J08];rfl
 have hbl:(V5 raw p lines).length=p:=by simp [V5]
 refine k2 (k2 ?_)
 refine A4 (A3 (A5 Z Z) Z (A3 (A5 Z Z) Z (A3 (F1 Z Z) Z (A7 ?_))))
 refine k1 ?_
 refine B3 rfl (fun ht=>?_) (fun ht=>?_)
 ·have hlt:p < n:=by have:=A0 ht;omega
  refine k5 (k1 (k2 (k3 (k2 ?_))))
  refine A4 (A3 (A5 Z Z) Z (A3 (A5 Z Z) Z (A3 (C2 Z Z (by omega)) Z (C8 (E46 raw _ (by omega) (by omega)) Z Z Z ?_))));rintro _ rfl;refine A3 (F45 Z Z (by omega)) Z (A7 ?_)
  refine k1 (k3 (k2 ?_))
  refine A4 (A3 (O2 Z Z) Z (A3 (A6 Z Z) Z (A7 ?_)))
  refine k1 ?_
  refine B3 rfl (fun ht=>?_) (fun ht=>?_)
  ·have hb:d6 raw lines p=T9 raw (600+50*(p:Int)) lines 4:=by rw [d6,if_pos (A0 ht)]
   skip
   refine A4 (A3 (A5 Z Z) Z (A3 (A5 Z Z) Z (A3 (A5 Z Z) Z (A3 (B67 Z Z (by omega)) Z (A3 (C2 Z Z (by omega)) Z (A3 (A5 Z Z) Z (C8 (H10 raw _ lines 4 (by omega) (by omega) (by omega)) Z Z Z ?_)))))));rintro _ rfl;refine A3 (E1 (c:=P3) (ys:=[_]) (E6 Z Z Z Z I0) Z Z Z) Z (C4 (J8 Z Z Z (.pure _ _ _ _) (by (simp only [I95,I97];omega)) Z) Z (A3 (A6 Z Z) Z (A7 ?_)))
   refine k4 (k4 (k1 ?_))
   refine A4 (A3 (A5 Z Z) Z (A3 (C2 Z Z (by omega)) Z (A3 (A6 Z Z) Z (A7 ?_))))
   refine k1 ?_
   refine ⟨p+1,by omega,by omega,?_⟩
   rw [hst,hb]
   exact I62 ⟨le1 rfl,le1 rfl,le1 rfl,le1 rfl,le1 rfl,le1 rfl,trivial⟩ ⟨rfl,trivial⟩
  ·have h5:=A1 ht
   refine k2 ?_
   refine A4 (A3 (O2 Z Z) Z (A3 (A6 Z Z) Z (A7 ?_)))
   refine k1 ?_
   refine B3 rfl (fun ht=>?_) (fun ht=>?_)
   ·have hb:d6 raw lines p=T9 raw 0 lines 5:=by rw [d6,if_neg h5,if_pos (A0 ht)]
    skip
    refine A4 (A3 (A5 Z Z) Z (A3 (A5 Z Z) Z (A3 (E1 (c:=P3) (ys:=[_]) (E6 Z Z Z Z I0) Z Z Z) Z (C4 (J8 Z Z Z (.pure _ _ _ _) (by (simp only [I95,I97];omega)) Z) Z (A3 (A6 Z Z) Z (A7 ?_))))))
    refine k4 (k4 (k1 ?_))
    refine A4 (A3 (A5 Z Z) Z (A3 (C2 Z Z (by omega)) Z (A3 (A6 Z Z) Z (A7 ?_))))
    refine k1 ?_
    refine ⟨p+1,by omega,by omega,?_⟩
    rw [hst,hb]
    exact I62 ⟨le1 rfl,le1 rfl,le1 rfl,le1 rfl,le1 rfl,le1 rfl,trivial⟩ ⟨rfl,trivial⟩
   ·have hb:d6 raw lines p=B52 (T9 raw 0 lines 5) raw (600+50*(p:Int)):=by rw [d6,if_neg h5,if_neg (A1 ht)]
    skip
    refine A4 (A3 (A5 Z Z) Z (A3 (A5 Z Z) Z (A3 (A5 Z Z) Z (A3 (A5 Z Z) Z (A3 (B67 Z Z (by omega)) Z (A3 (C2 Z Z (by omega)) Z (C8 (near_ok _ raw _ (by omega) (by omega)) Z Z Z ?_)))))));rintro _ rfl;refine A3 (E1 (c:=P3) (ys:=[_]) (E6 Z Z Z Z I0) Z Z Z) Z (C4 (J8 Z Z Z (.pure _ _ _ _) (by (simp only [I95,I97];omega)) Z) Z (A3 (A6 Z Z) Z (A7 ?_)))
    refine k4 (k4 (k1 ?_))
    refine A4 (A3 (A5 Z Z) Z (A3 (C2 Z Z (by omega)) Z (A3 (A6 Z Z) Z (A7 ?_))))
    refine k1 ?_
    refine ⟨p+1,by omega,by omega,?_⟩
    rw [hst,hb]
    exact I62 ⟨le1 rfl,le1 rfl,le1 rfl,le1 rfl,le1 rfl,le1 rfl,trivial⟩ ⟨rfl,trivial⟩
 ·have hp':p=n:=by have:=A1 ht;omega
  refine k6 (k2 ?_)
  refine A4 (A3 (A5 Z Z) Z (A3 (A6 Z Z) Z (A7 ?_)))
  refine k1 (k10 ?_)
  exact C0 (I2 rfl rfl rfl) (by rw [hp'])
end Go.Proofs.YtbiadkkamhpdnaaGreatDoor
namespace Go.Proofs.YtbiadkkamhpdnaaGreatDoor
open Go Go.AL
set_option maxRecDepth 100000
theorem E47 (s:Str):(ByteArray.mk s.toArray).size=s.length:=by simp [ByteArray.size]
theorem F05 (s p:Str) (hs:s.length≤1099511627776):FnOk Tryz.prog 200 [N6 s,N6 p] (fun rs=>rs=[N0 (Lib.hasSuffix s p)]) :=
 I67 (xs:=[.string ⟨s.toArray⟩,.string ⟨p.toArray⟩]) ⟨_,rfl,rfl,rfl⟩ rfl fun w=>by simpa using Tryz.strings_HasSuffix ⟨s.toArray⟩ ⟨p.toArray⟩ w (by rw [E47];omega)
theorem E14 (s p:Str) (hs:s.length≤1099511627776):FnOk Tryz.prog 225 [N6 s,N6 p] (fun rs=>rs=[N6 (Lib.trimSuffix s p)]) :=
 I67 (xs:=[.string ⟨s.toArray⟩,.string ⟨p.toArray⟩]) ⟨_,rfl,rfl,rfl⟩ rfl fun w=>by simpa using Tryz.strings_TrimSuffix ⟨s.toArray⟩ ⟨p.toArray⟩ w (by rw [E47];omega)
theorem F06 (s:Str) (c:UInt8):FnOk Tryz.prog 209 [N6 s,N6 [c]] (fun rs=>rs=[N0 (decide (0≤Lib.indexByte s c))]) :=
 I67 (xs:=[.string ⟨s.toArray⟩,.string ⟨#[c]⟩]) ⟨_,rfl,rfl,rfl⟩ rfl fun w=>by simpa using Tryz.strings_Contains_one ⟨s.toArray⟩ c w
theorem B11 (s:Str) (hs:s.length≤1099511627776):FnOk Tryz.prog 137 [N6 s] (fun rs=>rs=[N0 (ended s)]):=by
 refine FnOk.intro Tryz.func137 (by decide) Z Z Z Z ?_
 refine k2 ?_
 refine A4 (A3 (A6 Z Z) Z (A7 ?_))
 refine k1 (k2 ?_)
 refine A4 (A3 (A5 Z Z) Z (C8 (F05 s [10] hs) Z Z Z ?_));rintro _ rfl;refine A3 (A6 Z Z) Z (A7 ?_)
 rw [B91]
 refine k1 (k10 ?_)
 exact C0 (I2 rfl rfl rfl) rfl
theorem I15 (s:Str) (hs:s.length≤1099511627776):FnOk Tryz.prog 210 [N6 s] (fun rs=>rs=[N6 (A85 s)]):=by
 refine FnOk.intro Tryz.func210 (by decide) Z Z Z Z ?_
 refine k2 ?_
 refine A4 (A3 (A6 Z Z) Z (A7 ?_))
 refine k1 (k2 ?_)
 refine A4 (A3 (A5 Z Z) Z (C8 (E14 s [10] hs) Z Z Z ?_));rintro _ rfl;refine A3 (A6 Z Z) Z (A7 ?_)
 rw [E23]
 refine k1 (k10 ?_)
 exact C0 (I2 rfl rfl rfl) rfl
theorem F68 (r:Row) (c:Int) (hr:0≤r.Marks∧r.Marks < 4294967296):FnOk Tryz.prog 177 [pRow r,J0 c] (fun rs=>rs=[N0 (X9 r c)]):=by
 refine FnOk.intro Tryz.func177 (by decide) Z Z Z Z ?_
 refine k2 ?_
 refine A4 (C4 (S9 2 Z Z Z) Z (A3 (A6 Z Z) Z (A7 ?_)))
 refine k1 (k2 (k2 ?_))
 refine A4 (A3 (A5 Z Z) Z (A3 (F1 Z Z) Z (A3 (A5 Z Z) Z (B0 Z Z Z Z (fun hg=>by rw [hg];exact A5 Z Z) ?_))));refine B0 Z Z Z Z (fun hg=>by rw [hg];exact A60 Z Z) ?_;refine A3 (B5 Z (fun h=>by first | rfl | (rw [h];rfl)) (fun h=>by first | rfl | (rw [h];rfl))) Z ?_;refine A7 ?_
 refine k1 ?_
 refine B3 rfl (fun ht=>?_) (fun ht=>?_)
 ·have h:=A0 (or_pick.symm.trans ht)
  refine k2 ?_
  refine A4 (A3 (A6 Z Z) Z (A7 ?_))
  refine k1 (k10 (k11 ?_))
  exact C0 (I2 rfl rfl rfl) (by rw [X9,if_neg (by omega),if_pos (by omega)])
 ·have h:=A1 (or_pick.symm.trans ht)
  refine k5 (k1 (k2 (k2 ?_)))
  refine A4 (A3 (A5 Z Z) Z (A3 (F1 Z Z) Z (A7 ?_)))
  refine k1 ?_
  refine B3 rfl (fun ht=>?_) (fun ht=>?_)
  ·have h2:=A0 ht
   refine k2 ?_
   refine A4 (A3 (A8 Z) Z (A3 (A9 Z Z Z) Z (A3 (L6 Z) Z (A3 (A6 Z Z) Z (A7 ?_)))))
   refine k1 (k10 (k11 ?_))
   exact C0 (I2 rfl rfl rfl) (by rw [X9,if_pos (by omega)])
  ·have h2:=A1 ht
   refine k5 (k1 (k2 ?_))
   refine F8 (by kernel_rfl) (by kernel_rfl) (B2 (A8 Z) Z Z (B2 (A9 Z Z Z) Z Z (B2 (A8 Z) Z Z (B2 (A9 Z Z Z) Z Z (B2 (A5 Z Z) Z Z (B2 (B27 Z Z (by omega)) Z Z (B2 (n4 Z Z Z (fun _=>rfl)) Z Z (B2 (O2 Z Z) Z Z (B2 (n_eql_b Z Z TyBool.out) Z Z (B2 (A6 Z Z) Z Z (V7 ?_)))))))))))
   refine k1 (k10 ?_)
   refine C0 (I2 Z Z Z) ?_
   have h3:0≤r.Marks / 2 ^ c.toNat:=Int.ediv_nonneg hr.1 (Int.pow_nonneg (by decide))
   have h4:r.Marks / 2 ^ c.toNat≤r.Marks:=Int.ediv_le_self _ hr.1
   rw [X9,if_neg (by omega),if_neg (by omega),H21 r.Marks c (by omega),F88 _ (by omega),Bool.beq_comm]
   rfl
theorem D31 (r:Row) (n:Int) (hn:1≤n∧n≤32) (hr:0≤r.Marks∧r.Marks < 4294967296):FnOk Tryz.prog 155 [pRow r,J0 n] (fun rs=>rs=[N0 (R0 n.toNat r)]):=by
 refine FnOk.intro Tryz.func155 (by decide) Z Z Z Z ?_
 refine k2 ?_
 refine A4 (C4 (S9 2 Z Z Z) Z (A3 (A6 Z Z) Z (A7 ?_)))
 refine k1 (k2 ?_)
 refine A4 (A3 (A8 Z) Z (A3 (A9 Z Z Z) Z (A3 (B27 Z Z (by omega)) Z (A3 (A5 Z Z) Z (A3 (Y1 Z Z (by omega)) Z (A3 (B27 Z Z (by omega)) Z (A3 (O2 Z Z) Z (A3 (A5 Z Z) Z (B0 Z Z Z Z (fun hg=>by rw [hg];exact A8 Z) ?_)))))))));refine B0 Z Z Z Z (fun hg=>by rw [hg];exact A9 Z Z Z) ?_;refine B0 Z Z Z Z (fun hg=>by rw [hg];exact L6 Z) ?_;refine B0 Z Z Z Z (fun hg=>by rw [hg];exact A5 Z Z) ?_;refine R3 Z Z Z (.gd (.val _)) Z (fun hg=>by obtain ⟨hg1,hg2⟩:=c9 hg;(try rw [hg1]);(try rw [hg2]);exact A8 Z) ?_;refine R3 Z Z Z (.gd (.val _)) Z (fun hg=>by obtain ⟨hg1,hg2⟩:=c9 hg;(try rw [hg1]);(try rw [hg2]);exact A9 Z Z Z) ?_;refine R3 Z Z Z (.gd (.val _)) Z (fun hg=>by obtain ⟨hg1,hg2⟩:=c9 hg;(try rw [hg1]);(try rw [hg2]);exact R4 Z Z) ?_;refine B0 Z Z Z Z (fun hg=>by rw [hg];exact B5 Z (fun h=>by first | rfl | (rw [h];rfl)) (fun h=>by first | rfl | (rw [h];rfl))) ?_;refine A3 (B5 Z (fun h=>by first | rfl | (rw [h];rfl)) (fun h=>by first | rfl | (rw [h];rfl))) Z ?_;refine A3 (A6 Z Z) Z (A7 ?_)
 refine k1 (k10 ?_)
 refine C0 (I2 Z Z Z) ?_
 have h0:0≤r.Marks / 2 ^ n.toNat:=Int.ediv_nonneg hr.1 (Int.pow_nonneg (by decide))
 have e1:r.Marks.fdiv (2 ^ (min (1:Int).toNat IntKind.u32.bits))=r.Marks / 2:=by
  rw [H21 r.Marks 1 (by omega)];rfl
 have e2:(r.Marks / 2).fdiv (2 ^ (min (n - 1).toNat IntKind.u32.bits))=r.Marks / 2 ^ n.toNat:=by
  rw [H21 (r.Marks / 2) (n - 1) (by omega),Int.ediv_ediv_of_nonneg (by decide)]
  have:n.toNat=(n - 1).toNat+1:=by omega
  rw [this,Int.pow_succ,Int.mul_comm]
 have e3:(if decide ((r.Marks.fdiv (2 ^ (min (1:Int).toNat IntKind.u32.bits))).fdiv (2 ^ (min (n - 1).toNat IntKind.u32.bits))=0)=true then (if (!r.Lost)=true then true else decide (r.Marks≠0)) else false)=R0 n.toNat r:=by
  rw [e1,e2,R0]
  cases r.Lost<;>by_cases hz:r.Marks / 2 ^ n.toNat=0<;>by_cases hy:r.Marks=0<;>simp [hz,hy]
 rw [←e3]
theorem A27 (r:Row) (hs:r.Text.length≤1099511627776):FnOk Tryz.prog 157 [pRow r] (fun rs=>rs=[N0 (H9 r.Text)]):=by
 refine FnOk.intro Tryz.func157 (by decide) Z Z Z Z ?_
 refine k2 ?_
 refine A4 (C4 (S9 1 Z Z Z) Z (A3 (A6 Z Z) Z (A7 ?_)))
 refine k1 (k2 ?_)
 refine A4 (A3 (A8 Z) Z (A3 (A9 Z Z Z) Z (A3 (E89 Z Z) Z (A3 (A5 Z Z) Z (B0 Z Z Z Z (fun hg=>by rw [hg];exact A8 Z) ?_)))));refine B0 Z Z Z Z (fun hg=>by rw [hg];exact A9 Z Z Z) ?_;refine B0 Z Z Z Z (fun hg=>by have hq:=hg;(try simp at hq);rw [hg];exact Q1 (I15 r.Text hs) Z Z) ?_;refine B0 Z Z Z Z (fun hg=>by have hq:=hg;(try simp at hq);rw [hg];exact Q1 (F06 (A85 r.Text) 10) Z Z) ?_;refine B0 Z Z Z Z (fun hg=>by rw [hg];exact L6 Z) ?_;refine A3 (B5 Z (fun h=>by first | rfl | (rw [h];rfl)) (fun h=>by first | rfl | (rw [h];rfl))) Z ?_;refine A3 (A6 Z Z) Z (A7 ?_)
 refine k1 (k10 ?_)
 refine C0 (I2 Z Z Z) ?_
 rw [←H75]
theorem H11 (r:Row) (res:Bool) (par:Int) (hs:r.Text.length≤1099511627776) :
  FnIo Tryz.prog 158 [pRow r] [.v (.bool res),.v (.int .u32 par)] (fun rs cs=>rs=[N0 (B39 res par r)]∧cs=[.v (.bool (A87 res r)),.v (.int .u32 (A88 par r))]):=by
 refine FnIo.intro Tryz.func158 (by decide) Z Z Z Z ?_
 refine k2 ?_
 refine A4 (C4 (S9 3 Z Z Z) Z (A3 (A6 Z Z) Z (A7 ?_)))
 refine k1 (k2 ?_)
 refine A4 (A3 (A8 Z) Z (A3 (A9 Z Z Z) Z (A3 (A6 Z Z) Z (A7 ?_))))
 refine K8 ?_
 refine A66 [(3,.s (.one (.ref 3 0))),(0,.s (.one (.ref self 0))),(5,H5 (.int .u32 (E25 r)))] [(3,.box (pRow r).s1.cells),(self,.box [.p (.v (.bool res)),.p (.v (.int .u32 par))])] ?_ ?_
 ·refine k2 ?_
  refine A4 (A3 (A8 Z) Z (A3 (A9 Z Z Z) Z (A3 (L6 Z) Z (A7 ?_))))
  refine k1 ?_
  refine B3 rfl (fun ht=>?_) (fun ht=>?_)
  ·have h:r.Lost=false:=by simpa using ht
   skip
   refine A4 (A3 (A5 Z Z) Z (A3 (n_compl Z Z (fun _=>rfl)) Z (A3 (A6 Z Z) Z (A7 ?_))))
   refine k1 ?_
   rw [E25,if_neg (by rw [h];simp)]
   exact I62 ⟨le1 rfl,le1 rfl,le1 rfl,trivial⟩ ⟨rfl,rfl,trivial⟩
  ·have h:r.Lost=true:=by simpa using ht
   refine k5 (k1 ?_)
   rw [E25,if_pos h]
   exact I62 ⟨le1 rfl,le1 rfl,le1 rfl,trivial⟩ ⟨rfl,rfl,trivial⟩
 refine k2 ?_
 refine A4 (A3 (A5 Z Z) Z (A3 (C3 Z) Z (A3 (A8 Z) Z (A3 (A9 Z Z Z) Z (A3 (A5 Z Z) Z (A3 (n4 Z Z Z (fun _=>rfl)) Z (A3 (O2 Z Z) Z (A3 (A5 Z Z) Z (B0 Z Z Z Z (fun hg=>by rw [hg];exact A8 Z) ?_)))))))));refine B0 Z Z Z Z (fun hg=>by rw [hg];exact A9 Z Z Z) ?_;refine B0 Z Z Z Z (fun hg=>by rw [hg];exact A5 Z Z) ?_;refine R3 Z Z Z (.gd (.val _)) Z (fun hg=>by obtain ⟨hg1,hg2⟩:=c9 hg;(try rw [hg1]);(try rw [hg2]);exact A5 Z Z) ?_;refine R3 Z Z Z (.gd (.val _)) Z (fun hg=>by obtain ⟨hg1,hg2⟩:=c9 hg;(try rw [hg1]);(try rw [hg2]);exact C3 Z) ?_;refine R3 Z Z Z (.gd (.val _)) Z (fun hg=>by obtain ⟨hg1,hg2⟩:=c9 hg;(try rw [hg1]);(try rw [hg2]);exact A8 Z) ?_;refine R3 Z Z Z (.gd (.val _)) Z (fun hg=>by obtain ⟨hg1,hg2⟩:=c9 hg;(try rw [hg1]);(try rw [hg2]);exact A9 Z Z Z) ?_;refine R3 Z Z Z (.gd (.val _)) Z (fun hg=>by obtain ⟨hg1,hg2⟩:=c9 hg;(try rw [hg1]);(try rw [hg2]);exact L6 Z) ?_;refine B0 Z Z Z Z (fun hg=>by rw [hg];exact B5 Z (fun h=>by first | rfl | (rw [h];rfl)) (fun h=>by first | rfl | (rw [h];rfl))) ?_;refine A3 (B5 Z (fun h=>by first | rfl | (rw [h];rfl)) (fun h=>by first | rfl | (rw [h];rfl))) Z ?_;refine A3 (A6 Z Z) Z (A7 ?_)
 refine k1 (k2 (k2 ?_))
 refine A4 (A3 (A8 Z) Z (A3 (A9 Z Z Z) Z (C8 (B11 r.Text hs) Z Z Z ?_)));rintro _ rfl;refine A3 (L6 Z) Z (A7 ?_)
 have hok:(if decide (F90 par (E25 r)=0)=true then (if r.Lost=true then true else !res) else false)=B39 res par r:=by
  rw [B39]
  cases r.Lost<;>cases res<;>by_cases h:F90 par (E25 r)=0<;>simp [h]
 refine k1 ?_
 refine B3 rfl (fun ht=>?_) (fun ht=>?_)
 ·have h:ended r.Text=false:=by simpa using ht
  refine k2 ?_
  refine A4 (A3 (A5 Z Z) Z (A3 (C3 Z) Z (A3 (A8 Z) Z (A3 (A9 Z Z Z) Z (A3 (A5 Z Z) Z (A3 (n4 Z Z Z (fun _=>rfl)) Z (A3 (C3 Z) Z (A3 (A8 Z) Z (F6 (B6 TySz.out Z Z Z Z Z Z) (A7 ?_))))))))))
  refine k1 ?_
  refine A4 (A3 (A5 Z Z) Z (A3 (A5 Z Z) Z (A3 (C3 Z) Z (A3 (A8 Z) Z (A3 (A9 Z Z Z) Z (A3 (A5 Z Z) Z (B0 Z Z Z Z (fun hg=>by rw [hg];exact A8 Z) ?_)))))));refine B0 Z Z Z Z (fun hg=>by rw [hg];exact A9 Z Z Z) ?_;refine B0 Z Z Z Z (fun hg=>by rw [hg];exact L6 Z) ?_;refine A3 (B5 Z (fun h=>by first | rfl | (rw [h];rfl)) (fun h=>by first | rfl | (rw [h];rfl))) Z ?_;refine A3 (C3 Z) Z (A3 (A8 Z) Z (F6 (B6 TySz.out Z Z Z Z Z Z) (A7 ?_)))
  refine k1 (k2 ?_)
  refine A4 (A3 (A5 Z Z) Z (A3 (A6 Z Z) Z (A7 ?_)))
  refine k1 (k10 ?_)
  refine io_ret (I2 rfl rfl rfl) rfl rfl ⟨by rw [←hok];rfl,?_⟩
  have ea:A87 res r=(res||!r.Lost):=by rw [A87,h];rfl
  have ep:A88 par r=I7 par (E25 r):=by rw [A88,h];rfl
  rw [ea,ep]
  cases res<;>rfl
 ·have h:ended r.Text=true:=by simpa using ht
  refine k5 (k1 (k2 ?_))
  refine A4 (A3 (A5 Z Z) Z (A3 (A6 Z Z) Z (A7 ?_)))
  refine k1 (k10 ?_)
  exact io_ret (I2 rfl rfl rfl) rfl rfl ⟨by rw [←hok];rfl,by rw [A87,A88,if_pos h,if_pos h]⟩
theorem E48 (t:Table) (hr:J6 t.Rows) (hl:t.Rows.length≤536870911) (hx:T4 t.Rows≤536870912):FnOk Tryz.prog 116 [pTable t] (fun rs=>rs=[J0 (H3 t)]):=by
 refine FnOk.intro Tryz.func116 (by decide) Z Z Z Z ?_
 refine k2 ?_
 refine A4 (C4 (S9 1 Z Z Z) Z (A3 (A6 Z Z) Z (A7 ?_)))
 refine k1 (k2 (k2 ?_))
 refine A4 (A3 (A8 Z) Z (A3 (A9 Z Z Z) Z (A3 (F1 Z Z) Z (A3 (A5 Z Z) Z (B0 Z Z Z Z (fun hg=>by rw [hg];exact A8 Z) ?_)))));refine B0 Z Z Z Z (fun hg=>by rw [hg];exact A9 Z Z Z) ?_;refine B0 Z Z Z Z (fun hg=>by rw [hg];exact R1 Z Z) ?_;refine A3 (B5 Z (fun h=>by first | rfl | (rw [h];rfl)) (fun h=>by first | rfl | (rw [h];rfl))) Z ?_;refine A7 ?_
 refine k1 ?_
 refine B3 rfl (fun ht=>?_) (fun ht=>?_)
 ·have h:=A0 (or_pick.symm.trans ht)
  refine k2 ?_
  refine A4 (A3 (A6 Z Z) Z (A7 ?_))
  refine k1 (k10 (k11 ?_))
  exact C0 (I2 rfl rfl rfl) (by rw [H3,if_pos h])
 ·have h:=A1 (or_pick.symm.trans ht)
  refine M2 [(1,.s (.one (.ref 1 0)))] [(1,.box [.p (.v (.int .i64 t.Parents)),.p (.list Row 3 rowC t.Rows)])] (I62 ⟨le1 rfl,trivial⟩ ⟨rfl,trivial⟩) ?_
  refine k5 (k1 (k2 (k2 ?_)))
  refine A4 (A3 (A8 Z) Z (A3 (A9 Z Z Z) Z (A3 (E3 Z (.pure _ _ _ _)) Z (A3 (A5 Z Z) Z (A7 ?_)))))
  refine k1 (k3 ?_)
  refine E2 (X:=Nat) (fun i=>([(1,.s (.one (.ref 1 0))),(17,C7 Row 3 rowC t.Rows),(18,B8 t.Rows.length),(19,B8 i)],[(1,.box [.p (.v (.int .i64 t.Parents)),.p (.list Row 3 rowC t.Rows)])])) (fun i=>i≤t.Rows.length∧N2 t.Rows t.Parents.toNat=N2 (t.Rows.drop i) t.Parents.toNat) (fun i=>t.Rows.length - i) 0 ⟨Nat.zero_le _,rfl⟩ (I62 ⟨le1 rfl,le1 rfl,le1 rfl,le1 rfl,trivial⟩ ⟨rfl,trivial⟩) ?_
  rintro i ⟨hi,hp⟩
  dsimp only at hi hp ⊢
  refine k2 ?_
  refine A4 (A3 (F1 Z Z) Z (A7 ?_))
  refine k1 (k2 ?_)
  refine B3 rfl (fun ht=>?_) (fun ht=>?_)
  ·have hlt:i < t.Rows.length:=by have:=A0 ht;omega
   have hv:t.Rows[i]?=some t.Rows[i]:=by simp [hlt]
   rw [J00 hlt,B89] at hp
   refine k5 (k1 (k2 (k3 (k2 ?_))))
   refine A4 (A3 (B4 Z (.pure _ _ _ _) Z (by omega) hv) Z (A3 (F0 Z Z) Z (C4 (G6 4 Z) Z (F6 (B6 TySz.out Z Z Z Z Z Z) (A7 ?_)))))
   refine k1 (k2 ?_)
   refine A4 (A3 (C9 Z Z Z) Z (A3 (A8 Z) Z (A3 (A9 Z Z Z) Z (C8 (D31 t.Rows[i] t.Parents (by omega) (hr _ (J06 hlt))) Z Z Z ?_))));rintro _ rfl;refine A3 (L6 Z) Z (A7 ?_)
   refine k1 ?_
   refine B3 rfl (fun ht=>?_) (fun ht=>?_)
   ·have h2:R0 t.Parents.toNat t.Rows[i]=false:=by simpa using ht
    rw [h2,Bool.false_and] at hp
    refine k2 ?_
    refine A4 (A3 (A6 Z Z) Z (A7 ?_))
    refine k1 (k10 (k12 (k11 (k11 (k12 (k11 ?_))))))
    exact C0 (I2 rfl rfl rfl) (by rw [H3,if_neg h,if_pos hp])
   ·have h2:R0 t.Parents.toNat t.Rows[i]=true:=by simpa using ht
    rw [h2,Bool.true_and] at hp
    refine k5 (k4 (k1 ?_))
    refine A4 (A3 (C2 Z Z (by omega)) Z (A3 (A5 Z Z) Z (A7 ?_)))
    refine k1 ?_
    exact ⟨i+1,⟨by omega,hp⟩,by omega,I62 ⟨le1 rfl,le1 rfl,le1 rfl,le1 rfl,trivial⟩ ⟨rfl,trivial⟩⟩
  ·have hil:i=t.Rows.length:=by have:=A1 ht;omega
   rw [hil,J04 (Nat.le_refl _)] at hp
   have hm:N2 t.Rows t.Parents.toNat=true:=hp
   refine M2 [(1,.s (.one (.ref 1 0)))] [(1,.box [.p (.v (.int .i64 t.Parents)),.p (.list Row 3 rowC t.Rows)])] (I62 ⟨le1 rfl,trivial⟩ ⟨rfl,trivial⟩) ?_
   clear hil ht hp hi
   have hat:=D56 t.Rows t.Parents.toNat (by omega) hm hr
   refine k6 (k2 ?_)
   refine A4 (C4 (G6 5 Z) Z (A7 ?_))
   refine k1 (k2 (k2 ?_))
   refine A4 (A3 (A8 Z) Z (A3 (A9 Z Z Z) Z (A3 (E3 Z (.pure _ _ _ _)) Z (A3 (A5 Z Z) Z (A7 ?_)))))
   refine k1 (k3 ?_)
   refine E2 (X:=Nat × Bool × Int) (fun x=>([(1,.s (.one (.ref 1 0))),(5,.s (.one (.ref 5 0))),(30,C7 Row 3 rowC t.Rows),(31,B8 t.Rows.length),(32,B8 x.1)],[(1,.box [.p (.v (.int .i64 t.Parents)),.p (.list Row 3 rowC t.Rows)]),(5,.box [.p (.v (.bool x.2.1)),.p (.v (.int .u32 x.2.2))])])) (fun x=>x.1≤t.Rows.length∧N9 false 0 t.Rows=N9 x.2.1 x.2.2 (t.Rows.drop x.1)) (fun x=>t.Rows.length - x.1) (0,false,0) ⟨Nat.zero_le _,rfl⟩ (I62 ⟨le1 rfl,le1 rfl,le1 rfl,le1 rfl,le1 rfl,trivial⟩ ⟨rfl,rfl,trivial⟩) ?_
   rintro ⟨i,res,par⟩ ⟨hi,hp⟩
   dsimp only at hi hp ⊢
   refine k2 ?_
   refine A4 (A3 (F1 Z Z) Z (A7 ?_))
   refine k1 (k2 ?_)
   refine B3 rfl (fun ht=>?_) (fun ht=>?_)
   ·have hlt:i < t.Rows.length:=by have:=A0 ht;omega
    have hv:t.Rows[i]?=some t.Rows[i]:=by simp [hlt]
    have htl:=F87 t.Rows _ (J06 hlt)
    rw [J00 hlt,N9] at hp
    refine k5 (k1 (k2 (k3 (k2 ?_))))
    refine A4 (A3 (B4 Z (.pure _ _ _ _) Z (by omega) hv) Z (A3 (F0 Z Z) Z (C4 (G6 7 Z) Z (F6 (B6 TySz.out Z Z Z Z Z Z) (A7 ?_)))))
    refine k1 (k2 ?_)
    by_cases hs:H9 t.Rows[i].Text=true
    ·refine A4 (A3 (C9 Z Z Z) Z (C8 (A27 t.Rows[i] (by omega)) Z Z Z ?_));rintro _ rfl;refine A3 (L6 Z) Z (A3 (A5 Z Z) Z (M9 Z Z Z (by rw [hs];rfl) ?_));refine A3 (C9 Z Z Z) Z (M9 Z Z Z (by rw [hs];rfl) ?_);refine F52 (H11 t.Rows[i] res par (by omega)) Z Z Z Z Z Z ?_;rintro _ _ ⟨rfl,rfl⟩;refine B0 Z Z Z Z (fun hg=>by rw [hg];exact L6 Z) ?_;refine A3 (B5 Z (fun h=>by first | rfl | (rw [h];rfl)) (fun h=>by first | rfl | (rw [h];rfl))) Z ?_;refine A7 ?_
     refine k1 ?_
     refine B3 rfl (fun ht=>?_) (fun ht=>?_)
     ·have h2:B39 res par t.Rows[i]=false:=by rw [hs] at ht;simpa using ht
      rw [hs,h2,Bool.true_and,Bool.false_and] at hp
      refine k2 ?_
      refine A4 (A3 (A6 Z Z) Z (A7 ?_))
      refine k1 (k10 (k12 (k11 (k11 (k12 (k11 ?_))))))
      exact C0 (I2 rfl rfl rfl) (by rw [H3,if_neg h,if_neg (by simp [hm]),if_pos (by rw [←hat];exact hp)])
     ·have h2:B39 res par t.Rows[i]=true:=by rw [hs] at ht;simpa using ht
      rw [hs,h2,Bool.true_and,Bool.true_and] at hp
      refine k5 (k4 (k1 ?_))
      refine A4 (A3 (C2 Z Z (by omega)) Z (A3 (A5 Z Z) Z (A7 ?_)))
      refine k1 ?_
      exact ⟨(i+1,_,_),⟨by dsimp only;omega,hp⟩,by dsimp only;omega,I62 ⟨le1 rfl,le1 rfl,le1 rfl,le1 rfl,le1 rfl,trivial⟩ ⟨rfl,rfl,trivial⟩⟩
    ·have hs':H9 t.Rows[i].Text=false:=by simpa using hs
     refine A4 (A3 (C9 Z Z Z) Z (C8 (A27 t.Rows[i] (by omega)) Z Z Z ?_));rintro _ rfl;refine A3 (L6 Z) Z (A3 (A5 Z Z) Z (B0 Z Z Z Z (fun hg=>by rw [hg];exact C9 Z Z Z) ?_));refine I9 Z Z Z (by rw [hs'];decide) Z ?_;refine I9 Z Z Z (by rw [hs'];decide) Z ?_;refine A3 (B5 (q:=true) Z (fun h=>rfl) (fun h=>by rw [hs'] at h;cases h)) Z ?_;refine A7 ?_
     rw [hs',Bool.false_and,Bool.false_and] at hp
     refine k1 ?_
     refine B3 rfl (fun ht=>?_) (fun ht=>?_)
     ·refine k2 ?_
      refine A4 (A3 (A6 Z Z) Z (A7 ?_))
      refine k1 (k10 (k12 (k11 (k11 (k12 (k11 ?_))))))
      exact C0 (I2 rfl rfl rfl) (by rw [H3,if_neg h,if_neg (by simp [hm]),if_pos (by rw [←hat];exact hp)])
     ·rw [hs'] at ht;cases ht
   ·have hil:i=t.Rows.length:=by have:=A1 ht;omega
    rw [hil,J04 (Nat.le_refl _)] at hp
    have hp':N9 false 0 t.Rows=true:=hp
    refine k6 (k2 ?_)
    refine A4 (A3 (A6 Z Z) Z (A7 ?_))
    refine k1 (k10 ?_)
    exact C0 (I2 rfl rfl rfl) (by rw [H3,if_neg h,if_neg (by simp [hm]),if_neg (by rw [←hat,hp'];simp)])
def isBld (ob:Obs) (xs:Str):Prop:=(∃a,(a=.p (.v (.pointer none))∨a=.ref 700 0)∧B9 ob 700=some (.tbx 124 [a,.buf 701 UInt8 1 u8C xs]))∧B9 ob 701=some (.spare xs.length 1 5)
abbrev bldObs (ob:Obs) (ys xs:Str):Obs:=(700,.tbx 124 [.ref 700 0,.buf 701 UInt8 1 u8C xs])::(701,.spare xs.length 1 5)::Obs.forget 701 ((700,.tbx 124 [.ref 700 0,.buf 701 UInt8 1 u8C ys])::ob)
def H12:Go.Shelf.Ren:=⟨fun | 240=>147 | 276=>204 | n=>n,fun | 72=>124 | 70=>122 | 164=>240 | 37=>115 | n=>n,fun n=>n⟩
theorem ccLays:Go.Proofs.Lays.n240 Tryz.prog H12:={
 mixed:=by kernel_rfl
 f240:=Tryz.func147.trans (congrArg some (by kernel_rfl))
 f276:=Tryz.func204.trans (congrArg some (by kernel_rfl))
 t0:=Tryz.underlying0
 a0:=Tryz.isAgg0
 z0:=Tryz.sizeOf0
 v0:=Tryz.zeroValue0
 t4:=Tryz.underlying4
 a4:=Tryz.isAgg4
 z4:=Tryz.sizeOf4
 v4:=Tryz.zeroValue4
 t9:=Tryz.underlying9
 a9:=Tryz.isAgg9
 z9:=Tryz.sizeOf9
 v9:=Tryz.zeroValue9
 t20:=Tryz.underlying20
 a20:=Tryz.isAgg20
 z20:=Tryz.sizeOf20
 v20:=Tryz.zeroValue20
 t70:=Tryz.underlying122
 a70:=Tryz.isAgg122
 z70:=Tryz.sizeOf122
 v70:=Tryz.zeroValue122
 t72:=Tryz.underlying124
 a72:=Tryz.isAgg124
 z72:=Tryz.sizeOf124
 v72:=Tryz.zeroValue124
 t164:=Tryz.underlying240
 a164:=Tryz.isAgg240
 z164:=Tryz.sizeOf240
 v164:=Tryz.zeroValue240 }
theorem ccX:Builder.X72 Tryz.prog H12:={
 sizeBuilder:=by kernel_rfl
 liesBuilder:=by kernel_rfl }
theorem B36 {gf:Fr} {ob:Obs} {a t:TC} (hk:B9 ob 700=some (.tbx 124 [a,t])) (ha:a=.p (.v (.pointer none))∨a=.ref 700 0) :
  AL.Met Tryz.prog 147 [.one (.ref 700 0)] gf ob [] (fun rs ob'=>rs=[]∧ob'=(700,.tbx 124 [.ref 700 0,t])::ob) :=
 AL.Met.copyCheck ⟨_,rfl,rfl,rfl⟩ (fun b w h1 h2 h3=>Any.Builder_copyCheck_fresh (ρ:=H12) ccLays ccX b w h1 h2 h3) (fun b w h=>Any.Builder_copyCheck_used (ρ:=H12) ccLays ccX b w h) hk ha
theorem N4 {gf:Fr} {ob:Obs} {xs s:Str} (hb:isBld ob xs) (hlen:xs.length+s.length≤1073741824) :
  AL.Met Tryz.prog 85 [.one (.ref 700 0),.one (.p (.v (.string ⟨s.toArray⟩)))] gf ob [701] (fun rs ob'=>rs=[.one (.p (.v (.int .i64 s.length))),.one (.p (.v .nilIface))]∧ob'=bldObs ob xs (xs++s)):=by
 obtain ⟨⟨a,ha,hk⟩,hk1⟩:=hb
 refine AL.Met.intro Tryz.func85 (by decide) Z Z Z ?_
 refine k2 ?_
 refine A4 (A3 (A6 Z Z) Z (A3 (A6 Z Z) Z (A7 ?_)))
 refine k1 (k2 ?_)
 refine A4 (A3 (A5 Z Z) Z (x7 (B36 hk ha) Z Z Z ?_));rintro _ _ ⟨rfl,rfl⟩;refine A7 ?_
 refine k1 (k2 ?_)
 refine A4 (A3 (A5 Z Z) Z (A3 (A5 Z Z) Z (A3 (C3 Z) Z (A3 (A8 Z) Z (A3 (C50 Z Z Z) Z (A3 (A5 Z Z) Z (C4 (B43 TyStr.out Z hk1 Z (by first | omega | (simp;omega)) Z) Z (A3 (C3 Z) Z (A3 (A8 Z) Z (F6 (B75 TySz.out Z Z Z Z Z Z) (A7 ?_)))))))))))
 refine k1 (k2 ?_)
 refine A4 (A3 (A5 Z Z) Z (A3 (J4 Z) Z (A3 (A6 Z Z) Z (A3 (A6 Z Z) Z (A7 ?_)))))
 refine k1 (k10 ?_)
 exact V4 (rets2 rfl rfl rfl) (by repeat (first | exact E4 | refine E5 rfl ?_ | refine K3 _ ?_)) (fun _ _ h=>h) ⟨rfl,rfl⟩
theorem B37 {gf:Fr} {ob:Obs} {xs:Str} {c:UInt8} (hb:isBld ob xs) (hlen:xs.length+1≤1073741824) :
  AL.Met Tryz.prog 136 [.one (.ref 700 0),.one (.p (.v (.int .u8 c.toNat)))] gf ob [701] (fun rs ob'=>rs=[.one (.p (.v .nilIface))]∧ob'=bldObs ob xs (xs++[c])):=by
 obtain ⟨⟨a,ha,hk⟩,hk1⟩:=hb
 refine AL.Met.intro Tryz.func136 (by decide) Z Z Z ?_
 refine k2 ?_
 refine A4 (A3 (A6 Z Z) Z (A7 ?_))
 refine k1 (k2 ?_)
 refine A4 (A3 (A5 Z Z) Z (x7 (B36 hk ha) Z Z Z ?_));rintro _ _ ⟨rfl,rfl⟩;refine A7 ?_
 refine k1 (k2 ?_)
 refine A4 (A3 (A5 Z Z) Z (A3 (A5 Z Z) Z (A3 (C3 Z) Z (A3 (A8 Z) Z (A3 (C50 Z Z Z) Z (A3 (A5 Z Z) Z (A3 (E1 (c:=u8C) (ys:=[c]) (E6 Z Z Z Z I0) Z Z Z) Z (C4 (J8 Z hk1 Z (.pure _ _ _ _) (by (simp;omega)) Z) Z (A3 (C3 Z) Z (A3 (A8 Z) Z (F6 (B75 TySz.out Z Z Z Z Z Z) (A7 ?_))))))))))))
 refine k1 (k2 ?_)
 refine A4 (A3 (A6 Z Z) Z (A7 ?_))
 refine k1 (k10 ?_)
 exact V4 (A49 rfl rfl) (by repeat (first | exact E4 | refine E5 rfl ?_ | refine K3 _ ?_)) (fun _ _ h=>h) ⟨rfl,rfl⟩
end Go.Proofs.YtbiadkkamhpdnaaGreatDoor
