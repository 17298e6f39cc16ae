/- Walks of the program's functions. -/
import Derived.Test.YtbiadkkamhpdnaaGreatDoorTy
import Derived.Test.YtbiadkkamhpdnaaGreatDoorFs
import Derived.Test.YtbiadkkamhpdnaaGreatDoorSh
set_option linter.unusedSimpArgs false
namespace Go.Proofs.YtbiadkkamhpdnaaGreatDoor
open Go Go.AL
set_option maxRecDepth 100000
theorem H62 (p:Int):0≤IntKind.u64.wrap p:=by simp [IntKind.wrap,IntKind.signed,IntKind.bits];omega
theorem J28 (b:Str) (hb:b.length≤536870912):FnOk Tryz.prog 70 [M9 b] (fun rs=>rs=[d6 (B8 b)]):=by
 refine FnOk.intro Tryz.func70 (by decide) Z Z Z Z ?_
 refine k2 ?_
 refine A4 (A3 (A6 Z Z) Z (A7 ?_))
 refine k1 (k2 ?_)
 refine A4 (C5 (A02 3 _ K6 Z) Z (A7 ?_))
 refine k1 (k2 ?_)
 refine A4 (A3 (A6 Z Z) Z (A7 ?_))
 refine k1 (k2 (k2 ?_))
 refine A4 (A3 (A6 Z Z) Z (A7 ?_))
 refine k1 (k3 ?_)
 refine E2 (X:=Nat × Nat × List Str) (fun x=>([(0,Y3 b),(3,.s (.one (.buf 3 Str 1 K6 x.2.2))),(4,C0 x.2.1),(5,C0 x.1)],[(3,.spare x.2.2.length 1 9)]))
  (fun x=>x.1≤b.length∧x.2.1≤x.1∧x.2.2.length≤x.1∧(x.1=b.length→x.2.1=x.1)∧x.2.2++F7 ((b.drop x.2.1).take (x.1 - x.2.1)) (b.drop x.1)=B8 b) (fun x=>b.length - x.1) (0,0,[]) (by simp [B8]) ?_ ?_
 ·exact J70 ⟨⟨_,rfl,.same _⟩,⟨_,rfl,.same _⟩,⟨_,rfl,.same _⟩,⟨_,rfl,.same _⟩,trivial⟩ ⟨rfl,trivial⟩
 ·rintro ⟨i,from',out⟩ ⟨hi,hf,ho,he,hp⟩
  dsimp only at hi hf ho he hp ⊢
  refine k2 (k2 ?_)
  refine A4 (A3 (A5 Z Z) Z (A3 (A5 Z Z) Z (A3 (N1 Z) Z (A3 (F0 Z Z) Z (A7 ?_)))))
  refine k1 ?_
  refine B6 rfl (fun ht=>?_) (fun ht=>?_)
  ·have hlt:i < b.length:=by simpa using ht
   have hv:b[i]?=some b[i]:=by simp [hlt]
   refine k5 (k1 (k2 (k3 (k2 ?_))))
   refine A4 (A3 (A5 Z Z) Z (A3 (A5 Z Z) Z (A3 (B90 Z Z (by omega) hv) Z (A3 (Q0 Z Z) Z (A3 (A5 Z Z) Z (B1 Z Z Z Z (fun hg=>by rw [hg];exact A5 Z Z) ?_))))));refine B1 Z Z Z Z (fun hg=>by have hq:=hg;(try simp at hq);rw [hg];exact C6 Z Z (by omega)) ?_;refine B1 Z Z Z Z (fun hg=>by rw [hg];exact A5 Z Z) ?_;refine B1 Z Z Z Z (fun hg=>by rw [hg];exact N1 Z) ?_;refine B1 Z Z Z Z (fun hg=>by rw [hg];exact Q0 Z Z) ?_;refine A3 (B5 Z (fun h=>by first | rfl | (rw [h];rfl)) (fun h=>by first | rfl | (rw [h];rfl))) Z ?_;refine A7 ?_
   refine k1 ?_
   refine B6 rfl (fun ht2=>?_) (fun ht2=>?_)
   ·refine k2 ?_
    refine A4 (A3 (A5 Z Z) Z (A3 (A5 Z Z) Z (A3 (A5 Z Z) Z (A3 (A5 Z Z) Z (A3 (C6 Z Z (by omega)) Z (A3 (J19 Z Z Z (by omega) (by omega) (by omega)) Z (A3 (E6 (c:=K6) (ys:=[_]) (F3 Z Z Z Z I6) Z Z Z) Z (C5 (I9 Z Z Z (.pure _ _ _ _) (by simp;omega) Z) Z (A3 (A6 Z Z) Z (A7 ?_))))))))))
    refine k1 ?_
    refine A4 (A3 (A5 Z Z) Z (A3 (C6 Z Z (by omega)) Z (A3 (A6 Z Z) Z (A7 ?_))))
    refine k4 (k1 ?_)
    refine A4 (A3 (A5 Z Z) Z (A3 (C6 Z Z (by omega)) Z (A3 (A6 Z Z) Z (A7 ?_))))
    refine k1 ?_
    refine ⟨(i+1,i+1,_),⟨?_,?_,?_,?_,?_⟩,?_,J70 ⟨⟨_,rfl,.same _⟩,⟨_,rfl,.same _⟩,⟨_,rfl,.same _⟩,⟨_,rfl,.same _⟩,trivial⟩ ⟨rfl,trivial⟩⟩
    all_goals dsimp only
    ·omega
    ·omega
    ·simp;omega
    ·omega
    ·have hc:b[i]=10∨i+1=b.length:=by
      simp only [u8_lf] at ht2
      by_cases h:b[i]=10
      ·exact .inl h
      ·simp [h] at ht2;exact .inr (by omega)
     rw [H86,K12,Nat.sub_self,List.take_zero,←F70 b from' i hf hlt,K23,←hp,K11 hlt,U3]
     rcases hc with h | h
     ·rw [if_pos h];rfl
     ·have hd:b.drop (i+1)=[]:=K15 (by omega)
      rw [hd]
      split
      ·rfl
      ·rw [show F7 ([]:Str) []=[] from rfl,C80 _ (by simp)];simp
    ·omega
   ·refine k5 (k4 (k1 ?_))
    refine A4 (A3 (A5 Z Z) Z (A3 (C6 Z Z (by omega)) Z (A3 (A6 Z Z) Z (A7 ?_))))
    refine k1 ?_
    refine ⟨(i+1,from',out),⟨?_,?_,?_,?_,?_⟩,?_,J70 ⟨⟨_,rfl,.same _⟩,⟨_,rfl,.same _⟩,⟨_,rfl,.same _⟩,⟨_,rfl,.same _⟩,trivial⟩ ⟨rfl,trivial⟩⟩
    all_goals dsimp only
    ·omega
    ·omega
    ·omega
    ·intro h
     simp [show (i:Int)+1=(b.length:Int) by omega] at ht2
    ·have hc:b[i]≠10:=fun h=>by simp [h] at ht2
     rw [←F70 b from' i hf hlt,←hp,K11 hlt,U3,if_neg hc]
    ·omega
  ·refine k6 (k2 ?_)
   refine A4 (A3 (A5 Z Z) Z (A3 (A6 Z Z) Z (A7 ?_)))
   refine k1 (k10 ?_)
   refine B7 (H6 Z Z Z) ?_
   have hi':i=b.length:=by simp at ht;omega
   subst hi'
   have:=he rfl
   subst this
   rw [Nat.sub_self,List.take_zero,K15 (Nat.le_refl _)] at hp
   rw [←hp];simp [F7]
end Go.Proofs.YtbiadkkamhpdnaaGreatDoor
namespace Go.Proofs.YtbiadkkamhpdnaaGreatDoor
open Go Go.AL
set_option maxRecDepth 100000
theorem u64_in {n:Int} (h:0≤n∧n < 18446744073709551616):IntKind.u64.wrap n=n:=by simp [IntKind.wrap,IntKind.signed,IntKind.bits];omega
def R7 (a n:Int):Int:=IntKind.u64.wrap a % n
theorem Y7 (a:Int) {n:Int} (h:1≤n):0≤R7 a n∧R7 a n < n:=⟨Int.emod_nonneg _ (by omega),Int.emod_lt_of_pos _ (by omega)⟩
theorem D22 (a n:Int) (hn:1≤n) (hn':n≤9223372036854775807):FnOk Tryz.prog 18 [G5 a,G5 n] (fun rs=>rs=[G5 (R7 a n)]):=by
 refine FnOk.intro Tryz.func18 (by decide) Z Z Z Z ?_
 refine k2 ?_
 refine A4 (A3 (A6 Z Z) Z (A7 ?_))
 refine k1 (k2 ?_)
 have h1:IntKind.u64.wrap n=n:=u64_in (by omega)
 refine A4 (A3 (A5 Z Z) Z (A3 (b9 Z) Z (A3 (A5 Z Z) Z (A3 (b9 Z) Z (A3 (G48 Z Z (by (rw [h1];omega))) Z ?_)))));refine A3 (b9 Z) Z (A3 (A6 Z Z) Z (A7 ?_))
 refine k1 (k10 ?_)
 refine B7 (H6 Z Z Z) ?_
 have h2:=H62 a
 have h3:(IntKind.u64.wrap a).tmod n=IntKind.u64.wrap a % n:=Int.tmod_eq_emod_of_nonneg h2
 have h4:=Y7 a hn
 unfold R7 at *
 rw [h1,h3,G52 ⟨by omega,by omega⟩]
def xor64 (a b:Int):Int:=IntKind.u64.wrap ((BitVec.ofInt IntKind.u64.bits a ^^^ BitVec.ofInt IntKind.u64.bits b).toNat:Int)
def shr64 (a n:Int):Int:=a.fdiv (2 ^ (min n.toNat IntKind.u64.bits))
def at0 (k:Int):Int:=IntKind.u64.wrap (IntKind.u64.wrap (k+1)*11400714819323198485)
def at1 (raw:List Int) (k:Int):Int:=if 0 < raw.length then xor64 (at0 k) (IntKind.u64.wrap (raw.getD (k.tmod raw.length).toNat 0)) else at0 k
def at2 (x:Int):Int:=IntKind.u64.wrap (xor64 x (shr64 x 31)*13787848793156543929)
def t6 (raw:List Int) (k:Int):Int:=IntKind.i64.wrap (shr64 (xor64 (at2 (at1 raw k)) (shr64 (at2 (at1 raw k)) 29)) 1)
theorem F59 (raw:List Int) (k:Int) (h0:0≤k) (h1:k≤1099511627776):FnOk Tryz.prog 25 [P7 raw,G5 k] (fun rs=>rs=[G5 (t6 raw k)]):=by
 refine FnOk.intro Tryz.func25 (by decide) Z Z Z Z ?_
 refine G01 (t:=0) rfl (.pure _ _ _ _) fun hlen=>?_
 refine k2 ?_
 refine A4 (A3 (A6 Z Z) Z (A7 ?_))
 refine k1 (k2 ?_)
 refine A4 (A3 (A5 Z Z) Z (A3 (C6 Z Z (by omega)) Z (A3 (b9 Z) Z (A3 (F96 Z Z) Z (A3 (A6 Z Z) Z (A7 ?_))))))
 refine L1 ?_
 refine A77 [(0,C7 Int 1 G7 raw),(1,C0 k),(5,J7 (.int .u64 (at1 raw k)))] [] ?_ ?_
 ·refine k2 ?_
  refine A4 (A3 (A5 Z Z) Z (A3 (E3 Z (.pure _ _ _ _)) Z (A3 (R5 Z Z) Z (A7 ?_))))
  refine k1 ?_
  refine B6 rfl (fun ht=>?_) (fun ht=>?_)
  ·have hpos:0 < raw.length:=by have:=A0 ht;omega
   have hm0:0≤k.tmod raw.length:=Int.tmod_nonneg _ h0
   have hm1:k.tmod raw.length < raw.length:=Int.tmod_lt_of_pos _ (by omega)
   have hv:raw[(k.tmod raw.length).toNat]?=some (raw.getD (k.tmod raw.length).toNat 0):=by
    rw [K09,K06 (by omega)];rfl
   skip
   refine A4 (A3 (A5 Z Z) Z (A3 (A5 Z Z) Z (A3 (A5 Z Z) Z (A3 (A5 Z Z) Z (A3 (E3 Z (.pure _ _ _ _)) Z (A3 (G48 Z Z (by omega)) Z (A3 (B4 Z (.pure _ _ _ _) Z (by omega) hv) Z (A3 (C8 Z Z) Z (A3 (b9 Z) Z (A3 (A75 Z Z Z (fun _=>rfl)) Z (A3 (A6 Z Z) Z (A7 ?_))))))))))))
   refine k1 ?_
   rw [at1,if_pos hpos]
   exact J70 ⟨le1 rfl,le1 rfl,le1 rfl,trivial⟩ trivial
  ·have hpos:¬0 < raw.length:=by have:=A1 ht;omega
   refine k5 (k1 ?_)
   rw [at1,if_neg hpos]
   exact J70 ⟨le1 rfl,le1 rfl,le1 rfl,trivial⟩ trivial
 ·refine k2 ?_
  refine A4 (A3 (A5 Z Z) Z (A3 (A5 Z Z) Z (A3 (D48 Z Z (by omega)) Z (A3 (A75 Z Z Z (fun _=>rfl)) Z (A3 (F96 Z Z) Z (A3 (A6 Z Z) Z (A7 ?_)))))))
  refine k1 (k2 ?_)
  refine A4 (A3 (A5 Z Z) Z (A3 (A5 Z Z) Z (A3 (D48 Z Z (by omega)) Z (A3 (A75 Z Z Z (fun _=>rfl)) Z (A3 (D48 Z Z (by omega)) Z (A3 (b9 Z) Z (A3 (A6 Z Z) Z (A7 ?_))))))))
  refine k1 (k10 ?_)
  exact B7 (H6 rfl rfl rfl) rfl
def lineTab:List Str:=[[97],[98],[99],[97,98],[98,97],[],[97,97],[98,32,97],[120,43,121],[92]]
def x7 (k:Int):Str:=lineTab.getD (R7 k 10).toNat []
theorem G69:∀s∈lineTab,s.length≤3:=by decide
theorem B14 (k:Int):(x7 k).length≤3:=by
 unfold x7
 rw [K09]
 cases h:lineTab[(R7 k 10).toNat]? with
 | none=>simp
 | some s=>exact G69 s (K16 h)
theorem G70 (k:Int):FnOk Tryz.prog 24 [G5 k] (fun rs=>rs=[M9 (x7 k)]):=by
 refine FnOk.intro Tryz.func24 (by decide) Z Z Z Z ?_
 refine k2 ?_
 refine A4 (A3 (A6 Z Z) Z (A7 ?_))
 refine k1 (k2 ?_)
 have hm:=Y7 k (n:=10) (by decide)
 have hv:lineTab[(R7 k 10).toNat]?=some (x7 k):=by
  unfold x7
  rw [K09,K06 (show (R7 k 10).toNat < lineTab.length by simp [lineTab];omega)];rfl
 refine A4 (A3 (E6 (c:=K6) (ys:=lineTab) (F3 Z Z Z Z (F3 Z Z Z Z (F3 Z Z Z Z (F3 Z Z Z Z (F3 Z Z Z Z (F3 Z Z Z Z (F3 Z Z Z Z (F3 Z Z Z Z (F3 Z Z Z Z (F3 Z Z Z Z I6)))))))))) Z Z Z) Z (A3 (A5 Z Z) Z (C9 (D22 k 10 (by decide) (by decide)) Z Z Z ?_)));rintro _ rfl;refine A3 (B4 Z (.pure _ _ _ _) Z (by omega) hv) Z (A3 (C8 Z Z) Z (A3 (A6 Z Z) Z (A7 ?_)))
 refine k1 (k10 ?_)
 exact B7 (H6 rfl rfl rfl) rfl
def S7 (raw:List Int) (from':Int) (kinds:Int) (m:Nat):Str:=((List.range m).map fun (i:Nat)=>x7 (R7 (t6 raw (from'+1+(i:Int))) kinds)++[10]).flatten
def X1 (raw:List Int) (from' n kinds:Int):Str :=
 let s:=S7 raw from' kinds (R7 (t6 raw from') (n+1)).toNat
 if ((t6 raw (from'+90)).tmod 4=0∧(1:Int) < s.length)∧((s.getD (s.length - 2) 0).toNat:Int)≠10 then s.take (s.length - 1) else s
theorem A45 (raw:List Int) (from' kinds:Int) (m:Nat):S7 raw from' kinds (m+1)=S7 raw from' kinds m++x7 (R7 (t6 raw (from'+1+(m:Int))) kinds)++[10]:=by
 unfold S7;rw [K47,K19,K21];simp
theorem C22 (raw:List Int) (from' kinds:Int) (m:Nat):(S7 raw from' kinds m).length≤4*m:=by
 induction m with
 | zero=>simp [S7]
 | succ m ih=>have:=B14 (R7 (t6 raw (from'+1+(m:Int))) kinds);rw [A45];simp only [K05,K07,K10];omega
theorem I26 (raw:List Int) (from' n kinds:Int) (h0:0≤from'∧from'≤1073741824) (h1:0≤n∧n≤1048576) (h2:1≤kinds∧kinds≤1048576) :
  FnOk Tryz.prog 64 [P7 raw,G5 from',G5 n,G5 kinds] (fun rs=>rs=[M9 (X1 raw from' n kinds)]):=by
 obtain ⟨m,hm⟩:∃m:Nat,R7 (t6 raw from') (n+1)=m:=⟨(R7 (t6 raw from') (n+1)).toNat,by have:=Y7 (t6 raw from') (n:=n+1) (by omega);omega⟩
 have hmi:=Y7 (t6 raw from') (n:=n+1) (by omega)
 have hml:m≤1048576:=by omega
 refine FnOk.intro Tryz.func64 (by decide) Z Z Z Z ?_
 refine k2 ?_
 refine A4 (A3 (A6 Z Z) Z (A7 ?_))
 refine k1 (k2 ?_)
 refine A4 (A3 (A5 Z Z) Z (A3 (A5 Z Z) Z (C9 (F59 raw from' (by omega) (by omega)) Z Z Z ?_)));rintro _ rfl;refine A3 (A5 Z Z) Z (A3 (C6 Z Z (by omega)) Z (C9 (D22 _ (n+1) (by omega) (by omega)) Z Z Z ?_));rintro _ rfl;refine A3 (A6 Z Z) Z (A7 ?_)
 refine k1 (k2 ?_)
 rw [hm]
 refine A4 (A3 (A6 Z Z) Z (A7 ?_))
 refine k1 (k2 (k2 ?_))
 refine A4 (A3 (A6 Z Z) Z (A7 ?_))
 refine k1 (k3 ?_)
 refine E2 (X:=Nat) (fun i=>([(0,C7 Int 1 G7 raw),(1,C0 from'),(2,C0 m),(3,C0 kinds),(9,Y3 (S7 raw from' kinds i)),(10,C0 i)],[])) (fun i=>i≤m) (fun i=>m - i) 0 (Nat.zero_le _) (J70 ⟨le1 rfl,le1 rfl,le1 rfl,le1 rfl,le1 rfl,le1 rfl,trivial⟩ trivial) ?_
 intro i hi
 dsimp only at hi ⊢
 have hbl:=C22 raw from' kinds i
 refine k2 (k2 ?_)
 refine A4 (A3 (A5 Z Z) Z (A3 (A5 Z Z) Z (A3 (F0 Z Z) Z (A7 ?_))))
 refine k1 ?_
 refine B6 rfl (fun ht=>?_) (fun ht=>?_)
 ·have hlt:i < m:=by have:=A0 ht;omega
  have hll:=B14 (R7 (t6 raw (from'+1+(i:Int))) kinds)
  refine k5 (k1 (k2 (k3 ?_)))
  refine A4 (A3 (A5 Z Z) Z (A3 (A5 Z Z) Z (A3 (A5 Z Z) Z (A3 (C6 Z Z (by omega)) Z (A3 (A5 Z Z) Z (A3 (C6 Z Z (by omega)) Z (C9 (F59 raw _ (by omega) (by omega)) Z Z Z ?_)))))));rintro _ rfl;refine A3 (A5 Z Z) Z (C9 (D22 _ kinds (by omega) (by omega)) Z Z Z ?_);rintro _ rfl;refine C9 (G70 _) Z Z Z ?_;rintro _ rfl;refine A3 (I5 Z Z (by omega)) Z (A3 (I5 Z Z (by (simp only [K05,K07,K10];omega))) Z (A3 (A6 Z Z) Z (A7 ?_)))
  refine k4 (k1 ?_)
  refine A4 (A3 (A5 Z Z) Z (A3 (C6 Z Z (by omega)) Z (A3 (A6 Z Z) Z (A7 ?_))))
  refine k1 ?_
  refine ⟨i+1,by omega,by omega,?_⟩
  rw [A45]
  exact J70 ⟨le1 rfl,le1 rfl,le1 rfl,le1 rfl,le1 rfl,le1 rfl,trivial⟩ trivial
 ·have hi':i=m:=by have:=A1 ht;omega
  subst hi'
  obtain ⟨s,hs⟩:∃s,s=S7 raw from' kinds i:=⟨_,rfl⟩
  have hv:(1:Int) < s.length→s[((s.length:Int) - 2).toNat]?=some (s.getD (s.length - 2) 0):=fun h=>by
   rw [show ((s.length:Int) - 2).toNat=s.length - 2 by omega,K09,K06 (by omega)];rfl
  have hbo:X1 raw from' n kinds=if ((t6 raw (from'+90)).tmod 4=0∧(1:Int) < s.length)∧((s.getD (s.length - 2) 0).toNat:Int)≠10 then s.take (s.length - 1) else s:=by
   simp only [X1,hm,K12,←hs]
  rw [←hs] at hbl
  refine k6 (k2 (k2 ?_))
  rw [←hs]
  refine A4 (A3 (A5 Z Z) Z (A3 (A5 Z Z) Z (A3 (C6 Z Z (by omega)) Z (C9 (F59 raw _ (by omega) (by omega)) Z Z Z ?_))));rintro _ rfl;refine A3 (G48 Z Z (by omega)) Z (A3 (Q0 Z Z) Z (A3 (A5 Z Z) Z (B1 Z Z Z Z (fun hg=>by rw [hg];exact A5 Z Z) ?_)));refine B1 Z Z Z Z (fun hg=>by rw [hg];exact N1 Z) ?_;refine B1 Z Z Z Z (fun hg=>by rw [hg];exact R5 Z Z) ?_;refine A3 (B5 Z (fun h=>by first | rfl | (rw [h];rfl)) (fun h=>by first | rfl | (rw [h];rfl))) Z ?_;refine A3 (A5 Z Z) Z (B1 Z Z Z Z (fun hg=>by rw [hg];exact A5 Z Z) ?_);refine B1 Z Z Z Z (fun hg=>by rw [hg];exact A5 Z Z) ?_;refine B1 Z Z Z Z (fun hg=>by rw [hg];exact N1 Z) ?_;refine B1 Z Z Z Z (fun hg=>by have hq:=hg;(try simp at hq);rw [hg];exact N5 Z Z (by omega)) ?_;refine B1 Z Z Z Z (fun hg=>by have hq:=hg;(try simp at hq);rw [hg];exact B90 Z Z (by omega) (hv (by omega))) ?_;refine B1 Z Z Z Z (fun hg=>by rw [hg];exact K2 Z Z) ?_;refine A3 (B5 Z (fun h=>by first | rfl | (rw [h];rfl)) (fun h=>by first | rfl | (rw [h];rfl))) Z ?_;refine A7 ?_
  refine k1 ?_
  refine B6 rfl (fun ht=>?_) (fun ht=>?_)
  ·simp only [L8] at ht
   have h:=A0 ht
   skip
   refine A4 (A3 (A5 Z Z) Z (A3 (A5 Z Z) Z (A3 (N1 Z) Z (A3 (N5 Z Z (by omega)) Z (A3 (I18 Z Z (by omega) (by omega)) Z (A3 (A6 Z Z) Z (A7 ?_)))))))
   refine k1 (k2 ?_)
   refine A4 (A3 (A5 Z Z) Z (A3 (A6 Z Z) Z (A7 ?_)))
   refine k1 (k10 ?_)
   exact B7 (H6 rfl rfl rfl) (by rw [hbo,if_pos h,show ((s.length:Int) - 1).toNat=s.length - 1 by omega])
  ·simp only [L8] at ht
   have h:=A1 ht
   refine k5 (k1 (k2 ?_))
   refine A4 (A3 (A5 Z Z) Z (A3 (A6 Z Z) Z (A7 ?_)))
   refine k1 (k10 ?_)
   exact B7 (H6 rfl rfl rfl) (by rw [hbo,if_neg h])
theorem C41 (raw:List Int) (from' n kinds:Int) (h1:0≤n):((X1 raw from' n kinds).length:Int)≤4*n:=by
 have h:=Y7 (t6 raw from') (n:=n+1) (by omega)
 have h2:=C22 raw from' kinds (R7 (t6 raw from') (n+1)).toNat
 unfold X1
 simp only
 split
 ·simp only [K22];omega
 ·omega
def t7 (raw:List Int) (from':Int) (i:Nat) (s:Str):List Str→Str
 | []=>s
 | x::r=>if (t6 raw (from'+(i:Int))).tmod 6=0 then t7 raw from' (i+1) s r
  else if (t6 raw (from'+(i:Int))).tmod 6=1 then t7 raw from' (i+1) (s++x7 (t6 raw (from'+40+(i:Int)))++[10]++x) r
  else t7 raw from' (i+1) (s++x) r
def C42 (blob:Str) (raw:List Int) (from':Int):Str:=t7 raw from' 0 [] (B8 blob)
theorem B15 (raw:List Int) (from':Int):∀(l:List Str) (i:Nat) (s:Str),(t7 raw from' i s l).length≤s.length+l.flatten.length+4*l.length
 | [],i,s=>by simp [t7]
 | x::r,i,s=>by
  have h1:=B15 raw from' r (i+1) s
  have h2:=B15 raw from' r (i+1) (s++x7 (t6 raw (from'+40+(i:Int)))++[10]++x)
  have h3:=B15 raw from' r (i+1) (s++x)
  have h4:=B14 (t6 raw (from'+40+(i:Int)))
  simp only [K05,K07,K10,K18] at *
  unfold t7
  split
  ·omega
  ·split<;>omega
theorem D23 (s cur:Str):(F7 cur s).flatten=cur++s:=by
 induction s generalizing cur with
 | nil=>unfold F7;split<;>simp [*]
 | cons c r ih=>unfold F7;split<;>simp [ih]
theorem l5 (s:Str):(B8 s).flatten=s:=D23 s []
theorem near_ok (blob:Str) (raw:List Int) (from':Int) (hb:blob.length≤16777216) (h0:0≤from'∧from'≤1073741824) :
  FnOk Tryz.prog 26 [M9 blob,P7 raw,G5 from'] (fun rs=>rs=[M9 (C42 blob raw from')]):=by
 have hll:=Y9 blob
 have hlf:=l5 blob
 have hlf':(B8 blob).flatten.length=blob.length:=by rw [hlf]
 refine FnOk.intro Tryz.func26 (by decide) Z Z Z Z ?_
 refine k2 ?_
 refine A4 (A3 (A6 Z Z) Z (A7 ?_))
 refine k1 (k2 ?_)
 refine A4 (A3 (A5 Z Z) Z (C9 (J28 blob (by omega)) Z Z Z ?_));rintro _ rfl;refine A3 (A6 Z Z) Z (A7 ?_)
 refine k1 (k2 ?_)
 obtain ⟨l,hl⟩:∃l,l=B8 blob:=⟨_,rfl⟩
 have hno:C42 blob raw from'=t7 raw from' 0 [] l:=by rw [C42,hl]
 rw [←hl] at hll hlf' ⊢
 refine A4 (A3 (A6 Z Z) Z (A7 ?_))
 refine k1 (k2 (k2 ?_))
 refine A4 (A3 (A6 Z Z) Z (A7 ?_))
 refine k1 (k3 ?_)
 refine E2 (X:=Nat × Str) (fun x=>([(1,C7 Int 1 G7 raw),(2,C0 from'),(7,C7 Str 1 K6 l),(8,Y3 x.2),(9,C0 x.1)],[])) (fun x=>x.1≤l.length∧x.2.length≤(l.take x.1).flatten.length+4*x.1∧t7 raw from' x.1 x.2 (l.drop x.1)=t7 raw from' 0 [] l) (fun x=>l.length - x.1) (0,[]) (by simp) (J70 ⟨le1 rfl,le1 rfl,le1 rfl,le1 rfl,le1 rfl,trivial⟩ trivial) ?_
 rintro ⟨i,s⟩ ⟨hi,hs,hp⟩
 dsimp only at hi hs hp ⊢
 have hle:=l7 l i
 refine k2 (k2 ?_)
 refine A4 (A3 (A5 Z Z) Z (A3 (A5 Z Z) Z (A3 (E3 Z (.pure _ _ _ _)) Z (A3 (F0 Z Z) Z (A7 ?_)))))
 refine k1 ?_
 refine B6 rfl (fun ht=>?_) (fun ht=>?_)
 ·have hlt:i < l.length:=by have:=A0 ht;omega
  have hv:l[i]?=some l[i]:=by simp [hlt]
  have hle2:=l7 l (i+1)
  have hst:=u0 l i hlt
  rw [hst,K05] at hle2
  rw [K11 hlt,t7] at hp
  refine k5 (k1 (k2 (k3 (k2 (k2 ?_)))))
  refine A4 (A3 (A5 Z Z) Z (A3 (A5 Z Z) Z (A3 (A5 Z Z) Z (A3 (C6 Z Z (by omega)) Z (C9 (F59 raw _ (by omega) (by omega)) Z Z Z ?_)))));rintro _ rfl;refine A3 (G48 Z Z (by omega)) Z (A7 ?_)
  refine k1 (k3 (k2 ?_))
  refine A4 (A3 (Q0 Z Z) Z (A3 (A6 Z Z) Z (A7 ?_)))
  refine k1 ?_
  refine B6 rfl (fun ht=>?_) (fun ht=>?_)
  ·rw [if_pos (A0 ht)] at hp
   refine k6 (k9 Z (k7 (k8 Z (k1 ?_))))
   refine A4 (A3 (A5 Z Z) Z (A3 (C6 Z Z (by omega)) Z (A3 (A6 Z Z) Z (A7 ?_))))
   refine k1 ?_
   exact ⟨(i+1,s),⟨by dsimp only;omega,by dsimp only;rw [hst,K05];omega,hp⟩,by dsimp only;omega,J70 ⟨le1 rfl,le1 rfl,le1 rfl,le1 rfl,le1 rfl,trivial⟩ trivial⟩
  ·rw [if_neg (A1 ht)] at hp
   refine k2 ?_
   refine A4 (A3 (Q0 Z Z) Z (A3 (A6 Z Z) Z (A7 ?_)))
   refine k1 ?_
   refine B6 rfl (fun ht=>?_) (fun ht=>?_)
   ·rw [if_pos (A0 ht)] at hp
    have h4:=B14 (t6 raw (from'+40+(i:Int)))
    skip
    refine A4 (A3 (A5 Z Z) Z (A3 (A5 Z Z) Z (A3 (A5 Z Z) Z (A3 (C6 Z Z (by omega)) Z (A3 (A5 Z Z) Z (A3 (C6 Z Z (by omega)) Z (C9 (F59 raw _ (by omega) (by omega)) Z Z Z ?_)))))));rintro _ rfl;refine C9 (G70 _) Z Z Z ?_;rintro _ rfl;refine A3 (I5 Z Z (by omega)) Z (A3 (I5 Z Z (by (simp only [K05,K07,K10];omega))) Z (A3 (A6 Z Z) Z (A7 ?_)))
    refine k4 (k1 ?_)
    refine A4 (A3 (A5 Z Z) Z (A3 (A5 Z Z) Z (A3 (A5 Z Z) Z (A3 (B4 Z (.pure _ _ _ _) Z (by omega) hv) Z (A3 (C8 Z Z) Z (A3 (I5 Z Z (by (simp only [K05,K07,K10];omega))) Z (A3 (A6 Z Z) Z (A7 ?_))))))))
    refine k4 (k1 ?_)
    refine A4 (A3 (A5 Z Z) Z (A3 (C6 Z Z (by omega)) Z (A3 (A6 Z Z) Z (A7 ?_))))
    refine k1 ?_
    exact ⟨(i+1,s++x7 (t6 raw (from'+40+(i:Int)))++[10]++l[i]),⟨by dsimp only;omega,by dsimp only;rw [hst];simp only [K05,K07,K10];omega,hp⟩,by dsimp only;omega,J70 ⟨le1 rfl,le1 rfl,le1 rfl,le1 rfl,le1 rfl,trivial⟩ trivial⟩
   ·rw [if_neg (A1 ht)] at hp
    refine k5 (k4 (k1 ?_))
    refine A4 (A3 (A5 Z Z) Z (A3 (A5 Z Z) Z (A3 (A5 Z Z) Z (A3 (B4 Z (.pure _ _ _ _) Z (by omega) hv) Z (A3 (C8 Z Z) Z (A3 (I5 Z Z (by omega)) Z (A3 (A6 Z Z) Z (A7 ?_))))))))
    refine k4 (k1 ?_)
    refine A4 (A3 (A5 Z Z) Z (A3 (C6 Z Z (by omega)) Z (A3 (A6 Z Z) Z (A7 ?_))))
    refine k1 ?_
    exact ⟨(i+1,s++l[i]),⟨by dsimp only;omega,by dsimp only;rw [hst,K05,K05];omega,hp⟩,by dsimp only;omega,J70 ⟨le1 rfl,le1 rfl,le1 rfl,le1 rfl,le1 rfl,trivial⟩ trivial⟩
 ·have hi':i=l.length:=by have:=A1 ht;omega
  rw [hi',K15 (Nat.le_refl _)] at hp
  refine k6 (k2 ?_)
  refine A4 (A3 (A5 Z Z) Z (A3 (A6 Z Z) Z (A7 ?_)))
  refine k1 (k10 ?_)
  exact B7 (H6 rfl rfl rfl) (by rw [hno,←hp];rfl)
def x8 (raw:List Int) (lines:Int) (p:Nat):Str :=
 if (t6 raw (500+(p:Int))).tmod 5=0 then X1 raw (600+50*(p:Int)) lines 4 else if (t6 raw (500+(p:Int))).tmod 5=1 then X1 raw 0 lines 5 else C42 (X1 raw 0 lines 5) raw (600+50*(p:Int))
def c7 (raw:List Int) (n:Nat) (lines:Int):List Str:=(List.range n).map (x8 raw lines)
theorem E40 (raw:List Int) (lines:Int) (p:Nat) (h:0≤lines):((x8 raw lines p).length:Int)≤20*lines:=by
 have h1:=C41 raw (600+50*(p:Int)) lines 4 h
 have h2:=C41 raw 0 lines 5 h
 have h3:=B15 raw (600+50*(p:Int)) (B8 (X1 raw 0 lines 5)) 0 []
 have h4:=Y9 (X1 raw 0 lines 5)
 rw [l5] at h3
 simp only [K10] at h3
 unfold x8 C42
 split
 ·omega
 ·split<;>omega
theorem J29 (raw:List Int) (n:Nat) (lines:Int) (h1:n≤1024) (h2:0≤lines∧lines≤524288):FnOk Tryz.prog 61 [P7 raw,G5 n,G5 lines] (fun rs=>rs=[d6 (c7 raw n lines)]):=by
 have hfl:=C41 raw 0 lines 5 h2.1
 refine FnOk.intro Tryz.func61 (by decide) Z Z Z Z ?_
 refine k2 ?_
 refine A4 (A3 (A6 Z Z) Z (A7 ?_))
 refine k1 (k2 ?_)
 refine A4 (A3 (A5 Z Z) Z (A3 (A5 Z Z) Z (C9 (I26 raw 0 lines 5 (by omega) (by omega) (by omega)) Z Z Z ?_)));rintro _ rfl;refine A3 (A6 Z Z) Z (A7 ?_)
 refine k1 (k2 ?_)
 refine A4 (C5 (H53 13 (c:=K6) (ys:=[]) I6 Z Z Z (by first | rfl | (simp [G4,J6,Ob.free,SV.free,S1.free,TC.free]<;>rfl))) Z ?_);refine A3 (A6 Z Z) Z (A7 ?_)
 refine k1 (k2 (k2 ?_))
 refine A4 (A3 (A6 Z Z) Z (A7 ?_))
 refine k1 (k3 ?_)
 refine E2 (X:=Nat) (fun p=>([(0,C7 Int 1 G7 raw),(1,C0 n),(2,C0 lines),(7,Y3 (X1 raw 0 lines 5)),(8,.s (.one (.buf 13 Str 1 K6 (c7 raw p lines)))),(9,C0 p)],[(13,.spare (c7 raw p lines).length 1 9)])) (fun p=>p≤n) (fun p=>n - p) 0 (Nat.zero_le _) (J70 ⟨le1 rfl,le1 rfl,le1 rfl,le1 rfl,le1 rfl,le1 rfl,trivial⟩ ⟨rfl,trivial⟩) ?_
 intro p hp
 dsimp only at hp ⊢
 have hst:c7 raw (p+1) lines=c7 raw p lines++[x8 raw lines p]:=by unfold c7;rw [K47,K19];rfl
 have hbl:(c7 raw p lines).length=p:=by simp [c7]
 refine k2 (k2 ?_)
 refine A4 (A3 (A5 Z Z) Z (A3 (A5 Z Z) Z (A3 (F0 Z Z) Z (A7 ?_))))
 refine k1 ?_
 refine B6 rfl (fun ht=>?_) (fun ht=>?_)
 ·have hlt:p < n:=by have:=A0 ht;omega
  refine k5 (k1 (k2 (k3 (k2 ?_))))
  refine A4 (A3 (A5 Z Z) Z (A3 (A5 Z Z) Z (A3 (C6 Z Z (by omega)) Z (C9 (F59 raw _ (by omega) (by omega)) Z Z Z ?_))));rintro _ rfl;refine A3 (G48 Z Z (by omega)) Z (A7 ?_)
  refine k1 (k3 (k2 ?_))
  refine A4 (A3 (Q0 Z Z) Z (A3 (A6 Z Z) Z (A7 ?_)))
  refine k1 ?_
  refine B6 rfl (fun ht=>?_) (fun ht=>?_)
  ·have hb:x8 raw lines p=X1 raw (600+50*(p:Int)) lines 4:=by rw [x8,if_pos (A0 ht)]
   skip
   refine A4 (A3 (A5 Z Z) Z (A3 (A5 Z Z) Z (A3 (A5 Z Z) Z (A3 (C16 Z Z (by omega)) Z (A3 (C6 Z Z (by omega)) Z (A3 (A5 Z Z) Z (C9 (I26 raw _ lines 4 (by omega) (by omega) (by omega)) Z Z Z ?_)))))));rintro _ rfl;refine A3 (E6 (c:=K6) (ys:=[_]) (F3 Z Z Z Z I6) Z Z Z) Z (C5 (I9 Z Z Z (.pure _ _ _ _) (by (simp only [K07,K10];omega)) Z) Z (A3 (A6 Z Z) Z (A7 ?_)))
   refine k4 (k4 (k1 ?_))
   refine A4 (A3 (A5 Z Z) Z (A3 (C6 Z Z (by omega)) Z (A3 (A6 Z Z) Z (A7 ?_))))
   refine k1 ?_
   refine ⟨p+1,by omega,by omega,?_⟩
   rw [hst,hb]
   exact J70 ⟨le1 rfl,le1 rfl,le1 rfl,le1 rfl,le1 rfl,le1 rfl,trivial⟩ ⟨rfl,trivial⟩
  ·have h5:=A1 ht
   refine k2 ?_
   refine A4 (A3 (Q0 Z Z) Z (A3 (A6 Z Z) Z (A7 ?_)))
   refine k1 ?_
   refine B6 rfl (fun ht=>?_) (fun ht=>?_)
   ·have hb:x8 raw lines p=X1 raw 0 lines 5:=by rw [x8,if_neg h5,if_pos (A0 ht)]
    skip
    refine A4 (A3 (A5 Z Z) Z (A3 (A5 Z Z) Z (A3 (E6 (c:=K6) (ys:=[_]) (F3 Z Z Z Z I6) Z Z Z) Z (C5 (I9 Z Z Z (.pure _ _ _ _) (by (simp only [K07,K10];omega)) Z) Z (A3 (A6 Z Z) Z (A7 ?_))))))
    refine k4 (k4 (k1 ?_))
    refine A4 (A3 (A5 Z Z) Z (A3 (C6 Z Z (by omega)) Z (A3 (A6 Z Z) Z (A7 ?_))))
    refine k1 ?_
    refine ⟨p+1,by omega,by omega,?_⟩
    rw [hst,hb]
    exact J70 ⟨le1 rfl,le1 rfl,le1 rfl,le1 rfl,le1 rfl,le1 rfl,trivial⟩ ⟨rfl,trivial⟩
   ·have hb:x8 raw lines p=C42 (X1 raw 0 lines 5) raw (600+50*(p:Int)):=by rw [x8,if_neg h5,if_neg (A1 ht)]
    skip
    refine A4 (A3 (A5 Z Z) Z (A3 (A5 Z Z) Z (A3 (A5 Z Z) Z (A3 (A5 Z Z) Z (A3 (C16 Z Z (by omega)) Z (A3 (C6 Z Z (by omega)) Z (C9 (near_ok _ raw _ (by omega) (by omega)) Z Z Z ?_)))))));rintro _ rfl;refine A3 (E6 (c:=K6) (ys:=[_]) (F3 Z Z Z Z I6) Z Z Z) Z (C5 (I9 Z Z Z (.pure _ _ _ _) (by (simp only [K07,K10];omega)) Z) Z (A3 (A6 Z Z) Z (A7 ?_)))
    refine k4 (k4 (k1 ?_))
    refine A4 (A3 (A5 Z Z) Z (A3 (C6 Z Z (by omega)) Z (A3 (A6 Z Z) Z (A7 ?_))))
    refine k1 ?_
    refine ⟨p+1,by omega,by omega,?_⟩
    rw [hst,hb]
    exact J70 ⟨le1 rfl,le1 rfl,le1 rfl,le1 rfl,le1 rfl,le1 rfl,trivial⟩ ⟨rfl,trivial⟩
 ·have hp':p=n:=by have:=A1 ht;omega
  refine k6 (k2 ?_)
  refine A4 (A3 (A5 Z Z) Z (A3 (A6 Z Z) Z (A7 ?_)))
  refine k1 (k10 ?_)
  exact B7 (H6 rfl rfl rfl) (by rw [hp'])
end Go.Proofs.YtbiadkkamhpdnaaGreatDoor
namespace Go.Proofs.YtbiadkkamhpdnaaGreatDoor
open Go Go.AL
set_option maxRecDepth 100000
theorem F60 (s:Str):(ByteArray.mk s.toArray).size=s.length:=by simp [ByteArray.size]
theorem G11 (s p:Str) (hs:s.length≤1099511627776):FnOk Tryz.prog 200 [M9 s,M9 p] (fun rs=>rs=[O9 (Lib.hasSuffix s p)]) :=
 J76 (xs:=[.string ⟨s.toArray⟩,.string ⟨p.toArray⟩]) ⟨_,rfl,rfl,rfl⟩ rfl fun w=>by simpa using Tryz.strings_HasSuffix ⟨s.toArray⟩ ⟨p.toArray⟩ w (by rw [F60];omega)
theorem F26 (s p:Str) (hs:s.length≤1099511627776):FnOk Tryz.prog 225 [M9 s,M9 p] (fun rs=>rs=[M9 (Lib.trimSuffix s p)]) :=
 J76 (xs:=[.string ⟨s.toArray⟩,.string ⟨p.toArray⟩]) ⟨_,rfl,rfl,rfl⟩ rfl fun w=>by simpa using Tryz.strings_TrimSuffix ⟨s.toArray⟩ ⟨p.toArray⟩ w (by rw [F60];omega)
theorem G12 (s:Str) (c:UInt8):FnOk Tryz.prog 125 [M9 s,.one (.v (.int .u8 c.toNat))] (fun rs=>rs=[G5 (Lib.indexByte s c)]) :=
 J76 (xs:=[.string ⟨s.toArray⟩,.int .u8 c.toNat]) ⟨_,rfl,rfl,rfl⟩ rfl fun w=>by simpa using Tryz.strings_IndexByte ⟨s.toArray⟩ c.toNat w
theorem C75 (s:Str) (c:UInt8):FnOk Tryz.prog 209 [M9 s,M9 [c]] (fun rs=>rs=[O9 (decide (0≤Lib.indexByte s c))]) :=
 J76 (xs:=[.string ⟨s.toArray⟩,.string ⟨#[c]⟩]) ⟨_,rfl,rfl,rfl⟩ rfl fun w=>by simpa using Tryz.strings_Contains_one ⟨s.toArray⟩ c w
theorem J30 (l:List Str) (hl:l.length≤536870912) (hf:l.flatten.length≤536870912):FnOk Tryz.prog 126 [d6 l,M9 []] (fun rs=>rs=[M9 l.flatten]):=by
 have hmap:(l.map fun s=>(⟨s.toArray⟩:ByteArray)).map (·.data.toList)=l:=by rw [K41];simp [Function.comp_def]
 refine J94 ⟨_,rfl,rfl,rfl⟩ (fun h a c w=>?_) (fun b o c w hne hc hb hcap=>?_)
 ·subst h;exact Tryz.strings_Join_none a c _ w
 ·have:=Tryz.strings_Join b o c (l.map fun s=>(⟨s.toArray⟩:ByteArray)) ⟨#[]⟩ w hc hb (by rw [K29];omega) (by rw [K29];exact hcap) (by rw [hmap];show (Lib.join l []).length≤_;rw [H01];omega)
  rw [K29,hmap] at this
  have e:Lib.join l (⟨#[]⟩:ByteArray).data.toList=l.flatten:=H01 l
  rw [e] at this
  exact this
theorem A36 (s:Str) (hs:s.length≤1099511627776):FnOk Tryz.prog 137 [M9 s] (fun rs=>rs=[O9 (ended s)]):=by
 refine FnOk.intro Tryz.func137 (by decide) Z Z Z Z ?_
 refine k2 ?_
 refine A4 (A3 (A6 Z Z) Z (A7 ?_))
 refine k1 (k2 ?_)
 refine A4 (A3 (A5 Z Z) Z (C9 (G11 s [10] hs) Z Z Z ?_));rintro _ rfl;refine A3 (A6 Z Z) Z (A7 ?_)
 rw [C86]
 refine k1 (k10 ?_)
 exact B7 (H6 rfl rfl rfl) rfl
theorem G71 (s:Str) (hs:s.length≤1099511627776):FnOk Tryz.prog 210 [M9 s] (fun rs=>rs=[M9 (B21 s)]):=by
 refine FnOk.intro Tryz.func210 (by decide) Z Z Z Z ?_
 refine k2 ?_
 refine A4 (A3 (A6 Z Z) Z (A7 ?_))
 refine k1 (k2 ?_)
 refine A4 (A3 (A5 Z Z) Z (C9 (F26 s [10] hs) Z Z Z ?_));rintro _ rfl;refine A3 (A6 Z Z) Z (A7 ?_)
 rw [F34]
 refine k1 (k10 ?_)
 exact B7 (H6 rfl rfl rfl) rfl
theorem D54 (r:Row) (c:Int) (hr:0≤r.Marks∧r.Marks < 4294967296):FnOk Tryz.prog 177 [pRow r,G5 c] (fun rs=>rs=[O9 (j4 r c)]):=by
 refine FnOk.intro Tryz.func177 (by decide) Z Z Z Z ?_
 refine k2 ?_
 refine A4 (C5 (Q1 2 Z Z Z) Z (A3 (A6 Z Z) Z (A7 ?_)))
 refine k1 (k2 (k2 ?_))
 refine A4 (A3 (A5 Z Z) Z (A3 (F0 Z Z) Z (A3 (A5 Z Z) Z (B1 Z Z Z Z (fun hg=>by rw [hg];exact A5 Z Z) ?_))));refine B1 Z Z Z Z (fun hg=>by rw [hg];exact A88 Z Z) ?_;refine A3 (B5 Z (fun h=>by first | rfl | (rw [h];rfl)) (fun h=>by first | rfl | (rw [h];rfl))) Z ?_;refine A7 ?_
 refine k1 ?_
 refine B6 rfl (fun ht=>?_) (fun ht=>?_)
 ·have h:=A0 (or_pick.symm.trans ht)
  refine k2 ?_
  refine A4 (A3 (A6 Z Z) Z (A7 ?_))
  refine k1 (k10 (k11 ?_))
  exact B7 (H6 rfl rfl rfl) (by rw [j4,if_neg (by omega),if_pos (by omega)])
 ·have h:=A1 (or_pick.symm.trans ht)
  refine k5 (k1 (k2 (k2 ?_)))
  refine A4 (A3 (A5 Z Z) Z (A3 (F0 Z Z) Z (A7 ?_)))
  refine k1 ?_
  refine B6 rfl (fun ht=>?_) (fun ht=>?_)
  ·have h2:=A0 ht
   refine k2 ?_
   refine A4 (A3 (A8 Z) Z (A3 (A9 Z Z Z) Z (A3 (I7 Z) Z (A3 (A6 Z Z) Z (A7 ?_)))))
   refine k1 (k10 (k11 ?_))
   exact B7 (H6 rfl rfl rfl) (by rw [j4,if_pos (by omega)])
  ·have h2:=A1 ht
   refine k5 (k1 (k2 ?_))
   refine E1 (by kernel_rfl) (by kernel_rfl) (B0 (A8 Z) Z Z (B0 (A9 Z Z Z) Z Z (B0 (A8 Z) Z Z (B0 (A9 Z Z Z) Z Z (B0 (A5 Z Z) Z Z (B0 (D48 Z Z (by omega)) Z Z (B0 (A75 Z Z Z (fun _=>rfl)) Z Z (B0 (Q0 Z Z) Z Z (B0 (n_eql_b Z Z TyBool.out) Z Z (B0 (A6 Z Z) Z Z (L4 ?_)))))))))))
   refine k1 (k10 ?_)
   refine B7 (H6 Z Z Z) ?_
   have h3:0≤r.Marks / 2 ^ c.toNat:=Int.ediv_nonneg hr.1 (Int.pow_nonneg (by decide))
   have h4:r.Marks / 2 ^ c.toNat≤r.Marks:=Int.ediv_le_self _ hr.1
   rw [j4,if_neg (by omega),if_neg (by omega),shr32 r.Marks c (by omega),J48 _ (by omega),Bool.beq_comm]
   rfl
theorem E41 (r:Row) (n:Int) (hn:1≤n∧n≤32) (hr:0≤r.Marks∧r.Marks < 4294967296):FnOk Tryz.prog 155 [pRow r,G5 n] (fun rs=>rs=[O9 (V8 n.toNat r)]):=by
 refine FnOk.intro Tryz.func155 (by decide) Z Z Z Z ?_
 refine k2 ?_
 refine A4 (C5 (Q1 2 Z Z Z) Z (A3 (A6 Z Z) Z (A7 ?_)))
 refine k1 (k2 ?_)
 refine A4 (A3 (A8 Z) Z (A3 (A9 Z Z Z) Z (A3 (D48 Z Z (by omega)) Z (A3 (A5 Z Z) Z (A3 (N5 Z Z (by omega)) Z (A3 (D48 Z Z (by omega)) Z (A3 (Q0 Z Z) Z (A3 (A5 Z Z) Z (B1 Z Z Z Z (fun hg=>by rw [hg];exact A8 Z) ?_)))))))));refine B1 Z Z Z Z (fun hg=>by rw [hg];exact A9 Z Z Z) ?_;refine B1 Z Z Z Z (fun hg=>by rw [hg];exact I7 Z) ?_;refine B1 Z Z Z Z (fun hg=>by rw [hg];exact A5 Z Z) ?_;refine J2 Z Z Z (.gd (.val _)) Z (fun hg=>by obtain ⟨hg1,hg2⟩:=R6 hg;(try rw [hg1]);(try rw [hg2]);exact A8 Z) ?_;refine J2 Z Z Z (.gd (.val _)) Z (fun hg=>by obtain ⟨hg1,hg2⟩:=R6 hg;(try rw [hg1]);(try rw [hg2]);exact A9 Z Z Z) ?_;refine J2 Z Z Z (.gd (.val _)) Z (fun hg=>by obtain ⟨hg1,hg2⟩:=R6 hg;(try rw [hg1]);(try rw [hg2]);exact K2 Z Z) ?_;refine B1 Z Z Z Z (fun hg=>by rw [hg];exact B5 Z (fun h=>by first | rfl | (rw [h];rfl)) (fun h=>by first | rfl | (rw [h];rfl))) ?_;refine A3 (B5 Z (fun h=>by first | rfl | (rw [h];rfl)) (fun h=>by first | rfl | (rw [h];rfl))) Z ?_;refine A3 (A6 Z Z) Z (A7 ?_)
 refine k1 (k10 ?_)
 refine B7 (H6 Z Z Z) ?_
 have h0:0≤r.Marks / 2 ^ n.toNat:=Int.ediv_nonneg hr.1 (Int.pow_nonneg (by decide))
 have e1:r.Marks.fdiv (2 ^ (min (1:Int).toNat IntKind.u32.bits))=r.Marks / 2:=by
  rw [shr32 r.Marks 1 (by omega)];rfl
 have e2:(r.Marks / 2).fdiv (2 ^ (min (n - 1).toNat IntKind.u32.bits))=r.Marks / 2 ^ n.toNat:=by
  rw [shr32 (r.Marks / 2) (n - 1) (by omega),Int.ediv_ediv_of_nonneg (by decide)]
  have:n.toNat=(n - 1).toNat+1:=by omega
  rw [this,Int.pow_succ,Int.mul_comm]
 have e3:(if decide ((r.Marks.fdiv (2 ^ (min (1:Int).toNat IntKind.u32.bits))).fdiv (2 ^ (min (n - 1).toNat IntKind.u32.bits))=0)=true then (if (!r.Lost)=true then true else decide (r.Marks≠0)) else false)=V8 n.toNat r:=by
  rw [e1,e2,V8]
  cases r.Lost<;>by_cases hz:r.Marks / 2 ^ n.toNat=0<;>by_cases hy:r.Marks=0<;>simp [hz,hy]
 rw [←e3]
theorem B16 (r:Row) (hs:r.Text.length≤1099511627776):FnOk Tryz.prog 157 [pRow r] (fun rs=>rs=[O9 (H7 r.Text)]):=by
 refine FnOk.intro Tryz.func157 (by decide) Z Z Z Z ?_
 refine k2 ?_
 refine A4 (C5 (Q1 1 Z Z Z) Z (A3 (A6 Z Z) Z (A7 ?_)))
 refine k1 (k2 ?_)
 refine A4 (A3 (A8 Z) Z (A3 (A9 Z Z Z) Z (A3 (C58 Z Z) Z (A3 (A5 Z Z) Z (B1 Z Z Z Z (fun hg=>by rw [hg];exact A8 Z) ?_)))));refine B1 Z Z Z Z (fun hg=>by rw [hg];exact A9 Z Z Z) ?_;refine B1 Z Z Z Z (fun hg=>by have hq:=hg;(try simp at hq);rw [hg];exact I0 (G71 r.Text hs) Z Z) ?_;refine B1 Z Z Z Z (fun hg=>by have hq:=hg;(try simp at hq);rw [hg];exact I0 (C75 (B21 r.Text) 10) Z Z) ?_;refine B1 Z Z Z Z (fun hg=>by rw [hg];exact I7 Z) ?_;refine A3 (B5 Z (fun h=>by first | rfl | (rw [h];rfl)) (fun h=>by first | rfl | (rw [h];rfl))) Z ?_;refine A3 (A6 Z Z) Z (A7 ?_)
 refine k1 (k10 ?_)
 refine B7 (H6 Z Z Z) ?_
 rw [←F71]
theorem G72 (l:List Str) (hf:l.flatten.length≤536870911) (hll:l.length≤536870911):FnOk Tryz.prog 68 [d6 l] (fun rs=>rs=[M9 (K3 l).1,G5 (K3 l).2]):=by
 refine FnOk.intro Tryz.func68 (by decide) Z Z Z Z ?_
 refine k2 ?_
 refine A4 (A3 (A6 Z Z) Z (A3 (A6 Z Z) Z (A7 ?_)))
 refine k1 (k2 ?_)
 refine A4 (A3 (A6 Z Z) Z (A7 ?_))
 refine k1 (k2 (k2 ?_))
 refine A4 (A3 (A5 Z Z) Z (A3 (E3 Z (.pure _ _ _ _)) Z (A3 (A5 Z Z) Z (A7 ?_))))
 refine k1 (k3 ?_)
 refine E2 (X:=Nat) (fun i=>([(0,C7 Str 1 K6 l),(4,C0 (l.take i).flatten.length),(8,C7 Str 1 K6 l),(9,C0 l.length),(10,C0 i)],[])) (fun i=>i≤l.length∧X2 l=X2 (l.drop i)) (fun i=>l.length - i) 0 ⟨Nat.zero_le _,by simp⟩ (J70 ⟨le1 rfl,le1 rfl,le1 rfl,le1 rfl,le1 rfl,trivial⟩ trivial) ?_
 rintro i ⟨hi,hp⟩
 dsimp only at hi hp ⊢
 have hfl:=l7 l i
 refine k2 ?_
 refine A4 (A3 (F0 Z Z) Z (A7 ?_))
 refine k1 (k2 ?_)
 refine B6 rfl (fun ht=>?_) (fun ht=>?_)
 ·have hlt:i < l.length:=by have:=A0 ht;omega
  have hv:l[i]?=some l[i]:=by simp [hlt]
  have hfl2:=l7 l (i+1)
  have hst:(l.take (i+1)).flatten.length=(l.take i).flatten.length+l[i].length:=by rw [u0 l i hlt,K05]
  have hbad:=H00 l[i] (l.drop (i+1))
  rw [K11 hlt,A67] at hp
  have hemp:(l.drop (i+1)).isEmpty=decide (l.length≤i+1):=by rw [Bool.eq_iff_iff];simp
  rw [hemp] at hbad
  unfold G24 at hbad
  refine k5 (k1 (k2 (k3 (k2 ?_))))
  refine A4 (A3 (A5 Z Z) Z (A3 (B4 Z (.pure _ _ _ _) Z (by omega) hv) Z (A3 (C8 Z Z) Z (A3 (A6 Z Z) Z (A3 (A6 Z Z) Z (A7 ?_))))))
  refine k1 (k2 ?_)
  refine A4 (A3 (A5 Z Z) Z (C9 (G12 l[i] 10) Z Z Z ?_));rintro _ rfl;refine A3 (A6 Z Z) Z (A7 ?_)
  refine k1 (k2 (k2 ?_))
  refine A4 (A3 (A5 Z Z) Z (A3 (B89 Z Z) Z (A3 (A5 Z Z) Z (B1 Z Z Z Z (fun hg=>by rw [hg];exact A5 Z Z) ?_))));refine B1 Z Z Z Z (fun hg=>by rw [hg];exact A88 Z Z) ?_;refine B1 Z Z Z Z (fun hg=>by rw [hg];exact A5 Z Z) ?_;refine J2 Z Z Z (.gd (.val _)) Z (fun hg=>by obtain ⟨hg1,hg2⟩:=R6 hg;(try rw [hg1]);(try rw [hg2]);exact A5 Z Z) ?_;refine J2 Z Z Z (.gd (.val _)) Z (fun hg=>by obtain ⟨hg1,hg2⟩:=R6 hg;(try rw [hg1]);(try rw [hg2]);exact A5 Z Z) ?_;refine J2 Z Z Z (.gd (.val _)) Z (fun hg=>by obtain ⟨hg1,hg2⟩:=R6 hg;(try rw [hg1]);(try rw [hg2]);exact N1 Z) ?_;refine J2 Z Z Z (.gd (.val _)) Z (fun hg=>by have hq:=hg;(try simp at hq);obtain ⟨hg1,hg2⟩:=R6 hg;(try rw [hg1]);(try rw [hg2]);exact N5 Z Z (by omega)) ?_;refine J2 Z Z Z (.gd (.val _)) Z (fun hg=>by obtain ⟨hg1,hg2⟩:=R6 hg;(try rw [hg1]);(try rw [hg2]);exact F0 Z Z) ?_;refine B1 Z Z Z Z (fun hg=>by rw [hg];exact B5 Z (fun h=>by first | rfl | (rw [h];rfl)) (fun h=>by first | rfl | (rw [h];rfl))) ?_;refine A3 (B5 Z (fun h=>by first | rfl | (rw [h];rfl)) (fun h=>by first | rfl | (rw [h];rfl))) Z ?_;refine A3 (A5 Z Z) Z (B1 Z Z Z Z (fun hg=>by rw [hg];exact A5 Z Z) ?_);refine B1 Z Z Z Z (fun hg=>by rw [hg];exact F0 Z Z) ?_;refine B1 Z Z Z Z (fun hg=>by rw [hg];exact A5 Z Z) ?_;refine J2 Z Z Z (.gd (.val _)) Z (fun hg=>by obtain ⟨hg1,hg2⟩:=R6 hg;(try rw [hg1]);(try rw [hg2]);exact A5 Z Z) ?_;refine J2 Z Z Z (.gd (.val _)) Z (fun hg=>by obtain ⟨hg1,hg2⟩:=R6 hg;(try rw [hg1]);(try rw [hg2]);exact A5 Z Z) ?_;refine J2 Z Z Z (.gd (.val _)) Z (fun hg=>by obtain ⟨hg1,hg2⟩:=R6 hg;(try rw [hg1]);(try rw [hg2]);exact E3 Z (.pure _ _ _ _)) ?_;refine J2 Z Z Z (.gd (.val _)) Z (fun hg=>by have hq:=hg;(try simp at hq);obtain ⟨hg1,hg2⟩:=R6 hg;(try rw [hg1]);(try rw [hg2]);exact N5 Z Z (by omega)) ?_;refine J2 Z Z Z (.gd (.val _)) Z (fun hg=>by obtain ⟨hg1,hg2⟩:=R6 hg;(try rw [hg1]);(try rw [hg2]);exact F0 Z Z) ?_;refine B1 Z Z Z Z (fun hg=>by rw [hg];exact B5 Z (fun h=>by first | rfl | (rw [h];rfl)) (fun h=>by first | rfl | (rw [h];rfl))) ?_;refine A3 (B5 Z (fun h=>by first | rfl | (rw [h];rfl)) (fun h=>by first | rfl | (rw [h];rfl))) Z ?_;refine A7 ?_
  refine k1 ?_
  refine B6 rfl (fun ht=>?_) (fun ht=>?_)
  ·simp only [L8,or_pick] at ht
   have h1:=A0 ht
   have h2:=hbad.1 (by
    rcases h1 with (h | h) | h
    ·exact .inl h
    ·exact .inr (.inl h)
    ·exact .inr (.inr ⟨h.1,by simp only [decide_eq_false_iff_not];omega⟩))
   rw [hemp,h2,Bool.false_and] at hp
   refine k2 ?_
   refine A4 (A3 (A6 Z Z) Z (A3 (A6 Z Z) Z (A7 ?_)))
   refine k1 (k10 (k11 (k12 (k11 (k11 (k12 (k11 ?_)))))))
   exact B7 (p9 rfl rfl rfl rfl rfl) (by rw [K3,if_pos hp])
  ·simp only [L8,or_pick] at ht
   have h1:=A1 ht
   have h2:(H7 l[i]&&(decide (l.length≤i+1)||ended l[i]))=true:=by
    cases h3:(H7 l[i]&&(decide (l.length≤i+1)||ended l[i]))
    ·have h4:=hbad.2 h3
     simp only [decide_eq_false_iff_not] at h4
     refine absurd ?_ h1
     rcases h4 with h | h | h
     ·exact .inl (.inl h)
     ·exact .inl (.inr h)
     ·exact .inr ⟨h.1,by omega⟩
    ·rfl
   rw [hemp,h2,Bool.true_and] at hp
   refine k5 (k1 ?_)
   refine A4 (A3 (A5 Z Z) Z (A3 (A5 Z Z) Z (A3 (N1 Z) Z (A3 (C6 Z Z (by omega)) Z (A3 (A6 Z Z) Z (A7 ?_))))))
   refine k4 (k1 ?_)
   refine A4 (A3 (C6 Z Z (by omega)) Z (A3 (A5 Z Z) Z (A7 ?_)))
   refine k1 ?_
   refine ⟨i+1,⟨by omega,hp⟩,by omega,?_⟩
   rw [hst]
   exact J70 ⟨le1 rfl,le1 rfl,le1 rfl,le1 rfl,le1 rfl,trivial⟩ trivial
 ·have hil:i=l.length:=by have:=A1 ht;omega
  rw [hil,K28] at hfl ⊢
  rw [hil,K15 (Nat.le_refl _)] at hp
  refine k6 (k2 (k2 ?_))
  refine A4 (A3 (A5 Z Z) Z (A3 (R5 Z Z) Z (A3 (A5 Z Z) Z (B1 Z Z Z Z (fun hg=>by rw [hg];exact A5 Z Z) ?_))));refine B1 Z Z Z Z (fun hg=>by rw [hg];exact E3 Z (.pure _ _ _ _)) ?_;refine B1 Z Z Z Z (fun hg=>by rw [hg];exact R5 Z Z) ?_;refine A3 (B5 Z (fun h=>by first | rfl | (rw [h];rfl)) (fun h=>by first | rfl | (rw [h];rfl))) Z ?_;refine A7 ?_
  refine k1 ?_
  refine B6 rfl (fun ht=>?_) (fun ht=>?_)
  ·have h1:=A0 (or_pick.symm.trans ht)
   refine k2 ?_
   refine A4 (A3 (A6 Z Z) Z (A3 (A6 Z Z) Z (A7 ?_)))
   refine k1 (k10 (k11 ?_))
   exact B7 (p9 rfl rfl rfl rfl rfl) (by rw [K3,if_neg (by rw [hp];simp [X2]),if_pos (by omega)])
  ·have h1:=A1 (or_pick.symm.trans ht)
   refine k5 (k1 (k2 ?_))
   refine A4 (A3 (A5 Z Z) Z (C9 (J30 l (by omega) (by omega)) Z Z Z ?_));rintro _ rfl;refine A3 (A6 Z Z) Z (A3 (A6 Z Z) Z (A7 ?_))
   refine k1 (k10 ?_)
   exact B7 (p9 rfl rfl rfl rfl rfl) (by rw [K3,if_neg (by rw [hp];simp [X2]),if_neg (by omega)])
theorem I27 (r:Row) (res:Bool) (par:Int) (hs:r.Text.length≤1099511627776) :
  FnIo Tryz.prog 158 [pRow r] [.v (.bool res),.v (.int .u32 par)] (fun rs cs=>rs=[O9 (C26 res par r)]∧cs=[.v (.bool (B70 res r)),.v (.int .u32 (B71 par r))]):=by
 refine FnIo.intro Tryz.func158 (by decide) Z Z Z Z ?_
 refine k2 ?_
 refine A4 (C5 (Q1 3 Z Z Z) Z (A3 (A6 Z Z) Z (A7 ?_)))
 refine k1 (k2 ?_)
 refine A4 (A3 (A8 Z) Z (A3 (A9 Z Z Z) Z (A3 (A6 Z Z) Z (A7 ?_))))
 refine L1 ?_
 refine A77 [(3,.s (.one (.ref 3 0))),(0,.s (.one (.ref self 0))),(5,J7 (.int .u32 (F35 r)))] [(3,.box (pRow r).s1.cells),(self,.box [.p (.v (.bool res)),.p (.v (.int .u32 par))])] ?_ ?_
 ·refine k2 ?_
  refine A4 (A3 (A8 Z) Z (A3 (A9 Z Z Z) Z (A3 (I7 Z) Z (A7 ?_))))
  refine k1 ?_
  refine B6 rfl (fun ht=>?_) (fun ht=>?_)
  ·have h:r.Lost=false:=by simpa using ht
   skip
   refine A4 (A3 (A5 Z Z) Z (A3 (n_compl Z Z (fun _=>rfl)) Z (A3 (A6 Z Z) Z (A7 ?_))))
   refine k1 ?_
   rw [F35,if_neg (by rw [h];simp)]
   exact J70 ⟨le1 rfl,le1 rfl,le1 rfl,trivial⟩ ⟨rfl,rfl,trivial⟩
  ·have h:r.Lost=true:=by simpa using ht
   refine k5 (k1 ?_)
   rw [F35,if_pos h]
   exact J70 ⟨le1 rfl,le1 rfl,le1 rfl,trivial⟩ ⟨rfl,rfl,trivial⟩
 refine k2 ?_
 refine A4 (A3 (A5 Z Z) Z (A3 (B9 Z) Z (A3 (A8 Z) Z (A3 (A9 Z Z Z) Z (A3 (A5 Z Z) Z (A3 (A75 Z Z Z (fun _=>rfl)) Z (A3 (Q0 Z Z) Z (A3 (A5 Z Z) Z (B1 Z Z Z Z (fun hg=>by rw [hg];exact A8 Z) ?_)))))))));refine B1 Z Z Z Z (fun hg=>by rw [hg];exact A9 Z Z Z) ?_;refine B1 Z Z Z Z (fun hg=>by rw [hg];exact A5 Z Z) ?_;refine J2 Z Z Z (.gd (.val _)) Z (fun hg=>by obtain ⟨hg1,hg2⟩:=R6 hg;(try rw [hg1]);(try rw [hg2]);exact A5 Z Z) ?_;refine J2 Z Z Z (.gd (.val _)) Z (fun hg=>by obtain ⟨hg1,hg2⟩:=R6 hg;(try rw [hg1]);(try rw [hg2]);exact B9 Z) ?_;refine J2 Z Z Z (.gd (.val _)) Z (fun hg=>by obtain ⟨hg1,hg2⟩:=R6 hg;(try rw [hg1]);(try rw [hg2]);exact A8 Z) ?_;refine J2 Z Z Z (.gd (.val _)) Z (fun hg=>by obtain ⟨hg1,hg2⟩:=R6 hg;(try rw [hg1]);(try rw [hg2]);exact A9 Z Z Z) ?_;refine J2 Z Z Z (.gd (.val _)) Z (fun hg=>by obtain ⟨hg1,hg2⟩:=R6 hg;(try rw [hg1]);(try rw [hg2]);exact I7 Z) ?_;refine B1 Z Z Z Z (fun hg=>by rw [hg];exact B5 Z (fun h=>by first | rfl | (rw [h];rfl)) (fun h=>by first | rfl | (rw [h];rfl))) ?_;refine A3 (B5 Z (fun h=>by first | rfl | (rw [h];rfl)) (fun h=>by first | rfl | (rw [h];rfl))) Z ?_;refine A3 (A6 Z Z) Z (A7 ?_)
 refine k1 (k2 (k2 ?_))
 refine A4 (A3 (A8 Z) Z (A3 (A9 Z Z Z) Z (C9 (A36 r.Text hs) Z Z Z ?_)));rintro _ rfl;refine A3 (I7 Z) Z (A7 ?_)
 have hok:(if decide (H02 par (F35 r)=0)=true then (if r.Lost=true then true else !res) else false)=C26 res par r:=by
  rw [C26]
  cases r.Lost<;>cases res<;>by_cases h:H02 par (F35 r)=0<;>simp [h]
 refine k1 ?_
 refine B6 rfl (fun ht=>?_) (fun ht=>?_)
 ·have h:ended r.Text=false:=by simpa using ht
  refine k2 ?_
  refine A4 (A3 (A5 Z Z) Z (A3 (B9 Z) Z (A3 (A8 Z) Z (A3 (A9 Z Z Z) Z (A3 (A5 Z Z) Z (A3 (A75 Z Z Z (fun _=>rfl)) Z (A3 (B9 Z) Z (A3 (A8 Z) Z (E7 (B2 TySz.out Z Z Z Z Z Z) (A7 ?_))))))))))
  refine k1 ?_
  refine A4 (A3 (A5 Z Z) Z (A3 (A5 Z Z) Z (A3 (B9 Z) Z (A3 (A8 Z) Z (A3 (A9 Z Z Z) Z (A3 (A5 Z Z) Z (B1 Z Z Z Z (fun hg=>by rw [hg];exact A8 Z) ?_)))))));refine B1 Z Z Z Z (fun hg=>by rw [hg];exact A9 Z Z Z) ?_;refine B1 Z Z Z Z (fun hg=>by rw [hg];exact I7 Z) ?_;refine A3 (B5 Z (fun h=>by first | rfl | (rw [h];rfl)) (fun h=>by first | rfl | (rw [h];rfl))) Z ?_;refine A3 (B9 Z) Z (A3 (A8 Z) Z (E7 (B2 TySz.out Z Z Z Z Z Z) (A7 ?_)))
  refine k1 (k2 ?_)
  refine A4 (A3 (A5 Z Z) Z (A3 (A6 Z Z) Z (A7 ?_)))
  refine k1 (k10 ?_)
  refine io_ret (H6 rfl rfl rfl) rfl rfl ⟨by rw [←hok];rfl,?_⟩
  have ea:B70 res r=(res||!r.Lost):=by rw [B70,h];rfl
  have ep:B71 par r=M6 par (F35 r):=by rw [B71,h];rfl
  rw [ea,ep]
  cases res<;>rfl
 ·have h:ended r.Text=true:=by simpa using ht
  refine k5 (k1 (k2 ?_))
  refine A4 (A3 (A5 Z Z) Z (A3 (A6 Z Z) Z (A7 ?_)))
  refine k1 (k10 ?_)
  exact io_ret (H6 rfl rfl rfl) rfl rfl ⟨by rw [←hok];rfl,by rw [B70,B71,if_pos h,if_pos h]⟩
theorem F61 (t:Table) (hr:K1 t.Rows) (hl:t.Rows.length≤536870911) (hx:P4 t.Rows≤536870912):FnOk Tryz.prog 116 [pTable t] (fun rs=>rs=[G5 (L5 t)]):=by
 refine FnOk.intro Tryz.func116 (by decide) Z Z Z Z ?_
 refine k2 ?_
 refine A4 (C5 (Q1 1 Z Z Z) Z (A3 (A6 Z Z) Z (A7 ?_)))
 refine k1 (k2 (k2 ?_))
 refine A4 (A3 (A8 Z) Z (A3 (A9 Z Z Z) Z (A3 (F0 Z Z) Z (A3 (A5 Z Z) Z (B1 Z Z Z Z (fun hg=>by rw [hg];exact A8 Z) ?_)))));refine B1 Z Z Z Z (fun hg=>by rw [hg];exact A9 Z Z Z) ?_;refine B1 Z Z Z Z (fun hg=>by rw [hg];exact R5 Z Z) ?_;refine A3 (B5 Z (fun h=>by first | rfl | (rw [h];rfl)) (fun h=>by first | rfl | (rw [h];rfl))) Z ?_;refine A7 ?_
 refine k1 ?_
 refine B6 rfl (fun ht=>?_) (fun ht=>?_)
 ·have h:=A0 (or_pick.symm.trans ht)
  refine k2 ?_
  refine A4 (A3 (A6 Z Z) Z (A7 ?_))
  refine k1 (k10 (k11 ?_))
  exact B7 (H6 rfl rfl rfl) (by rw [L5,if_pos h])
 ·have h:=A1 (or_pick.symm.trans ht)
  refine M7 [(1,.s (.one (.ref 1 0)))] [(1,.box [.p (.v (.int .i64 t.Parents)),.p (.list Row 3 rowC t.Rows)])] (J70 ⟨le1 rfl,trivial⟩ ⟨rfl,trivial⟩) ?_
  refine k5 (k1 (k2 (k2 ?_)))
  refine A4 (A3 (A8 Z) Z (A3 (A9 Z Z Z) Z (A3 (E3 Z (.pure _ _ _ _)) Z (A3 (A5 Z Z) Z (A7 ?_)))))
  refine k1 (k3 ?_)
  refine E2 (X:=Nat) (fun i=>([(1,.s (.one (.ref 1 0))),(17,C7 Row 3 rowC t.Rows),(18,C0 t.Rows.length),(19,C0 i)],[(1,.box [.p (.v (.int .i64 t.Parents)),.p (.list Row 3 rowC t.Rows)])])) (fun i=>i≤t.Rows.length∧Q5 t.Rows t.Parents.toNat=Q5 (t.Rows.drop i) t.Parents.toNat) (fun i=>t.Rows.length - i) 0 ⟨Nat.zero_le _,rfl⟩ (J70 ⟨le1 rfl,le1 rfl,le1 rfl,le1 rfl,trivial⟩ ⟨rfl,trivial⟩) ?_
  rintro i ⟨hi,hp⟩
  dsimp only at hi hp ⊢
  refine k2 ?_
  refine A4 (A3 (F0 Z Z) Z (A7 ?_))
  refine k1 (k2 ?_)
  refine B6 rfl (fun ht=>?_) (fun ht=>?_)
  ·have hlt:i < t.Rows.length:=by have:=A0 ht;omega
   have hv:t.Rows[i]?=some t.Rows[i]:=by simp [hlt]
   rw [K11 hlt,C84] at hp
   refine k5 (k1 (k2 (k3 (k2 ?_))))
   refine A4 (A3 (B4 Z (.pure _ _ _ _) Z (by omega) hv) Z (A3 (D6 Z Z) Z (C5 (E8 4 Z) Z (E7 (B2 TySz.out Z Z Z Z Z Z) (A7 ?_)))))
   refine k1 (k2 ?_)
   refine A4 (A3 (D1 Z Z Z) Z (A3 (A8 Z) Z (A3 (A9 Z Z Z) Z (C9 (E41 t.Rows[i] t.Parents (by omega) (hr _ (K17 hlt))) Z Z Z ?_))));rintro _ rfl;refine A3 (I7 Z) Z (A7 ?_)
   refine k1 ?_
   refine B6 rfl (fun ht=>?_) (fun ht=>?_)
   ·have h2:V8 t.Parents.toNat t.Rows[i]=false:=by simpa using ht
    rw [h2,Bool.false_and] at hp
    refine k2 ?_
    refine A4 (A3 (A6 Z Z) Z (A7 ?_))
    refine k1 (k10 (k12 (k11 (k11 (k12 (k11 ?_))))))
    exact B7 (H6 rfl rfl rfl) (by rw [L5,if_neg h,if_pos hp])
   ·have h2:V8 t.Parents.toNat t.Rows[i]=true:=by simpa using ht
    rw [h2,Bool.true_and] at hp
    refine k5 (k4 (k1 ?_))
    refine A4 (A3 (C6 Z Z (by omega)) Z (A3 (A5 Z Z) Z (A7 ?_)))
    refine k1 ?_
    exact ⟨i+1,⟨by omega,hp⟩,by omega,J70 ⟨le1 rfl,le1 rfl,le1 rfl,le1 rfl,trivial⟩ ⟨rfl,trivial⟩⟩
  ·have hil:i=t.Rows.length:=by have:=A1 ht;omega
   rw [hil,K15 (Nat.le_refl _)] at hp
   have hm:Q5 t.Rows t.Parents.toNat=true:=hp
   refine M7 [(1,.s (.one (.ref 1 0)))] [(1,.box [.p (.v (.int .i64 t.Parents)),.p (.list Row 3 rowC t.Rows)])] (J70 ⟨le1 rfl,trivial⟩ ⟨rfl,trivial⟩) ?_
   clear hil ht hp hi
   have hat:=E63 t.Rows t.Parents.toNat (by omega) hm hr
   refine k6 (k2 ?_)
   refine A4 (C5 (E8 5 Z) Z (A7 ?_))
   refine k1 (k2 (k2 ?_))
   refine A4 (A3 (A8 Z) Z (A3 (A9 Z Z Z) Z (A3 (E3 Z (.pure _ _ _ _)) Z (A3 (A5 Z Z) Z (A7 ?_)))))
   refine k1 (k3 ?_)
   refine E2 (X:=Nat × Bool × Int) (fun x=>([(1,.s (.one (.ref 1 0))),(5,.s (.one (.ref 5 0))),(30,C7 Row 3 rowC t.Rows),(31,C0 t.Rows.length),(32,C0 x.1)],[(1,.box [.p (.v (.int .i64 t.Parents)),.p (.list Row 3 rowC t.Rows)]),(5,.box [.p (.v (.bool x.2.1)),.p (.v (.int .u32 x.2.2))])])) (fun x=>x.1≤t.Rows.length∧Q6 false 0 t.Rows=Q6 x.2.1 x.2.2 (t.Rows.drop x.1)) (fun x=>t.Rows.length - x.1) (0,false,0) ⟨Nat.zero_le _,rfl⟩ (J70 ⟨le1 rfl,le1 rfl,le1 rfl,le1 rfl,le1 rfl,trivial⟩ ⟨rfl,rfl,trivial⟩) ?_
   rintro ⟨i,res,par⟩ ⟨hi,hp⟩
   dsimp only at hi hp ⊢
   refine k2 ?_
   refine A4 (A3 (F0 Z Z) Z (A7 ?_))
   refine k1 (k2 ?_)
   refine B6 rfl (fun ht=>?_) (fun ht=>?_)
   ·have hlt:i < t.Rows.length:=by have:=A0 ht;omega
    have hv:t.Rows[i]?=some t.Rows[i]:=by simp [hlt]
    have htl:=G98 t.Rows _ (K17 hlt)
    rw [K11 hlt,Q6] at hp
    refine k5 (k1 (k2 (k3 (k2 ?_))))
    refine A4 (A3 (B4 Z (.pure _ _ _ _) Z (by omega) hv) Z (A3 (D6 Z Z) Z (C5 (E8 7 Z) Z (E7 (B2 TySz.out Z Z Z Z Z Z) (A7 ?_)))))
    refine k1 (k2 ?_)
    by_cases hs:H7 t.Rows[i].Text=true
    ·refine A4 (A3 (D1 Z Z Z) Z (C9 (B16 t.Rows[i] (by omega)) Z Z Z ?_));rintro _ rfl;refine A3 (I7 Z) Z (A3 (A5 Z Z) Z (H3 Z Z Z (by rw [hs];rfl) ?_));refine A3 (D1 Z Z Z) Z (H3 Z Z Z (by rw [hs];rfl) ?_);refine G55 (I27 t.Rows[i] res par (by omega)) Z Z Z Z Z Z ?_;rintro _ _ ⟨rfl,rfl⟩;refine B1 Z Z Z Z (fun hg=>by rw [hg];exact I7 Z) ?_;refine A3 (B5 Z (fun h=>by first | rfl | (rw [h];rfl)) (fun h=>by first | rfl | (rw [h];rfl))) Z ?_;refine A7 ?_
     refine k1 ?_
     refine B6 rfl (fun ht=>?_) (fun ht=>?_)
     ·have h2:C26 res par t.Rows[i]=false:=by rw [hs] at ht;simpa using ht
      rw [hs,h2,Bool.true_and,Bool.false_and] at hp
      refine k2 ?_
      refine A4 (A3 (A6 Z Z) Z (A7 ?_))
      refine k1 (k10 (k12 (k11 (k11 (k12 (k11 ?_))))))
      exact B7 (H6 rfl rfl rfl) (by rw [L5,if_neg h,if_neg (by simp [hm]),if_pos (by rw [←hat];exact hp)])
     ·have h2:C26 res par t.Rows[i]=true:=by rw [hs] at ht;simpa using ht
      rw [hs,h2,Bool.true_and,Bool.true_and] at hp
      refine k5 (k4 (k1 ?_))
      refine A4 (A3 (C6 Z Z (by omega)) Z (A3 (A5 Z Z) Z (A7 ?_)))
      refine k1 ?_
      exact ⟨(i+1,_,_),⟨by dsimp only;omega,hp⟩,by dsimp only;omega,J70 ⟨le1 rfl,le1 rfl,le1 rfl,le1 rfl,le1 rfl,trivial⟩ ⟨rfl,rfl,trivial⟩⟩
    ·have hs':H7 t.Rows[i].Text=false:=by simpa using hs
     refine A4 (A3 (D1 Z Z Z) Z (C9 (B16 t.Rows[i] (by omega)) Z Z Z ?_));rintro _ rfl;refine A3 (I7 Z) Z (A3 (A5 Z Z) Z (B1 Z Z Z Z (fun hg=>by rw [hg];exact D1 Z Z Z) ?_));refine J5 Z Z Z (by rw [hs'];decide) Z ?_;refine J5 Z Z Z (by rw [hs'];decide) Z ?_;refine A3 (B5 (q:=true) Z (fun h=>rfl) (fun h=>by rw [hs'] at h;cases h)) Z ?_;refine A7 ?_
     rw [hs',Bool.false_and,Bool.false_and] at hp
     refine k1 ?_
     refine B6 rfl (fun ht=>?_) (fun ht=>?_)
     ·refine k2 ?_
      refine A4 (A3 (A6 Z Z) Z (A7 ?_))
      refine k1 (k10 (k12 (k11 (k11 (k12 (k11 ?_))))))
      exact B7 (H6 rfl rfl rfl) (by rw [L5,if_neg h,if_neg (by simp [hm]),if_pos (by rw [←hat];exact hp)])
     ·rw [hs'] at ht;cases ht
   ·have hil:i=t.Rows.length:=by have:=A1 ht;omega
    rw [hil,K15 (Nat.le_refl _)] at hp
    have hp':Q6 false 0 t.Rows=true:=hp
    refine k6 (k2 ?_)
    refine A4 (A3 (A6 Z Z) Z (A7 ?_))
    refine k1 (k10 ?_)
    exact B7 (H6 rfl rfl rfl) (by rw [L5,if_neg h,if_neg (by simp [hm]),if_neg (by rw [←hat,hp'];simp)])
theorem C43 (t:Table) (c:Int) (hr:K1 t.Rows) (hl:t.Rows.length≤536870911) (hx:P4 t.Rows≤536870911):FnOk Tryz.prog 114 [pTable t,G5 c] (fun rs=>rs=[M9 (K3 (G8 t.Rows c)).1,G5 (K3 (G8 t.Rows c)).2]):=by
 refine FnOk.intro Tryz.func114 (by decide) Z Z Z Z ?_
 refine k2 ?_
 refine A4 (C5 (Q1 2 Z Z Z) Z (A3 (A6 Z Z) Z (A3 (A6 Z Z) Z (A7 ?_))))
 refine k1 (k2 ?_)
 refine A4 (C5 (A02 6 _ K6 Z) Z (A7 ?_))
 refine k1 (k2 (k2 ?_))
 refine A4 (A3 (A8 Z) Z (A3 (A9 Z Z Z) Z (A3 (E3 Z (.pure _ _ _ _)) Z (A3 (A5 Z Z) Z (A7 ?_)))))
 refine k1 (k3 ?_)
 refine E2 (X:=Nat) (fun i=>([(1,C0 c),(2,.s (.one (.ref 2 0))),(6,.s (.one (.buf 6 Str 1 K6 (G8 (t.Rows.take i) c)))),(10,C7 Row 3 rowC t.Rows),(11,C0 t.Rows.length),(12,C0 i)],[(6,.spare (G8 (t.Rows.take i) c).length 1 9)])) (fun i=>i≤t.Rows.length) (fun i=>t.Rows.length - i) 0 (Nat.zero_le _) (J70 ⟨le1 rfl,le1 rfl,le1 rfl,le1 rfl,le1 rfl,le1 rfl,trivial⟩ ⟨rfl,trivial⟩) ?_
 intro i hi
 dsimp only at hi ⊢
 have hcl:=C05 (t.Rows.take i) c
 rw [K22] at hcl
 refine k2 ?_
 refine A4 (A3 (F0 Z Z) Z (A7 ?_))
 refine k1 (k2 ?_)
 refine B6 rfl (fun ht=>?_) (fun ht=>?_)
 ·have hlt:i < t.Rows.length:=by have:=A0 ht;omega
  have hv:t.Rows[i]?=some t.Rows[i]:=by simp [hlt]
  have hst:G8 (t.Rows.take (i+1)) c=G8 (t.Rows.take i) c++(if j4 t.Rows[i] c then [t.Rows[i].Text] else []):=by
   unfold G8
   rw [K14 hlt,K50,K19]
   cases hv:j4 t.Rows[i] c<;>simp [hv]
  refine k5 (k1 (k2 (k3 (k2 ?_))))
  refine A4 (A3 (B4 Z (.pure _ _ _ _) Z (by omega) hv) Z (A3 (D6 Z Z) Z (C5 (E8 8 Z) Z (E7 (B2 TySz.out Z Z Z Z Z Z) (A7 ?_)))))
  refine k1 (k2 ?_)
  refine A4 (A3 (D1 Z Z Z) Z (A3 (A5 Z Z) Z (C9 (D54 t.Rows[i] c (hr _ (K17 hlt))) Z Z Z ?_)));rintro _ rfl;refine A7 ?_
  refine k1 ?_
  refine B6 rfl (fun ht=>?_) (fun ht=>?_)
  ·rw [ht,if_pos rfl] at hst
   skip
   refine A4 (A3 (A5 Z Z) Z (A3 (A8 Z) Z (A3 (A9 Z Z Z) Z (A3 (E6 (c:=K6) (ys:=[_]) (F3 Z Z Z Z I6) Z Z Z) Z (C5 (I9 Z Z Z (.pure _ _ _ _) (by (simp only [K07,K10];omega)) Z) Z (A3 (A6 Z Z) Z (A7 ?_)))))))
   refine k4 (k1 ?_)
   refine A4 (A3 (C6 Z Z (by omega)) Z (A3 (A5 Z Z) Z (A7 ?_)))
   refine k1 ?_
   refine ⟨i+1,by omega,by omega,?_⟩
   rw [hst]
   exact J70 ⟨le1 rfl,le1 rfl,le1 rfl,le1 rfl,le1 rfl,le1 rfl,trivial⟩ ⟨rfl,trivial⟩
  ·rw [ht,if_neg (by simp),K27] at hst
   refine k5 (k4 (k1 ?_))
   refine A4 (A3 (C6 Z Z (by omega)) Z (A3 (A5 Z Z) Z (A7 ?_)))
   refine k1 ?_
   refine ⟨i+1,by omega,by omega,?_⟩
   rw [hst]
   exact J70 ⟨le1 rfl,le1 rfl,le1 rfl,le1 rfl,le1 rfl,le1 rfl,trivial⟩ ⟨rfl,trivial⟩
 ·have hil:i=t.Rows.length:=by have:=A1 ht;omega
  rw [hil,K28] at hcl ⊢
  have hfl:=H87 t.Rows c
  refine k6 (k2 ?_)
  refine A4 (A3 (A5 Z Z) Z (C9 (G72 (G8 t.Rows c) (by omega) (by omega)) Z Z Z ?_));rintro _ rfl;refine A3 (C1 Z Z) Z (A3 (C1 Z Z) Z (A3 (A6 Z Z) Z (A3 (A6 Z Z) Z (A7 ?_))))
  refine k1 (k10 ?_)
  exact B7 (p9 rfl rfl rfl rfl rfl) rfl
theorem E42 (t:Table) (c:Int) (hr:K1 t.Rows) (hl:t.Rows.length≤536870911) (hx:P4 t.Rows≤536870911):FnOk Tryz.prog 60 [pTable t,G5 c] (fun rs=>rs=[M9 (R8 t c).1,G5 (R8 t c).2]):=by
 refine FnOk.intro Tryz.func60 (by decide) Z Z Z Z ?_
 refine k2 ?_
 refine A4 (C5 (Q1 2 Z Z Z) Z (A3 (A6 Z Z) Z (A3 (A6 Z Z) Z (A7 ?_))))
 refine k1 (k2 (k2 ?_))
 refine A4 (A3 (D1 Z Z Z) Z (C9 (F61 t hr hl (by omega)) Z Z Z ?_));rintro _ rfl;refine A3 (A6 Z Z) Z (A7 ?_)
 refine k1 (k2 ?_)
 refine A4 (A3 (A5 Z Z) Z (A3 (K2 Z Z) Z (A7 ?_)))
 refine k1 ?_
 refine B6 rfl (fun ht=>?_) (fun ht=>?_)
 ·have h:=A0 ht
  refine k2 ?_
  refine A4 (A3 (A5 Z Z) Z (A3 (A6 Z Z) Z (A3 (A6 Z Z) Z (A7 ?_))))
  refine k1 (k10 (k11 ?_))
  exact B7 (p9 rfl rfl rfl rfl rfl) (by rw [R8,if_pos h])
 ·have h:=A1 ht
  refine k5 (k1 (k2 (k2 ?_)))
  refine A4 (A3 (A5 Z Z) Z (A3 (F0 Z Z) Z (A3 (A5 Z Z) Z (B1 Z Z Z Z (fun hg=>by rw [hg];exact A5 Z Z) ?_))));refine B1 Z Z Z Z (fun hg=>by rw [hg];exact A8 Z) ?_;refine B1 Z Z Z Z (fun hg=>by rw [hg];exact A9 Z Z Z) ?_;refine B1 Z Z Z Z (fun hg=>by rw [hg];exact A88 Z Z) ?_;refine A3 (B5 Z (fun h=>by first | rfl | (rw [h];rfl)) (fun h=>by first | rfl | (rw [h];rfl))) Z ?_;refine A7 ?_
  refine k1 ?_
  refine B6 rfl (fun ht=>?_) (fun ht=>?_)
  ·have h2:=A0 (or_pick.symm.trans ht)
   refine k2 ?_
   refine A4 (A3 (A6 Z Z) Z (A3 (A6 Z Z) Z (A7 ?_)))
   refine k1 (k10 (k11 ?_))
   exact B7 (p9 rfl rfl rfl rfl rfl) (by rw [R8,if_neg h,if_pos h2])
  ·have h2:=A1 (or_pick.symm.trans ht)
   refine k5 (k1 (k2 ?_))
   refine A4 (A3 (D1 Z Z Z) Z (A3 (A5 Z Z) Z (C9 (C43 t c hr hl hx) Z Z Z ?_)));rintro _ rfl;refine A3 (C1 Z Z) Z (A3 (C1 Z Z) Z (A3 (A6 Z Z) Z (A3 (A6 Z Z) Z (A7 ?_))))
   refine k1 (k10 ?_)
   exact B7 (p9 rfl rfl rfl rfl rfl) (by rw [R8,if_neg h,if_neg h2])
def isBld (ob:Obs) (xs:Str):Prop:=(∃a,(a=.p (.v (.pointer none))∨a=.ref 700 0)∧C3 ob 700=some (.tbx 124 [a,.buf 701 UInt8 1 u8C xs]))∧C3 ob 701=some (.spare xs.length 1 5)
abbrev bldObs (ob:Obs) (ys xs:Str):Obs:=(700,.tbx 124 [.ref 700 0,.buf 701 UInt8 1 u8C xs])::(701,.spare xs.length 1 5)::Obs.forget 701 ((700,.tbx 124 [.ref 700 0,.buf 701 UInt8 1 u8C ys])::ob)
def I28:Go.Shelf.Ren:=⟨fun | 240=>147 | 276=>204 | n=>n,fun | 72=>124 | 70=>122 | 164=>240 | 37=>115 | n=>n,fun n=>n⟩
theorem ccLays:Go.Proofs.Lays.n240 Tryz.prog I28:={
 mixed:=by kernel_rfl
 f240:=Tryz.func147.trans (congrArg some (by kernel_rfl))
 f276:=Tryz.func204.trans (congrArg some (by kernel_rfl))
 t0:=Tryz.underlying0
 a0:=Tryz.isAgg0
 z0:=Tryz.sizeOf0
 v0:=Tryz.zeroValue0
 t4:=Tryz.underlying4
 a4:=Tryz.isAgg4
 z4:=Tryz.sizeOf4
 v4:=Tryz.zeroValue4
 t9:=Tryz.underlying9
 a9:=Tryz.isAgg9
 z9:=Tryz.sizeOf9
 v9:=Tryz.zeroValue9
 t20:=Tryz.underlying20
 a20:=Tryz.isAgg20
 z20:=Tryz.sizeOf20
 v20:=Tryz.zeroValue20
 t70:=Tryz.underlying122
 a70:=Tryz.isAgg122
 z70:=Tryz.sizeOf122
 v70:=Tryz.zeroValue122
 t72:=Tryz.underlying124
 a72:=Tryz.isAgg124
 z72:=Tryz.sizeOf124
 v72:=Tryz.zeroValue124
 t164:=Tryz.underlying240
 a164:=Tryz.isAgg240
 z164:=Tryz.sizeOf240
 v164:=Tryz.zeroValue240 }
theorem ccX:Builder.X72 Tryz.prog I28:={
 sizeBuilder:=by kernel_rfl
 liesBuilder:=by kernel_rfl }
theorem C23 {gf:Fr} {ob:Obs} {a t:TC} (hk:C3 ob 700=some (.tbx 124 [a,t])) (ha:a=.p (.v (.pointer none))∨a=.ref 700 0) :
  AL.Met Tryz.prog 147 [.one (.ref 700 0)] gf ob [] (fun rs ob'=>rs=[]∧ob'=(700,.tbx 124 [.ref 700 0,t])::ob) :=
 AL.Met.copyCheck ⟨_,rfl,rfl,rfl⟩ (fun b w h1 h2 h3=>Any.Builder_copyCheck_fresh (ρ:=I28) ccLays ccX b w h1 h2 h3) (fun b w h=>Any.Builder_copyCheck_used (ρ:=I28) ccLays ccX b w h) hk ha
theorem O4 {gf:Fr} {ob:Obs} {xs s:Str} (hb:isBld ob xs) (hlen:xs.length+s.length≤1073741824) :
  AL.Met Tryz.prog 85 [.one (.ref 700 0),.one (.p (.v (.string ⟨s.toArray⟩)))] gf ob [701] (fun rs ob'=>rs=[.one (.p (.v (.int .i64 s.length))),.one (.p (.v .nilIface))]∧ob'=bldObs ob xs (xs++s)):=by
 obtain ⟨⟨a,ha,hk⟩,hk1⟩:=hb
 refine AL.Met.intro Tryz.func85 (by decide) Z Z Z ?_
 refine k2 ?_
 refine A4 (A3 (A6 Z Z) Z (A3 (A6 Z Z) Z (A7 ?_)))
 refine k1 (k2 ?_)
 refine A4 (A3 (A5 Z Z) Z (X9 (C23 hk ha) Z Z Z ?_));rintro _ _ ⟨rfl,rfl⟩;refine A7 ?_
 refine k1 (k2 ?_)
 refine A4 (A3 (A5 Z Z) Z (A3 (A5 Z Z) Z (A3 (B9 Z) Z (A3 (A8 Z) Z (A3 (D50 Z Z Z) Z (A3 (A5 Z Z) Z (C5 (H48 TyStr.out Z hk1 Z (by first | omega | (simp;omega)) Z) Z (A3 (B9 Z) Z (A3 (A8 Z) Z (E7 (C66 TySz.out Z Z Z Z Z Z) (A7 ?_)))))))))))
 refine k1 (k2 ?_)
 refine A4 (A3 (A5 Z Z) Z (A3 (N1 Z) Z (A3 (A6 Z Z) Z (A3 (A6 Z Z) Z (A7 ?_)))))
 refine k1 (k10 ?_)
 exact K8 (rets2 rfl rfl rfl) (by repeat (first | exact D5 | refine D4 rfl ?_ | refine F4 _ ?_)) (fun _ _ h=>h) ⟨rfl,rfl⟩
theorem A80 {gf:Fr} {ob:Obs} {xs:Str} {c:UInt8} (hb:isBld ob xs) (hlen:xs.length+1≤1073741824) :
  AL.Met Tryz.prog 136 [.one (.ref 700 0),.one (.p (.v (.int .u8 c.toNat)))] gf ob [701] (fun rs ob'=>rs=[.one (.p (.v .nilIface))]∧ob'=bldObs ob xs (xs++[c])):=by
 obtain ⟨⟨a,ha,hk⟩,hk1⟩:=hb
 refine AL.Met.intro Tryz.func136 (by decide) Z Z Z ?_
 refine k2 ?_
 refine A4 (A3 (A6 Z Z) Z (A7 ?_))
 refine k1 (k2 ?_)
 refine A4 (A3 (A5 Z Z) Z (X9 (C23 hk ha) Z Z Z ?_));rintro _ _ ⟨rfl,rfl⟩;refine A7 ?_
 refine k1 (k2 ?_)
 refine A4 (A3 (A5 Z Z) Z (A3 (A5 Z Z) Z (A3 (B9 Z) Z (A3 (A8 Z) Z (A3 (D50 Z Z Z) Z (A3 (A5 Z Z) Z (A3 (E6 (c:=u8C) (ys:=[c]) (F3 Z Z Z Z I6) Z Z Z) Z (C5 (I9 Z hk1 Z (.pure _ _ _ _) (by (simp;omega)) Z) Z (A3 (B9 Z) Z (A3 (A8 Z) Z (E7 (C66 TySz.out Z Z Z Z Z Z) (A7 ?_))))))))))))
 refine k1 (k2 ?_)
 refine A4 (A3 (A6 Z Z) Z (A7 ?_))
 refine k1 (k10 ?_)
 exact K8 (Y6 rfl rfl) (by repeat (first | exact D5 | refine D4 rfl ?_ | refine F4 _ ?_)) (fun _ _ h=>h) ⟨rfl,rfl⟩
end Go.Proofs.YtbiadkkamhpdnaaGreatDoor
