/- Walks of the program's functions. -/
import Derived.Test.YtbiadkkamhpdnaaGreatDoorFa
import Derived.Test.YtbiadkkamhpdnaaGreatDoorFs
import Derived.Lib.AppendIntMem
set_option linter.unusedSimpArgs false
namespace Go.Proofs.YtbiadkkamhpdnaaGreatDoor
open Go Go.AL
set_option maxRecDepth 100000
theorem F80 (c:UInt8):FnOk Tryz.prog 201 [pByte c] (fun rs=>rs=[O4 (A56 c)]):=by
 refine FnOk.intro Tryz.func201 (by decide) Z Z Z Z ?_
 refine k2 ?_
 refine A4 (A2 (A5 Z Z) Z (A6 ?_))
 refine k1 (k2 ?_)
 refine A4 (A2 (A3 Z Z) Z (A2 (x5 Z Z) Z (A2 (A3 Z Z) Z (B0 Z Z Z Z (fun hg=>by rw [hg];exact A3 Z Z) ?_))));refine B0 Z Z Z Z (fun hg=>by rw [hg];exact A28 Z Z) ?_;refine A2 (B2 Z (fun h=>by first | rfl | (rw [h];rfl)) (fun h=>by first | rfl | (rw [h];rfl))) Z ?_;refine A2 (A3 Z Z) Z (B0 Z Z Z Z (fun hg=>by rw [hg];exact A3 Z Z) ?_);refine B0 Z Z Z Z (fun hg=>by rw [hg];exact J0 Z Z) ?_;refine A2 (B2 Z (fun h=>by first | rfl | (rw [h];rfl)) (fun h=>by first | rfl | (rw [h];rfl))) Z ?_;refine A2 (A3 Z Z) Z (B0 Z Z Z Z (fun hg=>by rw [hg];exact A3 Z Z) ?_);refine B0 Z Z Z Z (fun hg=>by rw [hg];exact J0 Z Z) ?_;refine A2 (B2 Z (fun h=>by first | rfl | (rw [h];rfl)) (fun h=>by first | rfl | (rw [h];rfl))) Z ?_;refine A2 (A5 Z Z) Z (A6 ?_)
 refine k1 (k10 ?_)
 refine B6 (G4 Z Z Z) ?_
 simp only [I9]
 congr 4
 unfold A56
 congr 1
 simp;omega
theorem F81 (c:UInt8):FnOk Tryz.prog 197 [pByte c] (fun rs=>rs=[O4 (A56 c)]):=by
 refine FnOk.intro Tryz.func197 (by decide) Z Z Z Z ?_
 refine k2 ?_
 refine A4 (A2 (A5 Z Z) Z (A6 ?_))
 refine k1 (k2 ?_)
 refine A4 (A2 (A3 Z Z) Z (A2 (x5 Z Z) Z (A2 (A3 Z Z) Z (B0 Z Z Z Z (fun hg=>by rw [hg];exact A3 Z Z) ?_))));refine B0 Z Z Z Z (fun hg=>by rw [hg];exact A28 Z Z) ?_;refine A2 (B2 Z (fun h=>by first | rfl | (rw [h];rfl)) (fun h=>by first | rfl | (rw [h];rfl))) Z ?_;refine A2 (A3 Z Z) Z (B0 Z Z Z Z (fun hg=>by rw [hg];exact A3 Z Z) ?_);refine B0 Z Z Z Z (fun hg=>by rw [hg];exact J0 Z Z) ?_;refine A2 (B2 Z (fun h=>by first | rfl | (rw [h];rfl)) (fun h=>by first | rfl | (rw [h];rfl))) Z ?_;refine A2 (A3 Z Z) Z (B0 Z Z Z Z (fun hg=>by rw [hg];exact A3 Z Z) ?_);refine B0 Z Z Z Z (fun hg=>by rw [hg];exact J0 Z Z) ?_;refine A2 (B2 Z (fun h=>by first | rfl | (rw [h];rfl)) (fun h=>by first | rfl | (rw [h];rfl))) Z ?_;refine A2 (A5 Z Z) Z (A6 ?_)
 refine k1 (k10 ?_)
 refine B6 (G4 Z Z Z) ?_
 simp only [I9]
 congr 4
 unfold A56
 congr 1
 simp;omega
theorem A50 (n:Int):FnOk Tryz.prog 152 [G2 n] (fun rs=>rs=[K6 (r7 n)]):=by
 obtain ⟨k,hk⟩:∃k:Nat,n.toNat=k:=⟨_,rfl⟩
 induction k using Nat.strongRecOn generalizing n with
 | _ k ih =>
 refine FnOk.intro Tryz.func152 (by decide) Z Z Z Z ?_
 refine k2 ?_
 refine A4 (A2 (A5 Z Z) Z (A6 ?_))
 refine k1 (k2 (k2 ?_))
 refine A4 (A2 (A3 Z Z) Z (A2 (E9 Z Z) Z (A2 (A3 Z Z) Z (B0 Z Z Z Z (fun hg=>by rw [hg];exact A3 Z Z) ?_))));refine B0 Z Z Z Z (fun hg=>by rw [hg];exact N7 Z Z) ?_;refine A2 (B2 Z (fun h=>by first | rfl | (rw [h];rfl)) (fun h=>by first | rfl | (rw [h];rfl))) Z ?_;refine A6 ?_
 refine k1 ?_
 refine B5 rfl (fun ht=>?_) (fun ht=>?_)
 ·have h:=A0 (or_pick.symm.trans ht)
  refine k2 ?_
  refine A4 (A2 (A5 Z Z) Z (A6 ?_))
  refine k1 (k10 (k11 ?_))
  exact B6 (G4 rfl rfl rfl) (by rw [r7,if_pos (by omega)])
 ·have h:=A1 (or_pick.symm.trans ht)
  refine k5 (k1 (k2 (k2 ?_)))
  refine A4 (A2 (A3 Z Z) Z (A2 (E9 Z Z) Z (A6 ?_)))
  refine k1 ?_
  refine B5 rfl (fun ht=>?_) (fun ht=>?_)
  ·have h2:=A0 ht
   refine k2 ?_
   refine A4 (A2 (A3 Z Z) Z (A2 (A3 Z Z) Z (A2 (C0 Z Z (by omega)) Z (A2 (o3 Z Z Z (by (first | omega | (simp;omega))) (by (first | omega | (simp;omega))) (by (first | omega | (simp;omega)))) Z (A2 (A5 Z Z) Z (A6 ?_))))))
   refine k1 (k10 (k11 ?_))
   refine B6 (G4 Z Z Z) ?_
   rw [C18 n (by omega) h2]
   have e:(n+1).toNat - n.toNat=1:=by omega
   rw [e];rfl
  ·have h2:=A1 ht
   have hl:=V7 (n / 10)
   have hq:IntKind.i64.wrap (n.tdiv 10)=n / 10:=by
    rw [C27]<;>rw [Int.tdiv_eq_ediv_of_nonneg (by omega)];omega
   have hr:n.tmod 10=n % 10:=Int.tmod_eq_emod_of_nonneg (by omega)
   have ihq:FnOk Tryz.prog 152 [G2 (IntKind.i64.wrap (n.tdiv 10))] (fun rs=>rs=[K6 (r7 (n / 10))]):=by
    rw [hq];exact ih (n / 10).toNat (by omega) (n / 10) rfl
   refine k5 (k1 (k2 ?_))
   refine C5 (by kernel_rfl) (by kernel_rfl) (A7 (A3 Z Z) Z Z (A7 (B58 Z Z (by omega)) Z Z (A7 (F5 (ihq) Z Z) Z Z (A7 (A3 Z Z) Z Z (A7 (B19 Z Z (by omega)) Z Z (A7 (A3 Z Z) Z Z (A7 (B19 Z Z (by omega)) Z Z (A7 (C0 Z Z (by omega)) Z Z (A7 (o3 Z Z Z (by (first | omega | (simp;omega))) (by (first | omega | (simp;omega))) (by (first | omega | (simp;omega)))) Z Z (A7 (G3 Z Z (by (simp;omega))) Z Z (A7 (A5 Z Z) Z Z (F4 ?_))))))))))))
   refine k1 (k10 ?_)
   refine B6 (G4 Z Z Z) ?_
   rw [fmt_big n (by omega) (by omega)]
   rw [hr]
   have e:(n % 10+1).toNat - (n % 10).toNat=1:=by omega
   rw [e];rfl
theorem D77 (a n:Int) (ha:-4611686018427387904≤a∧a≤4611686018427387904) (hn:-4611686018427387904≤n∧n≤4611686018427387904):FnOk Tryz.prog 139 [G2 a,G2 n] (fun rs=>rs=[K6 (R8 a n)]):=by
 refine FnOk.intro Tryz.func139 (by decide) Z Z Z Z ?_
 refine k2 ?_
 refine A4 (A2 (A5 Z Z) Z (A6 ?_))
 refine k1 (k2 (k2 ?_))
 refine A4 (A2 (A3 Z Z) Z (A2 (E9 Z Z) Z (A2 (A3 Z Z) Z (B0 Z Z Z Z (fun hg=>by rw [hg];exact A3 Z Z) ?_))));refine B0 Z Z Z Z (fun hg=>by rw [hg];exact E9 Z Z) ?_;refine A2 (B2 Z (fun h=>by first | rfl | (rw [h];rfl)) (fun h=>by first | rfl | (rw [h];rfl))) Z ?_;refine A2 (A3 Z Z) Z (B0 Z Z Z Z (fun hg=>by rw [hg];exact A3 Z Z) ?_);refine B0 Z Z Z Z (fun hg=>by rw [hg];exact N7 Z Z) ?_;refine A2 (B2 Z (fun h=>by first | rfl | (rw [h];rfl)) (fun h=>by first | rfl | (rw [h];rfl))) Z ?_;refine A2 (A3 Z Z) Z (B0 Z Z Z Z (fun hg=>by rw [hg];exact A3 Z Z) ?_);refine B0 Z Z Z Z (fun hg=>by rw [hg];exact A3 Z Z) ?_;refine B0 Z Z Z Z (fun hg=>by rw [hg];exact H8 Z Z (by (first | omega | (simp at hq;omega)))) ?_;refine B0 Z Z Z Z (fun hg=>by rw [hg];exact N7 Z Z) ?_;refine A2 (B2 Z (fun h=>by first | rfl | (rw [h];rfl)) (fun h=>by first | rfl | (rw [h];rfl))) Z ?_;refine A6 ?_
 refine k1 ?_
 have l1:=V7 a
 have l2:=V7 (a+1)
 have l3:=V7 n
 refine B5 rfl (fun ht=>?_) (fun ht=>?_)
 ·have h:=A0 ((by simp only [or_pick] at ht;exact ht):decide _=true)
  refine k2 ?_
  refine A4 (A2 (A5 Z Z) Z (A6 ?_))
  refine k1 (k10 (k11 ?_))
  exact B6 (G4 rfl rfl rfl) (by rw [R8,if_pos (by omega)])
 ·have h:=A1 ((by simp only [or_pick] at ht;exact ht):decide _=false)
  refine k5 (k1 (k2 (k2 ?_)))
  refine A4 (A2 (A3 Z Z) Z (A6 ?_))
  refine k1 (k3 (k2 ?_))
  refine A4 (A2 (I2 Z Z) Z (A2 (A5 Z Z) Z (A6 ?_)))
  refine k1 ?_
  refine B5 rfl (fun ht=>?_) (fun ht=>?_)
  ·have h0:=A0 ht
   refine k2 ?_
   refine A4 (A2 (A3 Z Z) Z (C8 (A50 a) Z Z Z ?_));rintro _ rfl;refine A2 (G3 Z Z (by simp;omega)) Z (A2 (A5 Z Z) Z (A6 ?_))
   refine k1 (k10 (k12 (k11 ?_)))
   exact B6 (G4 rfl rfl rfl) (by rw [R8,if_neg (by omega),if_pos h0])
  ·have h0:=A1 ht
   refine k2 ?_
   refine A4 (A2 (I2 Z Z) Z (A2 (A5 Z Z) Z (A6 ?_)))
   refine k1 ?_
   refine B5 rfl (fun ht=>?_) (fun ht=>?_)
   ·have h1:=A0 ht
    refine k2 ?_
    refine A4 (A2 (A3 Z Z) Z (A2 (C0 Z Z (by omega)) Z (C8 (A50 (a+1)) Z Z Z ?_)));rintro _ rfl;refine A2 (A5 Z Z) Z (A6 ?_)
    refine k1 (k10 (k12 (k11 ?_)))
    exact B6 (G4 rfl rfl rfl) (by rw [R8,if_neg (by omega),if_neg h0,if_pos h1])
   ·have h1:=A1 ht
    refine k5 (k2 ?_)
    refine A4 (A2 (A3 Z Z) Z (A2 (C0 Z Z (by omega)) Z (C8 (A50 (a+1)) Z Z Z ?_)));rintro _ rfl;refine A2 (G3 Z Z (by simp;omega)) Z (A2 (A3 Z Z) Z (C8 (A50 n) Z Z Z ?_));rintro _ rfl;refine A2 (G3 Z Z (by simp;omega)) Z (A2 (A5 Z Z) Z (A6 ?_))
    refine k1 (k10 ?_)
    exact B6 (G4 rfl rfl rfl) (by rw [R8,if_neg (by omega),if_neg h0,if_neg h1])
theorem X8:([48,49,50,51,52,53,54,55]:Str).length=8:=rfl
theorem u8q (c:UInt8) (k:Nat):IntKind.u8.wrap ((c.toNat:Int).tdiv (k:Int))=((c.toNat / k:Nat):Int):=by
 have hc:=c.toNat_lt
 have h1:(c.toNat:Int).tdiv (k:Int)=((c.toNat / k:Nat):Int):=by rw [Int.tdiv_eq_ediv_of_nonneg (by omega)];simp
 have h2:c.toNat / k≤c.toNat:=Nat.div_le_self _ _
 rw [h1]
 generalize c.toNat / k=q at *
 rw [IntWalk.u8_in _ (by omega)]
theorem u8r (n k:Nat):(n:Int).tmod (k:Int)=((n % k:Nat):Int):=by
 rw [Int.tmod_eq_emod_of_nonneg (by omega)];simp
theorem u8s (n:Nat) (h:n < 255):IntKind.u8.wrap ((n:Int)+1)=((n+1:Nat):Int):=by
 rw [IntWalk.u8_in _ (by omega)];simp
set_option maxHeartbeats 1000000 in
theorem D78 (s:Str) (hs:s.length≤16777216):FnOk Tryz.prog 138 [K6 s] (fun rs=>rs=[K6 (j5 s)]):=by
 refine FnOk.intro Tryz.func138 (by decide) Z Z Z Z ?_
 refine k2 ?_
 refine A4 (A2 (A5 Z Z) Z (A6 ?_))
 refine k1 (k2 ?_)
 refine A4 (A2 (A3 Z Z) Z (A2 (B01 Z Z) Z (A2 (A5 Z Z) Z (A6 ?_))))
 refine k1 (k2 ?_)
 refine A4 (A2 (A5 Z Z) Z (A6 ?_))
 refine k1 (k2 (k2 ?_))
 refine A4 (A2 (A5 Z Z) Z (A6 ?_))
 refine k1 (k3 ?_)
 refine D9 (X:=Nat) (fun i=>([(0,P7 s),(3,K1 (.bool (plains s i))),(4,P7 (34::escs s i)),(5,C1 i)],[])) (fun i=>i≤s.length) (fun i=>s.length - i) 0 (Nat.zero_le _) ?_ ?_
 ·rw [C42,G06]
  first | exact G48 ⟨le1 rfl,le1 rfl,le1 rfl,le1 rfl,trivial⟩ trivial | trace_state
 intro i hi
 dsimp only at hi ⊢
 have hel:=E84 s i hi
 refine k2 (k2 ?_)
 refine A4 (A2 (A3 Z Z) Z (A2 (A3 Z Z) Z (A2 (K9 Z) Z (A2 (E9 Z Z) Z (A6 ?_)))))
 refine k1 ?_
 refine B5 rfl (fun ht=>?_) (fun ht=>?_)
 ·have hlt:i < s.length:=by have:=A0 ht;omega
  have hv:s[i]?=some s[i]:=by simp [hlt]
  obtain ⟨c,hc⟩:∃c,c=s[i]:=⟨_,rfl⟩
  have h1:=D92 s i hlt
  have h2:=C43 s i hlt
  rw [←hc] at hv h1 h2
  have h3:=c.toNat_lt
  refine k5 (k1 (k2 (k3 (k2 ?_))))
  refine A4 (A2 (A3 Z Z) Z (A2 (A3 Z Z) Z (A2 (l7 Z Z (by omega) hv) Z (A2 (A5 Z Z) Z (A6 ?_)))))
  refine k1 (k2 ?_)
  refine A4 (A2 (A3 Z Z) Z (A2 (A3 Z Z) Z (B0 Z Z Z Z (fun hg=>by rw [hg];exact A3 Z Z) ?_)));refine B0 Z Z Z Z (fun hg=>by have hq:=hg;(try simp at hq);rw [hg];exact F5 (F80 c) Z Z) ?_;refine A2 (B2 Z (fun h=>by first | rfl | (rw [h];rfl)) (fun h=>by first | rfl | (rw [h];rfl))) Z ?_;refine A2 (A5 Z Z) Z (A6 ?_)
  rw [show (if plains s i=true then A56 c else false)=plains s (i+1) from by rw [h2];cases plains s i<;>rfl]
  have hsub:(s.drop i).take 1=[c]:=by rw [G86 hlt,←hc];rfl
  have hone:(i:Int).toNat=i∧((i:Int)+1).toNat - i=1:=by omega
  refine k1 (k3 (k2 ?_))
  refine A4 (A2 (A3 Z Z) Z (A2 (I2 Z Z) Z (A2 (A3 Z Z) Z (B0 Z Z Z Z (fun hg=>by rw [hg];exact A3 Z Z) ?_))));refine B0 Z Z Z Z (fun hg=>by rw [hg];exact I2 Z Z) ?_;refine A2 (B2 Z (fun h=>by first | rfl | (rw [h];rfl)) (fun h=>by first | rfl | (rw [h];rfl))) Z ?_;refine A2 (A5 Z Z) Z (A6 ?_)
  refine k1 ?_
  refine B5 rfl (fun ht=>?_) (fun ht=>?_)
  ·have h:=A0 (or_pick.symm.trans ht)
   skip
   refine A4 (A2 (A3 Z Z) Z (A2 (G3 Z Z (by (simp;omega))) Z (A2 (A3 Z Z) Z (A2 (A3 Z Z) Z (A2 (A3 Z Z) Z (A2 (C0 Z Z (by omega)) Z (A2 (o3 Z Z Z (by omega) (by omega) (by omega)) Z (A2 (G3 Z Z (by (simp;omega))) Z (A2 (A5 Z Z) Z (A6 ?_))))))))))
   refine k4 (k4 (k1 ?_))
   refine A4 (A2 (A3 Z Z) Z (A2 (C0 Z Z (by omega)) Z (A2 (A5 Z Z) Z (A6 ?_))))
   refine k1 ?_
   refine ⟨i+1,hlt,by omega,?_⟩
   rw [h1,show X1 c=_ from by rw [X1,if_pos (by omega)]]
   rw [hone.1,hone.2,hsub,G91]
   exact G48 ⟨le1 rfl,le1 rfl,le1 rfl,le1 rfl,trivial⟩ trivial
  ·have h:=A1 (or_pick.symm.trans ht)
   refine k2 ?_
   refine A4 (A2 (A3 Z Z) Z (A2 (I2 Z Z) Z (A2 (A5 Z Z) Z (A6 ?_))))
   refine k1 ?_
   refine B5 rfl (fun ht=>?_) (fun ht=>?_)
   ·have h4:=A0 ht
    skip
    refine A4 (A2 (A3 Z Z) Z (A2 (G3 Z Z (by simp;omega)) Z (A2 (A5 Z Z) Z (A6 ?_))))
    refine k4 (k4 (k1 ?_))
    refine A4 (A2 (A3 Z Z) Z (A2 (C0 Z Z (by omega)) Z (A2 (A5 Z Z) Z (A6 ?_))))
    refine k1 ?_
    refine ⟨i+1,hlt,by omega,?_⟩
    rw [h1,show X1 c=_ from by rw [X1,if_neg (by omega),if_pos (by omega)]]
    exact G48 ⟨le1 rfl,le1 rfl,le1 rfl,le1 rfl,trivial⟩ trivial
   ·have h4:=A1 ht
    refine k2 ?_
    refine A4 (A2 (A3 Z Z) Z (A2 (I2 Z Z) Z (A2 (A5 Z Z) Z (A6 ?_))))
    refine k1 ?_
    refine B5 rfl (fun ht=>?_) (fun ht=>?_)
    ·have h5:=A0 ht
     skip
     refine A4 (A2 (A3 Z Z) Z (A2 (G3 Z Z (by simp;omega)) Z (A2 (A5 Z Z) Z (A6 ?_))))
     refine k4 (k4 (k1 ?_))
     refine A4 (A2 (A3 Z Z) Z (A2 (C0 Z Z (by omega)) Z (A2 (A5 Z Z) Z (A6 ?_))))
     refine k1 ?_
     refine ⟨i+1,hlt,by omega,?_⟩
     rw [h1,show X1 c=_ from by rw [X1,if_neg (by omega),if_neg (by omega),if_pos (by omega)]]
     exact G48 ⟨le1 rfl,le1 rfl,le1 rfl,le1 rfl,trivial⟩ trivial
    ·have h5:=A1 ht
     refine k2 ?_
     refine A4 (A2 (A3 Z Z) Z (A2 (E9 Z Z) Z (A2 (A3 Z Z) Z (B0 Z Z Z Z (fun hg=>by rw [hg];exact A3 Z Z) ?_))));refine B0 Z Z Z Z (fun hg=>by rw [hg];exact N7 Z Z) ?_;refine A2 (B2 Z (fun h=>by first | rfl | (rw [h];rfl)) (fun h=>by first | rfl | (rw [h];rfl))) Z ?_;refine A2 (A5 Z Z) Z (A6 ?_)
     refine k1 ?_
     refine B5 rfl (fun ht=>?_) (fun ht=>?_)
     ·have h6:=A0 (or_pick.symm.trans ht)
      have e1:IntKind.u8.wrap ((c.toNat:Int).tdiv 64)=((c.toNat / 64:Nat):Int):=u8q c 64
      have e2:IntKind.u8.wrap ((c.toNat:Int).tdiv 8)=((c.toNat / 8:Nat):Int):=u8q c 8
      have e3:(IntKind.u8.wrap ((c.toNat:Int).tdiv 8)).tmod 8=((c.toNat / 8 % 8:Nat):Int):=by rw [e2];exact u8r _ 8
      have e4:(c.toNat:Int).tmod 8=((c.toNat % 8:Nat):Int):=u8r _ 8
      have e5:IntKind.u8.wrap (IntKind.u8.wrap ((c.toNat:Int).tdiv 64)+1)=((c.toNat / 64+1:Nat):Int):=by rw [e1];exact u8s _ (by omega)
      have e6:IntKind.u8.wrap ((IntKind.u8.wrap ((c.toNat:Int).tdiv 8)).tmod 8+1)=((c.toNat / 8 % 8+1:Nat):Int):=by rw [e3];exact u8s _ (by omega)
      have e7:IntKind.u8.wrap ((c.toNat:Int).tmod 8+1)=((c.toNat % 8+1:Nat):Int):=by rw [e4];exact u8s _ (by omega)
      have hol:=D90 c
      have hob:X1 c=92::C41 c:=by rw [X1,if_neg (by omega),if_neg (by omega),if_neg (by omega),if_pos (by omega)]
      have g1:c.toNat / 64 < 8:=by omega
      skip
      refine C5 (by kernel_rfl) (by kernel_rfl) (A7 (A3 Z Z) Z Z (A7 (G3 Z Z (by (simp;omega))) Z Z (A7 (A3 Z Z) Z Z (A7 (B58 Z Z (by omega)) Z Z (A7 (A3 Z Z) Z Z (A7 (B58 Z Z (by omega)) Z Z (A7 (A05 Z Z) Z Z (A7 (o3 Z Z Z (by (first | omega | (simp only [X8];omega))) (by (first | omega | (simp only [X8];omega))) (by (first | omega | (simp only [X8];omega)))) Z Z (A7 (G3 Z Z (by (simp only [G79,G81,G83,G90,G92];omega))) Z Z (A7 (A3 Z Z) Z Z (A7 (B58 Z Z (by omega)) Z Z (A7 (B19 Z Z (by omega)) Z Z (A7 (A3 Z Z) Z Z (A7 (B58 Z Z (by omega)) Z Z (A7 (B19 Z Z (by omega)) Z Z (A7 (A05 Z Z) Z Z (A7 (o3 Z Z Z (by (first | omega | (simp only [X8];omega))) (by (first | omega | (simp only [X8];omega))) (by (first | omega | (simp only [X8];omega)))) Z Z (A7 (G3 Z Z (by (simp only [G79,G81,G83,G90,G92];omega))) Z Z (A7 (A3 Z Z) Z Z (A7 (B19 Z Z (by omega)) Z Z (A7 (A3 Z Z) Z Z (A7 (B19 Z Z (by omega)) Z Z (A7 (A05 Z Z) Z Z ?_)))))))))))))))))))))));refine A7 (o3 Z Z Z (by (first | omega | (simp only [X8];omega))) (by (first | omega | (simp only [X8];omega))) (by (first | omega | (simp only [X8];omega)))) Z Z (A7 (G3 Z Z (by (simp only [G79,G81,G83,G90,G92];omega))) Z Z (A7 (A5 Z Z) Z Z (F4 ?_)))
      have k1:∀q:Nat,((q+1:Nat):Int).toNat - ((q:Nat):Int).toNat=1:=fun q=>by omega
      refine k4 (k4 ?_)
      refine A4 (A2 (A3 Z Z) Z (A2 (C0 Z Z (by omega)) Z (A2 (A5 Z Z) Z (A6 ?_))))
      skip
      refine ⟨i+1,hlt,by omega,?_⟩
      rw [e5,e6,e7,e1,e3,e4,k1 (c.toNat / 64),k1 (c.toNat / 8 % 8),k1 (c.toNat % 8),h1,hob,show 34::(escs s i++(92::C41 c))=34::escs s i++[92]++(digs8.drop (c.toNat / 64)).take 1++(digs8.drop (c.toNat / 8 % 8)).take 1++(digs8.drop (c.toNat % 8)).take 1 from by unfold C41;simp only [H09,G91,H10]]
      exact G48 ⟨le1 rfl,le1 rfl,le1 rfl,le1 rfl,trivial⟩ trivial
     ·have h6:=A1 (or_pick.symm.trans ht)
      skip
      refine A4 (A2 (A3 Z Z) Z (A2 (A3 Z Z) Z (A2 (A3 Z Z) Z (A2 (A3 Z Z) Z (A2 (C0 Z Z (by omega)) Z (A2 (o3 Z Z Z (by omega) (by omega) (by omega)) Z (A2 (G3 Z Z (by simp;omega)) Z (A2 (A5 Z Z) Z (A6 ?_)))))))))
      refine k4 (k4 (k1 ?_))
      refine A4 (A2 (A3 Z Z) Z (A2 (C0 Z Z (by omega)) Z (A2 (A5 Z Z) Z (A6 ?_))))
      refine k1 ?_
      refine ⟨i+1,hlt,by omega,?_⟩
      rw [h1,show X1 c=_ from by rw [X1,if_neg (by omega),if_neg (by omega),if_neg (by omega),if_neg (by omega)]]
      rw [hone.1,hone.2,hsub]
      exact G48 ⟨le1 rfl,le1 rfl,le1 rfl,le1 rfl,trivial⟩ trivial
 ·have hi':i=s.length:=by have:=A1 ht;omega
  subst hi'
  refine k6 (k2 (k2 ?_))
  refine A4 (A2 (A3 Z Z) Z (A6 ?_))
  refine k1 ?_
  refine B5 rfl (fun ht=>?_) (fun ht=>?_)
  ·have h:plains s s.length=true:=ht
   refine k2 ?_
   refine A4 (A2 (A3 Z Z) Z (A2 (A5 Z Z) Z (A6 ?_)))
   refine k1 (k10 (k11 ?_))
   exact B6 (G4 rfl rfl rfl) (by rw [A57,if_pos h])
  ·have h:plains s s.length=false:=ht
   refine k5 (k1 (k2 ?_))
   refine A4 (A2 (A3 Z Z) Z (A2 (G3 Z Z (by simp;omega)) Z (A2 (A5 Z Z) Z (A6 ?_))))
   refine k1 (k10 ?_)
   exact B6 (G4 rfl rfl rfl) (by rw [A57,h];rfl)
end Go.Proofs.YtbiadkkamhpdnaaGreatDoor
namespace Go.Proofs.YtbiadkkamhpdnaaGreatDoor
open Go Go.AL Go.RowKit
set_option maxRecDepth 100000
theorem u8dig (q:Nat) (h:q < 8):IntKind.u8.wrap (48+(q:Int))=((UInt8.ofNat (48+q)).toNat:Int):=by
 rw [IntWalk.u8_in _ (by omega)]
 have:(UInt8.ofNat (48+q)).toNat=48+q:=by rw [UInt8.toNat_ofNat'];omega
 rw [this];simp
theorem F64 (x:Nat) (h:x < 256):IntKind.u8.wrap ((BitVec.ofInt IntKind.u8.bits (x:Int) &&& BitVec.ofInt IntKind.u8.bits 7).toNat:Int)=((x % 8:Nat):Int):=by
 have h1:(BitVec.ofInt IntKind.u8.bits (x:Int) &&& BitVec.ofInt IntKind.u8.bits 7).toNat=x % 8:=by
  rw [BitVec.toNat_and,BitVec.toNat_ofInt,BitVec.toNat_ofInt]
  have e1:((x:Int) % ((2 ^ IntKind.u8.bits:Nat):Int)).toNat=x:=by
   rw [show ((2 ^ IntKind.u8.bits:Nat):Int)=256 by rfl];omega
  have e2:((7:Int) % ((2 ^ IntKind.u8.bits:Nat):Int)).toNat=2 ^ 3 - 1:=by rfl
  rw [e1,e2,Nat.and_two_pow_sub_one_eq_mod]
 rw [h1,IntWalk.u8_in _ (by omega)]
theorem shr_u8 (x:Nat) (c:Nat) (h:c≤8):(x:Int).fdiv (2 ^ min (Int.toNat (c:Int)) IntKind.u8.bits)=((x / 2 ^ c:Nat):Int):=by
 rw [shr_eq _ _ IntKind.u8.bits ⟨by omega,by show (c:Int)≤8;omega⟩]
 simp
theorem F16 (c:UInt8):FnOk Tryz.prog 198 [pByte c] (fun rs=>rs=[K6 (X1 c)]):=by
 have hc:=c.toNat_lt
 refine FnOk.intro Tryz.func198 (by decide) Z Z Z Z ?_
 refine k2 ?_
 refine A4 (A2 (A5 Z Z) Z (A6 ?_))
 refine k1 (k2 (k3 (k2 ?_)))
 refine A4 (A2 (A3 Z Z) Z (A2 (I2 Z Z) Z (A2 (A3 Z Z) Z (B0 Z Z Z Z (fun hg=>by rw [hg];exact A3 Z Z) ?_))));refine B0 Z Z Z Z (fun hg=>by rw [hg];exact I2 Z Z) ?_;refine A2 (B2 Z (fun h=>by first | rfl | (rw [h];rfl)) (fun h=>by first | rfl | (rw [h];rfl))) Z ?_;refine A2 (A5 Z Z) Z (A6 ?_)
 refine k1 ?_
 refine B5 rfl (fun ht=>?_) (fun ht=>?_)
 ·have h:=A0 (or_pick.symm.trans ht)
  refine k2 ?_
  refine A4 (A2 (A3 Z Z) Z (A2 (B20 Z (by omega)) Z (A2 (G3 Z Z (by simp)) Z (A2 (A5 Z Z) Z (A6 ?_)))))
  refine k1 (k10 (k12 (k11 ?_)))
  exact B6 (G4 rfl rfl rfl) (by rw [X1,if_pos (by omega)];rfl)
 ·have h:=A1 (or_pick.symm.trans ht)
  refine k2 ?_
  refine A4 (A2 (A3 Z Z) Z (A2 (I2 Z Z) Z (A2 (A5 Z Z) Z (A6 ?_))))
  refine k1 ?_
  refine B5 rfl (fun ht=>?_) (fun ht=>?_)
  ·have h1:=A0 ht
   refine k2 ?_
   refine A4 (A2 (A5 Z Z) Z (A6 ?_))
   refine k1 (k10 (k12 (k11 ?_)))
   exact B6 (G4 rfl rfl rfl) (by rw [X1,if_neg (by omega),if_pos (by omega)])
  ·have h1:=A1 ht
   refine k2 ?_
   refine A4 (A2 (A3 Z Z) Z (A2 (I2 Z Z) Z (A2 (A5 Z Z) Z (A6 ?_))))
   refine k1 ?_
   refine B5 rfl (fun ht=>?_) (fun ht=>?_)
   ·have h2:=A0 ht
    refine k2 ?_
    refine A4 (A2 (A5 Z Z) Z (A6 ?_))
    refine k1 (k10 (k12 (k11 ?_)))
    exact B6 (G4 rfl rfl rfl) (by rw [X1,if_neg (by omega),if_neg (by omega),if_pos (by omega)])
   ·have h2:=A1 ht
    refine k2 ?_
    refine A4 (A2 (A3 Z Z) Z (A2 (E9 Z Z) Z (A2 (A3 Z Z) Z (B0 Z Z Z Z (fun hg=>by rw [hg];exact A3 Z Z) ?_))));refine B0 Z Z Z Z (fun hg=>by rw [hg];exact N7 Z Z) ?_;refine A2 (B2 Z (fun h=>by first | rfl | (rw [h];rfl)) (fun h=>by first | rfl | (rw [h];rfl))) Z ?_;refine A2 (A5 Z Z) Z (A6 ?_)
    refine k1 ?_
    refine B5 rfl (fun ht=>?_) (fun ht=>?_)
    ·have h3:=A0 (or_pick.symm.trans ht)
     refine k2 ?_
     have f6:(c.toNat:Int).fdiv (2 ^ min (Int.toNat 6) IntKind.u8.bits)=((c.toNat / 64:Nat):Int):=shr_u8 c.toNat 6 (by omega)
     have f3:(c.toNat:Int).fdiv (2 ^ min (Int.toNat 3) IntKind.u8.bits)=((c.toNat / 8:Nat):Int):=shr_u8 c.toNat 3 (by omega)
     have e1:=u8dig (c.toNat / 64) (by omega)
     have e2:=u8dig (c.toNat / 8 % 8) (by omega)
     have e3:=u8dig (c.toNat % 8) (by omega)
     have hol:=E83 c
     refine A4 (A2 (A3 Z Z) Z (A2 (E40 Z Z (by omega)) Z (A2 (A05 Z Z) Z (A2 (A3 Z Z) Z (A2 (E40 Z Z (by omega)) Z (A2 (C70 Z Z Z (fun _=>rfl)) Z (A2 (A05 Z Z) Z (A2 (A3 Z Z) Z (A2 (C70 Z Z Z (fun _=>rfl)) Z (A2 (A05 Z Z) Z ?_))))))))));rw [f6,f3,F64 (c.toNat / 8) (by omega),F64 c.toNat (by omega),e1,e2,e3];refine A2 (D8 (c:=u8C) (ys:=[UInt8.ofNat (48+c.toNat / 64),UInt8.ofNat (48+c.toNat / 8 % 8),UInt8.ofNat (48+c.toNat % 8)]) (E5 Z Z Z Z (E5 Z Z Z Z (E5 Z Z Z Z G8))) Z Z Z) Z (A2 (x6 TyStr.out Z (.pure _ _ _ _)) Z (A2 (G3 Z Z (by simp)) Z (A2 (A5 Z Z) Z (A6 ?_))))
     refine k1 (k10 (k12 (k11 ?_)))
     exact B6 (G4 rfl rfl rfl) (by rw [X1,if_neg (by omega),if_neg (by omega),if_neg (by omega),if_pos (by omega),hol];rfl)
    ·have h3:=A1 (or_pick.symm.trans ht)
     refine k5 (k2 ?_)
     refine A4 (A2 (A3 Z Z) Z (A2 (B20 Z (by omega)) Z (A2 (A5 Z Z) Z (A6 ?_))))
     refine k1 (k10 ?_)
     exact B6 (G4 rfl rfl rfl) (by rw [X1,if_neg (by omega),if_neg (by omega),if_neg (by omega),if_neg (by omega)])
theorem itoa_ok (n:Int) (h:0≤n∧n≤2147483647):FnOk Tryz.prog 205 [G2 n] (fun rs=>rs=[K6 (Lib.itoa n)]) :=
 G66 (xs:=[.int .i64 n]) (r:=.string ⟨(Lib.itoa n).toArray⟩) ⟨_,rfl,rfl,rfl⟩ rfl fun w hw =>
  (Tryz.strconv_Itoa n (by omega) (by omega) w (hw.pow10 rfl)).mono fun e w' ⟨he,k,os,hw'⟩=>⟨he,by subst hw';exact Lib.below_grow _ _ (Nat.le_refl _) _ _⟩
theorem A51 (n:Int):FnOk Tryz.prog 148 [G2 n] (fun rs=>rs=[K6 (r7 n)]):=by
 refine FnOk.intro Tryz.func148 (by decide) Z Z Z Z ?_
 refine k2 ?_
 refine A4 (A2 (A5 Z Z) Z (A6 ?_))
 refine k1 (k2 (k2 ?_))
 refine A4 (A2 (A3 Z Z) Z (A2 (E9 Z Z) Z (A2 (A3 Z Z) Z (B0 Z Z Z Z (fun hg=>by rw [hg];exact A3 Z Z) ?_))));refine B0 Z Z Z Z (fun hg=>by rw [hg];exact N7 Z Z) ?_;refine A2 (B2 Z (fun h=>by first | rfl | (rw [h];rfl)) (fun h=>by first | rfl | (rw [h];rfl))) Z ?_;refine A6 ?_
 refine k1 ?_
 refine B5 rfl (fun ht=>?_) (fun ht=>?_)
 ·have h:=A0 (or_pick.symm.trans ht)
  refine k2 ?_
  refine A4 (A2 (A5 Z Z) Z (A6 ?_))
  refine k1 (k10 (k11 ?_))
  exact B6 (G4 rfl rfl rfl) (by rw [r7,if_pos (by omega)])
 ·have h:=A1 (or_pick.symm.trans ht)
  refine k5 (k1 (k2 ?_))
  refine A4 (A2 (A3 Z Z) Z (C8 (itoa_ok n (by omega)) Z Z Z ?_));rintro _ rfl;refine A2 (A5 Z Z) Z (A6 ?_)
  refine k1 (k10 ?_)
  exact B6 (G4 rfl rfl rfl) (by rw [r7,if_neg (by omega)])
theorem D79 (a n:Int) (ha:-4611686018427387904≤a∧a≤4611686018427387904) (hn:-4611686018427387904≤n∧n≤4611686018427387904):FnOk Tryz.prog 151 [G2 a,G2 n] (fun rs=>rs=[K6 (R8 a n)]):=by
 refine FnOk.intro Tryz.func151 (by decide) Z Z Z Z ?_
 refine k2 ?_
 refine A4 (A2 (A5 Z Z) Z (A6 ?_))
 refine k1 (k2 (k2 ?_))
 refine A4 (A2 (A3 Z Z) Z (A2 (E9 Z Z) Z (A2 (A3 Z Z) Z (B0 Z Z Z Z (fun hg=>by rw [hg];exact A3 Z Z) ?_))));refine B0 Z Z Z Z (fun hg=>by rw [hg];exact E9 Z Z) ?_;refine A2 (B2 Z (fun h=>by first | rfl | (rw [h];rfl)) (fun h=>by first | rfl | (rw [h];rfl))) Z ?_;refine A2 (A3 Z Z) Z (B0 Z Z Z Z (fun hg=>by rw [hg];exact A3 Z Z) ?_);refine B0 Z Z Z Z (fun hg=>by rw [hg];exact N7 Z Z) ?_;refine A2 (B2 Z (fun h=>by first | rfl | (rw [h];rfl)) (fun h=>by first | rfl | (rw [h];rfl))) Z ?_;refine A2 (A3 Z Z) Z (B0 Z Z Z Z (fun hg=>by rw [hg];exact A3 Z Z) ?_);refine B0 Z Z Z Z (fun hg=>by rw [hg];exact A3 Z Z) ?_;refine B0 Z Z Z Z (fun hg=>by rw [hg];exact H8 Z Z (by (first | omega | (simp at hq;omega)))) ?_;refine B0 Z Z Z Z (fun hg=>by rw [hg];exact N7 Z Z) ?_;refine A2 (B2 Z (fun h=>by first | rfl | (rw [h];rfl)) (fun h=>by first | rfl | (rw [h];rfl))) Z ?_;refine A6 ?_
 refine k1 ?_
 have l1:=V7 a
 have l2:=V7 (a+1)
 have l3:=V7 n
 refine B5 rfl (fun ht=>?_) (fun ht=>?_)
 ·have h:=A0 ((by simp only [or_pick] at ht;exact ht):decide _=true)
  refine k2 ?_
  refine A4 (A2 (A5 Z Z) Z (A6 ?_))
  refine k1 (k10 (k11 ?_))
  exact B6 (G4 rfl rfl rfl) (by rw [R8,if_pos (by omega)])
 ·have h:=A1 ((by simp only [or_pick] at ht;exact ht):decide _=false)
  refine k5 (k1 (k2 (k2 ?_)))
  refine A4 (A2 (A3 Z Z) Z (A6 ?_))
  refine k1 (k3 (k2 ?_))
  refine A4 (A2 (I2 Z Z) Z (A2 (A5 Z Z) Z (A6 ?_)))
  refine k1 ?_
  refine B5 rfl (fun ht=>?_) (fun ht=>?_)
  ·have h0:=A0 ht
   refine k2 ?_
   refine A4 (A2 (A3 Z Z) Z (C8 (A51 a) Z Z Z ?_));rintro _ rfl;refine A2 (G3 Z Z (by simp;omega)) Z (A2 (A5 Z Z) Z (A6 ?_))
   refine k1 (k10 (k12 (k11 ?_)))
   exact B6 (G4 rfl rfl rfl) (by rw [R8,if_neg (by omega),if_pos h0])
  ·have h0:=A1 ht
   refine k2 ?_
   refine A4 (A2 (I2 Z Z) Z (A2 (A5 Z Z) Z (A6 ?_)))
   refine k1 ?_
   refine B5 rfl (fun ht=>?_) (fun ht=>?_)
   ·have h1:=A0 ht
    refine k2 ?_
    refine A4 (A2 (A3 Z Z) Z (A2 (C0 Z Z (by omega)) Z (C8 (A51 (a+1)) Z Z Z ?_)));rintro _ rfl;refine A2 (A5 Z Z) Z (A6 ?_)
    refine k1 (k10 (k12 (k11 ?_)))
    exact B6 (G4 rfl rfl rfl) (by rw [R8,if_neg (by omega),if_neg h0,if_pos h1])
   ·have h1:=A1 ht
    refine k5 (k2 ?_)
    refine A4 (A2 (A3 Z Z) Z (A2 (C0 Z Z (by omega)) Z (C8 (A51 (a+1)) Z Z Z ?_)));rintro _ rfl;refine A2 (G3 Z Z (by simp;omega)) Z (A2 (A3 Z Z) Z (C8 (A51 n) Z Z Z ?_));rintro _ rfl;refine A2 (G3 Z Z (by simp;omega)) Z (A2 (A5 Z Z) Z (A6 ?_))
    refine k1 (k10 ?_)
    exact B6 (G4 rfl rfl rfl) (by rw [R8,if_neg (by omega),if_neg h0,if_neg h1])
theorem B24 (B b:Nat) (l:List UInt8) (w:World) (h:Lib.IsBuilder 124 5 B b (Lib.byteCells l) w) (hBw:B≤w.heap.size) :
  Calls Tryz.prog 89 #[.pointer (some ⟨b,0,none⟩)] w fun e w'=>e=.returned (.string ⟨l.toArray⟩)∧Below B w w':=Tryz.Builder_String_any B b l w h hBw
theorem D80 (s:Str) (hs:s.length≤16777216):FnOk Tryz.prog 134 [K6 s] (fun rs=>rs=[K6 (j5 s)]):=by
 refine FnOk.intro Tryz.func134 (by decide) Z Z Z Z ?_
 refine k2 ?_
 refine A4 (A2 (A5 Z Z) Z (A6 ?_))
 refine k1 (k2 ?_)
 refine A4 (A2 (A3 Z Z) Z (A2 (B01 Z Z) Z (A2 (A5 Z Z) Z (A6 ?_))))
 refine k1 (k2 (k2 ?_))
 refine A4 (A2 (A3 Z Z) Z (A2 (K9 Z) Z (A2 (A3 Z Z) Z (A6 ?_))))
 refine k1 (k3 ?_)
 refine D9 (X:=Nat) (fun i=>([(0,P7 s),(3,K1 (.bool (plains s i))),(10,C1 s.length),(11,C1 i)],[])) (fun i=>i≤s.length) (fun i=>s.length - i) 0 (Nat.zero_le _) ?_ ?_
 ·rw [C42]
  exact G48 ⟨le1 rfl,le1 rfl,le1 rfl,le1 rfl,trivial⟩ trivial
 intro i hi
 dsimp only at hi ⊢
 refine k2 ?_
 refine A4 (A2 (E9 Z Z) Z (A6 ?_))
 refine k1 (k2 ?_)
 refine B5 rfl (fun ht=>?_) (fun ht=>?_)
 ·have hlt:i < s.length:=by have:=A0 ht;omega
  have hv:s[i]?=some s[i]:=by simp [hlt]
  obtain ⟨c,hc⟩:∃c,c=s[i]:=⟨_,rfl⟩
  have h2:=C43 s i hlt
  rw [←hc] at hv h2
  refine k5 (k1 (k2 (k3 (k2 ?_))))
  refine A4 (A2 (A3 Z Z) Z (A2 (A5 Z Z) Z (A6 ?_)))
  refine k1 ?_
  refine A4 (A2 (A3 Z Z) Z (A2 (A3 Z Z) Z (B0 Z Z Z Z (fun hg=>by rw [hg];exact A3 Z Z) ?_)));refine B0 Z Z Z Z (fun hg=>by rw [hg];exact A3 Z Z) ?_;refine B0 Z Z Z Z (fun hg=>by have hq:=hg;(try simp at hq);rw [hg];exact l7 Z Z (by omega) hv) ?_;refine B0 Z Z Z Z (fun hg=>by have hq:=hg;(try simp at hq);rw [hg];exact F5 (F81 c) Z Z) ?_;refine A2 (B2 Z (fun h=>by first | rfl | (rw [h];rfl)) (fun h=>by first | rfl | (rw [h];rfl))) Z ?_;refine A2 (A5 Z Z) Z (A6 ?_)
  refine k4 (k1 ?_)
  refine A4 (A2 (C0 Z Z (by omega)) Z (A2 (A3 Z Z) Z (A6 ?_)))
  refine k1 ?_
  refine ⟨i+1,hlt,by omega,?_⟩
  rw [show (if plains s i=true then A56 c else false)=plains s (i+1) from by rw [h2];cases plains s i<;>rfl]
  exact G48 ⟨le1 rfl,le1 rfl,le1 rfl,le1 rfl,trivial⟩ trivial
 have hi':i=s.length:=by have:=A1 ht;omega
 subst hi'
 refine k6 (k2 (k2 ?_))
 refine A4 (A2 (A3 Z Z) Z (A6 ?_))
 refine k1 ?_
 refine B5 rfl (fun ht=>?_) (fun ht=>?_)
 ·have h:plains s s.length=true:=ht
  refine k2 ?_
  refine A4 (A2 (A3 Z Z) Z (A2 (A5 Z Z) Z (A6 ?_)))
  refine k1 (k10 (k11 ?_))
  exact B6 (G4 rfl rfl rfl) (by rw [A57,if_pos h])
 have h:plains s s.length=false:=ht
 have hq:j5 s=(34::escs s s.length)++[34]:=by rw [A57,h];rfl
 refine k5 (k1 (k2 ?_))
 refine A4 (D1 (E45 700 Z) Z (A6 ?_))
 refine k1 (k2 ?_)
 refine J3 (G63 701 UInt8 1 u8C 5 (kb:=700) (o:=1) Z Z Z) ?_
 refine A4 (Y8 (A23 (xs:=[]) (c:=34) ⟨⟨_,.inl rfl,rfl⟩,rfl⟩ (by simp)) Z Z Z ?_);rintro _ _ ⟨rfl,rfl⟩;refine A6 ?_
 refine k1 (k2 (k2 ?_))
 refine A4 (A2 (A3 Z Z) Z (A2 (K9 Z) Z (A2 (A3 Z Z) Z (A6 ?_))))
 refine k1 (k3 ?_)
 refine D9 (X:=Nat) (fun i=>([(0,P7 s),(5,.s (.one (.ref 700 0))),(26,C1 s.length),(27,C1 i)],[(700,.tbx 124 [.ref 700 0,.buf 701 UInt8 1 u8C (34::escs s i)]),(701,.spare (34::escs s i).length 1 5)])) (fun i=>i≤s.length) (fun i=>s.length - i) 0 (Nat.zero_le _) (G48 ⟨le1 rfl,le1 rfl,le1 rfl,le1 rfl,trivial⟩ ⟨rfl,rfl,trivial⟩) ?_
 intro i hi
 dsimp only at hi ⊢
 have hel:=E84 s i hi
 refine k2 ?_
 refine A4 (A2 (E9 Z Z) Z (A6 ?_))
 refine k1 (k2 ?_)
 refine B5 rfl (fun ht=>?_) (fun ht=>?_)
 ·have hlt:i < s.length:=by have:=A0 ht;omega
  have hv:s[i]?=some s[i]:=by simp [hlt]
  obtain ⟨c,hc⟩:∃c,c=s[i]:=⟨_,rfl⟩
  have h1:=D92 s i hlt
  have h2:=D91 c
  rw [←hc] at hv h1
  refine k5 (k1 (k2 (k3 (k2 ?_))))
  refine A4 (A2 (A3 Z Z) Z (A2 (A5 Z Z) Z (A6 ?_)))
  refine k1 ?_
  refine A4 (A2 (A3 Z Z) Z (A2 (A3 Z Z) Z (A2 (l7 Z Z (by omega) hv) Z (C8 (F16 c) Z Z Z ?_))));rintro _ rfl;refine Y8 (V2 (xs:=34::escs s i) (s:=X1 c) ⟨⟨_,.inr rfl,rfl⟩,rfl⟩ (by simp only [G81];omega)) Z Z Z ?_;rintro _ _ ⟨rfl,rfl⟩;refine A6 ?_
  refine k4 (k1 ?_)
  refine A4 (A2 (C0 Z Z (by omega)) Z (A2 (A3 Z Z) Z (A6 ?_)))
  refine k1 ?_
  refine ⟨i+1,hlt,by omega,?_⟩
  rw [h1]
  exact G48 ⟨le1 rfl,le1 rfl,le1 rfl,le1 rfl,trivial⟩ ⟨rfl,rfl,trivial⟩
 have hi':i=s.length:=by have:=A1 ht;omega
 subst hi'
 refine k6 (k2 ?_)
 refine A4 (Y8 (A23 (xs:=34::escs s s.length) (c:=34) ⟨⟨_,.inr rfl,rfl⟩,rfl⟩ (by simp only [G81];omega)) Z Z Z ?_);rintro _ _ ⟨rfl,rfl⟩;refine A6 ?_
 refine k1 (k2 ?_)
 refine A4 (D66 (k:=700) (k':=701) ⟨_,rfl,rfl,rfl⟩ B24 Z Z Z Z Z (.inr Z) Z (A2 (A5 Z Z) Z (A6 ?_)))
 refine k1 (k10 ?_)
 exact B6 (G4 rfl rfl rfl) (by rw [hq])
theorem D81 (s:Str) (c:UInt8):FnOk Tryz.prog 216 [K6 s,K6 [c]] (fun rs=>rs=[G2 (s.count c)]) :=
 G54 (xs:=[.string ⟨s.toArray⟩,.string ⟨#[c]⟩]) ⟨_,rfl,rfl,rfl⟩ rfl fun w=>by simpa [Lib.countByte] using Tryz.strings_Count_one ⟨s.toArray⟩ c w
theorem F82 (s:Str) (c:UInt8):FnOk Tryz.prog 246 [K6 s,K6 [c]] (fun rs=>rs=[G2 (Lib.indexByte s c)]) :=
 G54 (xs:=[.string ⟨s.toArray⟩,.string ⟨#[c]⟩]) ⟨_,rfl,rfl,rfl⟩ rfl fun w=>by simpa using Tryz.strings_Index_one ⟨s.toArray⟩ c w
theorem E64 (s:Str) (hs:s.length≤536870912):FnOk Tryz.prog 217 [K6 s,K6 [10],G2 1,G2 (-1)] (fun rs=>rs=[A09 (P8 s)]):=by
 have hP:=X2 s []
 have hc:s.count 10≤s.length:=List.count_le_length
 have h10:([10]:Str).length=1:=rfl
 obtain ⟨P,hPe⟩:∃P,P=P8 s:=⟨_,rfl⟩
 have hPl:P.length=s.count 10+1:=by rw [hPe];exact hP
 refine FnOk.intro Tryz.func217 (by decide) Z Z Z Z ?_
 refine k2 ?_
 refine A4 (A2 (A5 Z Z) Z (A6 ?_))
 refine k1 (k2 (k2 ?_))
 refine A4 (A2 (A3 Z Z) Z (A2 (I2 Z Z) Z (A6 ?_)))
 refine k1 ?_
 refine B5 rfl (fun ht=>?_) (fun ht=>?_)
 ·exact absurd (A0 ht) (by omega)
 refine k5 (k1 (k2 (k2 ?_)))
 refine A4 (A2 (A3 Z Z) Z (A2 (B00 Z Z) Z (A6 ?_)))
 refine k1 ?_
 refine B5 rfl (fun ht=>?_) (fun ht=>?_)
 ·exact absurd (A0 ht) (by simp)
 refine k5 (k1 (k2 (k2 ?_)))
 refine A4 (A2 (A3 Z Z) Z (A2 (E9 Z Z) Z (A6 ?_)))
 refine k1 ?_
 refine B5 rfl (fun ht=>?_) (fun ht=>?_)
 rotate_left
 ·exact absurd (A1 ht) (by omega)
 skip
 refine A4 (A2 (A3 Z Z) Z (A2 (A3 Z Z) Z (C8 (D81 s 10) Z Z Z ?_)));rintro _ rfl;refine A2 (C0 Z Z (by omega)) Z (A2 (A5 Z Z) Z (A6 ?_))
 refine k1 (k2 ?_)
 refine A4 (A2 (A3 Z Z) Z (A2 (A3 Z Z) Z (A2 (K9 Z) Z (A2 (C0 Z Z (by omega)) Z (A2 (C29 Z Z) Z (A2 (A5 Z Z) Z (A6 ?_)))))))
 refine k1 (k2 ?_)
 rw [show (if (s.length:Int)+1 < (s.count 10:Int)+1 then (s.length:Int)+1 else (s.count 10:Int)+1)=(P.length:Int) from by split<;>omega]
 refine A4 (A2 (A3 Z Z) Z (D1 (B65 9 Str I3 [] Z Z (by omega) (by omega) (fun _=>by first | exact ⟨⟨rfl,rfl⟩,trivial⟩ | exact ⟨U5 _ _ _,trivial⟩) (by first | rfl | (simp [H2,K8,Ob.free,SV.free,S1.free,TC.free]<;>rfl))) Z ?_));refine A2 (A5 Z Z) Z (A6 ?_)
 refine k1 (k2 ?_)
 refine A4 (A2 (A3 Z Z) Z (A2 (H8 Z Z (by omega)) Z (A2 (A5 Z Z) Z (A6 ?_))))
 refine k1 (k2 ?_)
 refine A4 (A2 (A5 Z Z) Z (A6 ?_))
 refine k1 (k2 (k3 ?_))
 refine D9 (X:=Nat × Str) (fun x=>([(0,P7 x.2),(1,P7 [10]),(2,C1 1),(3,C1 ((P.length:Int) - 1)),(9,.s (.one (.mut 9))),(10,C1 x.1)],[(9,.arr Str 1 I3 (P.take x.1++List.replicate (P.length - x.1) []))])) (fun x=>x.1+1≤P.length∧P.drop x.1=P8 x.2∧x.2.length≤s.length) (fun x=>P.length - x.1) (0,s) ⟨by dsimp only;omega,hPe,Nat.le_refl _⟩ (G48 ⟨le1 rfl,le1 rfl,le1 rfl,le1 rfl,le1 rfl,le1 rfl,trivial⟩ ⟨rfl,trivial⟩) ?_
 rintro ⟨i,r⟩ ⟨hi,hp,hr⟩
 dsimp only at hi hp hr ⊢
 refine k2 (k2 ?_)
 refine A4 (A2 (A3 Z Z) Z (A2 (A3 Z Z) Z (A2 (E9 Z Z) Z (A6 ?_))))
 refine k1 ?_
 refine B5 rfl (fun ht=>?_) (fun ht=>?_)
 ·have hlt:i+1 < P.length:=by have:=A0 ht;omega
  have hin:(10:UInt8)∈r:=by
   have h1:=X2 r []
   have h2:(P.drop i).length=r.count 10+1:=by rw [hp];exact h1
   rw [G92] at h2
   exact List.count_pos_iff.1 (by omega)
  rcases s8 10 r with ⟨h1,_⟩ | ⟨a,b,h1,h2,h3⟩
  ·exact absurd hin h1
  obtain ⟨h4,h5⟩:=F33 hp h1 h2
  have hl:r.length=a.length+1+b.length:=by rw [h1];simp;omega
  refine k5 (k1 (k3 (k2 ?_)))
  refine A4 (A2 (A3 Z Z) Z (A2 (A3 Z Z) Z (C8 (F82 r 10) Z Z Z ?_)));rintro _ rfl;refine A2 (A5 Z Z) Z (A6 ?_)
  refine k1 (k2 (k2 ?_))
  refine A4 (A2 (A3 Z Z) Z (A2 (E9 Z Z) Z (A6 ?_)))
  refine k1 ?_
  rw [h3]
  refine B5 rfl (fun ht=>?_) (fun ht=>?_)
  ·exact absurd (A0 ht) (by omega)
  refine k5 (k1 (k2 ?_))
  refine A4 (A2 (A3 Z Z) Z (A2 (A3 Z Z) Z (A2 (A3 Z Z) Z (A2 (A3 Z Z) Z (A2 (A3 Z Z) Z (A2 (C0 Z Z (by omega)) Z (A2 (E02 Z Z (by omega) (by omega)) Z (A2 (N5 Z Z Z (by omega) (by (simp;omega))) Z (F3 (M5 TySz.out Z Z (by simp;omega) Z Z) (A6 ?_))))))))))
  refine k1 (k2 ?_)
  refine A4 (A2 (A3 Z Z) Z (A2 (A3 Z Z) Z (A2 (A3 Z Z) Z (A2 (K9 Z) Z (A2 (C0 Z Z (by omega)) Z (A2 (n_sub_l Z Z (by omega) (by omega)) Z (A2 (A5 Z Z) Z (A6 ?_))))))))
  refine k1 ?_
  refine A4 (A2 (A3 Z Z) Z (A2 (C0 Z Z (by omega)) Z (A2 (A5 Z Z) Z (A6 ?_))))
  refine k4 (k1 ?_)
  have e1:r.take (((a.length:Int)+1).toNat)=a++[10]:=by rw [h1,show ((a.length:Int)+1).toNat=a.length+1 by omega,show a++10::b=(a++[10])++b by simp,List.take_left' (by simp)]
  have e2:r.drop (((a.length:Int)+(([10]:Str).length:Int)).toNat)=b:=by rw [h1,h10,show ((a.length:Int)+((1:Nat):Int)).toNat=a.length+1 by omega,show a++10::b=(a++[10])++b by simp,List.drop_left' (by simp)]
  refine ⟨(i+1,b),⟨by dsimp only;omega,h5,by dsimp only;omega⟩,by dsimp only;omega,?_⟩
  rw [e1,e2]
  dsimp only
  rw [←D93 P [] _ i h4]
  exact G48 ⟨le1 rfl,le1 rfl,le1 rfl,le1 rfl,le1 rfl,le1 rfl,trivial⟩ ⟨rfl,trivial⟩
 ·have hge:i+1=P.length:=by have:=A1 ht;omega
  have h1:=X2 r []
  have h2:(P.drop i).length=r.count 10+1:=by rw [hp];exact h1
  rw [G92] at h2
  have h3:(10:UInt8)∉r:=List.count_eq_zero.1 (by omega)
  have h4:P[i]?=some r:=by rw [←List.head?_drop,hp];unfold P8;rw [D54 _ _ h3];rfl
  refine k6 (k2 ?_)
  refine A4 (A2 (A3 Z Z) Z (A2 (A3 Z Z) Z (A2 (A3 Z Z) Z (A2 (N5 Z Z Z (by omega) (by (simp;omega))) Z (F3 (M5 TySz.out Z Z (by simp;omega) Z Z) (A6 ?_))))))
  refine k1 (k2 ?_)
  have e:(P.take i++List.replicate (P.length - i) ([]:Str)).set (i:Int).toNat r=P:=by rw [H01,D93 P [] r i h4,hge];simp
  rw [e]
  refine J3 (Sees.freeze (k:=9) Z) ?_
  refine A4 (A2 (A3 Z Z) Z (A2 (A3 Z Z) Z (A2 (C0 Z Z (by omega)) Z (A2 (D62 Z (.pure _ _ _ _) Z (by omega) (by omega)) Z (A2 (A5 Z Z) Z (A6 ?_))))))
  refine k1 (k10 ?_)
  exact B6 (G4 rfl rfl rfl) (by rw [show ((i:Int)+1).toNat=P.length by omega,G95,hPe])
theorem D43 (s:Str) (hs:s.length≤536870912):FnOk Tryz.prog 174 [K6 s,K6 [10]] (fun rs=>rs=[A09 (P8 s)]):=by
 refine FnOk.intro Tryz.func174 (by decide) Z Z Z Z ?_
 refine k2 ?_
 refine A4 (A2 (A5 Z Z) Z (A6 ?_))
 refine k1 (k2 ?_)
 refine A4 (A2 (A3 Z Z) Z (A2 (A3 Z Z) Z (A2 (A3 Z Z) Z (A2 (K9 Z) Z (C8 (E64 s hs) Z Z Z ?_)))));rintro _ rfl;refine A2 (A5 Z Z) Z (A6 ?_)
 refine k1 (k10 ?_)
 exact B6 (G4 rfl rfl rfl) rfl
theorem F83 (s:Str) (hs:s.length≤536870912):FnOk Tryz.prog 173 [K6 s] (fun rs=>rs=[G2 (U8 s)]):=by
 have hl:=D55 s
 have hc:s.count 10≤s.length:=List.count_le_length
 refine FnOk.intro Tryz.func173 (by decide) Z Z Z Z ?_
 refine k2 ?_
 refine A4 (A2 (A5 Z Z) Z (A6 ?_))
 refine k1 (k2 ?_)
 refine A4 (A2 (A3 Z Z) Z (C8 (D81 s 10) Z Z Z ?_));rintro _ rfl;refine A2 (A5 Z Z) Z (A6 ?_)
 refine I1 ?_
 refine j1 [(0,P7 s),(3,C1 (B7 s).length)] [] ?_ ?_
 ·refine k2 ?_
  refine A4 (A2 (A3 Z Z) Z (A2 (B01 Z Z) Z (A2 (A3 Z Z) Z (B0 Z Z Z Z (fun hg=>by rw [hg];exact A3 Z Z) ?_))));refine B0 Z Z Z Z (fun hg=>by have hq:=hg;(try simp at hq);rw [hg];exact F5 (B04 s (by omega)) Z Z) ?_;refine B0 Z Z Z Z (fun hg=>by rw [hg];exact J8 Z) ?_;refine A2 (B2 Z (fun h=>by first | rfl | (rw [h];rfl)) (fun h=>by first | rfl | (rw [h];rfl))) Z ?_;refine A6 ?_
  refine k1 ?_
  refine B5 rfl (fun ht=>?_) (fun ht=>?_)
  ·have h:s≠[]∧ended s=false:=by
    by_cases h1:s=[]
    ·simp [h1] at ht
    ·refine ⟨h1,?_⟩;simpa [h1] using ht
   rw [if_pos h] at hl
   skip
   refine A4 (A2 (A3 Z Z) Z (A2 (C0 Z Z (by omega)) Z (A2 (A5 Z Z) Z (A6 ?_))))
   refine k1 ?_
   rw [hl,H18]
   exact G48 ⟨le1 rfl,le1 rfl,trivial⟩ trivial
  ·have h:¬(s≠[]∧ended s=false):=by
    rintro ⟨h1,h2⟩
    simp [h1,h2] at ht
   rw [if_neg h] at hl
   refine k5 (k1 ?_)
   rw [hl]
   exact G48 ⟨le1 rfl,le1 rfl,trivial⟩ trivial
 ·refine k2 (k2 ?_)
  refine A4 (A2 (A3 Z Z) Z (A2 (K9 Z) Z (A2 (N7 Z Z) Z (A2 (A3 Z Z) Z (B0 Z Z Z Z (fun hg=>by rw [hg];exact A3 Z Z) ?_)))));refine B0 Z Z Z Z (fun hg=>by rw [hg];exact N7 Z Z) ?_;refine A2 (B2 Z (fun h=>by first | rfl | (rw [h];rfl)) (fun h=>by first | rfl | (rw [h];rfl))) Z ?_;refine A6 ?_
  refine k1 ?_
  refine B5 rfl (fun ht=>?_) (fun ht=>?_)
  ·have h:=A0 (or_pick.symm.trans ht)
   refine k2 ?_
   refine A4 (A2 (A5 Z Z) Z (A6 ?_))
   refine k1 (k10 (k11 ?_))
   exact B6 (G4 rfl rfl rfl) (by rw [U8,if_pos (by omega)])
  ·have h:=A1 (or_pick.symm.trans ht)
   refine k5 (k1 (k2 ?_))
   refine A4 (A2 (A5 Z Z) Z (A6 ?_))
   refine k1 (k10 ?_)
   exact B6 (G4 rfl rfl rfl) (by rw [U8,if_neg (by omega)])
theorem D82 (s:Str) (hs:s.length≤536870912):FnOk Tryz.prog 107 [K6 s] (fun rs=>rs=[A09 (K0 s).1,G2 (K0 s).2]):=by
 have hp:B7 s=if (P8 s).getLastD []=[] then (P8 s).dropLast else P8 s:=E85 s []
 have hc:(P8 s).length=s.count 10+1:=X2 s []
 have hcl:s.count 10≤s.length:=List.count_le_length
 refine FnOk.intro Tryz.func107 (by decide) Z Z Z Z ?_
 refine k2 ?_
 refine A4 (A2 (A5 Z Z) Z (A2 (A5 Z Z) Z (A6 ?_)))
 refine k1 (k2 (k2 ?_))
 refine A4 (A2 (A3 Z Z) Z (C8 (F83 s hs) Z Z Z ?_));rintro _ rfl;refine A2 (A5 Z Z) Z (A6 ?_)
 refine k1 (k2 ?_)
 refine A4 (A2 (A3 Z Z) Z (A2 (J0 Z Z) Z (A6 ?_)))
 refine k1 ?_
 refine B5 rfl (fun ht=>?_) (fun ht=>?_)
 ·have h:U8 s≠0:=by simpa using ht
  have h1:s.length > 1048576∨(B7 s).length > 4096:=by
   by_cases h1:s.length > 1048576∨(B7 s).length > 4096
   ·exact h1
   ·exact absurd (by rw [U8,if_neg h1]) h
  refine k2 ?_
  refine A4 (A2 (A3 Z Z) Z (A2 (X5 _ 1 I3) Z (A2 (A5 Z Z) Z (A6 ?_))))
  refine k1 (k10 (k11 ?_))
  exact B6 (x7 rfl rfl rfl rfl rfl) (by rw [K0,if_pos h1,U8,if_pos h1])
 ·have h:U8 s=0:=by simpa using ht
  have h1:¬(s.length > 1048576∨(B7 s).length > 4096):=fun h1=>by rw [U8,if_pos h1] at h;omega
  have hv:(P8 s)[(P8 s).length - 1]?=some ((P8 s).getLastD []):=by
   rw [←List.getLast?_eq_getElem?,List.getLast?_eq_some_getLast (fun e=>by rw [e] at hc;simp at hc)]
   rw [List.getLastD_eq_getLast?,List.getLast?_eq_some_getLast (fun e=>by rw [e] at hc;simp at hc)];rfl
  have hi:(((P8 s).length:Int) - 1).toNat=(P8 s).length - 1:=by omega
  refine k5 (k1 (k2 ?_))
  refine A4 (A2 (A3 Z Z) Z (C8 (D43 s hs) Z Z Z ?_));rintro _ rfl;refine A2 (A5 Z Z) Z (A6 ?_)
  refine I1 ?_
  refine j1 [(5,C4 Str 1 I3 (B7 s))] [] ?_ ?_
  ·refine k2 ?_
   refine A4 (A2 (A3 Z Z) Z (A2 (A3 Z Z) Z (A2 (E0 Z (.pure _ _ _ _)) Z (A2 (H8 Z Z (by omega)) Z (A2 (B1 Z (.pure _ _ _ _) Z (by omega) (by rw [hi];exact hv)) Z ?_)))));refine A2 (B3 Z Z) Z (A2 (B00 Z Z) Z (A6 ?_))
   refine k1 ?_
   refine B5 rfl (fun ht=>?_) (fun ht=>?_)
   ·have h2:=A0 ht
    skip
    refine A4 (A2 (A3 Z Z) Z (A2 (A3 Z Z) Z (A2 (E0 Z (.pure _ _ _ _)) Z (A2 (H8 Z Z (by omega)) Z (A2 (D62 Z (.pure _ _ _ _) Z (by omega) (by omega)) Z (A2 (A5 Z Z) Z (A6 ?_)))))))
    refine k1 ?_
    rw [hp,if_pos h2,List.dropLast_eq_take,←hi]
    exact G48 ⟨le1 rfl,trivial⟩ trivial
   ·have h2:=A1 ht
    refine k5 (k1 ?_)
    rw [hp,if_neg h2]
    exact G48 ⟨le1 rfl,trivial⟩ trivial
  ·refine k2 ?_
   refine A4 (A2 (A3 Z Z) Z (A2 (A5 Z Z) Z (A2 (A5 Z Z) Z (A6 ?_))))
   refine k1 (k10 ?_)
   exact B6 (x7 rfl rfl rfl rfl rfl) (by rw [K0,if_neg h1])
theorem B05 (s:Str) (hs:s.length≤536870912):FnOk Tryz.prog 119 [K6 s] (fun rs=>rs=[A09 (K0 s).1,G2 (K0 s).2]):=by
 refine FnOk.intro Tryz.func119 (by decide) Z Z Z Z ?_
 refine k2 ?_
 refine A4 (A2 (A5 Z Z) Z (A2 (A5 Z Z) Z (A6 ?_)))
 refine k1 (k2 (k2 ?_))
 refine A4 (A2 (A3 Z Z) Z (C8 (G26 s (by omega)) Z Z Z ?_));rintro _ rfl;refine A2 (J0 Z Z) Z (A6 ?_)
 refine k1 ?_
 refine B5 rfl (fun ht=>?_) (fun ht=>?_)
 ·have h:U8 s≠0:=by simpa using ht
  have h1:s.length > 1048576∨(B7 s).length > 4096:=by
   by_cases h1:s.length > 1048576∨(B7 s).length > 4096
   ·exact h1
   ·exact absurd (by rw [U8,if_neg h1]) h
  refine k2 ?_
  refine A4 (A2 (X5 _ 1 I3) Z (A2 (A5 Z Z) Z (A6 ?_)))
  refine k1 (k10 (k11 ?_))
  exact B6 (x7 rfl rfl rfl rfl rfl) (by rw [K0,if_pos h1])
 ·have h:U8 s=0:=by simpa using ht
  have h1:¬(s.length > 1048576∨(B7 s).length > 4096):=fun h1=>by rw [U8,if_pos h1] at h;omega
  refine k5 (k1 (k2 ?_))
  refine A4 (A2 (A3 Z Z) Z (C8 (D00 s (by omega)) Z Z Z ?_));rintro _ rfl;refine A2 (A5 Z Z) Z (A2 (A5 Z Z) Z (A6 ?_))
  refine k1 (k10 ?_)
  exact B6 (x7 rfl rfl rfl rfl rfl) (by rw [K0,if_neg h1])
theorem C11 (n:Int):FnOk Tryz.prog 229 [G2 n] (fun rs=>rs=[O4 (decide (F7 n))]):=by
 refine FnOk.intro Tryz.func229 (by decide) Z Z Z Z ?_
 refine k2 ?_
 refine A4 (A2 (A5 Z Z) Z (A6 ?_))
 refine k1 (k2 ?_)
 refine A4 (A2 (A3 Z Z) Z (A2 (x5 Z Z) Z (A2 (A3 Z Z) Z (B0 Z Z Z Z (fun hg=>by rw [hg];exact A3 Z Z) ?_))));refine B0 Z Z Z Z (fun hg=>by rw [hg];exact A28 Z Z) ?_;refine A2 (B2 Z (fun h=>by first | rfl | (rw [h];rfl)) (fun h=>by first | rfl | (rw [h];rfl))) Z ?_;refine A2 (A5 Z Z) Z (A6 ?_)
 refine k1 (k10 ?_)
 refine B6 (G4 Z Z Z) ?_
 simp only [I9]
 rfl
theorem C33 (l:List Change) (m n:Int) (hl:l.length≤1073741824):FnOk Tryz.prog 185 [pChanges l,G2 m,G2 n] (fun rs=>rs=[G2 (P4 l m n)]):=by
 refine FnOk.intro Tryz.func185 (by decide) Z Z Z Z ?_
 refine k2 ?_
 refine A4 (A2 (A5 Z Z) Z (A6 ?_))
 refine k1 (k2 (k2 ?_))
 refine A4 (A2 (A3 Z Z) Z (C8 (C11 m) Z Z Z ?_));rintro _ rfl;refine A2 (J8 Z) Z (A2 (A3 Z Z) Z (B0 Z Z Z Z (fun hg=>by rw [hg];exact A3 Z Z) ?_));refine B0 Z Z Z Z (fun hg=>by have hq:=hg;(try simp at hq);rw [hg];exact F5 (C11 n) Z Z) ?_;refine B0 Z Z Z Z (fun hg=>by rw [hg];exact J8 Z) ?_;refine A2 (B2 Z (fun h=>by first | rfl | (rw [h];rfl)) (fun h=>by first | rfl | (rw [h];rfl))) Z ?_;refine A6 ?_
 refine k1 ?_
 refine B5 rfl (fun ht=>?_) (fun ht=>?_)
 ·simp only [←decide_not,or_pick] at ht
  have h:¬F7 m∨¬F7 n:=A0 ht
  refine k2 ?_
  refine A4 (A2 (A5 Z Z) Z (A6 ?_))
  refine k1 (k10 (k11 ?_))
  exact B6 (G4 rfl rfl rfl) (by rw [P4,if_pos h])
 simp only [←decide_not,or_pick] at ht
 have h:¬(¬F7 m∨¬F7 n):=A1 ht
 have hm:0≤m∧m≤4096:=by by_cases hm:F7 m;exact hm;exact absurd (.inl hm) h
 have hn:0≤n∧n≤4096:=by by_cases hn:F7 n;exact hn;exact absurd (.inr hn) h
 refine k5 (k1 (k2 ?_))
 refine A4 (A2 (A5 Z Z) Z (A2 (A5 Z Z) Z (A6 ?_)))
 refine k1 (k2 (k2 ?_))
 refine A4 (A2 (A5 Z Z) Z (A6 ?_))
 refine k1 (k3 ?_)
 refine D9 (X:=Nat × Int × Int) (fun x=>([(0,C4 Change 4 changeC l),(1,C1 m),(2,C1 n),(7,C1 x.2.1),(8,C1 x.2.2),(9,C1 x.1)],[])) (fun x=>x.1≤l.length∧I4 0 0 0 l m n=I4 x.1 x.2.1 x.2.2 (l.drop x.1) m n∧0≤x.2.1∧x.2.1≤8192∧0≤x.2.2∧x.2.2≤8192) (fun x=>l.length - x.1) (0,0,0) ⟨Nat.zero_le _,rfl,by decide,by decide,by decide,by decide⟩ (G48 ⟨le1 rfl,le1 rfl,le1 rfl,le1 rfl,le1 rfl,le1 rfl,trivial⟩ trivial) ?_
 rintro ⟨k,i,j⟩ ⟨hk,hp,hi,hi2,hj,hj2⟩
 dsimp only at hk hp hi hi2 hj hj2 ⊢
 refine k2 (k2 ?_)
 refine A4 (A2 (A3 Z Z) Z (A2 (A3 Z Z) Z (A2 (E0 Z (.pure _ _ _ _)) Z (A2 (E9 Z Z) Z (A6 ?_)))))
 refine k1 ?_
 refine B5 rfl (fun ht=>?_) (fun ht=>?_)
 ·have hlt:k < l.length:=by have:=A0 ht;omega
  have hv:l[k]?=some l[k]:=by simp [hlt]
  obtain ⟨c,hc⟩:∃c,c=l[k]:=⟨_,rfl⟩
  rw [G86 hlt,I4] at hp
  rw [←hc] at hv hp
  refine k5 (k1 (k2 (k3 (k2 ?_))))
  refine A4 (A2 (A3 Z Z) Z (A2 (A3 Z Z) Z (A2 (B1 Z (.pure _ _ _ _) Z (by omega) hv) Z (A2 (E3 Z Z) Z (D1 (G5 10 Z) Z (F3 (B9 TySz.out Z Z Z Z Z Z) (A6 ?_)))))))
  refine k1 (k2 (k2 ?_))
  refine A4 (A2 (A8 Z) Z (A2 (A9 Z Z Z) Z (C8 (C11 c.Old) Z Z Z ?_)));rintro _ rfl;refine A2 (J8 Z) Z (A2 (A3 Z Z) Z (B0 Z Z Z Z (fun hg=>by rw [hg];exact A8 Z) ?_));refine B0 Z Z Z Z (fun hg=>by rw [hg];exact A9 Z Z Z) ?_;refine B0 Z Z Z Z (fun hg=>by have hq:=hg;(try simp at hq);rw [hg];exact F5 (C11 c.OldLen) Z Z) ?_;refine B0 Z Z Z Z (fun hg=>by rw [hg];exact J8 Z) ?_;refine A2 (B2 Z (fun h=>by first | rfl | (rw [h];rfl)) (fun h=>by first | rfl | (rw [h];rfl))) Z ?_;refine A2 (A3 Z Z) Z (B0 Z Z Z Z (fun hg=>by rw [hg];exact A8 Z) ?_);refine B0 Z Z Z Z (fun hg=>by rw [hg];exact A9 Z Z Z) ?_;refine B0 Z Z Z Z (fun hg=>by have hq:=hg;(try simp at hq);rw [hg];exact F5 (C11 c.New) Z Z) ?_;refine B0 Z Z Z Z (fun hg=>by rw [hg];exact J8 Z) ?_;refine A2 (B2 Z (fun h=>by first | rfl | (rw [h];rfl)) (fun h=>by first | rfl | (rw [h];rfl))) Z ?_;refine A2 (A3 Z Z) Z (B0 Z Z Z Z (fun hg=>by rw [hg];exact A8 Z) ?_);refine B0 Z Z Z Z (fun hg=>by rw [hg];exact A9 Z Z Z) ?_;refine B0 Z Z Z Z (fun hg=>by have hq:=hg;(try simp at hq);rw [hg];exact F5 (C11 c.NewLen) Z Z) ?_;refine B0 Z Z Z Z (fun hg=>by rw [hg];exact J8 Z) ?_;refine A2 (B2 Z (fun h=>by first | rfl | (rw [h];rfl)) (fun h=>by first | rfl | (rw [h];rfl))) Z ?_;refine A2 (A3 Z Z) Z (B0 Z Z Z Z (fun hg=>by rw [hg];exact A8 Z) ?_);refine B0 Z Z Z Z (fun hg=>by rw [hg];exact A9 Z Z Z) ?_;refine B0 Z Z Z Z (fun hg=>by rw [hg];exact A8 Z) ?_;refine B0 Z Z Z Z (fun hg=>by rw [hg];exact A9 Z Z Z) ?_;refine B0 Z Z Z Z (fun hg=>by have hq:=hg;(try simp at hq);simp [F7] at hq;rw [hg];exact C0 Z Z (by omega)) ?_;refine B0 Z Z Z Z (fun hg=>by rw [hg];exact I2 Z Z) ?_;refine A2 (B2 Z (fun h=>by first | rfl | (rw [h];rfl)) (fun h=>by first | rfl | (rw [h];rfl))) Z ?_;refine A2 (A3 Z Z) Z (B0 Z Z Z Z (fun hg=>by rw [hg];exact A8 Z) ?_);refine B0 Z Z Z Z (fun hg=>by rw [hg];exact A9 Z Z Z) ?_;refine B0 Z Z Z Z (fun hg=>by rw [hg];exact A3 Z Z) ?_;refine B0 Z Z Z Z (fun hg=>by have hq:=hg;(try simp at hq);simp [F7] at hq;rw [hg];exact H8 Z Z (by omega)) ?_;refine B0 Z Z Z Z (fun hg=>by rw [hg];exact A8 Z) ?_
  refine B0 Z Z Z Z (fun hg=>by rw [hg];exact A9 Z Z Z) ?_;refine B0 Z Z Z Z (fun hg=>by rw [hg];exact A3 Z Z) ?_;refine B0 Z Z Z Z (fun hg=>by have hq:=hg;(try simp at hq);simp [F7] at hq;rw [hg];exact H8 Z Z (by omega)) ?_;refine B0 Z Z Z Z (fun hg=>by rw [hg];exact J0 Z Z) ?_;refine A2 (B2 Z (fun h=>by first | rfl | (rw [h];rfl)) (fun h=>by first | rfl | (rw [h];rfl))) Z ?_;refine A2 (A3 Z Z) Z (B0 Z Z Z Z (fun hg=>by rw [hg];exact A8 Z) ?_);refine B0 Z Z Z Z (fun hg=>by rw [hg];exact A9 Z Z Z) ?_;refine B0 Z Z Z Z (fun hg=>by rw [hg];exact A3 Z Z) ?_;refine B0 Z Z Z Z (fun hg=>by rw [hg];exact E9 Z Z) ?_;refine A2 (B2 Z (fun h=>by first | rfl | (rw [h];rfl)) (fun h=>by first | rfl | (rw [h];rfl))) Z ?_;refine A2 (A3 Z Z) Z (B0 Z Z Z Z (fun hg=>by rw [hg];exact A3 Z Z) ?_);refine B0 Z Z Z Z (fun hg=>by rw [hg];exact N7 Z Z) ?_;refine B0 Z Z Z Z (fun hg=>by rw [hg];exact A3 Z Z) ?_;refine i6 Z Z Z (.gd (.val _)) Z (fun hg=>by obtain ⟨hg1,hg2⟩:=E06 hg;(try rw [hg1]);(try rw [hg2]);exact A8 Z) ?_;refine i6 Z Z Z (.gd (.val _)) Z (fun hg=>by obtain ⟨hg1,hg2⟩:=E06 hg;(try rw [hg1]);(try rw [hg2]);exact A9 Z Z Z) ?_;refine i6 Z Z Z (.gd (.val _)) Z (fun hg=>by obtain ⟨hg1,hg2⟩:=E06 hg;(try rw [hg1]);(try rw [hg2]);exact A3 Z Z) ?_;refine i6 Z Z Z (.gd (.val _)) Z (fun hg=>by obtain ⟨hg1,hg2⟩:=E06 hg;(try rw [hg1]);(try rw [hg2]);exact I2 Z Z) ?_;refine B0 Z Z Z Z (fun hg=>by rw [hg];exact B2 Z (fun h=>by first | rfl | (rw [h];rfl)) (fun h=>by first | rfl | (rw [h];rfl))) ?_;refine A2 (B2 Z (fun h=>by first | rfl | (rw [h];rfl)) (fun h=>by first | rfl | (rw [h];rfl))) Z ?_;refine A6 ?_
  refine k1 ?_
  refine B5 rfl (fun ht=>?_) (fun ht=>?_)
  ·simp only [←decide_not,or_pick,I9] at ht
   have h:B84 k i j c:=A0 ht
   refine k2 ?_
   refine A4 (A2 (A5 Z Z) Z (A6 ?_))
   refine k1 (k10 (k11 (k12 (k11 (k11 (k12 (k11 ?_)))))))
   exact B6 (G4 rfl rfl rfl) (by rw [P4,if_neg ‹¬(¬F7 m∨¬F7 n)›,hp,decide_eq_false (fun hh=>hh h)];rfl)
  ·simp only [←decide_not,or_pick,I9] at ht
   have h:¬B84 k i j c:=A1 ht
   have hr:(0≤c.Old∧c.Old≤4096)∧(0≤c.OldLen∧c.OldLen≤4096)∧(0≤c.New∧c.New≤4096)∧(0≤c.NewLen∧c.NewLen≤4096):=by
    unfold B84 at h
    by_cases a1:F7 c.Old<;>by_cases a2:F7 c.OldLen<;>by_cases a3:F7 c.New<;>by_cases a4:F7 c.NewLen<;>simp [a1,a2,a3,a4] at h
    exact ⟨a1,a2,a3,a4⟩
   rw [decide_eq_true h,Bool.true_and] at hp
   refine k5 (k1 ?_)
   refine C5 (by kernel_rfl) (by kernel_rfl) (A7 (A8 Z) Z Z (A7 (A9 Z Z Z) Z Z (A7 (A8 Z) Z Z (A7 (A9 Z Z Z) Z Z (A7 (C0 Z Z (by omega)) Z Z (A7 (A8 Z) Z Z (A7 (A9 Z Z Z) Z Z (A7 (A8 Z) Z Z (A7 (A9 Z Z Z) Z Z (A7 (C0 Z Z (by omega)) Z Z (A7 (A5 Z Z) Z Z (A7 (A5 Z Z) Z Z (F4 ?_)))))))))))))
   refine k4 (k1 ?_)
   refine A4 (A2 (A3 Z Z) Z (A2 (C0 Z Z (by omega)) Z (A2 (A5 Z Z) Z (A6 ?_))))
   refine k1 ?_
   exact ⟨(k+1,c.Old+c.OldLen,c.New+c.NewLen),⟨by dsimp only;omega,hp,by dsimp only;omega,by dsimp only;omega,by dsimp only;omega,by dsimp only;omega⟩,by dsimp only;omega,G48 ⟨le1 rfl,le1 rfl,le1 rfl,le1 rfl,le1 rfl,le1 rfl,trivial⟩ trivial⟩
 ·have hk':k=l.length:=by have:=A1 ht;omega
  rw [hk',G84 (Nat.le_refl _),I4] at hp
  refine k6 (k2 (k2 ?_))
  refine A4 (A2 (A3 Z Z) Z (A2 (A3 Z Z) Z (A2 (H8 Z Z (by omega)) Z (A2 (A3 Z Z) Z (A2 (A3 Z Z) Z (A2 (H8 Z Z (by omega)) Z (A2 (J0 Z Z) Z (A2 (A3 Z Z) Z (B0 Z Z Z Z (fun hg=>by rw [hg];exact A3 Z Z) ?_)))))))));refine B0 Z Z Z Z (fun hg=>by rw [hg];exact A3 Z Z) ?_;refine B0 Z Z Z Z (fun hg=>by rw [hg];exact E9 Z Z) ?_;refine A2 (B2 Z (fun h=>by first | rfl | (rw [h];rfl)) (fun h=>by first | rfl | (rw [h];rfl))) Z ?_;refine A6 ?_
  refine k1 ?_
  refine B5 rfl (fun ht=>?_) (fun ht=>?_)
  ·have h2:=A0 (or_pick.symm.trans ht)
   refine k2 ?_
   refine A4 (A2 (A5 Z Z) Z (A6 ?_))
   refine k1 (k10 (k11 ?_))
   exact B6 (G4 rfl rfl rfl) (by rw [P4,if_neg h,hp,decide_eq_false (fun hh=>hh h2)];rfl)
  ·have h2:=A1 (or_pick.symm.trans ht)
   refine k5 (k1 (k2 ?_))
   refine A4 (A2 (A5 Z Z) Z (A6 ?_))
   refine k1 (k10 ?_)
   exact B6 (G4 rfl rfl rfl) (by rw [P4,if_neg h,hp,decide_eq_true h2];rfl)
theorem D01 (l:List Change) (m n ctx:Int) (hl:l.length≤1073741824):FnOk Tryz.prog 122 [pChanges l,G2 m,G2 n,G2 ctx] (fun rs=>rs=[pHunks (P0 l m n ctx).1,G2 (P0 l m n ctx).2]):=by
 refine FnOk.intro Tryz.func122 (by decide) Z Z Z Z ?_
 refine k2 ?_
 refine A4 (A2 (A5 Z Z) Z (A2 (A5 Z Z) Z (A6 ?_)))
 refine k1 (k2 (k2 ?_))
 refine A4 (A2 (A3 Z Z) Z (A2 (E9 Z Z) Z (A2 (A3 Z Z) Z (B0 Z Z Z Z (fun hg=>by rw [hg];exact A3 Z Z) ?_))));refine B0 Z Z Z Z (fun hg=>by rw [hg];exact N7 Z Z) ?_;refine A2 (B2 Z (fun h=>by first | rfl | (rw [h];rfl)) (fun h=>by first | rfl | (rw [h];rfl))) Z ?_;refine A6 ?_
 refine k1 ?_
 refine B5 rfl (fun ht=>?_) (fun ht=>?_)
 ·have h:=A0 (or_pick.symm.trans ht)
  refine k2 ?_
  refine A4 (A2 (X5 _ 6 hunkC) Z (A2 (A5 Z Z) Z (A6 ?_)))
  refine k1 (k10 (k11 ?_))
  exact B6 (x7 rfl rfl rfl rfl rfl) (by rw [P0,if_pos (by omega)])
 have h:=A1 (or_pick.symm.trans ht)
 refine k5 (k1 (k2 (k2 ?_)))
 refine A4 (A2 (A3 Z Z) Z (A2 (A3 Z Z) Z (A2 (A3 Z Z) Z (C8 (C33 l m n hl) Z Z Z ?_))));rintro _ rfl;refine A2 (A5 Z Z) Z (A6 ?_)
 refine k1 (k2 ?_)
 refine A4 (A2 (A3 Z Z) Z (A2 (J0 Z Z) Z (A6 ?_)))
 refine k1 ?_
 refine B5 rfl (fun ht=>?_) (fun ht=>?_)
 ·have h1:P4 l m n≠0:=A0 ht
  refine k2 ?_
  refine A4 (A2 (A3 Z Z) Z (A2 (X5 _ 6 hunkC) Z (A2 (A5 Z Z) Z (A6 ?_))))
  refine k1 (k10 (k11 ?_))
  exact B6 (x7 rfl rfl rfl rfl rfl) (by rw [P0,if_neg (by omega),if_pos h1])
 have h1:P4 l m n=0:=by simpa using ht
 obtain ⟨hm,hn,hs⟩:=A37 h1
 unfold F7 at hm hn
 refine k5 (k1 (k2 ?_))
 refine O5 [(0,C4 Change 4 changeC l),(1,C1 m),(2,C1 n),(3,C1 ctx)] [] (G48 ⟨le1 rfl,le1 rfl,le1 rfl,le1 rfl,trivial⟩ trivial) ?_
 refine A4 (D1 (G17 11 _ hunkC Z) Z (A6 ?_))
 refine k1 (k2 (k2 ?_))
 refine A4 (A2 (A5 Z Z) Z (A6 ?_))
 refine k1 (k3 ?_)
 refine D9 (X:=Nat) (fun k=>([(0,C4 Change 4 changeC l),(1,C1 m),(3,C1 ctx),(11,.s (.one (.mut 11))),(12,C1 k)],[(11,.grow 175 Hunk 6 hunkC (F2 l m ctx k))])) (fun k=>k≤l.length) (fun k=>l.length - k) 0 (Nat.zero_le _) (G48 ⟨le1 rfl,le1 rfl,le1 rfl,le1 rfl,le1 rfl,trivial⟩ ⟨rfl,trivial⟩) ?_
 intro k hk
 dsimp only at hk ⊢
 have hgl:=U3 l m ctx k
 refine k2 (k2 ?_)
 refine A4 (A2 (A3 Z Z) Z (A2 (A3 Z Z) Z (A2 (E0 Z (.pure _ _ _ _)) Z (A2 (E9 Z Z) Z (A6 ?_)))))
 refine k1 ?_
 refine B5 rfl (fun ht=>?_) (fun ht=>?_)
 ·have hlt:k < l.length:=by have:=A0 ht;omega
  have hv:l[k]?=some (cAt l k):=S8 hlt
  obtain ⟨⟨g1,g2⟩,⟨g3,g4⟩,⟨g5,g6⟩,⟨g7,g8⟩,g9,g10⟩:=hs.get k hlt
  refine C67 ?_
  refine I1 ?_
  refine c_seq ?_
  refine F47 ?_
  refine j1 [(0,C4 Change 4 changeC l),(1,C1 m),(3,C1 ctx),(11,.s (.one (.mut 11))),(12,C1 k)] [(11,.grow 175 Hunk 6 hunkC (O9 l ctx k (F2 l m ctx k)))] ?_ ?_
  ·refine k2 ?_
   have hp1:k≠0→l[((k:Int) - 1).toNat]?=some (cAt l (k - 1))∧(0≤(cAt l (k - 1)).Old∧(cAt l (k - 1)).Old≤4096)∧0≤(cAt l (k - 1)).OldLen∧(cAt l (k - 1)).OldLen≤4096:=fun hk0=>by
    have:=hs.get (k - 1) (by omega)
    refine ⟨?_,this.1,this.2.1⟩
    rw [show ((k:Int) - 1).toNat=k - 1 by omega];exact S8 (by omega)
   refine C5 (by kernel_rfl) (by kernel_rfl) (A7 (A3 Z Z) Z Z (A7 (I2 Z Z) Z Z (A7 (A3 Z Z) Z Z (B4 Z Z (fun hg=>by rw [hg];exact A3 Z Z) Z Z ?_))));refine B4 Z Z (fun hg=>by rw [hg];exact A3 Z Z) Z Z ?_;refine B4 Z Z (fun hg=>by have hq:=hg;(try simp at hq);rw [hg];exact B1 Z (.pure _ _ _ _) Z (by omega) hv) Z Z ?_;refine B4 Z Z (fun hg=>by rw [hg];exact B8 Z) Z Z ?_;refine B4 Z Z (fun hg=>by rw [hg];exact B3 Z Z) Z Z ?_;refine B4 Z Z (fun hg=>by rw [hg];exact A3 Z Z) Z Z ?_;refine B4 Z Z (fun hg=>by rw [hg];exact A3 Z Z) Z Z ?_;refine B4 Z Z (fun hg=>by have hq:=hg;(try simp at hq);rw [hg];exact H8 Z Z (by omega)) Z Z ?_;refine B4 Z Z (fun hg=>by have hq:=hg;(try simp at hq);rw [hg];exact B1 Z (.pure _ _ _ _) Z (by omega) (hp1 (by simpa using hq)).1) Z Z ?_;refine B4 Z Z (fun hg=>by rw [hg];exact B8 Z) Z Z ?_;refine B4 Z Z (fun hg=>by rw [hg];exact B3 Z Z) Z Z ?_;refine B4 Z Z (fun hg=>by have hq:=hg;(try simp at hq);have hp2:=hp1 (by simpa using hq);rw [hg];exact H8 Z Z (by omega)) Z Z ?_;refine B4 Z Z (fun hg=>by rw [hg];exact A3 Z Z) Z Z ?_;refine B4 Z Z (fun hg=>by rw [hg];exact A3 Z Z) Z Z ?_;refine B4 Z Z (fun hg=>by have hq:=hg;(try simp at hq);rw [hg];exact H8 Z Z (by omega)) Z Z ?_;refine B4 Z Z (fun hg=>by have hq:=hg;(try simp at hq);rw [hg];exact B1 Z (.pure _ _ _ _) Z (by omega) (hp1 (by simpa using hq)).1) Z Z ?_;refine B4 Z Z (fun hg=>by rw [hg];exact B8 Z) Z Z ?_;refine B4 Z Z (fun hg=>by rw [hg];exact B3 Z Z) Z Z ?_;refine B4 Z Z (fun hg=>by have hq:=hg;(try simp at hq);have hp2:=hp1 (by simpa using hq);rw [hg];exact H8 Z Z (by omega)) Z Z ?_;refine B4 Z Z (fun hg=>by rw [hg];exact A3 Z Z) Z Z ?_;refine B4 Z Z (fun hg=>by have hq:=hg;(try simp at hq);rw [hg];exact B57 Z Z (by omega)) Z Z ?_;refine B4 Z Z (fun hg=>by rw [hg];exact N7 Z Z) Z Z ?_;refine A7 (B2 Z (fun h=>by first | rfl | (rw [h];rfl)) (fun h=>by first | rfl | (rw [h];rfl))) Z Z ?_;refine F4 ?_
   refine k1 ?_
   refine B5 rfl (fun ht=>?_) (fun ht=>?_)
   ·have h2:=A0 (or_pick.symm.trans ht)
    have ho:opens l ctx k:=by unfold opens;omega
    have hmin:0≤T5 ctx (cAt l k).Old∧T5 ctx (cAt l k).Old≤(cAt l k).Old:=by unfold T5;split<;>omega
    refine k2 ?_
    refine A4 (A2 (A3 Z Z) Z (A2 (A3 Z Z) Z (A2 (A3 Z Z) Z (A2 (B1 Z (.pure _ _ _ _) Z (by omega) hv) Z (A2 (B8 Z) Z (A2 (B3 Z Z) Z (A2 (C29 Z Z) Z (A2 (A5 Z Z) Z (A6 ?_)))))))))
    rw [show (if (cAt l k).Old < ctx then (cAt l k).Old else ctx)=T5 ctx (cAt l k).Old from rfl]
    refine k1 ?_
    refine C5 (by kernel_rfl) (by kernel_rfl) (A7 (A3 Z Z) Z Z (A7 (A3 Z Z) Z Z (A7 (A3 Z Z) Z Z (A7 (A3 Z Z) Z Z (A7 (B1 Z (.pure _ _ _ _) Z (by omega) hv) Z Z (A7 (B8 Z) Z Z (A7 (B3 Z Z) Z Z (A7 (A3 Z Z) Z Z (A7 (H8 Z Z (by omega)) Z Z (A7 (I6 Z) Z Z (A7 (A3 Z Z) Z Z (A7 (A3 Z Z) Z Z (A7 (B1 Z (.pure _ _ _ _) Z (by omega) hv) Z Z (A7 (B8 Z) Z Z (A7 (B3 Z Z) Z Z (A7 (A3 Z Z) Z Z (A7 (H8 Z Z (by omega)) Z Z (A7 (I6 Z) Z Z (A7 (I6 Z) Z Z (A7 (D8 (c:=hunkC) (ys:=[R3 l ctx k]) (E5 Z Z Z Z G8) Z Z Z) Z Z (C76 (x9 Z Z Z (.pure _ _ _ _) (by simp;omega) Z) Z Z (A7 (A5 Z Z) Z Z (F4 ?_)))))))))))))))))))))))
    refine k1 ?_
    rw [O9,if_pos ho]
    exact G48 ⟨le1 rfl,le1 rfl,le1 rfl,le1 rfl,le1 rfl,trivial⟩ ⟨rfl,trivial⟩
   ·have h2:=A1 (or_pick.symm.trans ht)
    have ho:¬opens l ctx k:=by unfold opens;omega
    refine k5 (k1 ?_)
    rw [O9,if_neg ho]
    exact G48 ⟨le1 rfl,le1 rfl,le1 rfl,le1 rfl,le1 rfl,trivial⟩ ⟨rfl,trivial⟩
  ·obtain ⟨out,hout⟩:∃out,out=O9 l ctx k (F2 l m ctx k):=⟨_,rfl⟩
   have hsucc:F2 l m ctx (k+1)=out.set (out.length - 1) (u9 l m ctx k (out.getD (out.length - 1) B85)):=by rw [hout];rfl
   have hol:0 < out.length∧out.length≤k+1:=by
    rw [hout,O9]
    split
    ·simp only [G79,G81,G83];omega
    ·rename_i ho
     have:k≠0:=fun e=>ho (.inl e)
     omega
   rw [←hout]
   obtain ⟨h0,hh0⟩:∃h0,h0=out.getD (out.length - 1) B85:=⟨_,rfl⟩
   have hvo:out[out.length - 1]?=some h0:=by rw [hh0,G85,G82 (by omega)];rfl
   rw [←hh0] at hsucc
   have hi:((out.length:Int) - 1).toNat=out.length - 1:=by omega
   have hmin:0≤T5 ctx (m - ((cAt l k).Old+(cAt l k).OldLen))∧T5 ctx (m - ((cAt l k).Old+(cAt l k).OldLen))≤m - ((cAt l k).Old+(cAt l k).OldLen):=by unfold T5;split<;>omega
   refine k2 ?_
   refine A4 (A2 (A3 Z Z) Z (A2 (E08 Z Z) Z (A2 (H8 Z Z (by omega)) Z (A2 (A5 Z Z) Z (A6 ?_)))))
   refine k1 (k2 ?_)
   refine C5 (by kernel_rfl) (by kernel_rfl) (A7 (A3 Z Z) Z Z (A7 (A3 Z Z) Z Z (A7 (B1 Z (.pure _ _ _ _) Z (by omega) hv) Z Z (A7 (B8 Z) Z Z (A7 (B3 Z Z) Z Z (A7 (A3 Z Z) Z Z (A7 (A3 Z Z) Z Z (A7 (B1 Z (.pure _ _ _ _) Z (by omega) hv) Z Z (A7 (B8 Z) Z Z (A7 (B3 Z Z) Z Z (A7 (C0 Z Z (by omega)) Z Z (A7 (A3 Z Z) Z Z (A7 (A3 Z Z) Z Z (A7 (B1 Z (.pure _ _ _ _) Z (by omega) hv) Z Z (A7 (B8 Z) Z Z (A7 (B3 Z Z) Z Z (A7 (A3 Z Z) Z Z (A7 (A3 Z Z) Z Z (A7 (B1 Z (.pure _ _ _ _) Z (by omega) hv) Z Z (A7 (B8 Z) Z Z (A7 (B3 Z Z) Z Z (A7 (C0 Z Z (by omega)) Z Z (A7 (A5 Z Z) Z Z ?_)))))))))))))))))))))));refine A7 (A5 Z Z) Z Z (F4 ?_)
   refine k1 (k2 ?_)
   refine A4 (A2 (A3 Z Z) Z (A2 (A3 Z Z) Z (A2 (A3 Z Z) Z (A2 (H8 Z Z (by omega)) Z (A2 (C29 Z Z) Z (A2 (A5 Z Z) Z (A6 ?_)))))))
   refine k1 (k2 ?_)
   rw [show (if m - ((cAt l k).Old+(cAt l k).OldLen) < ctx then m - ((cAt l k).Old+(cAt l k).OldLen) else ctx)=T5 ctx (m - ((cAt l k).Old+(cAt l k).OldLen)) from rfl]
   refine A4 (A2 (A3 Z Z) Z (A2 (A3 Z Z) Z (A2 (A3 Z Z) Z (A2 (C0 Z Z (by omega)) Z (A2 (H4 Z Z Z (by omega) (by omega)) Z (A2 (E6 Z) Z (F3 (V6 (({ h0 with Last:=(k:Int)+1 }:Hunk)) TySz.out Z Z (by rw [hi];exact hvo) Z Z Z Z (fun _ _ _ h=>W8 h) (by intro j h1 h2;rcases j with _ | _ | _ | _ | _ | _ | _ | j<;>first | rfl | omega)) ?_)))))));refine A6 ?_
   rw [hi]
   refine k1 (k2 ?_)
   have hv2:(out.set (out.length - 1) { h0 with Last:=(k:Int)+1 })[out.length - 1]?=some { h0 with Last:=(k:Int)+1 }:=H11 (by omega)
   obtain ⟨h2,hh2⟩:∃h2:Hunk,h2={ h0 with Last:=(k:Int)+1 }:=⟨_,rfl⟩
   rw [←hh2] at hv2 ⊢
   obtain ⟨out2,ho2⟩:∃out2,out2=out.set (out.length - 1) h2:=⟨_,rfl⟩
   have hol2:out2.length=out.length:=by rw [ho2];simp
   rw [←ho2] at hv2 ⊢
   refine A4 (A2 (A3 Z Z) Z (A2 (A3 Z Z) Z (A2 (A3 Z Z) Z (A2 (A3 Z Z) Z (A2 (C0 Z Z (by omega)) Z (A2 (H4 Z Z Z (by omega) (by (simp only [hol2];omega))) Z (A2 (E6 Z) Z (A2 (E6 Z) Z (F3 (V6 (({ h2 with Old:=⟨h2.Old.From,(cAt l k).Old+(cAt l k).OldLen+T5 ctx (m - ((cAt l k).Old+(cAt l k).OldLen))⟩ }:Hunk)) TySz.out Z Z (by rw [hi];exact hv2) Z Z Z Z (fun _ _ _ h=>W8 h) (by intro j h1 h2;rcases j with _ | _ | _ | _ | _ | _ | _ | j<;>first | rfl | omega)) ?_)))))))));refine A6 ?_
   rw [hi]
   refine k1 ?_
   obtain ⟨h3,hh3⟩:∃h3:Hunk,h3={ h2 with Old:=⟨h2.Old.From,(cAt l k).Old+(cAt l k).OldLen+T5 ctx (m - ((cAt l k).Old+(cAt l k).OldLen))⟩ }:=⟨_,rfl⟩
   have hv3:(out2.set (out.length - 1) h3)[out.length - 1]?=some h3:=H11 (by omega)
   rw [←hh3]
   obtain ⟨out3,ho3⟩:∃out3,out3=out2.set (out.length - 1) h3:=⟨_,rfl⟩
   have hol3:out3.length=out.length:=by rw [ho3];simp [hol2]
   rw [←ho3] at hv3 ⊢
   refine A4 (A2 (A3 Z Z) Z (A2 (A3 Z Z) Z (A2 (A3 Z Z) Z (A2 (A3 Z Z) Z (A2 (C0 Z Z (by omega)) Z (A2 (H4 Z Z Z (by omega) (by (simp only [hol3];omega))) Z (A2 (E6 Z) Z (A2 (E6 Z) Z (F3 (V6 (({ h3 with New:=⟨h3.New.From,(cAt l k).New+(cAt l k).NewLen+T5 ctx (m - ((cAt l k).Old+(cAt l k).OldLen))⟩ }:Hunk)) TySz.out Z Z (by rw [hi];exact hv3) Z Z Z Z (fun _ _ _ h=>W8 h) (by intro j h1 h2;rcases j with _ | _ | _ | _ | _ | _ | _ | j<;>first | rfl | omega)) ?_)))))))));refine A6 ?_
   rw [hi]
   have hfin:out3.set (out.length - 1) { h3 with New:=⟨h3.New.From,(cAt l k).New+(cAt l k).NewLen+T5 ctx (m - ((cAt l k).Old+(cAt l k).OldLen))⟩ }=F2 l m ctx (k+1):=by
    rw [hsucc,ho3,ho2,List.set_set,List.set_set,hh3,hh2];rfl
   rw [hfin]
   refine k4 (k1 ?_)
   refine A4 (A2 (A3 Z Z) Z (A2 (C0 Z Z (by omega)) Z (A2 (A5 Z Z) Z (A6 ?_))))
   refine k1 ?_
   exact ⟨k+1,by omega,by omega,G48 ⟨le1 rfl,le1 rfl,le1 rfl,le1 rfl,le1 rfl,trivial⟩ ⟨rfl,trivial⟩⟩
 ·have hk':k=l.length:=by have:=A1 ht;omega
  subst hk'
  refine k6 (k2 ?_)
  refine J3 (G59 (t:=11) (k:=11) Z Z Z) ?_
  refine A4 (A2 (A3 Z Z) Z (A2 (A5 Z Z) Z (A2 (A5 Z Z) Z (A6 ?_))))
  refine k1 (k10 ?_)
  exact B6 (x7 rfl rfl rfl rfl rfl) (by rw [P0,if_neg (by omega),if_neg (by rw [h1];decide)])
theorem D02 (a b:List Str) (ha:a.length≤4096) (hb:b.length≤4096):FnOk Tryz.prog 120 [A09 a,A09 b] (fun rs=>rs=[pChanges (y9 (E2 (C3 [a,b]) a) (E2 (C3 [a,b]) b))]):=by
 have h1:(E2 (C3 [a,b]) a).length=a.length:=by simp [E2]
 have h2:(E2 (C3 [a,b]) b).length=b.length:=by simp [E2]
 refine FnOk.intro Tryz.func120 (by decide) Z Z Z Z ?_
 refine k2 ?_
 refine A4 (A2 (A5 Z Z) Z (A6 ?_))
 refine k1 (k2 ?_)
 refine A4 (A2 (A3 Z Z) Z (A2 (A3 Z Z) Z (A2 (D8 (c:=strsC) (ys:=[a,b]) (E5 Z Z Z Z (E5 Z Z Z Z G8)) Z Z Z) Z (C8 (ids_ok [a,b] (by simp;omega) (by simp)) Z Z Z ?_))));rintro _ rfl;refine A2 (A5 Z Z) Z (A6 ?_)
 refine k1 (k2 ?_)
 refine C5 (by kernel_rfl) (by kernel_rfl) (A7 (A3 Z Z) Z Z (A7 (B1 Z (.pure _ _ _ _) Z (by omega) Z) Z Z (A7 (B3 Z Z) Z Z (A7 (A3 Z Z) Z Z (A7 (B1 Z (.pure _ _ _ _) Z (by omega) Z) Z Z (A7 (B3 Z Z) Z Z (A7 (F5 (walk_ok _ _ (by omega) (by omega)) Z Z) Z Z (A7 (A5 Z Z) Z Z (F4 ?_)))))))))
 refine k1 (k10 ?_)
 exact B6 (G4 rfl rfl rfl) rfl
theorem n4 (a b:UInt8):decide ((a.toNat:Int)≠(b.toNat:Int))=decide (a≠b):=by
 by_cases h:a=b
 ·subst h;simp
 ·have:(a.toNat:Int)≠(b.toNat:Int):=fun e=>h (UInt8.toNat_inj.1 (by omega))
  rw [decide_eq_true this,decide_eq_true h]
theorem A35 (s:Str):FnOk Tryz.prog 82 [K6 s] (fun rs=>rs=[O4 (G7 s)]):=by
 refine FnOk.intro Tryz.func82 (by decide) Z Z Z Z ?_
 refine k2 ?_
 refine A4 (A2 (A5 Z Z) Z (A6 ?_))
 refine k1 (k2 ?_)
 refine A4 (A2 (A3 Z Z) Z (A2 (K9 Z) Z (A2 (x5 Z Z) Z (A2 (A3 Z Z) Z (B0 Z Z Z Z (fun hg=>by rw [hg];exact A3 Z Z) ?_)))));refine B0 Z Z Z Z (fun hg=>by rw [hg];exact K9 Z) ?_;refine B0 Z Z Z Z (fun hg=>by rw [hg];exact A28 Z Z) ?_;refine A2 (B2 Z (fun h=>by first | rfl | (rw [h];rfl)) (fun h=>by first | rfl | (rw [h];rfl))) Z ?_;refine A2 (A5 Z Z) Z (A6 ?_)
 refine k1 (k10 ?_)
 refine B6 (G4 Z Z Z) ?_
 simp only [I9]
 congr 4
 unfold G7
 congr 1
 apply propext
 omega
theorem p6 (h:PatchHunk) (k:UInt8) (hl:h.Lines.length≤268435456):FnOk Tryz.prog 71 [pPhunk h,pByte k] (fun rs=>rs=[A09 (D2 h.Lines k)]):=by
 obtain ⟨ls,hls⟩:∃ls,ls=h.Lines:=⟨_,rfl⟩
 refine FnOk.intro Tryz.func71 (by decide) Z Z Z Z ?_
 refine k2 ?_
 refine A4 (D1 (Y6 2 Z Z Z) Z (A2 (A5 Z Z) Z (A6 ?_)))
 refine k1 (k2 ?_)
 refine A4 (D1 (Z2 5 _ I3 Z) Z (A6 ?_))
 refine k1 (k2 (k2 ?_))
 refine A4 (A2 (A5 Z Z) Z (A6 ?_))
 refine k1 (k3 ?_)
 refine D9 (X:=Nat) (fun i=>([(1,.s (pByte k).s1),(2,.s (.one (.ref 2 0))),(5,.s (.one (.buf 5 Str 1 I3 (D2 (h.Lines.take i) k)))),(6,C1 i)],[(2,.box (pPhunk h).s1.cells),(5,.spare (D2 (h.Lines.take i) k).length 1 9)])) (fun i=>i≤h.Lines.length) (fun i=>h.Lines.length - i) 0 (Nat.zero_le _) (G48 ⟨le1 rfl,le1 rfl,le1 rfl,le1 rfl,trivial⟩ ⟨rfl,rfl,trivial⟩) ?_
 intro i hi
 dsimp only at hi ⊢
 have hlen:=L2 (h.Lines.take i) k
 rw [G90] at hlen
 refine k2 (k2 ?_)
 refine A4 (A2 (A3 Z Z) Z (A2 (A8 Z) Z (A2 (A9 Z Z Z) Z (A2 (E0 Z (.pure _ _ _ _)) Z (A2 (E9 Z Z) Z (A6 ?_))))))
 refine k1 ?_
 refine B5 rfl (fun ht=>?_) (fun ht=>?_)
 ·have hlt:i < h.Lines.length:=by have:=A0 ht;omega
  have hv:h.Lines[i]?=some h.Lines[i]:=by simp [hlt]
  have hsucc:=A24 h.Lines k i hlt
  obtain ⟨x,hx⟩:∃x,x=h.Lines[i]:=⟨_,rfl⟩
  rw [←hx] at hv hsucc
  refine k5 (k1 (k2 (k3 (k2 ?_))))
  refine A4 (A2 (A8 Z) Z (A2 (A9 Z Z Z) Z (A2 (A3 Z Z) Z (A2 (B1 Z (.pure _ _ _ _) Z (by omega) hv) Z (A2 (B8 Z) Z (A2 (B3 Z Z) Z (A2 (A3 Z Z) Z (A2 (J0 Z Z) Z (A6 ?_)))))))))
  refine k1 ?_
  refine B5 rfl (fun ht=>?_) (fun ht=>?_)
  ·have h1:x.Kind≠k:=A0 ((n4 _ _).symm.trans ht)
   rw [if_pos h1] at hsucc
   skip
   refine A4 (A2 (A3 Z Z) Z (A2 (A8 Z) Z (A2 (A9 Z Z Z) Z (A2 (A3 Z Z) Z (A2 (B1 Z (.pure _ _ _ _) Z (by omega) hv) Z (A2 (B8 Z) Z (A2 (B3 Z Z) Z (A2 (D8 (c:=I3) (ys:=[_]) (E5 Z Z Z Z G8) Z Z Z) Z (D1 (J2 Z Z Z (.pure _ _ _ _) (by simp;omega) Z) Z (A2 (A5 Z Z) Z (A6 ?_)))))))))))
   refine k4 (k1 ?_)
   refine A4 (A2 (A3 Z Z) Z (A2 (C0 Z Z (by omega)) Z (A2 (A5 Z Z) Z (A6 ?_))))
   refine k1 ?_
   refine ⟨i+1,by omega,by omega,?_⟩
   rw [hsucc]
   exact G48 ⟨le1 rfl,le1 rfl,le1 rfl,le1 rfl,trivial⟩ ⟨rfl,rfl,trivial⟩
  ·have h1:¬x.Kind≠k:=A1 ((n4 _ _).symm.trans ht)
   rw [if_neg h1] at hsucc
   refine k5 (k4 (k1 ?_))
   refine A4 (A2 (A3 Z Z) Z (A2 (C0 Z Z (by omega)) Z (A2 (A5 Z Z) Z (A6 ?_))))
   refine k1 ?_
   refine ⟨i+1,by omega,by omega,?_⟩
   rw [hsucc]
   exact G48 ⟨le1 rfl,le1 rfl,le1 rfl,le1 rfl,trivial⟩ ⟨rfl,rfl,trivial⟩
 ·have hi':i=h.Lines.length:=by have:=A1 ht;omega
  subst hi'
  refine k6 (k2 ?_)
  refine A4 (A2 (A3 Z Z) Z (A2 (A5 Z Z) Z (A6 ?_)))
  refine k1 (k10 ?_)
  exact B6 (G4 rfl rfl rfl) (by rw [G95])
theorem E65 (p:Patch) (k:UInt8) (hp:szP p.Hunks≤268435456):FnOk Tryz.prog 143 [pPatch p,pByte k] (fun rs=>rs=[O4 (C19 p.Hunks k)]):=by
 have hsl:=n8 p.Hunks
 refine FnOk.intro Tryz.func143 (by decide) Z Z Z Z ?_
 refine k2 ?_
 refine A4 (D1 (Y6 2 Z Z Z) Z (A2 (A5 Z Z) Z (A6 ?_)))
 refine k1 (k2 ?_)
 refine A4 (D1 (Z2 5 _ I3 Z) Z (A6 ?_))
 refine k1 (k2 (k2 ?_))
 refine A4 (A2 (A5 Z Z) Z (A6 ?_))
 refine k1 (k3 ?_)
 refine D9 (X:=Nat) (fun i=>([(1,.s (pByte k).s1),(2,.s (.one (.ref 2 0))),(5,.s (.one (.buf 5 Str 1 I3 (F8 (p.Hunks.take i) k)))),(6,C1 i)],[(2,.box (pPatch p).s1.cells),(5,.spare (F8 (p.Hunks.take i) k).length 1 9)])) (fun i=>i≤p.Hunks.length) (fun i=>p.Hunks.length - i) 0 (Nat.zero_le _) (G48 ⟨le1 rfl,le1 rfl,le1 rfl,le1 rfl,trivial⟩ ⟨rfl,rfl,trivial⟩) ?_
 intro i hi
 dsimp only at hi ⊢
 have hlen:=D56 (p.Hunks.take i) k
 have hle:=B86 p.Hunks i
 refine k2 (k2 ?_)
 refine A4 (A2 (A3 Z Z) Z (A2 (A8 Z) Z (A2 (A9 Z Z Z) Z (A2 (E0 Z (.pure _ _ _ _)) Z (A2 (E9 Z Z) Z (A6 ?_))))))
 refine k1 ?_
 refine B5 rfl (fun ht=>?_) (fun ht=>?_)
 ·have hlt:i < p.Hunks.length:=by have:=A0 ht;omega
  have hv:p.Hunks[i]?=some p.Hunks[i]:=by simp [hlt]
  have hsucc:=D14 p.Hunks k i hlt
  have hmem:p.Hunks[i]∈p.Hunks:=G97 hlt
  obtain ⟨h,hx⟩:∃x,x=p.Hunks[i]:=⟨_,rfl⟩
  rw [←hx] at hv hsucc hmem
  have h1:=n7 hmem
  have h2:=L2 h.Lines k
  have h3:=W3 h.Lines
  unfold szH at h1
  refine k5 (k1 (k2 (k3 ?_)))
  refine A4 (A2 (A3 Z Z) Z (A2 (A8 Z) Z (A2 (A9 Z Z Z) Z (A2 (A3 Z Z) Z (A2 (B1 Z (.pure _ _ _ _) Z (by omega) hv) Z (A2 (E3 Z Z) Z (A2 (A3 Z Z) Z (C8 (p6 h k (by omega)) Z Z Z ?_))))))));rintro _ rfl;refine D1 (J2 Z Z Z (.pure _ _ _ _) (by omega) Z) Z (A2 (A5 Z Z) Z (A6 ?_))
  refine k4 (k1 ?_)
  refine A4 (A2 (A3 Z Z) Z (A2 (C0 Z Z (by omega)) Z (A2 (A5 Z Z) Z (A6 ?_))))
  refine k1 ?_
  refine ⟨i+1,by omega,by omega,?_⟩
  rw [hsucc]
  exact G48 ⟨le1 rfl,le1 rfl,le1 rfl,le1 rfl,trivial⟩ ⟨rfl,rfl,trivial⟩
 ·have hi':i=p.Hunks.length:=by have:=A1 ht;omega
  subst hi'
  rw [G95] at hlen ⊢
  obtain ⟨all,hall⟩:∃all,all=F8 p.Hunks k:=⟨_,rfl⟩
  have hmem:∀s∈all,s.length≤szP p.Hunks:=fun s hs=>D57 (k:=k) (by rw [←hall];exact hs)
  rw [C19,←hall]
  rw [←hall] at hlen
  refine k6 (k2 (k2 ?_))
  refine A4 (A2 (A5 Z Z) Z (A6 ?_))
  refine k1 (k3 ?_)
  refine D9 (X:=Nat) (fun i=>([(5,C4 Str 1 I3 all),(7,C1 i)],[])) (fun i=>i≤all.length+1∧M8 all=M8 (all.drop i)) (fun i=>all.length+1 - i) 0 ⟨Nat.zero_le _,rfl⟩ (G48 ⟨leL rfl,le1 rfl,trivial⟩ trivial) ?_
  rintro i ⟨hi,he⟩
  dsimp only at hi he ⊢
  refine k2 (k2 ?_)
  refine A4 (A2 (A3 Z Z) Z (A2 (C0 Z Z (by omega)) Z (A2 (A3 Z Z) Z (A2 (E0 Z (.pure _ _ _ _)) Z (A2 (E9 Z Z) Z (A6 ?_))))))
  refine k1 ?_
  refine B5 rfl (fun ht=>?_) (fun ht=>?_)
  ·have hlt:i+1 < all.length:=by have:=A0 ht;omega
   have hv:all[i]?=some all[i]:=by simp
   have h1:=hmem all[i] (G97 _)
   rw [D58 all i hlt] at he
   refine k5 (k1 (k2 (k3 (k2 ?_))))
   refine A4 (A2 (A3 Z Z) Z (A2 (A3 Z Z) Z (A2 (B1 Z (.pure _ _ _ _) Z (by omega) hv) Z (A2 (B3 Z Z) Z (C8 (C99 all[i] (by omega)) Z Z Z ?_)))));rintro _ rfl;refine A2 (J8 Z) Z (A6 ?_)
   refine k1 ?_
   refine B5 rfl (fun ht=>?_) (fun ht=>?_)
   ·have h2:ended all[i]=false:=by simpa using ht
    rw [h2] at he
    refine k2 ?_
    refine A4 (A2 (A5 Z Z) Z (A6 ?_))
    refine k1 (k10 (k12 (k11 (k11 (k12 (k11 ?_))))))
    exact B6 (G4 rfl rfl rfl) (by rw [he];rfl)
   ·have h2:ended all[i]=true:=by simpa using ht
    rw [h2,Bool.true_and] at he
    refine k5 (k4 (k1 ?_))
    refine A4 (A2 (A3 Z Z) Z (A2 (C0 Z Z (by omega)) Z (A2 (A5 Z Z) Z (A6 ?_))))
    refine k1 ?_
    exact ⟨i+1,⟨by omega,he⟩,by omega,G48 ⟨le1 rfl,le1 rfl,trivial⟩ trivial⟩
  ·have hge:all.length≤i+1:=by have:=A1 ht;omega
   rw [D59 all i hge] at he
   refine k6 (k2 ?_)
   refine A4 (A2 (A5 Z Z) Z (A6 ?_))
   refine k1 (k10 ?_)
   exact B6 (G4 rfl rfl rfl) (by rw [he])
theorem kn32 (c:UInt8):decide ((c.toNat:Int)≠32)=decide (c≠32):=n4 c 32
theorem kn45 (c:UInt8):decide ((c.toNat:Int)≠45)=decide (c≠45):=n4 c 45
theorem kn43 (c:UInt8):decide ((c.toNat:Int)≠43)=decide (c≠43):=n4 c 43
theorem B17 (b:Bool):(!b)=decide (b=false):=by cases b<;>rfl
theorem C34 (ls:List PatchLine) (n:Nat) (h:n < ls.length):T0 (ls.take (n+1))=(if T0 (ls.take n)=true then true else decide (ls[n].Kind≠32)):=by
 unfold T0
 rw [G89 h,List.any_append]
 cases (ls.take n).any _<;>simp
theorem G30 (p:Patch) (hp:szP p.Hunks≤268435456):FnOk Tryz.prog 83 [pPatch p] (fun rs=>rs=[O4 (T9 p.Hunks)]):=by
 have hsl:=n8 p.Hunks
 refine FnOk.intro Tryz.func83 (by decide) Z Z Z Z ?_
 refine k2 ?_
 refine A4 (D1 (Y6 1 Z Z Z) Z (A2 (A5 Z Z) Z (A6 ?_)))
 refine k1 (k2 ?_)
 refine A4 (A2 (A5 Z Z) Z (A2 (A5 Z Z) Z (A6 ?_)))
 refine k1 (k2 (k2 ?_))
 refine A4 (A2 (A5 Z Z) Z (A6 ?_))
 refine k1 (k3 ?_)
 refine D9 (X:=Nat × Int × Int) (fun x=>([(1,.s (.one (.ref 1 0))),(3,C1 x.2.1),(4,C1 x.2.2),(5,C1 x.1)],[(1,.box (pPatch p).s1.cells)])) (fun x=>x.1≤p.Hunks.length∧X3 0 0 p.Hunks=X3 x.2.1 x.2.2 (p.Hunks.drop x.1)∧0≤x.2.1∧x.2.1≤4096∧0≤x.2.2∧x.2.2≤4096) (fun x=>p.Hunks.length - x.1) (0,0,0) ⟨Nat.zero_le _,rfl,by decide,by decide,by decide,by decide⟩ (G48 ⟨le1 rfl,le1 rfl,le1 rfl,le1 rfl,trivial⟩ ⟨rfl,trivial⟩) ?_
 rintro ⟨k,i,j⟩ ⟨hk,hg,hi,hi2,hj,hj2⟩
 dsimp only at hk hg hi hi2 hj hj2 ⊢
 refine k2 (k2 ?_)
 refine A4 (A2 (A3 Z Z) Z (A2 (A8 Z) Z (A2 (A9 Z Z Z) Z (A2 (E0 Z (.pure _ _ _ _)) Z (A2 (E9 Z Z) Z (A6 ?_))))))
 refine k1 ?_
 refine B5 rfl (fun ht=>?_) (fun ht=>?_)
 ·have hlt:k < p.Hunks.length:=by have:=A0 ht;omega
  have hv:p.Hunks[k]?=some p.Hunks[k]:=by simp [hlt]
  have hmem:p.Hunks[k]∈p.Hunks:=G97 hlt
  rw [G86 hlt,X3] at hg
  obtain ⟨h,hx⟩:∃x,x=p.Hunks[k]:=⟨_,rfl⟩
  rw [←hx] at hv hmem hg
  have h1:=n7 hmem
  have h3:=W3 h.Lines
  have ho:=L2 h.Lines 43
  have hn:=L2 h.Lines 45
  unfold szH at h1
  refine k5 (k1 (k2 (k3 (k2 ?_))))
  refine A4 (A2 (A8 Z) Z (A2 (A9 Z Z Z) Z (A2 (A3 Z Z) Z (A2 (B1 Z (.pure _ _ _ _) Z (by omega) hv) Z (A2 (E3 Z Z) Z (D1 (G5 6 Z) Z (F3 (B9 TySz.out Z Z Z Z Z Z) (A6 ?_))))))))
  refine k1 (k2 ?_)
  refine A4 (A2 (A5 Z Z) Z (A6 ?_))
  refine k1 (k2 (k2 ?_))
  refine A4 (A2 (A5 Z Z) Z (A6 ?_))
  refine k1 (k3 ?_)
  refine D9 (X:=Nat) (fun n=>([(1,.s (.one (.ref 1 0))),(3,C1 i),(4,C1 j),(5,C1 k),(6,.s (.one (.ref 6 0))),(7,K1 (.bool (T0 (h.Lines.take n)))),(8,C1 n)],[(1,.box (pPatch p).s1.cells),(6,.box (pPhunk h).s1.cells)])) (fun n=>n≤h.Lines.length∧h.Lines.all U9=(h.Lines.drop n).all U9) (fun n=>h.Lines.length - n) 0 ⟨Nat.zero_le _,rfl⟩ (G48 ⟨le1 rfl,le1 rfl,le1 rfl,le1 rfl,le1 rfl,le1 rfl,le1 rfl,trivial⟩ ⟨rfl,rfl,trivial⟩) ?_
  rintro n ⟨hn1,hn2⟩
  dsimp only at hn1 hn2 ⊢
  refine k2 (k2 ?_)
  refine A4 (A2 (A3 Z Z) Z (A2 (A8 Z) Z (A2 (A9 Z Z Z) Z (A2 (E0 Z (.pure _ _ _ _)) Z (A2 (E9 Z Z) Z (A6 ?_))))))
  refine k1 ?_
  refine B5 rfl (fun ht=>?_) (fun ht=>?_)
  ·have hlt2:n < h.Lines.length:=by have:=A0 ht;omega
   have hv2:h.Lines[n]?=some h.Lines[n]:=by simp [hlt2]
   have hmem2:=A16 (G97 hlt2)
   have hsucc:=C34 h.Lines n hlt2
   rw [G86 hlt2,List.all_cons] at hn2
   obtain ⟨x,hx2⟩:∃x,x=h.Lines[n]:=⟨_,rfl⟩
   rw [←hx2] at hv2 hmem2 hsucc hn2
   refine k5 (k1 (k2 (k3 (k2 ?_))))
   refine A4 (A2 (A8 Z) Z (A2 (A9 Z Z Z) Z (A2 (A3 Z Z) Z (A2 (B1 Z (.pure _ _ _ _) Z (by omega) hv2) Z (A2 (B8 Z) Z (A2 (B3 Z Z) Z (A2 (A5 Z Z) Z (A6 ?_))))))))
   refine k1 (k2 (k2 ?_))
   refine A4 (A2 (A3 Z Z) Z (A2 (J0 Z Z) Z (A2 (A3 Z Z) Z (B0 Z Z Z Z (fun hg=>by rw [hg];exact A3 Z Z) ?_))));refine B0 Z Z Z Z (fun hg=>by rw [hg];exact J0 Z Z) ?_;refine A2 (B2 Z (fun h=>by first | rfl | (rw [h];rfl)) (fun h=>by first | rfl | (rw [h];rfl))) Z ?_;refine A2 (A3 Z Z) Z (B0 Z Z Z Z (fun hg=>by rw [hg];exact A3 Z Z) ?_);refine B0 Z Z Z Z (fun hg=>by rw [hg];exact J0 Z Z) ?_;refine A2 (B2 Z (fun h=>by first | rfl | (rw [h];rfl)) (fun h=>by first | rfl | (rw [h];rfl))) Z ?_;refine A2 (A3 Z Z) Z (B0 Z Z Z Z (fun hg=>by rw [hg];exact A8 Z) ?_);refine B0 Z Z Z Z (fun hg=>by rw [hg];exact A9 Z Z Z) ?_;refine B0 Z Z Z Z (fun hg=>by rw [hg];exact A3 Z Z) ?_;refine B0 Z Z Z Z (fun hg=>by have hq:=hg;(try simp at hq);rw [hg];exact B1 Z (.pure _ _ _ _) Z (by omega) hv2) ?_;refine B0 Z Z Z Z (fun hg=>by rw [hg];exact B8 Z) ?_;refine B0 Z Z Z Z (fun hg=>by rw [hg];exact B3 Z Z) ?_;refine B0 Z Z Z Z (fun hg=>by have hq:=hg;(try simp at hq);rw [hg];exact F5 (line_ok x.Text (by omega)) Z Z) ?_;refine B0 Z Z Z Z (fun hg=>by rw [hg];exact J8 Z) ?_;refine A2 (B2 Z (fun h=>by first | rfl | (rw [h];rfl)) (fun h=>by first | rfl | (rw [h];rfl))) Z ?_;refine A6 ?_
   refine k1 ?_
   refine B5 rfl (fun ht=>?_) (fun ht=>?_)
   ·simp only [kn32,kn45,kn43,I9,B17,or_pick] at ht
    have hb:D13 x:=A0 ht
    refine k2 ?_
    refine A4 (A2 (A5 Z Z) Z (A6 ?_))
    refine k1 (k10 (k11 (k12 (k11 (k11 (k12 (k11 (k12 (k11 (k11 (k12 (k11 ?_))))))))))))
    refine B6 (G4 Z Z Z) ?_
    have:U9 x=false:=decide_eq_false (fun hh=>hh hb)
    rw [T9,hg,hn2,this];rfl
   ·simp only [kn32,kn45,kn43,I9,B17,or_pick] at ht
    have hb:¬D13 x:=A1 ht
    have hgl:U9 x=true:=decide_eq_true hb
    rw [hgl,Bool.true_and] at hn2
    refine k5 (k1 ?_)
    refine A4 (A2 (A3 Z Z) Z (A2 (A3 Z Z) Z (B0 Z Z Z Z (fun hg=>by rw [hg];exact A3 Z Z) ?_)));refine B0 Z Z Z Z (fun hg=>by rw [hg];exact J0 Z Z) ?_;refine A2 (B2 Z (fun h=>by first | rfl | (rw [h];rfl)) (fun h=>by first | rfl | (rw [h];rfl))) Z ?_;refine A2 (A5 Z Z) Z (A6 ?_)
    refine k4 (k1 ?_)
    refine A4 (A2 (A3 Z Z) Z (A2 (C0 Z Z (by omega)) Z (A2 (A5 Z Z) Z (A6 ?_))))
    refine k1 ?_
    refine ⟨n+1,⟨by omega,hn2⟩,by omega,?_⟩
    rw [kn32,←hsucc]
    exact G48 ⟨le1 rfl,le1 rfl,le1 rfl,le1 rfl,le1 rfl,le1 rfl,le1 rfl,trivial⟩ ⟨rfl,rfl,trivial⟩
  ·have hn':n=h.Lines.length:=by have:=A1 ht;omega
   subst hn'
   rw [G95]
   rw [G84 (Nat.le_refl _)] at hn2
   rw [hn2,List.all_nil,Bool.true_and] at hg
   refine k6 (k2 (k2 ?_))
   refine A4 (A2 (A3 Z Z) Z (A2 (J8 Z) Z (A2 (A3 Z Z) Z (B0 Z Z Z Z (fun hg=>by rw [hg];exact A8 Z) ?_))));refine B0 Z Z Z Z (fun hg=>by rw [hg];exact A9 Z Z Z) ?_;refine B0 Z Z Z Z (fun hg=>by rw [hg];exact A3 Z Z) ?_;refine B0 Z Z Z Z (fun hg=>by rw [hg];exact E9 Z Z) ?_;refine A2 (B2 Z (fun h=>by first | rfl | (rw [h];rfl)) (fun h=>by first | rfl | (rw [h];rfl))) Z ?_;refine A2 (A3 Z Z) Z (B0 Z Z Z Z (fun hg=>by rw [hg];exact A8 Z) ?_);refine B0 Z Z Z Z (fun hg=>by rw [hg];exact A9 Z Z Z) ?_;refine B0 Z Z Z Z (fun hg=>by rw [hg];exact A3 Z Z) ?_;refine B0 Z Z Z Z (fun hg=>by rw [hg];exact E9 Z Z) ?_;refine A2 (B2 Z (fun h=>by first | rfl | (rw [h];rfl)) (fun h=>by first | rfl | (rw [h];rfl))) Z ?_;refine A2 (A3 Z Z) Z (B0 Z Z Z Z (fun hg=>by rw [hg];exact A8 Z) ?_);refine B0 Z Z Z Z (fun hg=>by rw [hg];exact A9 Z Z Z) ?_;refine B0 Z Z Z Z (fun hg=>by rw [hg];exact N7 Z Z) ?_;refine A2 (B2 Z (fun h=>by first | rfl | (rw [h];rfl)) (fun h=>by first | rfl | (rw [h];rfl))) Z ?_;refine A2 (A3 Z Z) Z (B0 Z Z Z Z (fun hg=>by rw [hg];exact A8 Z) ?_);refine B0 Z Z Z Z (fun hg=>by rw [hg];exact A9 Z Z Z) ?_;refine B0 Z Z Z Z (fun hg=>by rw [hg];exact N7 Z Z) ?_;refine A2 (B2 Z (fun h=>by first | rfl | (rw [h];rfl)) (fun h=>by first | rfl | (rw [h];rfl))) Z ?_;refine A2 (A3 Z Z) Z (B0 Z Z Z Z (fun hg=>by rw [hg];exact A8 Z) ?_);refine B0 Z Z Z Z (fun hg=>by rw [hg];exact A9 Z Z Z) ?_;refine B0 Z Z Z Z (fun hg=>by rw [hg];exact A3 Z Z) ?_;refine B0 Z Z Z Z (fun hg=>by have hq:=hg;(try simp at hq);rw [hg];exact H8 Z Z (by omega)) ?_;refine B0 Z Z Z Z (fun hg=>by rw [hg];exact A8 Z) ?_;refine B0 Z Z Z Z (fun hg=>by rw [hg];exact A9 Z Z Z) ?_;refine B0 Z Z Z Z (fun hg=>by rw [hg];exact A3 Z Z) ?_;refine B0 Z Z Z Z (fun hg=>by have hq:=hg;(try simp at hq);rw [hg];exact H8 Z Z (by omega)) ?_;refine B0 Z Z Z Z (fun hg=>by rw [hg];exact J0 Z Z) ?_;refine A2 (B2 Z (fun h=>by first | rfl | (rw [h];rfl)) (fun h=>by first | rfl | (rw [h];rfl))) Z ?_;refine A6 ?_
   refine k1 ?_
   refine B5 rfl (fun ht=>?_) (fun ht=>?_)
   ·simp only [B17,or_pick] at ht
    have hb:R4 (T0 h.Lines) i j h:=A0 ht
    refine k2 ?_
    refine A4 (A2 (A5 Z Z) Z (A6 ?_))
    refine k1 (k10 (k11 (k12 (k11 (k11 (k12 (k11 ?_)))))))
    exact B6 (G4 rfl rfl rfl) (by rw [T9,hg,decide_eq_false (fun hh=>hh hb)];rfl)
   ·simp only [B17,or_pick] at ht
    have hb:¬R4 (T0 h.Lines) i j h:=A1 ht
    rw [decide_eq_true hb,Bool.true_and] at hg
    have hb2:i≤h.Old∧j≤h.New∧h.Old≤4096∧h.New≤4096:=by unfold R4 at hb;omega
    refine k5 (k1 (k2 ?_))
    refine C5 (by kernel_rfl) (by kernel_rfl) (A7 (A8 Z) Z Z (A7 (A9 Z Z Z) Z Z (A7 (D4 Z Z Z) Z Z (A7 (F5 (p6 h 43 (by omega)) Z Z) Z Z (A7 (E0 Z (.pure _ _ _ _)) Z Z (A7 (C0 Z Z (by omega)) Z Z (A7 (A8 Z) Z Z (A7 (A9 Z Z Z) Z Z (A7 (D4 Z Z Z) Z Z (A7 (F5 (p6 h 45 (by omega)) Z Z) Z Z (A7 (E0 Z (.pure _ _ _ _)) Z Z (A7 (C0 Z Z (by omega)) Z Z (A7 (A5 Z Z) Z Z (A7 (A5 Z Z) Z Z (F4 ?_)))))))))))))))
    refine k1 (k2 ?_)
    refine A4 (A2 (A3 Z Z) Z (A2 (N7 Z Z) Z (A2 (A3 Z Z) Z (B0 Z Z Z Z (fun hg=>by rw [hg];exact A3 Z Z) ?_))));refine B0 Z Z Z Z (fun hg=>by rw [hg];exact N7 Z Z) ?_;refine A2 (B2 Z (fun h=>by first | rfl | (rw [h];rfl)) (fun h=>by first | rfl | (rw [h];rfl))) Z ?_;refine A6 ?_
    refine k1 ?_
    refine B5 rfl (fun ht=>?_) (fun ht=>?_)
    ·have hb3:=A0 (or_pick.symm.trans ht)
     refine k2 ?_
     refine A4 (A2 (A5 Z Z) Z (A6 ?_))
     refine k1 (k10 (k12 (k11 (k11 (k12 (k11 ?_))))))
     exact B6 (G4 rfl rfl rfl) (by rw [T9,hg,decide_eq_false (fun hh=>hh hb3)];rfl)
    ·have hb3:=A1 (or_pick.symm.trans ht)
     rw [decide_eq_true (p:=¬(4096 < h.Old+M4 h∨4096 < h.New+N2 h)) hb3,Bool.true_and] at hg
     refine k5 (k4 (k1 ?_))
     refine A4 (A2 (A3 Z Z) Z (A2 (C0 Z Z (by omega)) Z (A2 (A5 Z Z) Z (A6 ?_))))
     refine k1 ?_
     exact ⟨(k+1,h.Old+M4 h,h.New+N2 h),⟨by dsimp only;omega,hg,by unfold M4;dsimp only;omega,by unfold M4;dsimp only;omega,by unfold N2;dsimp only;omega,by unfold N2;dsimp only;omega⟩,by dsimp only;omega,G48 ⟨le1 rfl,le1 rfl,le1 rfl,le1 rfl,trivial⟩ ⟨rfl,trivial⟩⟩
 ·have hk':k=p.Hunks.length:=by have:=A1 ht;omega
  rw [hk',G84 (Nat.le_refl _),X3] at hg
  refine k6 (k2 ?_)
  refine A4 (A2 (D4 Z Z Z) Z (C8 (E65 p 43 hp) Z Z Z ?_));rintro _ rfl;refine A2 (A3 Z Z) Z (B0 Z Z Z Z (fun hg=>by rw [hg];exact D4 Z Z Z) ?_);refine B0 Z Z Z Z (fun hg=>by have hq:=hg;(try simp at hq);rw [hg];exact F5 (E65 p 45 hp) Z Z) ?_;refine A2 (B2 Z (fun h=>by first | rfl | (rw [h];rfl)) (fun h=>by first | rfl | (rw [h];rfl))) Z ?_;refine A2 (A5 Z Z) Z (A6 ?_)
  refine k1 (k10 ?_)
  refine B6 (G4 Z Z Z) ?_
  rw [T9,hg]
  cases C19 p.Hunks 43<;>rfl
theorem D83 (p:Patch) (hp:PFit p) (hrange:∀h∈p.Hunks,(-4611686018427387904≤h.Old∧h.Old≤4611686018427387904)∧(-4611686018427387904≤h.New∧h.New≤4611686018427387904)):FnOk Tryz.prog 78 [pPatch p] (fun rs=>rs=[K6 (M1 p)]):=by
 have hsl:=n8 p.Hunks
 have hpl:=hp.hunks
 have hpo:=hp.old
 have hpn:=hp.new
 have hq1:=d5 p.OldName
 have hq2:=d5 p.NewName
 have hnf:=d8 p
 have hnl:(Y4 p).length=2:=rfl
 refine FnOk.intro Tryz.func78 (by decide) Z Z Z Z ?_
 refine k2 ?_
 refine A4 (D1 (Y6 1 Z Z Z) Z (A2 (A5 Z Z) Z (A6 ?_)))
 refine k1 (k2 ?_)
 refine J9 10 (by kernel_rfl) (by kernel_rfl) Z (A7 (A8 Z) Z Z (A7 (A9 Z Z Z) Z Z (A7 (F5 (D78 p.OldName (by omega)) Z Z) Z Z (A7 (G3 Z Z (by (simp only [G81,G83];omega))) Z Z (A7 (G3 Z Z (by (simp only [G79,G81,G83];omega))) Z Z (A7 (A8 Z) Z Z (A7 (A9 Z Z Z) Z Z (A7 (F5 (D78 p.NewName (by omega)) Z Z) Z Z (A7 (G3 Z Z (by (simp only [G81,G83];omega))) Z Z (A7 (G3 Z Z (by (simp only [G79,G81,G83];omega))) Z Z (F4 (d_turn (A43 3 (c:=I3) (ys:=(Y4 p)) (E5 Z Z Z Z (E5 Z Z Z Z G8)) Z Z Z (by first | rfl | (simp [H2,K8,Ob.free,SV.free,S1.free,TC.free]<;>rfl))) Z ?_))))))))))));refine A7 (A5 Z Z) Z Z (F4 ?_)
 refine k1 (k2 (k2 ?_))
 refine A4 (A2 (A5 Z Z) Z (A6 ?_))
 refine k1 (k3 ?_)
 refine D9 (X:=Nat) (fun k=>([(1,.s (.one (.ref 1 0))),(3,.s (.one (.buf 3 Str 1 I3 (Y4 p++((p.Hunks.take k).map T3).flatten)))),(4,C1 k)],[(1,.box (pPatch p).s1.cells),(3,.spare (Y4 p++((p.Hunks.take k).map T3).flatten).length 1 9)])) (fun k=>k≤p.Hunks.length) (fun k=>p.Hunks.length - k) 0 (Nat.zero_le _) (G48 ⟨le1 rfl,le1 rfl,le1 rfl,trivial⟩ ⟨rfl,rfl,trivial⟩) ?_
 intro k hk
 dsimp only at hk ⊢
 have hle:=B86 p.Hunks k
 have hlb:=E89 (p.Hunks.take k)
 refine k2 (k2 ?_)
 refine A4 (A2 (A3 Z Z) Z (A2 (A8 Z) Z (A2 (A9 Z Z Z) Z (A2 (E0 Z (.pure _ _ _ _)) Z (A2 (E9 Z Z) Z (A6 ?_))))))
 refine k1 ?_
 refine B5 rfl (fun ht=>?_) (fun ht=>?_)
 ·have hlt:k < p.Hunks.length:=by have:=A0 ht;omega
  have hv:p.Hunks[k]?=some p.Hunks[k]:=by simp [hlt]
  have hmem:p.Hunks[k]∈p.Hunks:=G97 hlt
  have hsucc:=C45 p.Hunks k hlt
  obtain ⟨h,hx⟩:∃x,x=p.Hunks[k]:=⟨_,rfl⟩
  rw [←hx] at hv hmem hsucc
  have h1:=n7 hmem
  have h3:=W3 h.Lines
  have ho:=L2 h.Lines 43
  have hn:=L2 h.Lines 45
  have hr1:=d6 h.Old (M4 h)
  have hr2:=d6 h.New (N2 h)
  unfold szH at h1
  obtain ⟨base,hbase⟩:∃base,base=Y4 p++((p.Hunks.take k).map T3).flatten:=⟨_,rfl⟩
  have hbl:base.length≤2+szP p.Hunks:=by rw [hbase,G79];omega
  rw [←hbase]
  have hho:-4611686018427387904≤h.Old∧h.Old≤4611686018427387904:=(hrange h hmem).1
  have hhn:-4611686018427387904≤h.New∧h.New≤4611686018427387904:=(hrange h hmem).2
  refine k5 (k1 (k2 (k3 (k2 ?_))))
  refine A4 (A2 (A8 Z) Z (A2 (A9 Z Z Z) Z (A2 (A3 Z Z) Z (A2 (B1 Z (.pure _ _ _ _) Z (by omega) hv) Z (A2 (E3 Z Z) Z (D1 (G5 5 Z) Z (F3 (B9 TySz.out Z Z Z Z Z Z) (A6 ?_))))))))
  refine k1 (k2 ?_)
  refine C5 (by kernel_rfl) (by kernel_rfl) (A7 (A3 Z Z) Z Z (A7 (A8 Z) Z Z (A7 (A9 Z Z Z) Z Z (A7 (D4 Z Z Z) Z Z (A7 (F5 (p6 h 43 (by omega)) Z Z) Z Z (A7 (E0 Z (.pure _ _ _ _)) Z Z (A7 (F5 (D77 h.Old _ hho (by omega)) Z Z) Z Z (A7 (G3 Z Z (by (simp only [G81,G83];unfold M4 at hr1;omega))) Z Z (A7 (G3 Z Z (by (simp only [G79,G81,G83];unfold M4 at hr1;omega))) Z Z (A7 (A8 Z) Z Z (A7 (A9 Z Z Z) Z Z (A7 (D4 Z Z Z) Z Z (A7 (F5 (p6 h 45 (by omega)) Z Z) Z Z (A7 (E0 Z (.pure _ _ _ _)) Z Z (A7 (F5 (D77 h.New _ hhn (by omega)) Z Z) Z Z (A7 (G3 Z Z (by (simp only [G79,G81,G83];unfold M4 at hr1;unfold N2 at hr2;omega))) Z Z (A7 (G3 Z Z (by (simp only [G79,G81,G83];unfold M4 at hr1;unfold N2 at hr2;omega))) Z Z (A7 (D8 (c:=I3) (ys:=[T4 h]) (E5 Z Z Z Z G8) Z Z Z) Z Z (C76 (J2 Z Z Z (.pure _ _ _ _) (by (simp only [G81,G83];omega)) Z) Z Z (A7 (A5 Z Z) Z Z (F4 ?_)))))))))))))))))))))
  refine k1 (k2 ?_)
  refine A4 (A2 (A5 Z Z) Z (A6 ?_))
  refine k1 (k3 ?_)
  refine D9 (X:=Nat) (fun n=>([(1,.s (.one (.ref 1 0))),(3,.s (.one (.buf 3 Str 1 I3 (base++(T4 h::((h.Lines.take n).map R5).flatten))))),(4,C1 k),(5,.s (.one (.ref 5 0))),(6,C1 n)],[(1,.box (pPatch p).s1.cells),(3,.spare (base++(T4 h::((h.Lines.take n).map R5).flatten)).length 1 9),(5,.box (pPhunk h).s1.cells)])) (fun n=>n≤h.Lines.length) (fun n=>h.Lines.length - n) 0 (Nat.zero_le _) (G48 ⟨le1 rfl,le1 rfl,le1 rfl,le1 rfl,le1 rfl,trivial⟩ ⟨rfl,rfl,rfl,trivial⟩) ?_
  intro n hn1
  dsimp only at hn1 ⊢
  have hll:=C44 (h.Lines.take n)
  have hlt3:(h.Lines.take n).length≤h.Lines.length:=by rw [G90];omega
  refine k2 (k2 ?_)
  refine A4 (A2 (A3 Z Z) Z (A2 (A8 Z) Z (A2 (A9 Z Z Z) Z (A2 (E0 Z (.pure _ _ _ _)) Z (A2 (E9 Z Z) Z (A6 ?_))))))
  refine k1 ?_
  refine B5 rfl (fun ht=>?_) (fun ht=>?_)
  ·have hlt2:n < h.Lines.length:=by have:=A0 ht;omega
   have hv2:h.Lines[n]?=some h.Lines[n]:=by simp [hlt2]
   have hmem2:=A16 (G97 hlt2)
   have hsucc2:=C46 h.Lines n hlt2
   obtain ⟨x,hx2⟩:∃x,x=h.Lines[n]:=⟨_,rfl⟩
   rw [←hx2] at hv2 hmem2 hsucc2
   refine k5 (k1 (k2 (k3 (k2 ?_))))
   refine C5 (by kernel_rfl) (by kernel_rfl) (A7 (A3 Z Z) Z Z (A7 (A8 Z) Z Z (A7 (A9 Z Z Z) Z Z (A7 (A3 Z Z) Z Z (A7 (B1 Z (.pure _ _ _ _) Z (by omega) hv2) Z Z (A7 (B8 Z) Z Z (A7 (B3 Z Z) Z Z (A7 (D8 (c:=u8C) (ys:=[x.Kind]) (E5 Z Z Z Z G8) Z Z Z) Z Z (A7 (x6 TyStr.out Z (.pure _ _ _ _)) Z Z (A7 (A8 Z) Z Z (A7 (A9 Z Z Z) Z Z (A7 (A3 Z Z) Z Z (A7 (B1 Z (.pure _ _ _ _) Z (by omega) hv2) Z Z (A7 (B8 Z) Z Z (A7 (B3 Z Z) Z Z (A7 (G3 Z Z (by (simp only [G81,G83];omega))) Z Z (A7 (D8 (c:=I3) (ys:=[_]) (E5 Z Z Z Z G8) Z Z Z) Z Z (C76 (J2 Z Z Z (.pure _ _ _ _) (by (simp only [G79,G81,G83];omega)) Z) Z Z (A7 (A5 Z Z) Z Z (F4 ?_))))))))))))))))))))
   have hcons:∀a b:List Str,base++T4 h::(a++b)=base++T4 h::a++b:=fun a b=>by simp
   refine k1 (k2 ?_)
   refine A4 (A2 (A8 Z) Z (A2 (A9 Z Z Z) Z (A2 (A3 Z Z) Z (A2 (B1 Z (.pure _ _ _ _) Z (by omega) hv2) Z (A2 (B8 Z) Z (A2 (B3 Z Z) Z (C8 (C99 x.Text (by omega)) Z Z Z ?_)))))));rintro _ rfl;refine A2 (J8 Z) Z (A6 ?_)
   refine k1 ?_
   refine B5 rfl (fun ht=>?_) (fun ht=>?_)
   ·have h2:ended x.Text=false:=by simpa using ht
    have e:R5 x=[[x.Kind]++x.Text]++[markS]:=by rw [R5,h2];rfl
    skip
    refine A4 (A2 (A3 Z Z) Z (A2 (D8 (c:=I3) (ys:=[markS]) (E5 Z Z Z Z G8) Z Z Z) Z (D1 (J2 Z Z Z (.pure _ _ _ _) (by (simp only [G79,G81,G83];omega)) Z) Z (A2 (A5 Z Z) Z (A6 ?_)))))
    refine k4 (k1 ?_)
    refine A4 (A2 (A3 Z Z) Z (A2 (C0 Z Z (by omega)) Z (A2 (A5 Z Z) Z (A6 ?_))))
    refine k1 ?_
    refine ⟨n+1,by omega,by omega,?_⟩
    rw [hsucc2,e,←G91,hcons,hcons]
    exact G48 ⟨le1 rfl,le1 rfl,le1 rfl,le1 rfl,le1 rfl,trivial⟩ ⟨rfl,rfl,rfl,trivial⟩
   ·have h2:ended x.Text=true:=by simpa using ht
    have e:R5 x=[[x.Kind]++x.Text]:=by rw [R5,h2];rfl
    refine k5 (k4 (k1 ?_))
    refine A4 (A2 (A3 Z Z) Z (A2 (C0 Z Z (by omega)) Z (A2 (A5 Z Z) Z (A6 ?_))))
    refine k1 ?_
    refine ⟨n+1,by omega,by omega,?_⟩
    rw [hsucc2,e,hcons]
    exact G48 ⟨le1 rfl,le1 rfl,le1 rfl,le1 rfl,le1 rfl,trivial⟩ ⟨rfl,rfl,rfl,trivial⟩
  ·have hn':n=h.Lines.length:=by have:=A1 ht;omega
   subst hn'
   rw [G95]
   refine k6 (k7 (k7 (k8 Z (k4 (k1 ?_)))))
   refine A4 (A2 (A3 Z Z) Z (A2 (C0 Z Z (by omega)) Z (A2 (A5 Z Z) Z (A6 ?_))))
   refine k1 ?_
   refine ⟨k+1,by omega,by omega,?_⟩
   rw [hsucc,←G91,←hbase]
   exact G48 ⟨le1 rfl,le1 rfl,le1 rfl,trivial⟩ ⟨rfl,rfl,trivial⟩
 ·have hk':k=p.Hunks.length:=by have:=A1 ht;omega
  subst hk'
  have hff:=Y1 p.Hunks
  rw [G95] at hlb ⊢
  have hall:(Y4 p++(p.Hunks.map T3).flatten).flatten.length≤536870912:=by simp only [G99,G79];omega
  refine k6 (k2 ?_)
  refine A4 (A2 (A3 Z Z) Z (C8 (all_ok _ hall) Z Z Z ?_));rintro _ rfl;refine A2 (A5 Z Z) Z (A6 ?_)
  refine k1 (k10 ?_)
  exact B6 (G4 rfl rfl rfl) rfl
theorem p7 (p:Patch) (hp:szP p.Hunks≤268435456):FnOk Tryz.prog 34 [pPatch p] (fun rs=>rs=[G2 (H1 p)]):=by
 refine FnOk.intro Tryz.func34 (by decide) Z Z Z Z ?_
 refine k2 ?_
 refine A4 (D1 (Y6 1 Z Z Z) Z (A2 (A5 Z Z) Z (A6 ?_)))
 refine k1 (k2 (k3 (k2 ?_)))
 refine A4 (A2 (A8 Z) Z (A2 (A9 Z Z Z) Z (C8 (A35 p.OldName) Z Z Z ?_)));rintro _ rfl;refine A2 (J8 Z) Z (A2 (A3 Z Z) Z (B0 Z Z Z Z (fun hg=>by rw [hg];exact A8 Z) ?_));refine B0 Z Z Z Z (fun hg=>by rw [hg];exact A9 Z Z Z) ?_;refine B0 Z Z Z Z (fun hg=>by have hq:=hg;(try simp at hq);rw [hg];exact F5 (A35 p.NewName) Z Z) ?_;refine B0 Z Z Z Z (fun hg=>by rw [hg];exact J8 Z) ?_;refine A2 (B2 Z (fun h=>by first | rfl | (rw [h];rfl)) (fun h=>by first | rfl | (rw [h];rfl))) Z ?_;refine A2 (A5 Z Z) Z (A6 ?_)
 refine k1 ?_
 refine B5 rfl (fun ht=>?_) (fun ht=>?_)
 ·simp only [B17,or_pick] at ht
  have h:=A0 ht
  refine k2 ?_
  refine A4 (A2 (A5 Z Z) Z (A6 ?_))
  refine k1 (k10 (k12 (k11 ?_)))
  exact B6 (G4 rfl rfl rfl) (by rw [H1,if_pos h])
 ·simp only [B17,or_pick] at ht
  have h:=A1 ht
  refine k2 ?_
  refine A4 (A2 (D4 Z Z Z) Z (C8 (G30 p hp) Z Z Z ?_));rintro _ rfl;refine A2 (J8 Z) Z (A2 (A5 Z Z) Z (A6 ?_))
  refine k1 ?_
  refine B5 rfl (fun ht=>?_) (fun ht=>?_)
  ·have h2:T9 p.Hunks=false:=by simpa using ht
   refine k2 ?_
   refine A4 (A2 (A5 Z Z) Z (A6 ?_))
   refine k1 (k10 (k12 (k11 ?_)))
   exact B6 (G4 rfl rfl rfl) (by rw [H1,if_neg h,if_pos h2])
  ·have h2:T9 p.Hunks=true:=by simpa using ht
   have hr:=j6 h2
   have hn1:G7 p.OldName=true:=by by_cases hh:G7 p.OldName=true;exact hh;exact absurd (.inl (by simpa using hh)) h
   have hn2:G7 p.NewName=true:=by by_cases hh:G7 p.NewName=true;exact hh;exact absurd (.inr (by simpa using hh)) h
   have hn3:=A0 hn1
   have hn4:=A0 hn2
   have hpf:PFit p:=⟨by omega,by omega,hp⟩
   refine k2 ?_
   refine A4 (A2 (D4 Z Z Z) Z (C8 (D83 p hpf (fun x hx=>by have:=hr x hx;omega)) Z Z Z ?_));rintro _ rfl;refine A2 (K9 Z) Z (A2 (N7 Z Z) Z (A2 (A5 Z Z) Z (A6 ?_)))
   refine k1 ?_
   refine B5 rfl (fun ht=>?_) (fun ht=>?_)
   ·have h3:=A0 ht
    refine k2 ?_
    refine A4 (A2 (A5 Z Z) Z (A6 ?_))
    refine k1 (k10 (k12 (k11 ?_)))
    exact B6 (G4 rfl rfl rfl) (by rw [H1,if_neg h,if_neg (by rw [h2];decide),if_pos (by omega)])
   ·have h3:=A1 ht
    refine k5 (k2 ?_)
    refine A4 (A2 (A5 Z Z) Z (A6 ?_))
    refine k1 (k10 ?_)
    exact B6 (G4 rfl rfl rfl) (by rw [H1,if_neg h,if_neg (by rw [h2];decide),if_neg (by omega)])
theorem B78 {gf:Fr} {ob:Obs} (l:List PatchLine) (k:UInt8) (ts:List Str) (hk:C9 ob 701=some (.spare l.length 2 36)) (hlen:l.length+ts.length≤1073741824) :
  AL.Met Tryz.prog 123 [.one (.buf 701 PatchLine 2 plineC l),.one (.p (.v (.int .u8 k.toNat))),.one (.p (.list Str 1 I3 ts))] gf ob [701]
   (fun rs ob'=>rs=[.one (.buf 701 PatchLine 2 plineC (l++J6 k ts))]∧ob'=(701,.spare (l++J6 k ts).length 2 36)::Obs.forget 701 ob):=by
 refine AL.Met.introH Tryz.func123 (by decide) rfl rfl rfl (fun hH=>?_)
 refine k2 ?_
 refine A4 (A2 (A5 Z Z) Z (A6 ?_))
 refine k1 (k2 (k2 ?_))
 refine A4 (A2 (A5 Z Z) Z (A6 ?_))
 refine k1 (k3 ?_)
 refine D9 (X:=Nat) (fun i=>([(0,.s (.one (.buf 701 PatchLine 2 plineC (l++J6 k (ts.take i))))),(1,.s (pByte k).s1),(2,C4 Str 1 I3 ts),(7,C1 i)]++Fr.forget 701 gf,(701,.spare (l++J6 k (ts.take i)).length 2 36)::Obs.forget 701 ob)) (fun i=>i≤ts.length) (fun i=>ts.length - i) 0 (Nat.zero_le _) ?_ ?_
 ·have e:l++J6 k (ts.take 0)=l:=by simp [J6]
  rw [e]
  exact G60 701 ⟨le1 rfl,le1 rfl,le1 rfl,le1 rfl,trivial⟩ hH (by repeat (first | exact E4 | refine E1 rfl ?_)) hk
 intro i hi
 dsimp only at hi ⊢
 have hpl:=V8 k (ts.take i)
 rw [G90] at hpl
 refine k2 (k2 ?_)
 refine A4 (A2 (A3 Z Z) Z (A2 (A3 Z Z) Z (A2 (E0 Z (.pure _ _ _ _)) Z (A2 (E9 Z Z) Z (A6 ?_)))))
 refine k1 ?_
 refine B5 rfl (fun ht=>?_) (fun ht=>?_)
 ·have hlt:i < ts.length:=by have:=A0 ht;omega
  have hv:ts[i]?=some ts[i]:=by simp [hlt]
  have hsucc:=B49 k ts i hlt
  refine k5 (k1 (k2 (k3 ?_)))
  refine A4 (A2 (A3 Z Z) Z (A2 (A3 Z Z) Z (A2 (A3 Z Z) Z (A2 (A3 Z Z) Z (A2 (B1 Z (.pure _ _ _ _) Z (by omega) hv) Z (A2 (B3 Z Z) Z (A2 (I6 Z) Z (A2 (D8 (c:=plineC) (ys:=[⟨k,ts[i]⟩]) (E5 Z Z Z Z G8) Z Z Z) Z (D1 (J2 Z Z Z (.pure _ _ _ _) (by (simp only [G79,G81,G83];omega)) Z) Z (A2 (A5 Z Z) Z (A6 ?_)))))))))))
  refine k4 (k1 ?_)
  refine A4 (A2 (A3 Z Z) Z (A2 (C0 Z Z (by omega)) Z (A2 (A5 Z Z) Z (A6 ?_))))
  refine k1 ?_
  refine ⟨i+1,hlt,by omega,?_⟩
  rw [hsucc,←G91]
  exact G49 ⟨le1 rfl,le1 rfl,le1 rfl,le1 rfl,trivial⟩ (Q1 hH) (by repeat (first | exact E4 | refine E1 rfl ?_ | refine K2 _ ?_)) C79
 ·have hi':i=ts.length:=by have:=A1 ht;omega
  subst hi'
  rw [G95]
  refine k6 (k2 ?_)
  refine A4 (A2 (A3 Z Z) Z (A2 (A5 Z Z) Z (A6 ?_)))
  refine k1 (k10 ?_)
  exact L1 (Y7 rfl rfl) (by repeat (first | exact E4 | refine E1 rfl ?_ | refine F1 _ ?_)) (fun _ _ h=>h) ⟨rfl,rfl⟩
theorem B06 {gf:Fr} {ob:Obs} (l:List PatchLine) (k:UInt8) (ts:List Str) (hk:C9 ob 701=some (.grow 36 PatchLine 2 plineC l)) (hlen:l.length+ts.length≤1073741824) :
  AL.Met Tryz.prog 123 [.one (.mut 701),.one (.p (.v (.int .u8 k.toNat))),.one (.p (.list Str 1 I3 ts))] gf ob [701]
   (fun rs ob'=>rs=[.one (.mut 701)]∧ob'=(701,.grow 36 PatchLine 2 plineC (l++J6 k ts))::Obs.forget 701 ob):=by
 refine AL.Met.introH Tryz.func123 (by decide) rfl rfl rfl (fun hH=>?_)
 refine k2 ?_
 refine A4 (A2 (A5 Z Z) Z (A6 ?_))
 refine k1 (k2 (k2 ?_))
 refine A4 (A2 (A5 Z Z) Z (A6 ?_))
 refine k1 (k3 ?_)
 refine D9 (X:=Nat) (fun i=>([(0,.s (.one (.mut 701))),(1,.s (pByte k).s1),(2,C4 Str 1 I3 ts),(7,C1 i)]++Fr.forget 701 gf,(701,.grow 36 PatchLine 2 plineC (l++J6 k (ts.take i)))::Obs.forget 701 ob)) (fun i=>i≤ts.length) (fun i=>ts.length - i) 0 (Nat.zero_le _) ?_ ?_
 ·have e:l++J6 k (ts.take 0)=l:=by simp [J6]
  rw [e]
  exact G60 701 ⟨le1 rfl,le1 rfl,le1 rfl,le1 rfl,trivial⟩ hH (by repeat (first | exact E4 | refine E1 rfl ?_)) hk
 intro i hi
 dsimp only at hi ⊢
 have hpl:=V8 k (ts.take i)
 rw [G90] at hpl
 refine k2 (k2 ?_)
 refine A4 (A2 (A3 Z Z) Z (A2 (A3 Z Z) Z (A2 (E0 Z (.pure _ _ _ _)) Z (A2 (E9 Z Z) Z (A6 ?_)))))
 refine k1 ?_
 refine B5 rfl (fun ht=>?_) (fun ht=>?_)
 ·have hlt:i < ts.length:=by have:=A0 ht;omega
  have hv:ts[i]?=some ts[i]:=by simp [hlt]
  have hsucc:=B49 k ts i hlt
  refine k5 (k1 (k2 (k3 ?_)))
  refine A4 (A2 (A3 Z Z) Z (A2 (A3 Z Z) Z (A2 (A3 Z Z) Z (A2 (A3 Z Z) Z (A2 (B1 Z (.pure _ _ _ _) Z (by omega) hv) Z (A2 (B3 Z Z) Z (A2 (I6 Z) Z (A2 (D8 (c:=plineC) (ys:=[⟨k,ts[i]⟩]) (E5 Z Z Z Z G8) Z Z Z) Z (D1 (x9 Z Z Z (.pure _ _ _ _) (by (simp only [G79,G81,G83];omega)) Z) Z (A2 (A5 Z Z) Z (A6 ?_)))))))))))
  refine k4 (k1 ?_)
  refine A4 (A2 (A3 Z Z) Z (A2 (C0 Z Z (by omega)) Z (A2 (A5 Z Z) Z (A6 ?_))))
  refine k1 ?_
  refine ⟨i+1,hlt,by omega,?_⟩
  rw [hsucc,←G91]
  exact G49 ⟨le1 rfl,le1 rfl,le1 rfl,le1 rfl,trivial⟩ (Q1 hH) (by repeat (first | exact E4 | refine E1 rfl ?_ | refine K2 _ ?_)) C79
 ·have hi':i=ts.length:=by have:=A1 ht;omega
  subst hi'
  rw [G95]
  refine k6 (k2 ?_)
  refine A4 (A2 (A3 Z Z) Z (A2 (A5 Z Z) Z (A6 ?_)))
  refine k1 (k10 ?_)
  exact L1 (Y7 rfl rfl) (by repeat (first | exact E4 | refine E1 rfl ?_ | refine F1 _ ?_)) (fun _ _ h=>h) ⟨rfl,rfl⟩
set_option maxHeartbeats 1000000
end Go.Proofs.YtbiadkkamhpdnaaGreatDoor
namespace Go.Proofs.YtbiadkkamhpdnaaGreatDoor
open Go Go.AL
set_option maxRecDepth 100000
theorem B07 (s:Str):FnOk Tryz.prog 79 [K6 s] (fun rs=>rs=[O4 (G7 s)]):=by
 refine FnOk.intro Tryz.func79 (by decide) Z Z Z Z ?_
 refine k2 ?_
 refine A4 (A2 (A5 Z Z) Z (A6 ?_))
 refine k1 (k2 ?_)
 refine A4 (A2 (A3 Z Z) Z (A2 (K9 Z) Z (A2 (x5 Z Z) Z (A2 (A3 Z Z) Z (B0 Z Z Z Z (fun hg=>by rw [hg];exact A3 Z Z) ?_)))));refine B0 Z Z Z Z (fun hg=>by rw [hg];exact K9 Z) ?_;refine B0 Z Z Z Z (fun hg=>by rw [hg];exact A28 Z Z) ?_;refine A2 (B2 Z (fun h=>by first | rfl | (rw [h];rfl)) (fun h=>by first | rfl | (rw [h];rfl))) Z ?_;refine A2 (A5 Z Z) Z (A6 ?_)
 refine k1 (k10 ?_)
 refine B6 (G4 Z Z Z) ?_
 simp only [I9]
 congr 4
 unfold G7
 congr 1
 apply propext
 omega
theorem F17 (s:Str) (hs:s.length≤1099511627776):FnOk Tryz.prog 202 [K6 s] (fun rs=>rs=[O4 (O0 s)]):=by
 refine FnOk.intro Tryz.func202 (by decide) Z Z Z Z ?_
 refine k2 ?_
 refine A4 (A2 (A5 Z Z) Z (A6 ?_))
 refine k1 (k2 ?_)
 refine A4 (A2 (A3 Z Z) Z (A2 (B01 Z Z) Z (A2 (A3 Z Z) Z (B0 Z Z Z Z (fun hg=>by rw [hg];exact A3 Z Z) ?_))));refine B0 Z Z Z Z (fun hg=>by have hq:=hg;(try simp at hq);rw [hg];exact F5 (G29 s hs) Z Z) ?_;refine B0 Z Z Z Z (fun hg=>by have hq:=hg;(try simp at hq);rw [hg];exact F5 (E17 (A91 s) 10) Z Z) ?_;refine B0 Z Z Z Z (fun hg=>by rw [hg];exact J8 Z) ?_;refine A2 (B2 Z (fun h=>by first | rfl | (rw [h];rfl)) (fun h=>by first | rfl | (rw [h];rfl))) Z ?_;refine A2 (A5 Z Z) Z (A6 ?_)
 refine k1 (k10 ?_)
 exact B6 (G4 rfl rfl rfl) (by rw [G05])
theorem D84 (h:PatchHunk) (hl:h.Lines.length≤268435456):FnOk Tryz.prog 199 [pPhunk h] (fun rs=>rs=[G2 (M4 h),G2 (N2 h)]):=by
 refine FnOk.intro Tryz.func199 (by decide) Z Z Z Z ?_
 refine k2 ?_
 refine A4 (D1 (Y6 1 Z Z Z) Z (A2 (A5 Z Z) Z (A2 (A5 Z Z) Z (A6 ?_))))
 refine k1 (k2 ?_)
 refine A4 (A2 (A5 Z Z) Z (A2 (A5 Z Z) Z (A6 ?_)))
 refine k1 (k2 (k2 ?_))
 refine A4 (A2 (A8 Z) Z (A2 (A9 Z Z Z) Z (A2 (E0 Z (.pure _ _ _ _)) Z (A2 (A3 Z Z) Z (A6 ?_)))))
 refine k1 (k3 ?_)
 refine D9 (X:=Nat) (fun i=>([(4,C1 (D2 (h.Lines.take i) 43).length),(5,C1 (D2 (h.Lines.take i) 45).length),(9,C4 PatchLine 2 plineC h.Lines),(10,C1 h.Lines.length),(11,C1 i)],[])) (fun i=>i≤h.Lines.length) (fun i=>h.Lines.length - i) 0 (Nat.zero_le _) (G48 ⟨le1 rfl,le1 rfl,le1 rfl,le1 rfl,le1 rfl,trivial⟩ trivial) ?_
 intro i hi
 dsimp only at hi ⊢
 have h1:=L2 (h.Lines.take i) 43
 have h2:=L2 (h.Lines.take i) 45
 rw [G90] at h1 h2
 refine k2 ?_
 refine A4 (A2 (E9 Z Z) Z (A6 ?_))
 refine k1 (k2 ?_)
 refine B5 rfl (fun ht=>?_) (fun ht=>?_)
 ·have hlt:i < h.Lines.length:=by have:=A0 ht;omega
  have hv:h.Lines[i]?=some h.Lines[i]:=by simp [hlt]
  have s1:=A24 h.Lines 43 i hlt
  have s2:=A24 h.Lines 45 i hlt
  obtain ⟨x,hx⟩:∃x,x=h.Lines[i]:=⟨_,rfl⟩
  rw [←hx] at hv s1 s2
  refine k5 (k1 (k2 (k3 (k2 ?_))))
  refine A4 (A2 (B1 Z (.pure _ _ _ _) Z (by omega) hv) Z (A2 (E3 Z Z) Z (D1 (G5 7 Z) Z (F3 (B9 TySz.out Z Z Z Z Z Z) (A6 ?_)))))
  refine I1 ?_
  refine j1 [(4,C1 (D2 (h.Lines.take (i+1)) 43).length),(5,C1 (D2 (h.Lines.take i) 45).length),(7,.s (.one (.ref 7 0))),(9,C4 PatchLine 2 plineC h.Lines),(10,C1 h.Lines.length),(11,C1 i)] [(7,.box [.p (.v (.int .u8 x.Kind.toNat)),.p (.v (.string ⟨x.Text.toArray⟩))])] ?_ ?_
  ·refine k2 ?_
   refine A4 (A2 (A8 Z) Z (A2 (A9 Z Z Z) Z (A2 (J0 Z Z) Z (A6 ?_))))
   refine k1 ?_
   refine B5 rfl (fun ht=>?_) (fun ht=>?_)
   ·rw [kn43] at ht
    have h3:x.Kind≠43:=A0 ht
    rw [if_pos h3] at s1
    skip
    refine A4 (A2 (A3 Z Z) Z (A2 (C0 Z Z (by omega)) Z (A2 (A5 Z Z) Z (A6 ?_))))
    refine k1 ?_
    rw [s1,G79,H18]
    exact G48 ⟨le1 rfl,le1 rfl,le1 rfl,le1 rfl,le1 rfl,le1 rfl,trivial⟩ ⟨rfl,trivial⟩
   ·rw [kn43] at ht
    have h3:¬x.Kind≠43:=A1 ht
    rw [if_neg h3] at s1
    refine k5 (k1 ?_)
    rw [s1]
    exact G48 ⟨le1 rfl,le1 rfl,le1 rfl,le1 rfl,le1 rfl,le1 rfl,trivial⟩ ⟨rfl,trivial⟩
  ·refine k2 ?_
   refine A4 (A2 (A8 Z) Z (A2 (A9 Z Z Z) Z (A2 (J0 Z Z) Z (A6 ?_))))
   refine k1 ?_
   refine B5 rfl (fun ht=>?_) (fun ht=>?_)
   ·rw [kn45] at ht
    have h3:x.Kind≠45:=A0 ht
    rw [if_pos h3] at s2
    skip
    refine A4 (A2 (A3 Z Z) Z (A2 (C0 Z Z (by omega)) Z (A2 (A5 Z Z) Z (A6 ?_))))
    refine k4 (k1 ?_)
    refine A4 (A2 (C0 Z Z (by omega)) Z (A2 (A3 Z Z) Z (A6 ?_)))
    refine k1 ?_
    refine ⟨i+1,by omega,by omega,?_⟩
    rw [s2,G79,H18]
    exact G48 ⟨le1 rfl,le1 rfl,le1 rfl,le1 rfl,le1 rfl,trivial⟩ trivial
   ·rw [kn45] at ht
    have h3:¬x.Kind≠45:=A1 ht
    rw [if_neg h3] at s2
    refine k5 (k4 (k1 ?_))
    refine A4 (A2 (C0 Z Z (by omega)) Z (A2 (A3 Z Z) Z (A6 ?_)))
    refine k1 ?_
    refine ⟨i+1,by omega,by omega,?_⟩
    rw [s2]
    exact G48 ⟨le1 rfl,le1 rfl,le1 rfl,le1 rfl,le1 rfl,trivial⟩ trivial
 ·have hi':i=h.Lines.length:=by have:=A1 ht;omega
  subst hi'
  rw [G95]
  refine k6 (k2 ?_)
  refine A4 (A2 (A3 Z Z) Z (A2 (A3 Z Z) Z (A2 (A5 Z Z) Z (A2 (A5 Z Z) Z (A6 ?_)))))
  refine k1 (k10 ?_)
  exact B6 (x7 rfl rfl rfl rfl rfl) rfl
theorem D03 (h:PatchHunk) (hl:h.Lines.length≤268435456) (ho:-4611686018427387904≤h.Old∧h.Old≤4611686018427387904) (hn:-4611686018427387904≤h.New∧h.New≤4611686018427387904):FnOk Tryz.prog 135 [pPhunk h] (fun rs=>rs=[K6 (T4 h)]):=by
 have h1:=L2 h.Lines 43
 have h2:=L2 h.Lines 45
 have h3:0≤M4 h∧M4 h≤268435456:=by unfold M4;omega
 have h4:0≤N2 h∧N2 h≤268435456:=by unfold N2;omega
 have h5:=d6 h.Old (M4 h)
 have h6:=d6 h.New (N2 h)
 refine FnOk.intro Tryz.func135 (by decide) Z Z Z Z ?_
 refine k2 ?_
 refine A4 (D1 (Y6 1 Z Z Z) Z (A2 (A5 Z Z) Z (A6 ?_)))
 refine k1 (k2 ?_)
 refine A4 (A2 (D4 Z Z Z) Z (C8 (D84 h hl) Z Z Z ?_));rintro _ rfl;refine A2 (A3 Z Z) Z (A2 (C6 Z Z) Z (A2 (C6 Z Z) Z (A2 (A5 Z Z) Z (A2 (A5 Z Z) Z (A6 ?_)))))
 refine k1 (k2 ?_)
 refine C5 (by kernel_rfl) (by kernel_rfl) (A7 (A8 Z) Z Z (A7 (A9 Z Z Z) Z Z (A7 (A3 Z Z) Z Z (A7 (F5 (D79 h.Old (M4 h) ho (by omega)) Z Z) Z Z (A7 (G3 Z Z (by (simp only [G81,G83];omega))) Z Z (A7 (G3 Z Z (by (simp only [G79,G81,G83];omega))) Z Z (A7 (A8 Z) Z Z (A7 (A9 Z Z Z) Z Z (A7 (A3 Z Z) Z Z (A7 (F5 (D79 h.New (N2 h) hn (by omega)) Z Z) Z Z (A7 (G3 Z Z (by (simp only [G79,G81,G83];omega))) Z Z (A7 (G3 Z Z (by (simp only [G79,G81,G83];omega))) Z Z (A7 (A5 Z Z) Z Z (F4 ?_))))))))))))))
 refine k1 (k10 ?_)
 exact B6 (G4 rfl rfl rfl) rfl
theorem D04 (h:PatchHunk) (hl:(h.Lines.map szL).sum≤1099511627776):FnOk Tryz.prog 140 [pPhunk h] (fun rs=>rs=[O4 (h.Lines.all U9&&T0 h.Lines)]):=by
 have h3:=W3 h.Lines
 refine FnOk.intro Tryz.func140 (by decide) Z Z Z Z ?_
 refine k2 ?_
 refine A4 (D1 (Y6 1 Z Z Z) Z (A2 (A5 Z Z) Z (A6 ?_)))
 refine k1 (k2 ?_)
 refine A4 (A2 (A5 Z Z) Z (A6 ?_))
 refine k1 (k2 (k2 ?_))
 refine A4 (A2 (A8 Z) Z (A2 (A9 Z Z Z) Z (A2 (E0 Z (.pure _ _ _ _)) Z (A2 (A3 Z Z) Z (A6 ?_)))))
 refine k1 (k3 ?_)
 refine D9 (X:=Nat) (fun n=>([(3,K1 (.bool (T0 (h.Lines.take n)))),(7,C4 PatchLine 2 plineC h.Lines),(8,C1 h.Lines.length),(9,C1 n)],[])) (fun n=>n≤h.Lines.length∧h.Lines.all U9=(h.Lines.drop n).all U9) (fun n=>h.Lines.length - n) 0 ⟨Nat.zero_le _,rfl⟩ (G48 ⟨le1 rfl,le1 rfl,le1 rfl,le1 rfl,trivial⟩ trivial) ?_
 rintro n ⟨hn1,hn2⟩
 dsimp only at hn1 hn2 ⊢
 refine k2 ?_
 refine A4 (A2 (E9 Z Z) Z (A6 ?_))
 refine k1 (k2 ?_)
 refine B5 rfl (fun ht=>?_) (fun ht=>?_)
 ·have hlt2:n < h.Lines.length:=by have:=A0 ht;omega
  have hv2:h.Lines[n]?=some h.Lines[n]:=by simp [hlt2]
  have hmem2:=A16 (G97 hlt2)
  have hsucc:=C34 h.Lines n hlt2
  rw [G86 hlt2,List.all_cons] at hn2
  obtain ⟨x,hx2⟩:∃x,x=h.Lines[n]:=⟨_,rfl⟩
  rw [←hx2] at hv2 hmem2 hsucc hn2
  refine k5 (k1 (k2 (k3 (k2 ?_))))
  refine A4 (A2 (B1 Z (.pure _ _ _ _) Z (by omega) hv2) Z (A2 (E3 Z Z) Z (D1 (G5 5 Z) Z (F3 (B9 TySz.out Z Z Z Z Z Z) (A6 ?_)))))
  refine k1 (k2 (k2 ?_))
  refine A4 (A2 (A8 Z) Z (A2 (A9 Z Z Z) Z (A2 (J0 Z Z) Z (A2 (A3 Z Z) Z (B0 Z Z Z Z (fun hg=>by rw [hg];exact A8 Z) ?_)))));refine B0 Z Z Z Z (fun hg=>by rw [hg];exact A9 Z Z Z) ?_;refine B0 Z Z Z Z (fun hg=>by rw [hg];exact J0 Z Z) ?_;refine A2 (B2 Z (fun h=>by first | rfl | (rw [h];rfl)) (fun h=>by first | rfl | (rw [h];rfl))) Z ?_;refine A2 (A3 Z Z) Z (B0 Z Z Z Z (fun hg=>by rw [hg];exact A8 Z) ?_);refine B0 Z Z Z Z (fun hg=>by rw [hg];exact A9 Z Z Z) ?_;refine B0 Z Z Z Z (fun hg=>by rw [hg];exact J0 Z Z) ?_;refine A2 (B2 Z (fun h=>by first | rfl | (rw [h];rfl)) (fun h=>by first | rfl | (rw [h];rfl))) Z ?_;refine A2 (A3 Z Z) Z (B0 Z Z Z Z (fun hg=>by rw [hg];exact A8 Z) ?_);refine B0 Z Z Z Z (fun hg=>by rw [hg];exact A9 Z Z Z) ?_;refine B0 Z Z Z Z (fun hg=>by have hq:=hg;(try simp at hq);rw [hg];exact F5 (F17 x.Text (by omega)) Z Z) ?_;refine B0 Z Z Z Z (fun hg=>by rw [hg];exact J8 Z) ?_;refine A2 (B2 Z (fun h=>by first | rfl | (rw [h];rfl)) (fun h=>by first | rfl | (rw [h];rfl))) Z ?_;refine A6 ?_
  refine k1 ?_
  refine B5 rfl (fun ht=>?_) (fun ht=>?_)
  ·simp only [kn32,kn45,kn43,I9,B17,or_pick] at ht
   have hb:D13 x:=A0 ht
   refine k2 ?_
   refine A4 (A2 (A5 Z Z) Z (A6 ?_))
   refine k1 (k10 (k11 (k12 (k11 (k11 (k12 (k11 ?_)))))))
   refine B6 (G4 Z Z Z) ?_
   have:U9 x=false:=decide_eq_false (fun hh=>hh hb)
   rw [hn2,this];rfl
  ·simp only [kn32,kn45,kn43,I9,B17,or_pick] at ht
   have hb:¬D13 x:=A1 ht
   have hgl:U9 x=true:=decide_eq_true hb
   rw [hgl,Bool.true_and] at hn2
   refine k5 (k1 ?_)
   refine A4 (A2 (A3 Z Z) Z (A2 (A3 Z Z) Z (B0 Z Z Z Z (fun hg=>by rw [hg];exact A8 Z) ?_)));refine B0 Z Z Z Z (fun hg=>by rw [hg];exact A9 Z Z Z) ?_;refine B0 Z Z Z Z (fun hg=>by rw [hg];exact J0 Z Z) ?_;refine A2 (B2 Z (fun h=>by first | rfl | (rw [h];rfl)) (fun h=>by first | rfl | (rw [h];rfl))) Z ?_;refine A2 (A5 Z Z) Z (A6 ?_)
   refine k4 (k1 ?_)
   refine A4 (A2 (C0 Z Z (by omega)) Z (A2 (A3 Z Z) Z (A6 ?_)))
   refine k1 ?_
   refine ⟨n+1,⟨by omega,hn2⟩,by omega,?_⟩
   rw [kn32,←hsucc]
   exact G48 ⟨le1 rfl,le1 rfl,le1 rfl,le1 rfl,trivial⟩ trivial
 ·have hn':n=h.Lines.length:=by have:=A1 ht;omega
  subst hn'
  rw [G95]
  rw [G84 (Nat.le_refl _)] at hn2
  refine k6 (k2 ?_)
  refine A4 (A2 (A3 Z Z) Z (A2 (A5 Z Z) Z (A6 ?_)))
  refine k1 (k10 ?_)
  exact B6 (G4 rfl rfl rfl) (by rw [hn2];rfl)
theorem A36 {gf:Fr} {ob:Obs} {k:Nat} {e:Int} {o:Bool} {t:Str} (hk:C9 ob k=some (.box [.p (.v (.int .i64 e)),.p (.v (.bool o))])) (hs:t.length≤1099511627776) :
  AL.Met Tryz.prog 203 [.one (.ref k 0),.one (.p (.v (.string ⟨t.toArray⟩)))] gf ob [] (fun rs ob'=>rs=[.one (.p (.v (.bool (!o))))]∧ob'=(k,.box [.p (.v (.int .i64 e)),.p (.v (.bool (!ended t)))])::ob):=by
 refine AL.Met.intro Tryz.func203 (by decide) Z Z Z ?_
 refine k2 ?_
 refine A4 (A2 (A5 Z Z) Z (A6 ?_))
 refine k1 (k2 ?_)
 refine A4 (A2 (A3 Z Z) Z (A2 (D3 Z) Z (A2 (A8 Z) Z (A2 (A9 Z hk Z) Z (A2 (J8 Z) Z (A2 (A5 Z Z) Z (A6 ?_)))))))
 refine k1 (k2 ?_)
 refine A4 (A2 (A3 Z Z) Z (A2 (A3 Z Z) Z (C8 (B04 t hs) Z Z Z ?_)));rintro _ rfl;refine A2 (J8 Z) Z (A2 (D3 Z) Z (A2 (A8 Z) Z (F3 (B9 TySz.out Z hk Z Z Z Z) (A6 ?_))))
 refine k1 (k2 ?_)
 refine A4 (A2 (A3 Z Z) Z (A2 (A5 Z Z) Z (A6 ?_)))
 refine k1 (k10 ?_)
 exact L1 (Y7 rfl rfl) (by repeat (first | exact E4 | refine E1 rfl ?_ | refine F1 _ ?_)) (fun _ _ h=>h) ⟨rfl,rfl⟩
end Go.Proofs.YtbiadkkamhpdnaaGreatDoor
