/- Walks of the program's functions. -/
import Derived.Test.YtbiadkkamhpdnaaGreatDoorFa
import Derived.Test.YtbiadkkamhpdnaaGreatDoorFs
import Derived.Lib.AppendIntMem
namespace Go.Proofs.YtbiadkkamhpdnaaGreatDoor
open Go Go.AL
set_option maxRecDepth 100000
theorem H40 (c:UInt8):FnOk Tryz.prog 201 [pByte c] (fun rs=>rs=[I3 (A72 c)]):=by
 refine FnOk.intro Tryz.func201 (by decide) Z Z Z Z ?_
 refine k2 ?_
 refine A3 (A2 (A5 Z Z) Z (A6 ?_))
 refine k1 (k2 ?_)
 refine A3 (A2 (A4 Z Z) Z (A2 (A05 Z Z) Z (A2 (A4 Z Z) Z (B1 Z Z Z Z (fun hg=>by rw [hg];exact A4 Z Z) ?_))));refine B1 Z Z Z Z (fun hg=>by rw [hg];exact i6 Z Z) ?_;refine A2 (B6 Z (fun h=>by first | rfl | (rw [h];rfl)) (fun h=>by first | rfl | (rw [h];rfl))) Z ?_;refine A2 (A4 Z Z) Z (B1 Z Z Z Z (fun hg=>by rw [hg];exact A4 Z Z) ?_);refine B1 Z Z Z Z (fun hg=>by rw [hg];exact M5 Z Z) ?_;refine A2 (B6 Z (fun h=>by first | rfl | (rw [h];rfl)) (fun h=>by first | rfl | (rw [h];rfl))) Z ?_;refine A2 (A4 Z Z) Z (B1 Z Z Z Z (fun hg=>by rw [hg];exact A4 Z Z) ?_);refine B1 Z Z Z Z (fun hg=>by rw [hg];exact M5 Z Z) ?_;refine A2 (B6 Z (fun h=>by first | rfl | (rw [h];rfl)) (fun h=>by first | rfl | (rw [h];rfl))) Z ?_;refine A2 (A5 Z Z) Z (A6 ?_)
 refine k1 (k10 ?_)
 refine B5 (F1 Z Z Z) ?_
 simp only [P4]
 congr 4
 unfold A72
 congr 1
 simp;omega
theorem H41 (c:UInt8):FnOk Tryz.prog 197 [pByte c] (fun rs=>rs=[I3 (A72 c)]):=by
 refine FnOk.intro Tryz.func197 (by decide) Z Z Z Z ?_
 refine k2 ?_
 refine A3 (A2 (A5 Z Z) Z (A6 ?_))
 refine k1 (k2 ?_)
 refine A3 (A2 (A4 Z Z) Z (A2 (A05 Z Z) Z (A2 (A4 Z Z) Z (B1 Z Z Z Z (fun hg=>by rw [hg];exact A4 Z Z) ?_))));refine B1 Z Z Z Z (fun hg=>by rw [hg];exact i6 Z Z) ?_;refine A2 (B6 Z (fun h=>by first | rfl | (rw [h];rfl)) (fun h=>by first | rfl | (rw [h];rfl))) Z ?_;refine A2 (A4 Z Z) Z (B1 Z Z Z Z (fun hg=>by rw [hg];exact A4 Z Z) ?_);refine B1 Z Z Z Z (fun hg=>by rw [hg];exact M5 Z Z) ?_;refine A2 (B6 Z (fun h=>by first | rfl | (rw [h];rfl)) (fun h=>by first | rfl | (rw [h];rfl))) Z ?_;refine A2 (A4 Z Z) Z (B1 Z Z Z Z (fun hg=>by rw [hg];exact A4 Z Z) ?_);refine B1 Z Z Z Z (fun hg=>by rw [hg];exact M5 Z Z) ?_;refine A2 (B6 Z (fun h=>by first | rfl | (rw [h];rfl)) (fun h=>by first | rfl | (rw [h];rfl))) Z ?_;refine A2 (A5 Z Z) Z (A6 ?_)
 refine k1 (k10 ?_)
 refine B5 (F1 Z Z Z) ?_
 simp only [P4]
 congr 4
 unfold A72
 congr 1
 simp;omega
theorem y5 (n:Int):FnOk Tryz.prog 152 [G1 n] (fun rs=>rs=[L5 (Z3 n)]):=by
 obtain ⟨k,hk⟩:∃k:Nat,n.toNat=k:=⟨_,rfl⟩
 induction k using Nat.strongRecOn generalizing n with
 | _ k ih =>
 refine FnOk.intro Tryz.func152 (by decide) Z Z Z Z ?_
 refine k2 ?_
 refine A3 (A2 (A5 Z Z) Z (A6 ?_))
 refine k1 (k2 (k2 ?_))
 refine A3 (A2 (A4 Z Z) Z (A2 (D7 Z Z) Z (A2 (A4 Z Z) Z (B1 Z Z Z Z (fun hg=>by rw [hg];exact A4 Z Z) ?_))));refine B1 Z Z Z Z (fun hg=>by rw [hg];exact M4 Z Z) ?_;refine A2 (B6 Z (fun h=>by first | rfl | (rw [h];rfl)) (fun h=>by first | rfl | (rw [h];rfl))) Z ?_;refine A6 ?_
 refine k1 ?_
 refine B3 rfl (fun ht=>?_) (fun ht=>?_)
 ·have h:=A0 (or_pick.symm.trans ht)
  refine k2 ?_
  refine A3 (A2 (A5 Z Z) Z (A6 ?_))
  refine k1 (k10 (k11 ?_))
  exact B5 (F1 rfl rfl rfl) (by rw [Z3,if_pos (by omega)])
 ·have h:=A1 (or_pick.symm.trans ht)
  refine k5 (k1 (k2 (k2 ?_)))
  refine A3 (A2 (A4 Z Z) Z (A2 (D7 Z Z) Z (A6 ?_)))
  refine k1 ?_
  refine B3 rfl (fun ht=>?_) (fun ht=>?_)
  ·have h2:=A0 ht
   refine k2 ?_
   refine A3 (A2 (A4 Z Z) Z (A2 (A4 Z Z) Z (A2 (C0 Z Z (by omega)) Z (A2 (q9 Z Z Z (by (first | omega | (simp;omega))) (by (first | omega | (simp;omega))) (by (first | omega | (simp;omega)))) Z (A2 (A5 Z Z) Z (A6 ?_))))))
   refine k1 (k10 (k11 ?_))
   refine B5 (F1 Z Z Z) ?_
   rw [H80 n (by omega) h2]
   have e:(n+1).toNat - n.toNat=1:=by omega
   rw [e];rfl
  ·have h2:=A1 ht
   have hl:=U3 (n / 10)
   have hq:IntKind.i64.wrap (n.tdiv 10)=n / 10:=by
    rw [C70]<;>rw [Int.tdiv_eq_ediv_of_nonneg (by omega)];omega
   have hr:n.tmod 10=n % 10:=Int.tmod_eq_emod_of_nonneg (by omega)
   have ihq:FnOk Tryz.prog 152 [G1 (IntKind.i64.wrap (n.tdiv 10))] (fun rs=>rs=[L5 (Z3 (n / 10))]):=by
    rw [hq];exact ih (n / 10).toNat (by omega) (n / 10) rfl
   refine k5 (k1 (k2 ?_))
   refine D2 (by kernel_rfl) (by kernel_rfl) (A9 (A4 Z Z) Z Z (A9 (B97 Z Z (by omega)) Z Z (A9 (H6 (ihq) Z Z) Z Z (A9 (A4 Z Z) Z Z (A9 (B07 Z Z (by omega)) Z Z (A9 (A4 Z Z) Z Z (A9 (B07 Z Z (by omega)) Z Z (A9 (C0 Z Z (by omega)) Z Z (A9 (q9 Z Z Z (by (first | omega | (simp;omega))) (by (first | omega | (simp;omega))) (by (first | omega | (simp;omega)))) Z Z (A9 (F4 Z Z (by (simp;omega))) Z Z (A9 (A5 Z Z) Z Z (K7 ?_))))))))))))
   refine k1 (k10 ?_)
   refine B5 (F1 Z Z Z) ?_
   rw [fmt_big n (by omega) (by omega)]
   rw [hr]
   have e:(n % 10+1).toNat - (n % 10).toNat=1:=by omega
   rw [e];rfl
theorem H42 (a n:Int) (ha:-4611686018427387904≤a∧a≤4611686018427387904) (hn:-4611686018427387904≤n∧n≤4611686018427387904):FnOk Tryz.prog 139 [G1 a,G1 n] (fun rs=>rs=[L5 (O7 a n)]):=by
 refine FnOk.intro Tryz.func139 (by decide) Z Z Z Z ?_
 refine k2 ?_
 refine A3 (A2 (A5 Z Z) Z (A6 ?_))
 refine k1 (k2 (k2 ?_))
 refine A3 (A2 (A4 Z Z) Z (A2 (D7 Z Z) Z (A2 (A4 Z Z) Z (B1 Z Z Z Z (fun hg=>by rw [hg];exact A4 Z Z) ?_))));refine B1 Z Z Z Z (fun hg=>by rw [hg];exact D7 Z Z) ?_;refine A2 (B6 Z (fun h=>by first | rfl | (rw [h];rfl)) (fun h=>by first | rfl | (rw [h];rfl))) Z ?_;refine A2 (A4 Z Z) Z (B1 Z Z Z Z (fun hg=>by rw [hg];exact A4 Z Z) ?_);refine B1 Z Z Z Z (fun hg=>by rw [hg];exact M4 Z Z) ?_;refine A2 (B6 Z (fun h=>by first | rfl | (rw [h];rfl)) (fun h=>by first | rfl | (rw [h];rfl))) Z ?_;refine A2 (A4 Z Z) Z (B1 Z Z Z Z (fun hg=>by rw [hg];exact A4 Z Z) ?_);refine B1 Z Z Z Z (fun hg=>by rw [hg];exact A4 Z Z) ?_;refine B1 Z Z Z Z (fun hg=>by rw [hg];exact P9 Z Z (by (first | omega | (simp at hq;omega)))) ?_;refine B1 Z Z Z Z (fun hg=>by rw [hg];exact M4 Z Z) ?_;refine A2 (B6 Z (fun h=>by first | rfl | (rw [h];rfl)) (fun h=>by first | rfl | (rw [h];rfl))) Z ?_;refine A6 ?_
 refine k1 ?_
 have l1:=U3 a
 have l2:=U3 (a+1)
 have l3:=U3 n
 refine B3 rfl (fun ht=>?_) (fun ht=>?_)
 ·have h:=A0 ((by simp only [or_pick] at ht;exact ht):decide _=true)
  refine k2 ?_
  refine A3 (A2 (A5 Z Z) Z (A6 ?_))
  refine k1 (k10 (k11 ?_))
  exact B5 (F1 rfl rfl rfl) (by rw [O7,if_pos (by omega)])
 ·have h:=A1 ((by simp only [or_pick] at ht;exact ht):decide _=false)
  refine k5 (k1 (k2 (k2 ?_)))
  refine A3 (A2 (A4 Z Z) Z (A6 ?_))
  refine k1 (k3 (k2 ?_))
  refine A3 (A2 (J6 Z Z) Z (A2 (A5 Z Z) Z (A6 ?_)))
  refine k1 ?_
  refine B3 rfl (fun ht=>?_) (fun ht=>?_)
  ·have h0:=A0 ht
   refine k2 ?_
   refine A3 (A2 (A4 Z Z) Z (C2 (y5 a) Z Z Z ?_));rintro _ rfl;refine A2 (F4 Z Z (by simp;omega)) Z (A2 (A5 Z Z) Z (A6 ?_))
   refine k1 (k10 (k12 (k11 ?_)))
   exact B5 (F1 rfl rfl rfl) (by rw [O7,if_neg (by omega),if_pos h0])
  ·have h0:=A1 ht
   refine k2 ?_
   refine A3 (A2 (J6 Z Z) Z (A2 (A5 Z Z) Z (A6 ?_)))
   refine k1 ?_
   refine B3 rfl (fun ht=>?_) (fun ht=>?_)
   ·have h1:=A0 ht
    refine k2 ?_
    refine A3 (A2 (A4 Z Z) Z (A2 (C0 Z Z (by omega)) Z (C2 (y5 (a+1)) Z Z Z ?_)));rintro _ rfl;refine A2 (A5 Z Z) Z (A6 ?_)
    refine k1 (k10 (k12 (k11 ?_)))
    exact B5 (F1 rfl rfl rfl) (by rw [O7,if_neg (by omega),if_neg h0,if_pos h1])
   ·have h1:=A1 ht
    refine k5 (k2 ?_)
    refine A3 (A2 (A4 Z Z) Z (A2 (C0 Z Z (by omega)) Z (C2 (y5 (a+1)) Z Z Z ?_)));rintro _ rfl;refine A2 (F4 Z Z (by simp;omega)) Z (A2 (A4 Z Z) Z (C2 (y5 n) Z Z Z ?_));rintro _ rfl;refine A2 (F4 Z Z (by simp;omega)) Z (A2 (A5 Z Z) Z (A6 ?_))
    refine k1 (k10 ?_)
    exact B5 (F1 rfl rfl rfl) (by rw [O7,if_neg (by omega),if_neg h0,if_neg h1])
theorem Y0:([48,49,50,51,52,53,54,55]:Str).length=8:=rfl
theorem u8q (c:UInt8) (k:Nat):IntKind.u8.wrap ((c.toNat:Int).tdiv (k:Int))=((c.toNat / k:Nat):Int):=by
 have hc:=c.toNat_lt
 have h1:(c.toNat:Int).tdiv (k:Int)=((c.toNat / k:Nat):Int):=by rw [Int.tdiv_eq_ediv_of_nonneg (by omega)];simp
 have h2:c.toNat / k≤c.toNat:=Nat.div_le_self _ _
 rw [h1]
 generalize c.toNat / k=q at *
 rw [IntWalk.u8_in _ (by omega)]
theorem u8r (n k:Nat):(n:Int).tmod (k:Int)=((n % k:Nat):Int):=by
 rw [Int.tmod_eq_emod_of_nonneg (by omega)];simp
theorem u8s (n:Nat) (h:n < 255):IntKind.u8.wrap ((n:Int)+1)=((n+1:Nat):Int):=by
 rw [IntWalk.u8_in _ (by omega)];simp
set_option maxHeartbeats 1000000 in
theorem H43 (s:Str) (hs:s.length≤16777216):FnOk Tryz.prog 138 [L5 s] (fun rs=>rs=[L5 (Y3 s)]):=by
 refine FnOk.intro Tryz.func138 (by decide) Z Z Z Z ?_
 refine k2 ?_
 refine A3 (A2 (A5 Z Z) Z (A6 ?_))
 refine k1 (k2 ?_)
 refine A3 (A2 (A4 Z Z) Z (A2 (A49 Z Z) Z (A2 (A5 Z Z) Z (A6 ?_))))
 refine k1 (k2 ?_)
 refine A3 (A2 (A5 Z Z) Z (A6 ?_))
 refine k1 (k2 (k2 ?_))
 refine A3 (A2 (A5 Z Z) Z (A6 ?_))
 refine k1 (k3 ?_)
 refine C9 (X:=Nat) (fun i=>([(0,S7 s),(3,I9 (.bool (plains s i))),(4,S7 (34::escs s i)),(5,B8 i)],[])) (fun i=>i≤s.length) (fun i=>s.length - i) 0 (Nat.zero_le _) ?_ ?_
 ·rw [C86,H81]
  first | exact I45 ⟨le1 rfl,le1 rfl,le1 rfl,le1 rfl,trivial⟩ trivial | trace_state
 intro i hi
 dsimp only at hi ⊢
 have hel:=G06 s i hi
 refine k2 (k2 ?_)
 refine A3 (A2 (A4 Z Z) Z (A2 (A4 Z Z) Z (A2 (M1 Z) Z (A2 (D7 Z Z) Z (A6 ?_)))))
 refine k1 ?_
 refine B3 rfl (fun ht=>?_) (fun ht=>?_)
 ·have hlt:i < s.length:=by have:=A0 ht;omega
  have hv:s[i]?=some s[i]:=by simp [hlt]
  obtain ⟨c,hc⟩:∃c,c=s[i]:=⟨_,rfl⟩
  have h1:=E67 s i hlt
  have h2:=C87 s i hlt
  rw [←hc] at hv h1 h2
  have h3:=c.toNat_lt
  refine k5 (k1 (k2 (k3 (k2 ?_))))
  refine A3 (A2 (A4 Z Z) Z (A2 (A4 Z Z) Z (A2 (c8 Z Z (by omega) hv) Z (A2 (A5 Z Z) Z (A6 ?_)))))
  refine k1 (k2 ?_)
  refine A3 (A2 (A4 Z Z) Z (A2 (A4 Z Z) Z (B1 Z Z Z Z (fun hg=>by rw [hg];exact A4 Z Z) ?_)));refine B1 Z Z Z Z (fun hg=>by have hq:=hg;(try simp at hq);rw [hg];exact H6 (H40 c) Z Z) ?_;refine A2 (B6 Z (fun h=>by first | rfl | (rw [h];rfl)) (fun h=>by first | rfl | (rw [h];rfl))) Z ?_;refine A2 (A5 Z Z) Z (A6 ?_)
  rw [show (if plains s i=true then A72 c else false)=plains s (i+1) from by rw [h2];cases plains s i<;>rfl]
  have hsub:(s.drop i).take 1=[c]:=by rw [I84 hlt,←hc];rfl
  have hone:(i:Int).toNat=i∧((i:Int)+1).toNat - i=1:=by omega
  refine k1 (k3 (k2 ?_))
  refine A3 (A2 (A4 Z Z) Z (A2 (J6 Z Z) Z (A2 (A4 Z Z) Z (B1 Z Z Z Z (fun hg=>by rw [hg];exact A4 Z Z) ?_))));refine B1 Z Z Z Z (fun hg=>by rw [hg];exact J6 Z Z) ?_;refine A2 (B6 Z (fun h=>by first | rfl | (rw [h];rfl)) (fun h=>by first | rfl | (rw [h];rfl))) Z ?_;refine A2 (A5 Z Z) Z (A6 ?_)
  refine k1 ?_
  refine B3 rfl (fun ht=>?_) (fun ht=>?_)
  ·have h:=A0 (or_pick.symm.trans ht)
   skip
   refine A3 (A2 (A4 Z Z) Z (A2 (F4 Z Z (by (simp;omega))) Z (A2 (A4 Z Z) Z (A2 (A4 Z Z) Z (A2 (A4 Z Z) Z (A2 (C0 Z Z (by omega)) Z (A2 (q9 Z Z Z (by omega) (by omega) (by omega)) Z (A2 (F4 Z Z (by (simp;omega))) Z (A2 (A5 Z Z) Z (A6 ?_))))))))))
   refine k4 (k4 (k1 ?_))
   refine A3 (A2 (A4 Z Z) Z (A2 (C0 Z Z (by omega)) Z (A2 (A5 Z Z) Z (A6 ?_))))
   refine k1 ?_
   refine ⟨i+1,hlt,by omega,?_⟩
   rw [h1,show X4 c=_ from by rw [X4,if_pos (by omega)]]
   rw [hone.1,hone.2,hsub,I88]
   exact I45 ⟨le1 rfl,le1 rfl,le1 rfl,le1 rfl,trivial⟩ trivial
  ·have h:=A1 (or_pick.symm.trans ht)
   refine k2 ?_
   refine A3 (A2 (A4 Z Z) Z (A2 (J6 Z Z) Z (A2 (A5 Z Z) Z (A6 ?_))))
   refine k1 ?_
   refine B3 rfl (fun ht=>?_) (fun ht=>?_)
   ·have h4:=A0 ht
    skip
    refine A3 (A2 (A4 Z Z) Z (A2 (F4 Z Z (by simp;omega)) Z (A2 (A5 Z Z) Z (A6 ?_))))
    refine k4 (k4 (k1 ?_))
    refine A3 (A2 (A4 Z Z) Z (A2 (C0 Z Z (by omega)) Z (A2 (A5 Z Z) Z (A6 ?_))))
    refine k1 ?_
    refine ⟨i+1,hlt,by omega,?_⟩
    rw [h1,show X4 c=_ from by rw [X4,if_neg (by omega),if_pos (by omega)]]
    exact I45 ⟨le1 rfl,le1 rfl,le1 rfl,le1 rfl,trivial⟩ trivial
   ·have h4:=A1 ht
    refine k2 ?_
    refine A3 (A2 (A4 Z Z) Z (A2 (J6 Z Z) Z (A2 (A5 Z Z) Z (A6 ?_))))
    refine k1 ?_
    refine B3 rfl (fun ht=>?_) (fun ht=>?_)
    ·have h5:=A0 ht
     skip
     refine A3 (A2 (A4 Z Z) Z (A2 (F4 Z Z (by simp;omega)) Z (A2 (A5 Z Z) Z (A6 ?_))))
     refine k4 (k4 (k1 ?_))
     refine A3 (A2 (A4 Z Z) Z (A2 (C0 Z Z (by omega)) Z (A2 (A5 Z Z) Z (A6 ?_))))
     refine k1 ?_
     refine ⟨i+1,hlt,by omega,?_⟩
     rw [h1,show X4 c=_ from by rw [X4,if_neg (by omega),if_neg (by omega),if_pos (by omega)]]
     exact I45 ⟨le1 rfl,le1 rfl,le1 rfl,le1 rfl,trivial⟩ trivial
    ·have h5:=A1 ht
     refine k2 ?_
     refine A3 (A2 (A4 Z Z) Z (A2 (D7 Z Z) Z (A2 (A4 Z Z) Z (B1 Z Z Z Z (fun hg=>by rw [hg];exact A4 Z Z) ?_))));refine B1 Z Z Z Z (fun hg=>by rw [hg];exact M4 Z Z) ?_;refine A2 (B6 Z (fun h=>by first | rfl | (rw [h];rfl)) (fun h=>by first | rfl | (rw [h];rfl))) Z ?_;refine A2 (A5 Z Z) Z (A6 ?_)
     refine k1 ?_
     refine B3 rfl (fun ht=>?_) (fun ht=>?_)
     ·have h6:=A0 (or_pick.symm.trans ht)
      have e1:IntKind.u8.wrap ((c.toNat:Int).tdiv 64)=((c.toNat / 64:Nat):Int):=u8q c 64
      have e2:IntKind.u8.wrap ((c.toNat:Int).tdiv 8)=((c.toNat / 8:Nat):Int):=u8q c 8
      have e3:(IntKind.u8.wrap ((c.toNat:Int).tdiv 8)).tmod 8=((c.toNat / 8 % 8:Nat):Int):=by rw [e2];exact u8r _ 8
      have e4:(c.toNat:Int).tmod 8=((c.toNat % 8:Nat):Int):=u8r _ 8
      have e5:IntKind.u8.wrap (IntKind.u8.wrap ((c.toNat:Int).tdiv 64)+1)=((c.toNat / 64+1:Nat):Int):=by rw [e1];exact u8s _ (by omega)
      have e6:IntKind.u8.wrap ((IntKind.u8.wrap ((c.toNat:Int).tdiv 8)).tmod 8+1)=((c.toNat / 8 % 8+1:Nat):Int):=by rw [e3];exact u8s _ (by omega)
      have e7:IntKind.u8.wrap ((c.toNat:Int).tmod 8+1)=((c.toNat % 8+1:Nat):Int):=by rw [e4];exact u8s _ (by omega)
      have hol:=E65 c
      have hob:X4 c=92::C85 c:=by rw [X4,if_neg (by omega),if_neg (by omega),if_neg (by omega),if_pos (by omega)]
      have g1:c.toNat / 64 < 8:=by omega
      skip
      refine D2 (by kernel_rfl) (by kernel_rfl) (A9 (A4 Z Z) Z Z (A9 (F4 Z Z (by (simp;omega))) Z Z (A9 (A4 Z Z) Z Z (A9 (B97 Z Z (by omega)) Z Z (A9 (A4 Z Z) Z Z (A9 (B97 Z Z (by omega)) Z Z (A9 (A03 Z Z) Z Z (A9 (q9 Z Z Z (by (first | omega | (simp only [Y0];omega))) (by (first | omega | (simp only [Y0];omega))) (by (first | omega | (simp only [Y0];omega)))) Z Z (A9 (F4 Z Z (by (simp only [I78,I79,I81,I93,I95];omega))) Z Z (A9 (A4 Z Z) Z Z (A9 (B97 Z Z (by omega)) Z Z (A9 (B07 Z Z (by omega)) Z Z (A9 (A4 Z Z) Z Z (A9 (B97 Z Z (by omega)) Z Z (A9 (B07 Z Z (by omega)) Z Z (A9 (A03 Z Z) Z Z (A9 (q9 Z Z Z (by (first | omega | (simp only [Y0];omega))) (by (first | omega | (simp only [Y0];omega))) (by (first | omega | (simp only [Y0];omega)))) Z Z (A9 (F4 Z Z (by (simp only [I78,I79,I81,I93,I95];omega))) Z Z (A9 (A4 Z Z) Z Z (A9 (B07 Z Z (by omega)) Z Z (A9 (A4 Z Z) Z Z (A9 (B07 Z Z (by omega)) Z Z (A9 (A03 Z Z) Z Z ?_)))))))))))))))))))))));refine A9 (q9 Z Z Z (by (first | omega | (simp only [Y0];omega))) (by (first | omega | (simp only [Y0];omega))) (by (first | omega | (simp only [Y0];omega)))) Z Z (A9 (F4 Z Z (by (simp only [I78,I79,I81,I93,I95];omega))) Z Z (A9 (A5 Z Z) Z Z (K7 ?_)))
      have k1:∀q:Nat,((q+1:Nat):Int).toNat - ((q:Nat):Int).toNat=1:=fun q=>by omega
      refine k4 (k4 ?_)
      refine A3 (A2 (A4 Z Z) Z (A2 (C0 Z Z (by omega)) Z (A2 (A5 Z Z) Z (A6 ?_))))
      skip
      refine ⟨i+1,hlt,by omega,?_⟩
      rw [e5,e6,e7,e1,e3,e4,k1 (c.toNat / 64),k1 (c.toNat / 8 % 8),k1 (c.toNat % 8),h1,hob,show 34::(escs s i++(92::C85 c))=34::escs s i++[92]++(digs8.drop (c.toNat / 64)).take 1++(digs8.drop (c.toNat / 8 % 8)).take 1++(digs8.drop (c.toNat % 8)).take 1 from by unfold C85;simp only [J19,I88,J11]]
      exact I45 ⟨le1 rfl,le1 rfl,le1 rfl,le1 rfl,trivial⟩ trivial
     ·have h6:=A1 (or_pick.symm.trans ht)
      skip
      refine A3 (A2 (A4 Z Z) Z (A2 (A4 Z Z) Z (A2 (A4 Z Z) Z (A2 (A4 Z Z) Z (A2 (C0 Z Z (by omega)) Z (A2 (q9 Z Z Z (by omega) (by omega) (by omega)) Z (A2 (F4 Z Z (by simp;omega)) Z (A2 (A5 Z Z) Z (A6 ?_)))))))))
      refine k4 (k4 (k1 ?_))
      refine A3 (A2 (A4 Z Z) Z (A2 (C0 Z Z (by omega)) Z (A2 (A5 Z Z) Z (A6 ?_))))
      refine k1 ?_
      refine ⟨i+1,hlt,by omega,?_⟩
      rw [h1,show X4 c=_ from by rw [X4,if_neg (by omega),if_neg (by omega),if_neg (by omega),if_neg (by omega)]]
      rw [hone.1,hone.2,hsub]
      exact I45 ⟨le1 rfl,le1 rfl,le1 rfl,le1 rfl,trivial⟩ trivial
 ·have hi':i=s.length:=by have:=A1 ht;omega
  subst hi'
  refine k6 (k2 (k2 ?_))
  refine A3 (A2 (A4 Z Z) Z (A6 ?_))
  refine k1 ?_
  refine B3 rfl (fun ht=>?_) (fun ht=>?_)
  ·have h:plains s s.length=true:=ht
   refine k2 ?_
   refine A3 (A2 (A4 Z Z) Z (A2 (A5 Z Z) Z (A6 ?_)))
   refine k1 (k10 (k11 ?_))
   exact B5 (F1 rfl rfl rfl) (by rw [A73,if_pos h])
  ·have h:plains s s.length=false:=ht
   refine k5 (k1 (k2 ?_))
   refine A3 (A2 (A4 Z Z) Z (A2 (F4 Z Z (by simp;omega)) Z (A2 (A5 Z Z) Z (A6 ?_))))
   refine k1 (k10 ?_)
   exact B5 (F1 rfl rfl rfl) (by rw [A73,h];rfl)
end Go.Proofs.YtbiadkkamhpdnaaGreatDoor
namespace Go.Proofs.YtbiadkkamhpdnaaGreatDoor
open Go Go.AL Go.RowKit
set_option maxRecDepth 100000
theorem u8dig (q:Nat) (h:q < 8):IntKind.u8.wrap (48+(q:Int))=((UInt8.ofNat (48+q)).toNat:Int):=by
 rw [IntWalk.u8_in _ (by omega)]
 have:(UInt8.ofNat (48+q)).toNat=48+q:=by rw [UInt8.toNat_ofNat'];omega
 rw [this];simp
theorem H08 (x:Nat) (h:x < 256):IntKind.u8.wrap ((BitVec.ofInt IntKind.u8.bits (x:Int) &&& BitVec.ofInt IntKind.u8.bits 7).toNat:Int)=((x % 8:Nat):Int):=by
 have h1:(BitVec.ofInt IntKind.u8.bits (x:Int) &&& BitVec.ofInt IntKind.u8.bits 7).toNat=x % 8:=by
  rw [BitVec.toNat_and,BitVec.toNat_ofInt,BitVec.toNat_ofInt]
  have e1:((x:Int) % ((2 ^ IntKind.u8.bits:Nat):Int)).toNat=x:=by
   rw [show ((2 ^ IntKind.u8.bits:Nat):Int)=256 by rfl];omega
  have e2:((7:Int) % ((2 ^ IntKind.u8.bits:Nat):Int)).toNat=2 ^ 3 - 1:=by rfl
  rw [e1,e2,Nat.and_two_pow_sub_one_eq_mod]
 rw [h1,IntWalk.u8_in _ (by omega)]
theorem shr_u8 (x:Nat) (c:Nat) (h:c≤8):(x:Int).fdiv (2 ^ min (Int.toNat (c:Int)) IntKind.u8.bits)=((x / 2 ^ c:Nat):Int):=by
 rw [shr_eq _ _ IntKind.u8.bits ⟨by omega,by show (c:Int)≤8;omega⟩]
 simp
theorem G42 (c:UInt8):FnOk Tryz.prog 198 [pByte c] (fun rs=>rs=[L5 (X4 c)]):=by
 have hc:=c.toNat_lt
 refine FnOk.intro Tryz.func198 (by decide) Z Z Z Z ?_
 refine k2 ?_
 refine A3 (A2 (A5 Z Z) Z (A6 ?_))
 refine k1 (k2 (k3 (k2 ?_)))
 refine A3 (A2 (A4 Z Z) Z (A2 (J6 Z Z) Z (A2 (A4 Z Z) Z (B1 Z Z Z Z (fun hg=>by rw [hg];exact A4 Z Z) ?_))));refine B1 Z Z Z Z (fun hg=>by rw [hg];exact J6 Z Z) ?_;refine A2 (B6 Z (fun h=>by first | rfl | (rw [h];rfl)) (fun h=>by first | rfl | (rw [h];rfl))) Z ?_;refine A2 (A5 Z Z) Z (A6 ?_)
 refine k1 ?_
 refine B3 rfl (fun ht=>?_) (fun ht=>?_)
 ·have h:=A0 (or_pick.symm.trans ht)
  refine k2 ?_
  refine A3 (A2 (A4 Z Z) Z (A2 (B63 Z (by omega)) Z (A2 (F4 Z Z (by simp)) Z (A2 (A5 Z Z) Z (A6 ?_)))))
  refine k1 (k10 (k12 (k11 ?_)))
  exact B5 (F1 rfl rfl rfl) (by rw [X4,if_pos (by omega)];rfl)
 ·have h:=A1 (or_pick.symm.trans ht)
  refine k2 ?_
  refine A3 (A2 (A4 Z Z) Z (A2 (J6 Z Z) Z (A2 (A5 Z Z) Z (A6 ?_))))
  refine k1 ?_
  refine B3 rfl (fun ht=>?_) (fun ht=>?_)
  ·have h1:=A0 ht
   refine k2 ?_
   refine A3 (A2 (A5 Z Z) Z (A6 ?_))
   refine k1 (k10 (k12 (k11 ?_)))
   exact B5 (F1 rfl rfl rfl) (by rw [X4,if_neg (by omega),if_pos (by omega)])
  ·have h1:=A1 ht
   refine k2 ?_
   refine A3 (A2 (A4 Z Z) Z (A2 (J6 Z Z) Z (A2 (A5 Z Z) Z (A6 ?_))))
   refine k1 ?_
   refine B3 rfl (fun ht=>?_) (fun ht=>?_)
   ·have h2:=A0 ht
    refine k2 ?_
    refine A3 (A2 (A5 Z Z) Z (A6 ?_))
    refine k1 (k10 (k12 (k11 ?_)))
    exact B5 (F1 rfl rfl rfl) (by rw [X4,if_neg (by omega),if_neg (by omega),if_pos (by omega)])
   ·have h2:=A1 ht
    refine k2 ?_
    refine A3 (A2 (A4 Z Z) Z (A2 (D7 Z Z) Z (A2 (A4 Z Z) Z (B1 Z Z Z Z (fun hg=>by rw [hg];exact A4 Z Z) ?_))));refine B1 Z Z Z Z (fun hg=>by rw [hg];exact M4 Z Z) ?_;refine A2 (B6 Z (fun h=>by first | rfl | (rw [h];rfl)) (fun h=>by first | rfl | (rw [h];rfl))) Z ?_;refine A2 (A5 Z Z) Z (A6 ?_)
    refine k1 ?_
    refine B3 rfl (fun ht=>?_) (fun ht=>?_)
    ·have h3:=A0 (or_pick.symm.trans ht)
     refine k2 ?_
     have f6:(c.toNat:Int).fdiv (2 ^ min (Int.toNat 6) IntKind.u8.bits)=((c.toNat / 64:Nat):Int):=shr_u8 c.toNat 6 (by omega)
     have f3:(c.toNat:Int).fdiv (2 ^ min (Int.toNat 3) IntKind.u8.bits)=((c.toNat / 8:Nat):Int):=shr_u8 c.toNat 3 (by omega)
     have e1:=u8dig (c.toNat / 64) (by omega)
     have e2:=u8dig (c.toNat / 8 % 8) (by omega)
     have e3:=u8dig (c.toNat % 8) (by omega)
     have hol:=G05 c
     refine A3 (A2 (A4 Z Z) Z (A2 (A04 Z Z (by omega)) Z (A2 (A03 Z Z) Z (A2 (A4 Z Z) Z (A2 (A04 Z Z (by omega)) Z (A2 (U9 Z Z Z (fun _=>rfl)) Z (A2 (A03 Z Z) Z (A2 (A4 Z Z) Z (A2 (U9 Z Z Z (fun _=>rfl)) Z (A2 (A03 Z Z) Z ?_))))))))));rw [f6,f3,H08 (c.toNat / 8) (by omega),H08 c.toNat (by omega),e1,e2,e3];refine A2 (C4 (c:=u8C) (ys:=[UInt8.ofNat (48+c.toNat / 64),UInt8.ofNat (48+c.toNat / 8 % 8),UInt8.ofNat (48+c.toNat % 8)]) (D5 Z Z Z Z (D5 Z Z Z Z (D5 Z Z Z Z E7))) Z Z Z) Z (A2 (X0 TyStr.out Z (.pure _ _ _ _)) Z (A2 (F4 Z Z (by simp)) Z (A2 (A5 Z Z) Z (A6 ?_))))
     refine k1 (k10 (k12 (k11 ?_)))
     exact B5 (F1 rfl rfl rfl) (by rw [X4,if_neg (by omega),if_neg (by omega),if_neg (by omega),if_pos (by omega),hol];rfl)
    ·have h3:=A1 (or_pick.symm.trans ht)
     refine k5 (k2 ?_)
     refine A3 (A2 (A4 Z Z) Z (A2 (B63 Z (by omega)) Z (A2 (A5 Z Z) Z (A6 ?_))))
     refine k1 (k10 ?_)
     exact B5 (F1 rfl rfl rfl) (by rw [X4,if_neg (by omega),if_neg (by omega),if_neg (by omega),if_neg (by omega)])
theorem itoa_ok (n:Int) (h:0≤n∧n≤2147483647):FnOk Tryz.prog 205 [G1 n] (fun rs=>rs=[L5 (Lib.itoa n)]) :=
 I59 (xs:=[.int .i64 n]) (r:=.string ⟨(Lib.itoa n).toArray⟩) ⟨_,rfl,rfl,rfl⟩ rfl fun w hw =>
  (Tryz.strconv_Itoa n (by omega) (by omega) w (hw.pow10 rfl)).mono fun e w' ⟨he,k,os,hw'⟩=>⟨he,by subst hw';exact Lib.below_grow _ _ (Nat.le_refl _) _ _⟩
theorem n7 (n:Int):FnOk Tryz.prog 148 [G1 n] (fun rs=>rs=[L5 (Z3 n)]):=by
 refine FnOk.intro Tryz.func148 (by decide) Z Z Z Z ?_
 refine k2 ?_
 refine A3 (A2 (A5 Z Z) Z (A6 ?_))
 refine k1 (k2 (k2 ?_))
 refine A3 (A2 (A4 Z Z) Z (A2 (D7 Z Z) Z (A2 (A4 Z Z) Z (B1 Z Z Z Z (fun hg=>by rw [hg];exact A4 Z Z) ?_))));refine B1 Z Z Z Z (fun hg=>by rw [hg];exact M4 Z Z) ?_;refine A2 (B6 Z (fun h=>by first | rfl | (rw [h];rfl)) (fun h=>by first | rfl | (rw [h];rfl))) Z ?_;refine A6 ?_
 refine k1 ?_
 refine B3 rfl (fun ht=>?_) (fun ht=>?_)
 ·have h:=A0 (or_pick.symm.trans ht)
  refine k2 ?_
  refine A3 (A2 (A5 Z Z) Z (A6 ?_))
  refine k1 (k10 (k11 ?_))
  exact B5 (F1 rfl rfl rfl) (by rw [Z3,if_pos (by omega)])
 ·have h:=A1 (or_pick.symm.trans ht)
  refine k5 (k1 (k2 ?_))
  refine A3 (A2 (A4 Z Z) Z (C2 (itoa_ok n (by omega)) Z Z Z ?_));rintro _ rfl;refine A2 (A5 Z Z) Z (A6 ?_)
  refine k1 (k10 ?_)
  exact B5 (F1 rfl rfl rfl) (by rw [Z3,if_neg (by omega)])
theorem E53 (a n:Int) (ha:-4611686018427387904≤a∧a≤4611686018427387904) (hn:-4611686018427387904≤n∧n≤4611686018427387904):FnOk Tryz.prog 151 [G1 a,G1 n] (fun rs=>rs=[L5 (O7 a n)]):=by
 refine FnOk.intro Tryz.func151 (by decide) Z Z Z Z ?_
 refine k2 ?_
 refine A3 (A2 (A5 Z Z) Z (A6 ?_))
 refine k1 (k2 (k2 ?_))
 refine A3 (A2 (A4 Z Z) Z (A2 (D7 Z Z) Z (A2 (A4 Z Z) Z (B1 Z Z Z Z (fun hg=>by rw [hg];exact A4 Z Z) ?_))));refine B1 Z Z Z Z (fun hg=>by rw [hg];exact D7 Z Z) ?_;refine A2 (B6 Z (fun h=>by first | rfl | (rw [h];rfl)) (fun h=>by first | rfl | (rw [h];rfl))) Z ?_;refine A2 (A4 Z Z) Z (B1 Z Z Z Z (fun hg=>by rw [hg];exact A4 Z Z) ?_);refine B1 Z Z Z Z (fun hg=>by rw [hg];exact M4 Z Z) ?_;refine A2 (B6 Z (fun h=>by first | rfl | (rw [h];rfl)) (fun h=>by first | rfl | (rw [h];rfl))) Z ?_;refine A2 (A4 Z Z) Z (B1 Z Z Z Z (fun hg=>by rw [hg];exact A4 Z Z) ?_);refine B1 Z Z Z Z (fun hg=>by rw [hg];exact A4 Z Z) ?_;refine B1 Z Z Z Z (fun hg=>by rw [hg];exact P9 Z Z (by (first | omega | (simp at hq;omega)))) ?_;refine B1 Z Z Z Z (fun hg=>by rw [hg];exact M4 Z Z) ?_;refine A2 (B6 Z (fun h=>by first | rfl | (rw [h];rfl)) (fun h=>by first | rfl | (rw [h];rfl))) Z ?_;refine A6 ?_
 refine k1 ?_
 have l1:=U3 a
 have l2:=U3 (a+1)
 have l3:=U3 n
 refine B3 rfl (fun ht=>?_) (fun ht=>?_)
 ·have h:=A0 ((by simp only [or_pick] at ht;exact ht):decide _=true)
  refine k2 ?_
  refine A3 (A2 (A5 Z Z) Z (A6 ?_))
  refine k1 (k10 (k11 ?_))
  exact B5 (F1 rfl rfl rfl) (by rw [O7,if_pos (by omega)])
 ·have h:=A1 ((by simp only [or_pick] at ht;exact ht):decide _=false)
  refine k5 (k1 (k2 (k2 ?_)))
  refine A3 (A2 (A4 Z Z) Z (A6 ?_))
  refine k1 (k3 (k2 ?_))
  refine A3 (A2 (J6 Z Z) Z (A2 (A5 Z Z) Z (A6 ?_)))
  refine k1 ?_
  refine B3 rfl (fun ht=>?_) (fun ht=>?_)
  ·have h0:=A0 ht
   refine k2 ?_
   refine A3 (A2 (A4 Z Z) Z (C2 (n7 a) Z Z Z ?_));rintro _ rfl;refine A2 (F4 Z Z (by simp;omega)) Z (A2 (A5 Z Z) Z (A6 ?_))
   refine k1 (k10 (k12 (k11 ?_)))
   exact B5 (F1 rfl rfl rfl) (by rw [O7,if_neg (by omega),if_pos h0])
  ·have h0:=A1 ht
   refine k2 ?_
   refine A3 (A2 (J6 Z Z) Z (A2 (A5 Z Z) Z (A6 ?_)))
   refine k1 ?_
   refine B3 rfl (fun ht=>?_) (fun ht=>?_)
   ·have h1:=A0 ht
    refine k2 ?_
    refine A3 (A2 (A4 Z Z) Z (A2 (C0 Z Z (by omega)) Z (C2 (n7 (a+1)) Z Z Z ?_)));rintro _ rfl;refine A2 (A5 Z Z) Z (A6 ?_)
    refine k1 (k10 (k12 (k11 ?_)))
    exact B5 (F1 rfl rfl rfl) (by rw [O7,if_neg (by omega),if_neg h0,if_pos h1])
   ·have h1:=A1 ht
    refine k5 (k2 ?_)
    refine A3 (A2 (A4 Z Z) Z (A2 (C0 Z Z (by omega)) Z (C2 (n7 (a+1)) Z Z Z ?_)));rintro _ rfl;refine A2 (F4 Z Z (by simp;omega)) Z (A2 (A4 Z Z) Z (C2 (n7 n) Z Z Z ?_));rintro _ rfl;refine A2 (F4 Z Z (by simp;omega)) Z (A2 (A5 Z Z) Z (A6 ?_))
    refine k1 (k10 ?_)
    exact B5 (F1 rfl rfl rfl) (by rw [O7,if_neg (by omega),if_neg h0,if_neg h1])
theorem A31 (B b:Nat) (l:List UInt8) (w:World) (h:Lib.IsBuilder 124 5 B b (Lib.byteCells l) w) (hBw:B≤w.heap.size) :
  Calls Tryz.prog 89 #[.pointer (some ⟨b,0,none⟩)] w fun e w'=>e=.returned (.string ⟨l.toArray⟩)∧Below B w w':=Tryz.Builder_String_any B b l w h hBw
theorem E54 (s:Str) (hs:s.length≤16777216):FnOk Tryz.prog 134 [L5 s] (fun rs=>rs=[L5 (Y3 s)]):=by
 refine FnOk.intro Tryz.func134 (by decide) Z Z Z Z ?_
 refine k2 ?_
 refine A3 (A2 (A5 Z Z) Z (A6 ?_))
 refine k1 (k2 ?_)
 refine A3 (A2 (A4 Z Z) Z (A2 (A49 Z Z) Z (A2 (A5 Z Z) Z (A6 ?_))))
 refine k1 (k2 (k2 ?_))
 refine A3 (A2 (A4 Z Z) Z (A2 (M1 Z) Z (A2 (A4 Z Z) Z (A6 ?_))))
 refine k1 (k3 ?_)
 refine C9 (X:=Nat) (fun i=>([(0,S7 s),(3,I9 (.bool (plains s i))),(10,B8 s.length),(11,B8 i)],[])) (fun i=>i≤s.length) (fun i=>s.length - i) 0 (Nat.zero_le _) ?_ ?_
 ·rw [C86]
  exact I45 ⟨le1 rfl,le1 rfl,le1 rfl,le1 rfl,trivial⟩ trivial
 intro i hi
 dsimp only at hi ⊢
 refine k2 ?_
 refine A3 (A2 (D7 Z Z) Z (A6 ?_))
 refine k1 (k2 ?_)
 refine B3 rfl (fun ht=>?_) (fun ht=>?_)
 ·have hlt:i < s.length:=by have:=A0 ht;omega
  have hv:s[i]?=some s[i]:=by simp [hlt]
  obtain ⟨c,hc⟩:∃c,c=s[i]:=⟨_,rfl⟩
  have h2:=C87 s i hlt
  rw [←hc] at hv h2
  refine k5 (k1 (k2 (k3 (k2 ?_))))
  refine A3 (A2 (A4 Z Z) Z (A2 (A5 Z Z) Z (A6 ?_)))
  refine k1 ?_
  refine A3 (A2 (A4 Z Z) Z (A2 (A4 Z Z) Z (B1 Z Z Z Z (fun hg=>by rw [hg];exact A4 Z Z) ?_)));refine B1 Z Z Z Z (fun hg=>by rw [hg];exact A4 Z Z) ?_;refine B1 Z Z Z Z (fun hg=>by have hq:=hg;(try simp at hq);rw [hg];exact c8 Z Z (by omega) hv) ?_;refine B1 Z Z Z Z (fun hg=>by have hq:=hg;(try simp at hq);rw [hg];exact H6 (H41 c) Z Z) ?_;refine A2 (B6 Z (fun h=>by first | rfl | (rw [h];rfl)) (fun h=>by first | rfl | (rw [h];rfl))) Z ?_;refine A2 (A5 Z Z) Z (A6 ?_)
  refine k4 (k1 ?_)
  refine A3 (A2 (C0 Z Z (by omega)) Z (A2 (A4 Z Z) Z (A6 ?_)))
  refine k1 ?_
  refine ⟨i+1,hlt,by omega,?_⟩
  rw [show (if plains s i=true then A72 c else false)=plains s (i+1) from by rw [h2];cases plains s i<;>rfl]
  exact I45 ⟨le1 rfl,le1 rfl,le1 rfl,le1 rfl,trivial⟩ trivial
 have hi':i=s.length:=by have:=A1 ht;omega
 subst hi'
 refine k6 (k2 (k2 ?_))
 refine A3 (A2 (A4 Z Z) Z (A6 ?_))
 refine k1 ?_
 refine B3 rfl (fun ht=>?_) (fun ht=>?_)
 ·have h:plains s s.length=true:=ht
  refine k2 ?_
  refine A3 (A2 (A4 Z Z) Z (A2 (A5 Z Z) Z (A6 ?_)))
  refine k1 (k10 (k11 ?_))
  exact B5 (F1 rfl rfl rfl) (by rw [A73,if_pos h])
 have h:plains s s.length=false:=ht
 have hq:Y3 s=(34::escs s s.length)++[34]:=by rw [A73,h];rfl
 refine k5 (k1 (k2 ?_))
 refine A3 (B9 (D28 700 Z) Z (A6 ?_))
 refine k1 (k2 ?_)
 refine F8 (I58 701 UInt8 1 u8C 5 (kb:=700) (o:=1) Z Z Z) ?_
 refine A3 (A11 (B68 (xs:=[]) (c:=34) ⟨⟨_,.inl rfl,rfl⟩,rfl⟩ (by simp)) Z Z Z ?_);rintro _ _ ⟨rfl,rfl⟩;refine A6 ?_
 refine k1 (k2 (k2 ?_))
 refine A3 (A2 (A4 Z Z) Z (A2 (M1 Z) Z (A2 (A4 Z Z) Z (A6 ?_))))
 refine k1 (k3 ?_)
 refine C9 (X:=Nat) (fun i=>([(0,S7 s),(5,.s (.one (.ref 700 0))),(26,B8 s.length),(27,B8 i)],[(700,.tbx 124 [.ref 700 0,.buf 701 UInt8 1 u8C (34::escs s i)]),(701,.spare (34::escs s i).length 1 5)])) (fun i=>i≤s.length) (fun i=>s.length - i) 0 (Nat.zero_le _) (I45 ⟨le1 rfl,le1 rfl,le1 rfl,le1 rfl,trivial⟩ ⟨rfl,rfl,trivial⟩) ?_
 intro i hi
 dsimp only at hi ⊢
 have hel:=G06 s i hi
 refine k2 ?_
 refine A3 (A2 (D7 Z Z) Z (A6 ?_))
 refine k1 (k2 ?_)
 refine B3 rfl (fun ht=>?_) (fun ht=>?_)
 ·have hlt:i < s.length:=by have:=A0 ht;omega
  have hv:s[i]?=some s[i]:=by simp [hlt]
  obtain ⟨c,hc⟩:∃c,c=s[i]:=⟨_,rfl⟩
  have h1:=E67 s i hlt
  have h2:=E66 c
  rw [←hc] at hv h1
  refine k5 (k1 (k2 (k3 (k2 ?_))))
  refine A3 (A2 (A4 Z Z) Z (A2 (A5 Z Z) Z (A6 ?_)))
  refine k1 ?_
  refine A3 (A2 (A4 Z Z) Z (A2 (A4 Z Z) Z (A2 (c8 Z Z (by omega) hv) Z (C2 (G42 c) Z Z Z ?_))));rintro _ rfl;refine A11 (Q3 (xs:=34::escs s i) (s:=X4 c) ⟨⟨_,.inr rfl,rfl⟩,rfl⟩ (by simp only [I79];omega)) Z Z Z ?_;rintro _ _ ⟨rfl,rfl⟩;refine A6 ?_
  refine k4 (k1 ?_)
  refine A3 (A2 (C0 Z Z (by omega)) Z (A2 (A4 Z Z) Z (A6 ?_)))
  refine k1 ?_
  refine ⟨i+1,hlt,by omega,?_⟩
  rw [h1]
  exact I45 ⟨le1 rfl,le1 rfl,le1 rfl,le1 rfl,trivial⟩ ⟨rfl,rfl,trivial⟩
 have hi':i=s.length:=by have:=A1 ht;omega
 subst hi'
 refine k6 (k2 ?_)
 refine A3 (A11 (B68 (xs:=34::escs s s.length) (c:=34) ⟨⟨_,.inr rfl,rfl⟩,rfl⟩ (by simp only [I79];omega)) Z Z Z ?_);rintro _ _ ⟨rfl,rfl⟩;refine A6 ?_
 refine k1 (k2 ?_)
 refine A3 (C45 (k:=700) (k':=701) ⟨_,rfl,rfl,rfl⟩ A31 Z Z Z Z Z (.inr Z) Z (A2 (A5 Z Z) Z (A6 ?_)))
 refine k1 (k10 ?_)
 exact B5 (F1 rfl rfl rfl) (by rw [hq])
theorem E55 (s:Str) (c:UInt8):FnOk Tryz.prog 216 [L5 s,L5 [c]] (fun rs=>rs=[G1 (s.count c)]) :=
 I52 (xs:=[.string ⟨s.toArray⟩,.string ⟨#[c]⟩]) ⟨_,rfl,rfl,rfl⟩ rfl fun w=>by simpa [Lib.countByte] using Tryz.strings_Count_one ⟨s.toArray⟩ c w
theorem H44 (s:Str) (c:UInt8):FnOk Tryz.prog 246 [L5 s,L5 [c]] (fun rs=>rs=[G1 (Lib.indexByte s c)]) :=
 I52 (xs:=[.string ⟨s.toArray⟩,.string ⟨#[c]⟩]) ⟨_,rfl,rfl,rfl⟩ rfl fun w=>by simpa using Tryz.strings_Index_one ⟨s.toArray⟩ c w
theorem F70 (s:Str) (hs:s.length≤536870912):FnOk Tryz.prog 217 [L5 s,L5 [10],G1 1,G1 (-1)] (fun rs=>rs=[j1 (R1 s)]):=by
 have hP:=X5 s []
 have hc:s.count 10≤s.length:=List.count_le_length
 have h10:([10]:Str).length=1:=rfl
 obtain ⟨P,hPe⟩:∃P,P=R1 s:=⟨_,rfl⟩
 have hPl:P.length=s.count 10+1:=by rw [hPe];exact hP
 refine FnOk.intro Tryz.func217 (by decide) Z Z Z Z ?_
 refine k2 ?_
 refine A3 (A2 (A5 Z Z) Z (A6 ?_))
 refine k1 (k2 (k2 ?_))
 refine A3 (A2 (A4 Z Z) Z (A2 (J6 Z Z) Z (A6 ?_)))
 refine k1 ?_
 refine B3 rfl (fun ht=>?_) (fun ht=>?_)
 ·exact absurd (A0 ht) (by omega)
 refine k5 (k1 (k2 (k2 ?_)))
 refine A3 (A2 (A4 Z Z) Z (A2 (B98 Z Z) Z (A6 ?_)))
 refine k1 ?_
 refine B3 rfl (fun ht=>?_) (fun ht=>?_)
 ·exact absurd (A0 ht) (by simp)
 refine k5 (k1 (k2 (k2 ?_)))
 refine A3 (A2 (A4 Z Z) Z (A2 (D7 Z Z) Z (A6 ?_)))
 refine k1 ?_
 refine B3 rfl (fun ht=>?_) (fun ht=>?_)
 rotate_left
 ·exact absurd (A1 ht) (by omega)
 skip
 refine A3 (A2 (A4 Z Z) Z (A2 (A4 Z Z) Z (C2 (E55 s 10) Z Z Z ?_)));rintro _ rfl;refine A2 (C0 Z Z (by omega)) Z (A2 (A5 Z Z) Z (A6 ?_))
 refine k1 (k2 ?_)
 refine A3 (A2 (A4 Z Z) Z (A2 (A4 Z Z) Z (A2 (M1 Z) Z (A2 (C0 Z Z (by omega)) Z (A2 (G97 Z Z) Z (A2 (A5 Z Z) Z (A6 ?_)))))))
 refine k1 (k2 ?_)
 rw [show (if (s.length:Int)+1 < (s.count 10:Int)+1 then (s.length:Int)+1 else (s.count 10:Int)+1)=(P.length:Int) from by split<;>omega]
 refine A3 (A2 (A4 Z Z) Z (B9 (U0 9 Str K6 [] Z Z (by omega) (by omega) (fun _=>by first | exact ⟨⟨rfl,rfl⟩,trivial⟩ | exact ⟨N3 _ _ _,trivial⟩) (by first | rfl | (simp [H0,H3,Ob.free,SV.free,S1.free,TC.free]<;>rfl))) Z ?_));refine A2 (A5 Z Z) Z (A6 ?_)
 refine k1 (k2 ?_)
 refine A3 (A2 (A4 Z Z) Z (A2 (P9 Z Z (by omega)) Z (A2 (A5 Z Z) Z (A6 ?_))))
 refine k1 (k2 ?_)
 refine A3 (A2 (A5 Z Z) Z (A6 ?_))
 refine k1 (k2 (k3 ?_))
 refine C9 (X:=Nat × Str) (fun x=>([(0,S7 x.2),(1,S7 [10]),(2,B8 1),(3,B8 ((P.length:Int) - 1)),(9,.s (.one (.mut 9))),(10,B8 x.1)],[(9,.arr Str 1 K6 (P.take x.1++List.replicate (P.length - x.1) []))])) (fun x=>x.1+1≤P.length∧P.drop x.1=R1 x.2∧x.2.length≤s.length) (fun x=>P.length - x.1) (0,s) ⟨by dsimp only;omega,hPe,Nat.le_refl _⟩ (I45 ⟨le1 rfl,le1 rfl,le1 rfl,le1 rfl,le1 rfl,le1 rfl,trivial⟩ ⟨rfl,trivial⟩) ?_
 rintro ⟨i,r⟩ ⟨hi,hp,hr⟩
 dsimp only at hi hp hr ⊢
 refine k2 (k2 ?_)
 refine A3 (A2 (A4 Z Z) Z (A2 (A4 Z Z) Z (A2 (D7 Z Z) Z (A6 ?_))))
 refine k1 ?_
 refine B3 rfl (fun ht=>?_) (fun ht=>?_)
 ·have hlt:i+1 < P.length:=by have:=A0 ht;omega
  have hin:(10:UInt8)∈r:=by
   have h1:=X5 r []
   have h2:(P.drop i).length=r.count 10+1:=by rw [hp];exact h1
   rw [I95] at h2
   exact List.count_pos_iff.1 (by omega)
  rcases u9 10 r with ⟨h1,_⟩ | ⟨a,b,h1,h2,h3⟩
  ·exact absurd hin h1
  obtain ⟨h4,h5⟩:=G71 hp h1 h2
  have hl:r.length=a.length+1+b.length:=by rw [h1];simp;omega
  refine k5 (k1 (k3 (k2 ?_)))
  refine A3 (A2 (A4 Z Z) Z (A2 (A4 Z Z) Z (C2 (H44 r 10) Z Z Z ?_)));rintro _ rfl;refine A2 (A5 Z Z) Z (A6 ?_)
  refine k1 (k2 (k2 ?_))
  refine A3 (A2 (A4 Z Z) Z (A2 (D7 Z Z) Z (A6 ?_)))
  refine k1 ?_
  rw [h3]
  refine B3 rfl (fun ht=>?_) (fun ht=>?_)
  ·exact absurd (A0 ht) (by omega)
  refine k5 (k1 (k2 ?_))
  refine A3 (A2 (A4 Z Z) Z (A2 (A4 Z Z) Z (A2 (A4 Z Z) Z (A2 (A4 Z Z) Z (A2 (A4 Z Z) Z (A2 (C0 Z Z (by omega)) Z (A2 (G96 Z Z (by omega) (by omega)) Z (A2 (D9 Z Z Z (by omega) (by (simp;omega))) Z (E6 (G5 TySz.out Z Z (by simp;omega) Z Z) (A6 ?_))))))))))
  refine k1 (k2 ?_)
  refine A3 (A2 (A4 Z Z) Z (A2 (A4 Z Z) Z (A2 (A4 Z Z) Z (A2 (M1 Z) Z (A2 (C0 Z Z (by omega)) Z (A2 (n_sub_l Z Z (by omega) (by omega)) Z (A2 (A5 Z Z) Z (A6 ?_))))))))
  refine k1 ?_
  refine A3 (A2 (A4 Z Z) Z (A2 (C0 Z Z (by omega)) Z (A2 (A5 Z Z) Z (A6 ?_))))
  refine k4 (k1 ?_)
  have e1:r.take (((a.length:Int)+1).toNat)=a++[10]:=by rw [h1,show ((a.length:Int)+1).toNat=a.length+1 by omega,show a++10::b=(a++[10])++b by simp,List.take_left' (by simp)]
  have e2:r.drop (((a.length:Int)+(([10]:Str).length:Int)).toNat)=b:=by rw [h1,h10,show ((a.length:Int)+((1:Nat):Int)).toNat=a.length+1 by omega,show a++10::b=(a++[10])++b by simp,List.drop_left' (by simp)]
  refine ⟨(i+1,b),⟨by dsimp only;omega,h5,by dsimp only;omega⟩,by dsimp only;omega,?_⟩
  rw [e1,e2]
  dsimp only
  rw [←E68 P [] _ i h4]
  exact I45 ⟨le1 rfl,le1 rfl,le1 rfl,le1 rfl,le1 rfl,le1 rfl,trivial⟩ ⟨rfl,trivial⟩
 ·have hge:i+1=P.length:=by have:=A1 ht;omega
  have h1:=X5 r []
  have h2:(P.drop i).length=r.count 10+1:=by rw [hp];exact h1
  rw [I95] at h2
  have h3:(10:UInt8)∉r:=List.count_eq_zero.1 (by omega)
  have h4:P[i]?=some r:=by rw [←List.head?_drop,hp];unfold R1;rw [E28 _ _ h3];rfl
  refine k6 (k2 ?_)
  refine A3 (A2 (A4 Z Z) Z (A2 (A4 Z Z) Z (A2 (A4 Z Z) Z (A2 (D9 Z Z Z (by omega) (by (simp;omega))) Z (E6 (G5 TySz.out Z Z (by simp;omega) Z Z) (A6 ?_))))))
  refine k1 (k2 ?_)
  have e:(P.take i++List.replicate (P.length - i) ([]:Str)).set (i:Int).toNat r=P:=by rw [I85,E68 P [] r i h4,hge];simp
  rw [e]
  refine F8 (Sees.freeze (k:=9) Z) ?_
  refine A3 (A2 (A4 Z Z) Z (A2 (A4 Z Z) Z (A2 (C0 Z Z (by omega)) Z (A2 (C41 Z (.pure _ _ _ _) Z (by omega) (by omega)) Z (A2 (A5 Z Z) Z (A6 ?_))))))
  refine k1 (k10 ?_)
  exact B5 (F1 rfl rfl rfl) (by rw [show ((i:Int)+1).toNat=P.length by omega,I94,hPe])
theorem E17 (s:Str) (hs:s.length≤536870912):FnOk Tryz.prog 174 [L5 s,L5 [10]] (fun rs=>rs=[j1 (R1 s)]):=by
 refine FnOk.intro Tryz.func174 (by decide) Z Z Z Z ?_
 refine k2 ?_
 refine A3 (A2 (A5 Z Z) Z (A6 ?_))
 refine k1 (k2 ?_)
 refine A3 (A2 (A4 Z Z) Z (A2 (A4 Z Z) Z (A2 (A4 Z Z) Z (A2 (M1 Z) Z (C2 (F70 s hs) Z Z Z ?_)))));rintro _ rfl;refine A2 (A5 Z Z) Z (A6 ?_)
 refine k1 (k10 ?_)
 exact B5 (F1 rfl rfl rfl) rfl
theorem H45 (s:Str) (hs:s.length≤536870912):FnOk Tryz.prog 173 [L5 s] (fun rs=>rs=[G1 (Y1 s)]):=by
 have hl:=E29 s
 have hc:s.count 10≤s.length:=List.count_le_length
 refine FnOk.intro Tryz.func173 (by decide) Z Z Z Z ?_
 refine k2 ?_
 refine A3 (A2 (A5 Z Z) Z (A6 ?_))
 refine k1 (k2 ?_)
 refine A3 (A2 (A4 Z Z) Z (C2 (E55 s 10) Z Z Z ?_));rintro _ rfl;refine A2 (A5 Z Z) Z (A6 ?_)
 refine J7 ?_
 refine n4 [(0,S7 s),(3,B8 (C7 s).length)] [] ?_ ?_
 ·refine k2 ?_
  refine A3 (A2 (A4 Z Z) Z (A2 (A49 Z Z) Z (A2 (A4 Z Z) Z (B1 Z Z Z Z (fun hg=>by rw [hg];exact A4 Z Z) ?_))));refine B1 Z Z Z Z (fun hg=>by have hq:=hg;(try simp at hq);rw [hg];exact H6 (B47 s (by omega)) Z Z) ?_;refine B1 Z Z Z Z (fun hg=>by rw [hg];exact J2 Z) ?_;refine A2 (B6 Z (fun h=>by first | rfl | (rw [h];rfl)) (fun h=>by first | rfl | (rw [h];rfl))) Z ?_;refine A6 ?_
  refine k1 ?_
  refine B3 rfl (fun ht=>?_) (fun ht=>?_)
  ·have h:s≠[]∧ended s=false:=by
    by_cases h1:s=[]
    ·simp [h1] at ht
    ·refine ⟨h1,?_⟩;simpa [h1] using ht
   rw [if_pos h] at hl
   skip
   refine A3 (A2 (A4 Z Z) Z (A2 (C0 Z Z (by omega)) Z (A2 (A5 Z Z) Z (A6 ?_))))
   refine k1 ?_
   rw [hl,Int.natCast_add]
   exact I45 ⟨le1 rfl,le1 rfl,trivial⟩ trivial
  ·have h:¬(s≠[]∧ended s=false):=by
    rintro ⟨h1,h2⟩
    simp [h1,h2] at ht
   rw [if_neg h] at hl
   refine k5 (k1 ?_)
   rw [hl]
   exact I45 ⟨le1 rfl,le1 rfl,trivial⟩ trivial
 ·refine k2 (k2 ?_)
  refine A3 (A2 (A4 Z Z) Z (A2 (M1 Z) Z (A2 (M4 Z Z) Z (A2 (A4 Z Z) Z (B1 Z Z Z Z (fun hg=>by rw [hg];exact A4 Z Z) ?_)))));refine B1 Z Z Z Z (fun hg=>by rw [hg];exact M4 Z Z) ?_;refine A2 (B6 Z (fun h=>by first | rfl | (rw [h];rfl)) (fun h=>by first | rfl | (rw [h];rfl))) Z ?_;refine A6 ?_
  refine k1 ?_
  refine B3 rfl (fun ht=>?_) (fun ht=>?_)
  ·have h:=A0 (or_pick.symm.trans ht)
   refine k2 ?_
   refine A3 (A2 (A5 Z Z) Z (A6 ?_))
   refine k1 (k10 (k11 ?_))
   exact B5 (F1 rfl rfl rfl) (by rw [Y1,if_pos (by omega)])
  ·have h:=A1 (or_pick.symm.trans ht)
   refine k5 (k1 (k2 ?_))
   refine A3 (A2 (A5 Z Z) Z (A6 ?_))
   refine k1 (k10 ?_)
   exact B5 (F1 rfl rfl rfl) (by rw [Y1,if_neg (by omega)])
theorem H46 (s:Str) (hs:s.length≤536870912):FnOk Tryz.prog 107 [L5 s] (fun rs=>rs=[j1 (B53 s).1,G1 (B53 s).2]):=by
 have hp:C7 s=if (R1 s).getLastD []=[] then (R1 s).dropLast else R1 s:=G07 s []
 have hc:(R1 s).length=s.count 10+1:=X5 s []
 have hcl:s.count 10≤s.length:=List.count_le_length
 refine FnOk.intro Tryz.func107 (by decide) Z Z Z Z ?_
 refine k2 ?_
 refine A3 (A2 (A5 Z Z) Z (A2 (A5 Z Z) Z (A6 ?_)))
 refine k1 (k2 (k2 ?_))
 refine A3 (A2 (A4 Z Z) Z (C2 (H45 s hs) Z Z Z ?_));rintro _ rfl;refine A2 (A5 Z Z) Z (A6 ?_)
 refine k1 (k2 ?_)
 refine A3 (A2 (A4 Z Z) Z (A2 (M5 Z Z) Z (A6 ?_)))
 refine k1 ?_
 refine B3 rfl (fun ht=>?_) (fun ht=>?_)
 ·have h:Y1 s≠0:=by simpa using ht
  have h1:s.length > 1048576∨(C7 s).length > 4096:=by
   by_cases h1:s.length > 1048576∨(C7 s).length > 4096
   ·exact h1
   ·exact absurd (by rw [Y1,if_neg h1]) h
  refine k2 ?_
  refine A3 (A2 (A4 Z Z) Z (A2 (J1 _ 1 K6) Z (A2 (A5 Z Z) Z (A6 ?_))))
  refine k1 (k10 (k11 ?_))
  exact B5 (d7 rfl rfl rfl rfl rfl) (by rw [B53,if_pos h1,Y1,if_pos h1])
 ·have h:Y1 s=0:=by simpa using ht
  have h1:¬(s.length > 1048576∨(C7 s).length > 4096):=fun h1=>by rw [Y1,if_pos h1] at h;omega
  have hv:(R1 s)[(R1 s).length - 1]?=some ((R1 s).getLastD []):=by
   rw [←List.getLast?_eq_getElem?,List.getLast?_eq_some_getLast (fun e=>by rw [e] at hc;simp at hc)]
   rw [List.getLastD_eq_getLast?,List.getLast?_eq_some_getLast (fun e=>by rw [e] at hc;simp at hc)];rfl
  have hi:(((R1 s).length:Int) - 1).toNat=(R1 s).length - 1:=by omega
  refine k5 (k1 (k2 ?_))
  refine A3 (A2 (A4 Z Z) Z (C2 (E17 s hs) Z Z Z ?_));rintro _ rfl;refine A2 (A5 Z Z) Z (A6 ?_)
  refine J7 ?_
  refine n4 [(5,C1 Str 1 K6 (C7 s))] [] ?_ ?_
  ·refine k2 ?_
   refine A3 (A2 (A4 Z Z) Z (A2 (A4 Z Z) Z (A2 (D4 Z (.pure _ _ _ _)) Z (A2 (P9 Z Z (by omega)) Z (A2 (B0 Z (.pure _ _ _ _) Z (by omega) (by rw [hi];exact hv)) Z ?_)))));refine A2 (B2 Z Z) Z (A2 (B98 Z Z) Z (A6 ?_))
   refine k1 ?_
   refine B3 rfl (fun ht=>?_) (fun ht=>?_)
   ·have h2:=A0 ht
    skip
    refine A3 (A2 (A4 Z Z) Z (A2 (A4 Z Z) Z (A2 (D4 Z (.pure _ _ _ _)) Z (A2 (P9 Z Z (by omega)) Z (A2 (C41 Z (.pure _ _ _ _) Z (by omega) (by omega)) Z (A2 (A5 Z Z) Z (A6 ?_)))))))
    refine k1 ?_
    rw [hp,if_pos h2,List.dropLast_eq_take,←hi]
    exact I45 ⟨le1 rfl,trivial⟩ trivial
   ·have h2:=A1 ht
    refine k5 (k1 ?_)
    rw [hp,if_neg h2]
    exact I45 ⟨le1 rfl,trivial⟩ trivial
  ·refine k2 ?_
   refine A3 (A2 (A4 Z Z) Z (A2 (A5 Z Z) Z (A2 (A5 Z Z) Z (A6 ?_))))
   refine k1 (k10 ?_)
   exact B5 (d7 rfl rfl rfl rfl rfl) (by rw [B53,if_neg h1])
end Go.Proofs.YtbiadkkamhpdnaaGreatDoor
namespace Go.Proofs.YtbiadkkamhpdnaaGreatDoor
open Go Go.AL
set_option maxRecDepth 100000
theorem C17 (s:Str):FnOk Tryz.prog 82 [L5 s] (fun rs=>rs=[I3 (N6 s)]):=by
 refine FnOk.intro Tryz.func82 (by decide) Z Z Z Z ?_
 refine k2 ?_
 refine A3 (A2 (A5 Z Z) Z (A6 ?_))
 refine k1 (k2 ?_)
 refine A3 (A2 (A4 Z Z) Z (A2 (M1 Z) Z (A2 (A05 Z Z) Z (A2 (A4 Z Z) Z (B1 Z Z Z Z (fun hg=>by rw [hg];exact A4 Z Z) ?_)))));refine B1 Z Z Z Z (fun hg=>by rw [hg];exact M1 Z) ?_;refine B1 Z Z Z Z (fun hg=>by rw [hg];exact i6 Z Z) ?_;refine A2 (B6 Z (fun h=>by first | rfl | (rw [h];rfl)) (fun h=>by first | rfl | (rw [h];rfl))) Z ?_;refine A2 (A5 Z Z) Z (A6 ?_)
 refine k1 (k10 ?_)
 refine B5 (F1 Z Z Z) ?_
 simp only [P4]
 congr 4
 unfold N6
 congr 1
 apply propext
 omega
end Go.Proofs.YtbiadkkamhpdnaaGreatDoor
namespace Go.Proofs.YtbiadkkamhpdnaaGreatDoor
open Go Go.AL
set_option maxRecDepth 100000
set_option maxHeartbeats 1000000
end Go.Proofs.YtbiadkkamhpdnaaGreatDoor
namespace Go.Proofs.YtbiadkkamhpdnaaGreatDoor
open Go Go.AL
set_option maxRecDepth 100000
end Go.Proofs.YtbiadkkamhpdnaaGreatDoor
namespace Go.Proofs.YtbiadkkamhpdnaaGreatDoor
open Go Go.AL
set_option maxRecDepth 100000
end Go.Proofs.YtbiadkkamhpdnaaGreatDoor
