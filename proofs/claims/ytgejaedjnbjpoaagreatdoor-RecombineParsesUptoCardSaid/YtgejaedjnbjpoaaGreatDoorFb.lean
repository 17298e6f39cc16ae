/- Walks of the program's functions. -/
import Derived.Test.YtgejaedjnbjpoaaGreatDoorFa
import Derived.Test.YtgejaedjnbjpoaaGreatDoorFs
import Derived.Lib.AppendIntMem
import Derived.Test.YtgejaedjnbjpoaaGreatDoorAn
namespace Go.Proofs.YtgejaedjnbjpoaaGreatDoor
open Go Go.AL
set_option maxRecDepth 100000
theorem F41 (c:UInt8):FnOk Tryz.prog 218 [pByte c] (fun rs=>rs=[D3 (N4 c)]):=by
 refine FnOk.intro Tryz.func218 (by decide) Z Z Z Z ?_
 refine k2 ?_
 refine A3 (A2 (A5 Z Z) Z (A6 ?_))
 refine k1 (k2 ?_)
 refine A3 (A2 (A4 Z Z) Z (A2 (Z1 Z Z) Z (A2 (A4 Z Z) Z (A9 Z Z Z Z (fun hg=>by rw [hg];exact A4 Z Z) ?_))));refine A9 Z Z Z Z (fun hg=>by rw [hg];exact m8 Z Z) ?_;refine A2 (B4 Z (fun h=>by first | rfl | (rw [h];rfl)) (fun h=>by first | rfl | (rw [h];rfl))) Z ?_;refine A2 (A4 Z Z) Z (A9 Z Z Z Z (fun hg=>by rw [hg];exact A4 Z Z) ?_);refine A9 Z Z Z Z (fun hg=>by rw [hg];exact L4 Z Z) ?_;refine A2 (B4 Z (fun h=>by first | rfl | (rw [h];rfl)) (fun h=>by first | rfl | (rw [h];rfl))) Z ?_;refine A2 (A4 Z Z) Z (A9 Z Z Z Z (fun hg=>by rw [hg];exact A4 Z Z) ?_);refine A9 Z Z Z Z (fun hg=>by rw [hg];exact L4 Z Z) ?_;refine A2 (B4 Z (fun h=>by first | rfl | (rw [h];rfl)) (fun h=>by first | rfl | (rw [h];rfl))) Z ?_;refine A2 (A5 Z Z) Z (A6 ?_)
 refine k1 (k10 ?_)
 refine B5 (F8 Z Z Z) ?_
 simp only [I3]
 congr 4
 unfold N4
 congr 1
 simp;omega
theorem F42 (c:UInt8):FnOk Tryz.prog 210 [pByte c] (fun rs=>rs=[D3 (N4 c)]):=by
 refine FnOk.intro Tryz.func210 (by decide) Z Z Z Z ?_
 refine k2 ?_
 refine A3 (A2 (A5 Z Z) Z (A6 ?_))
 refine k1 (k2 ?_)
 refine A3 (A2 (A4 Z Z) Z (A2 (Z1 Z Z) Z (A2 (A4 Z Z) Z (A9 Z Z Z Z (fun hg=>by rw [hg];exact A4 Z Z) ?_))));refine A9 Z Z Z Z (fun hg=>by rw [hg];exact m8 Z Z) ?_;refine A2 (B4 Z (fun h=>by first | rfl | (rw [h];rfl)) (fun h=>by first | rfl | (rw [h];rfl))) Z ?_;refine A2 (A4 Z Z) Z (A9 Z Z Z Z (fun hg=>by rw [hg];exact A4 Z Z) ?_);refine A9 Z Z Z Z (fun hg=>by rw [hg];exact L4 Z Z) ?_;refine A2 (B4 Z (fun h=>by first | rfl | (rw [h];rfl)) (fun h=>by first | rfl | (rw [h];rfl))) Z ?_;refine A2 (A4 Z Z) Z (A9 Z Z Z Z (fun hg=>by rw [hg];exact A4 Z Z) ?_);refine A9 Z Z Z Z (fun hg=>by rw [hg];exact L4 Z Z) ?_;refine A2 (B4 Z (fun h=>by first | rfl | (rw [h];rfl)) (fun h=>by first | rfl | (rw [h];rfl))) Z ?_;refine A2 (A5 Z Z) Z (A6 ?_)
 refine k1 (k10 ?_)
 refine B5 (F8 Z Z Z) ?_
 simp only [I3]
 congr 4
 unfold N4
 congr 1
 simp;omega
theorem A26 (n:Int):FnOk Tryz.prog 155 [E2 n] (fun rs=>rs=[F5 (I4 n)]):=by
 obtain ⟨k,hk⟩:∃k:Nat,n.toNat=k:=⟨_,rfl⟩
 induction k using Nat.strongRecOn generalizing n with
 | _ k ih =>
 refine FnOk.intro Tryz.func155 (by decide) Z Z Z Z ?_
 refine k2 ?_
 refine A3 (A2 (A5 Z Z) Z (A6 ?_))
 refine k1 (k2 (k2 ?_))
 refine A3 (A2 (A4 Z Z) Z (A2 (D6 Z Z) Z (A2 (A4 Z Z) Z (A9 Z Z Z Z (fun hg=>by rw [hg];exact A4 Z Z) ?_))));refine A9 Z Z Z Z (fun hg=>by rw [hg];exact L9 Z Z) ?_;refine A2 (B4 Z (fun h=>by first | rfl | (rw [h];rfl)) (fun h=>by first | rfl | (rw [h];rfl))) Z ?_;refine A6 ?_
 refine k1 ?_
 refine B2 rfl (fun ht=>?_) (fun ht=>?_)
 ·have h:=A0 (or_pick.symm.trans ht)
  refine k2 ?_
  refine A3 (A2 (A5 Z Z) Z (A6 ?_))
  refine k1 (k10 (k11 ?_))
  exact B5 (F8 rfl rfl rfl) (by rw [I4,if_pos (by omega)])
 ·have h:=A1 (or_pick.symm.trans ht)
  refine k5 (k1 (k2 (k2 ?_)))
  refine A3 (A2 (A4 Z Z) Z (A2 (D6 Z Z) Z (A6 ?_)))
  refine k1 ?_
  refine B2 rfl (fun ht=>?_) (fun ht=>?_)
  ·have h2:=A0 ht
   refine k2 ?_
   refine A3 (A2 (A4 Z Z) Z (A2 (A4 Z Z) Z (A2 (C1 Z Z (by omega)) Z (A2 (S5 Z Z Z (by (first | omega | (simp;omega))) (by (first | omega | (simp;omega))) (by (first | omega | (simp;omega)))) Z (A2 (A5 Z Z) Z (A6 ?_))))))
   refine k1 (k10 (k11 ?_))
   refine B5 (F8 Z Z Z) ?_
   rw [I81 n (by omega) h2]
   have e:(n+1).toNat - n.toNat=1:=by omega
   rw [e];rfl
  ·have h2:=A1 ht
   have hl:=V8 (n / 10)
   have hq:IntKind.i64.wrap (n.tdiv 10)=n / 10:=by
    rw [D51]<;>rw [Int.tdiv_eq_ediv_of_nonneg (by omega)];omega
   have hr:n.tmod 10=n % 10:=Int.tmod_eq_emod_of_nonneg (by omega)
   have ihq:FnOk Tryz.prog 155 [E2 (IntKind.i64.wrap (n.tdiv 10))] (fun rs=>rs=[F5 (I4 (n / 10))]):=by
    rw [hq];exact ih (n / 10).toNat (by omega) (n / 10) rfl
   refine k5 (k1 (k2 ?_))
   refine C4 (by kernel_rfl) (by kernel_rfl) (A8 (A4 Z Z) Z Z (A8 (C48 Z Z (by omega)) Z Z (A8 (G7 (ihq) Z Z) Z Z (A8 (A4 Z Z) Z Z (A8 (B37 Z Z (by omega)) Z Z (A8 (A4 Z Z) Z Z (A8 (B37 Z Z (by omega)) Z Z (A8 (C1 Z Z (by omega)) Z Z (A8 (S5 Z Z Z (by (first | omega | (simp;omega))) (by (first | omega | (simp;omega))) (by (first | omega | (simp;omega)))) Z Z (A8 (E7 Z Z (by (simp;omega))) Z Z (A8 (A5 Z Z) Z Z (H9 ?_))))))))))))
   refine k1 (k10 ?_)
   refine B5 (F8 Z Z Z) ?_
   rw [fmt_big n (by omega) (by omega)]
   rw [hr]
   have e:(n % 10+1).toNat - (n % 10).toNat=1:=by omega
   rw [e];rfl
theorem F43 (a n:Int) (ha:-4611686018427387904≤a∧a≤4611686018427387904) (hn:-4611686018427387904≤n∧n≤4611686018427387904):FnOk Tryz.prog 150 [E2 a,E2 n] (fun rs=>rs=[F5 (G4 a n)]):=by
 refine FnOk.intro Tryz.func150 (by decide) Z Z Z Z ?_
 refine k2 ?_
 refine A3 (A2 (A5 Z Z) Z (A6 ?_))
 refine k1 (k2 (k2 ?_))
 refine A3 (A2 (A4 Z Z) Z (A2 (D6 Z Z) Z (A2 (A4 Z Z) Z (A9 Z Z Z Z (fun hg=>by rw [hg];exact A4 Z Z) ?_))));refine A9 Z Z Z Z (fun hg=>by rw [hg];exact D6 Z Z) ?_;refine A2 (B4 Z (fun h=>by first | rfl | (rw [h];rfl)) (fun h=>by first | rfl | (rw [h];rfl))) Z ?_;refine A2 (A4 Z Z) Z (A9 Z Z Z Z (fun hg=>by rw [hg];exact A4 Z Z) ?_);refine A9 Z Z Z Z (fun hg=>by rw [hg];exact L9 Z Z) ?_;refine A2 (B4 Z (fun h=>by first | rfl | (rw [h];rfl)) (fun h=>by first | rfl | (rw [h];rfl))) Z ?_;refine A2 (A4 Z Z) Z (A9 Z Z Z Z (fun hg=>by rw [hg];exact A4 Z Z) ?_);refine A9 Z Z Z Z (fun hg=>by rw [hg];exact A4 Z Z) ?_;refine A9 Z Z Z Z (fun hg=>by rw [hg];exact P5 Z Z (by (first | omega | (simp at hq;omega)))) ?_;refine A9 Z Z Z Z (fun hg=>by rw [hg];exact L9 Z Z) ?_;refine A2 (B4 Z (fun h=>by first | rfl | (rw [h];rfl)) (fun h=>by first | rfl | (rw [h];rfl))) Z ?_;refine A6 ?_
 refine k1 ?_
 have l1:=V8 a
 have l2:=V8 (a+1)
 have l3:=V8 n
 refine B2 rfl (fun ht=>?_) (fun ht=>?_)
 ·have h:=A0 ((by simp only [or_pick] at ht;exact ht):decide _=true)
  refine k2 ?_
  refine A3 (A2 (A5 Z Z) Z (A6 ?_))
  refine k1 (k10 (k11 ?_))
  exact B5 (F8 rfl rfl rfl) (by rw [G4,if_pos (by omega)])
 ·have h:=A1 ((by simp only [or_pick] at ht;exact ht):decide _=false)
  refine k5 (k1 (k2 (k2 ?_)))
  refine A3 (A2 (A4 Z Z) Z (A6 ?_))
  refine k1 (k3 (k2 ?_))
  refine A3 (A2 (F1 Z Z) Z (A2 (A5 Z Z) Z (A6 ?_)))
  refine k1 ?_
  refine B2 rfl (fun ht=>?_) (fun ht=>?_)
  ·have h0:=A0 ht
   refine k2 ?_
   refine A3 (A2 (A4 Z Z) Z (B9 (A26 a) Z Z Z ?_));rintro _ rfl;refine A2 (E7 Z Z (by simp;omega)) Z (A2 (A5 Z Z) Z (A6 ?_))
   refine k1 (k10 (k12 (k11 ?_)))
   exact B5 (F8 rfl rfl rfl) (by rw [G4,if_neg (by omega),if_pos h0])
  ·have h0:=A1 ht
   refine k2 ?_
   refine A3 (A2 (F1 Z Z) Z (A2 (A5 Z Z) Z (A6 ?_)))
   refine k1 ?_
   refine B2 rfl (fun ht=>?_) (fun ht=>?_)
   ·have h1:=A0 ht
    refine k2 ?_
    refine A3 (A2 (A4 Z Z) Z (A2 (C1 Z Z (by omega)) Z (B9 (A26 (a+1)) Z Z Z ?_)));rintro _ rfl;refine A2 (A5 Z Z) Z (A6 ?_)
    refine k1 (k10 (k12 (k11 ?_)))
    exact B5 (F8 rfl rfl rfl) (by rw [G4,if_neg (by omega),if_neg h0,if_pos h1])
   ·have h1:=A1 ht
    refine k5 (k2 ?_)
    refine A3 (A2 (A4 Z Z) Z (A2 (C1 Z Z (by omega)) Z (B9 (A26 (a+1)) Z Z Z ?_)));rintro _ rfl;refine A2 (E7 Z Z (by simp;omega)) Z (A2 (A4 Z Z) Z (B9 (A26 n) Z Z Z ?_));rintro _ rfl;refine A2 (E7 Z Z (by simp;omega)) Z (A2 (A5 Z Z) Z (A6 ?_))
    refine k1 (k10 ?_)
    exact B5 (F8 rfl rfl rfl) (by rw [G4,if_neg (by omega),if_neg h0,if_neg h1])
theorem b8:([48,49,50,51,52,53,54,55]:Str).length=8:=rfl
theorem u8q (c:UInt8) (k:Nat):IntKind.u8.wrap ((c.toNat:Int).tdiv (k:Int))=((c.toNat / k:Nat):Int):=by
 have hc:=c.toNat_lt
 have h1:(c.toNat:Int).tdiv (k:Int)=((c.toNat / k:Nat):Int):=by rw [Int.tdiv_eq_ediv_of_nonneg (by omega)];simp
 have h2:c.toNat / k≤c.toNat:=Nat.div_le_self _ _
 rw [h1]
 generalize c.toNat / k=q at *
 rw [IntWalk.u8_in _ (by omega)]
theorem u8r (n k:Nat):(n:Int).tmod (k:Int)=((n % k:Nat):Int):=by
 rw [Int.tmod_eq_emod_of_nonneg (by omega)];simp
theorem u8s (n:Nat) (h:n < 255):IntKind.u8.wrap ((n:Int)+1)=((n+1:Nat):Int):=by
 rw [IntWalk.u8_in _ (by omega)];simp
set_option maxHeartbeats 1000000 in
theorem F44 (s:Str) (hs:s.length≤16777216):FnOk Tryz.prog 149 [F5 s] (fun rs=>rs=[F5 (H6 s)]):=by
 refine FnOk.intro Tryz.func149 (by decide) Z Z Z Z ?_
 refine k2 ?_
 refine A3 (A2 (A5 Z Z) Z (A6 ?_))
 refine k1 (k2 ?_)
 refine A3 (A2 (A4 Z Z) Z (A2 (j4 Z Z) Z (A2 (A5 Z Z) Z (A6 ?_))))
 refine k1 (k2 ?_)
 refine A3 (A2 (A5 Z Z) Z (A6 ?_))
 refine k1 (k2 (k2 ?_))
 refine A3 (A2 (A5 Z Z) Z (A6 ?_))
 refine k1 (k3 ?_)
 refine D1 (X:=Nat) (fun i=>([(0,H4 s),(3,J4 (.bool (plains s i))),(4,H4 (34::escs s i)),(5,C3 i)],[])) (fun i=>i≤s.length) (fun i=>s.length - i) 0 (Nat.zero_le _) ?_ ?_
 ·rw [D73,I82]
  first | exact J48 ⟨le1 rfl,le1 rfl,le1 rfl,le1 rfl,trivial⟩ trivial | trace_state
 intro i hi
 dsimp only at hi ⊢
 have hel:=H03 s i hi
 refine k2 (k2 ?_)
 refine A3 (A2 (A4 Z Z) Z (A2 (A4 Z Z) Z (A2 (D5 Z) Z (A2 (D6 Z Z) Z (A6 ?_)))))
 refine k1 ?_
 refine B2 rfl (fun ht=>?_) (fun ht=>?_)
 ·have hlt:i < s.length:=by have:=A0 ht;omega
  have hv:s[i]?=some s[i]:=by simp [hlt]
  obtain ⟨c,hc⟩:∃c,c=s[i]:=⟨_,rfl⟩
  have h1:=F68 s i hlt
  have h2:=D74 s i hlt
  rw [←hc] at hv h1 h2
  have h3:=c.toNat_lt
  refine k5 (k1 (k2 (k3 (k2 ?_))))
  refine A3 (A2 (A4 Z Z) Z (A2 (A4 Z Z) Z (A2 (E9 Z Z (by omega) hv) Z (A2 (A5 Z Z) Z (A6 ?_)))))
  refine k1 (k2 ?_)
  refine A3 (A2 (A4 Z Z) Z (A2 (A4 Z Z) Z (A9 Z Z Z Z (fun hg=>by rw [hg];exact A4 Z Z) ?_)));refine A9 Z Z Z Z (fun hg=>by have hq:=hg;(try simp at hq);rw [hg];exact G7 (F41 c) Z Z) ?_;refine A2 (B4 Z (fun h=>by first | rfl | (rw [h];rfl)) (fun h=>by first | rfl | (rw [h];rfl))) Z ?_;refine A2 (A5 Z Z) Z (A6 ?_)
  rw [show (if plains s i=true then N4 c else false)=plains s (i+1) from by rw [h2];cases plains s i<;>rfl]
  have hsub:(s.drop i).take 1=[c]:=by rw [J84 hlt,←hc];rfl
  have hone:(i:Int).toNat=i∧((i:Int)+1).toNat - i=1:=by omega
  refine k1 (k3 (k2 ?_))
  refine A3 (A2 (A4 Z Z) Z (A2 (F1 Z Z) Z (A2 (A4 Z Z) Z (A9 Z Z Z Z (fun hg=>by rw [hg];exact A4 Z Z) ?_))));refine A9 Z Z Z Z (fun hg=>by rw [hg];exact F1 Z Z) ?_;refine A2 (B4 Z (fun h=>by first | rfl | (rw [h];rfl)) (fun h=>by first | rfl | (rw [h];rfl))) Z ?_;refine A2 (A5 Z Z) Z (A6 ?_)
  refine k1 ?_
  refine B2 rfl (fun ht=>?_) (fun ht=>?_)
  ·have h:=A0 (or_pick.symm.trans ht)
   skip
   refine A3 (A2 (A4 Z Z) Z (A2 (E7 Z Z (by (simp;omega))) Z (A2 (A4 Z Z) Z (A2 (A4 Z Z) Z (A2 (A4 Z Z) Z (A2 (C1 Z Z (by omega)) Z (A2 (S5 Z Z Z (by omega) (by omega) (by omega)) Z (A2 (E7 Z Z (by (simp;omega))) Z (A2 (A5 Z Z) Z (A6 ?_))))))))))
   refine k4 (k4 (k1 ?_))
   refine A3 (A2 (A4 Z Z) Z (A2 (C1 Z Z (by omega)) Z (A2 (A5 Z Z) Z (A6 ?_))))
   refine k1 ?_
   refine ⟨i+1,hlt,by omega,?_⟩
   rw [h1,show O0 c=_ from by rw [O0,if_pos (by omega)]]
   rw [hone.1,hone.2,hsub,J89]
   exact J48 ⟨le1 rfl,le1 rfl,le1 rfl,le1 rfl,trivial⟩ trivial
  ·have h:=A1 (or_pick.symm.trans ht)
   refine k2 ?_
   refine A3 (A2 (A4 Z Z) Z (A2 (F1 Z Z) Z (A2 (A5 Z Z) Z (A6 ?_))))
   refine k1 ?_
   refine B2 rfl (fun ht=>?_) (fun ht=>?_)
   ·have h4:=A0 ht
    skip
    refine A3 (A2 (A4 Z Z) Z (A2 (E7 Z Z (by simp;omega)) Z (A2 (A5 Z Z) Z (A6 ?_))))
    refine k4 (k4 (k1 ?_))
    refine A3 (A2 (A4 Z Z) Z (A2 (C1 Z Z (by omega)) Z (A2 (A5 Z Z) Z (A6 ?_))))
    refine k1 ?_
    refine ⟨i+1,hlt,by omega,?_⟩
    rw [h1,show O0 c=_ from by rw [O0,if_neg (by omega),if_pos (by omega)]]
    exact J48 ⟨le1 rfl,le1 rfl,le1 rfl,le1 rfl,trivial⟩ trivial
   ·have h4:=A1 ht
    refine k2 ?_
    refine A3 (A2 (A4 Z Z) Z (A2 (F1 Z Z) Z (A2 (A5 Z Z) Z (A6 ?_))))
    refine k1 ?_
    refine B2 rfl (fun ht=>?_) (fun ht=>?_)
    ·have h5:=A0 ht
     skip
     refine A3 (A2 (A4 Z Z) Z (A2 (E7 Z Z (by simp;omega)) Z (A2 (A5 Z Z) Z (A6 ?_))))
     refine k4 (k4 (k1 ?_))
     refine A3 (A2 (A4 Z Z) Z (A2 (C1 Z Z (by omega)) Z (A2 (A5 Z Z) Z (A6 ?_))))
     refine k1 ?_
     refine ⟨i+1,hlt,by omega,?_⟩
     rw [h1,show O0 c=_ from by rw [O0,if_neg (by omega),if_neg (by omega),if_pos (by omega)]]
     exact J48 ⟨le1 rfl,le1 rfl,le1 rfl,le1 rfl,trivial⟩ trivial
    ·have h5:=A1 ht
     refine k2 ?_
     refine A3 (A2 (A4 Z Z) Z (A2 (D6 Z Z) Z (A2 (A4 Z Z) Z (A9 Z Z Z Z (fun hg=>by rw [hg];exact A4 Z Z) ?_))));refine A9 Z Z Z Z (fun hg=>by rw [hg];exact L9 Z Z) ?_;refine A2 (B4 Z (fun h=>by first | rfl | (rw [h];rfl)) (fun h=>by first | rfl | (rw [h];rfl))) Z ?_;refine A2 (A5 Z Z) Z (A6 ?_)
     refine k1 ?_
     refine B2 rfl (fun ht=>?_) (fun ht=>?_)
     ·have h6:=A0 (or_pick.symm.trans ht)
      have e1:IntKind.u8.wrap ((c.toNat:Int).tdiv 64)=((c.toNat / 64:Nat):Int):=u8q c 64
      have e2:IntKind.u8.wrap ((c.toNat:Int).tdiv 8)=((c.toNat / 8:Nat):Int):=u8q c 8
      have e3:(IntKind.u8.wrap ((c.toNat:Int).tdiv 8)).tmod 8=((c.toNat / 8 % 8:Nat):Int):=by rw [e2];exact u8r _ 8
      have e4:(c.toNat:Int).tmod 8=((c.toNat % 8:Nat):Int):=u8r _ 8
      have e5:IntKind.u8.wrap (IntKind.u8.wrap ((c.toNat:Int).tdiv 64)+1)=((c.toNat / 64+1:Nat):Int):=by rw [e1];exact u8s _ (by omega)
      have e6:IntKind.u8.wrap ((IntKind.u8.wrap ((c.toNat:Int).tdiv 8)).tmod 8+1)=((c.toNat / 8 % 8+1:Nat):Int):=by rw [e3];exact u8s _ (by omega)
      have e7:IntKind.u8.wrap ((c.toNat:Int).tmod 8+1)=((c.toNat % 8+1:Nat):Int):=by rw [e4];exact u8s _ (by omega)
      have hol:=F66 c
      have hob:O0 c=92::C90 c:=by rw [O0,if_neg (by omega),if_neg (by omega),if_neg (by omega),if_pos (by omega)]
      have g1:c.toNat / 64 < 8:=by omega
      skip
      refine C4 (by kernel_rfl) (by kernel_rfl) (A8 (A4 Z Z) Z Z (A8 (E7 Z Z (by (simp;omega))) Z Z (A8 (A4 Z Z) Z Z (A8 (C48 Z Z (by omega)) Z Z (A8 (A4 Z Z) Z Z (A8 (C48 Z Z (by omega)) Z Z (A8 (A86 Z Z) Z Z (A8 (S5 Z Z Z (by (first | omega | (simp only [b8];omega))) (by (first | omega | (simp only [b8];omega))) (by (first | omega | (simp only [b8];omega)))) Z Z (A8 (E7 Z Z (by (simp only [J77,J78,J81,J90,J88];omega))) Z Z (A8 (A4 Z Z) Z Z (A8 (C48 Z Z (by omega)) Z Z (A8 (B37 Z Z (by omega)) Z Z (A8 (A4 Z Z) Z Z (A8 (C48 Z Z (by omega)) Z Z (A8 (B37 Z Z (by omega)) Z Z (A8 (A86 Z Z) Z Z (A8 (S5 Z Z Z (by (first | omega | (simp only [b8];omega))) (by (first | omega | (simp only [b8];omega))) (by (first | omega | (simp only [b8];omega)))) Z Z (A8 (E7 Z Z (by (simp only [J77,J78,J81,J90,J88];omega))) Z Z (A8 (A4 Z Z) Z Z (A8 (B37 Z Z (by omega)) Z Z (A8 (A4 Z Z) Z Z (A8 (B37 Z Z (by omega)) Z Z (A8 (A86 Z Z) Z Z ?_)))))))))))))))))))))));refine A8 (S5 Z Z Z (by (first | omega | (simp only [b8];omega))) (by (first | omega | (simp only [b8];omega))) (by (first | omega | (simp only [b8];omega)))) Z Z (A8 (E7 Z Z (by (simp only [J77,J78,J81,J90,J88];omega))) Z Z (A8 (A5 Z Z) Z Z (H9 ?_)))
      have k1:∀q:Nat,((q+1:Nat):Int).toNat - ((q:Nat):Int).toNat=1:=fun q=>by omega
      refine k4 (k4 ?_)
      refine A3 (A2 (A4 Z Z) Z (A2 (C1 Z Z (by omega)) Z (A2 (A5 Z Z) Z (A6 ?_))))
      skip
      refine ⟨i+1,hlt,by omega,?_⟩
      rw [e5,e6,e7,e1,e3,e4,k1 (c.toNat / 64),k1 (c.toNat / 8 % 8),k1 (c.toNat % 8),h1,hob,show 34::(escs s i++(92::C90 c))=34::escs s i++[92]++(digs8.drop (c.toNat / 64)).take 1++(digs8.drop (c.toNat / 8 % 8)).take 1++(digs8.drop (c.toNat % 8)).take 1 from by unfold C90;simp only [K08,J89,K07]]
      exact J48 ⟨le1 rfl,le1 rfl,le1 rfl,le1 rfl,trivial⟩ trivial
     ·have h6:=A1 (or_pick.symm.trans ht)
      skip
      refine A3 (A2 (A4 Z Z) Z (A2 (A4 Z Z) Z (A2 (A4 Z Z) Z (A2 (A4 Z Z) Z (A2 (C1 Z Z (by omega)) Z (A2 (S5 Z Z Z (by omega) (by omega) (by omega)) Z (A2 (E7 Z Z (by simp;omega)) Z (A2 (A5 Z Z) Z (A6 ?_)))))))))
      refine k4 (k4 (k1 ?_))
      refine A3 (A2 (A4 Z Z) Z (A2 (C1 Z Z (by omega)) Z (A2 (A5 Z Z) Z (A6 ?_))))
      refine k1 ?_
      refine ⟨i+1,hlt,by omega,?_⟩
      rw [h1,show O0 c=_ from by rw [O0,if_neg (by omega),if_neg (by omega),if_neg (by omega),if_neg (by omega)]]
      rw [hone.1,hone.2,hsub]
      exact J48 ⟨le1 rfl,le1 rfl,le1 rfl,le1 rfl,trivial⟩ trivial
 ·have hi':i=s.length:=by have:=A1 ht;omega
  subst hi'
  refine k6 (k2 (k2 ?_))
  refine A3 (A2 (A4 Z Z) Z (A6 ?_))
  refine k1 ?_
  refine B2 rfl (fun ht=>?_) (fun ht=>?_)
  ·have h:plains s s.length=true:=ht
   refine k2 ?_
   refine A3 (A2 (A4 Z Z) Z (A2 (A5 Z Z) Z (A6 ?_)))
   refine k1 (k10 (k11 ?_))
   exact B5 (F8 rfl rfl rfl) (by rw [B12,if_pos h])
  ·have h:plains s s.length=false:=ht
   refine k5 (k1 (k2 ?_))
   refine A3 (A2 (A4 Z Z) Z (A2 (E7 Z Z (by simp;omega)) Z (A2 (A5 Z Z) Z (A6 ?_))))
   refine k1 (k10 ?_)
   exact B5 (F8 rfl rfl rfl) (by rw [B12,h];rfl)
end Go.Proofs.YtgejaedjnbjpoaaGreatDoor
namespace Go.Proofs.YtgejaedjnbjpoaaGreatDoor
open Go Go.AL Go.RowKit
set_option maxRecDepth 100000
theorem u8dig (q:Nat) (h:q < 8):IntKind.u8.wrap (48+(q:Int))=((UInt8.ofNat (48+q)).toNat:Int):=by
 rw [IntWalk.u8_in _ (by omega)]
 have:(UInt8.ofNat (48+q)).toNat=48+q:=by rw [UInt8.toNat_ofNat'];omega
 rw [this];simp
theorem I11 (x:Nat) (h:x < 256):IntKind.u8.wrap ((BitVec.ofInt IntKind.u8.bits (x:Int) &&& BitVec.ofInt IntKind.u8.bits 7).toNat:Int)=((x % 8:Nat):Int):=by
 have h1:(BitVec.ofInt IntKind.u8.bits (x:Int) &&& BitVec.ofInt IntKind.u8.bits 7).toNat=x % 8:=by
  rw [BitVec.toNat_and,BitVec.toNat_ofInt,BitVec.toNat_ofInt]
  have e1:((x:Int) % ((2 ^ IntKind.u8.bits:Nat):Int)).toNat=x:=by
   rw [show ((2 ^ IntKind.u8.bits:Nat):Int)=256 by rfl];omega
  have e2:((7:Int) % ((2 ^ IntKind.u8.bits:Nat):Int)).toNat=2 ^ 3 - 1:=by rfl
  rw [e1,e2,Nat.and_two_pow_sub_one_eq_mod]
 rw [h1,IntWalk.u8_in _ (by omega)]
theorem shr_u8 (x:Nat) (c:Nat) (h:c≤8):(x:Int).fdiv (2 ^ min (Int.toNat (c:Int)) IntKind.u8.bits)=((x / 2 ^ c:Nat):Int):=by
 rw [shr_eq _ _ IntKind.u8.bits ⟨by omega,by show (c:Int)≤8;omega⟩]
 simp
theorem H44 (c:UInt8):FnOk Tryz.prog 211 [pByte c] (fun rs=>rs=[F5 (O0 c)]):=by
 have hc:=c.toNat_lt
 refine FnOk.intro Tryz.func211 (by decide) Z Z Z Z ?_
 refine k2 ?_
 refine A3 (A2 (A5 Z Z) Z (A6 ?_))
 refine k1 (k2 (k3 (k2 ?_)))
 refine A3 (A2 (A4 Z Z) Z (A2 (F1 Z Z) Z (A2 (A4 Z Z) Z (A9 Z Z Z Z (fun hg=>by rw [hg];exact A4 Z Z) ?_))));refine A9 Z Z Z Z (fun hg=>by rw [hg];exact F1 Z Z) ?_;refine A2 (B4 Z (fun h=>by first | rfl | (rw [h];rfl)) (fun h=>by first | rfl | (rw [h];rfl))) Z ?_;refine A2 (A5 Z Z) Z (A6 ?_)
 refine k1 ?_
 refine B2 rfl (fun ht=>?_) (fun ht=>?_)
 ·have h:=A0 (or_pick.symm.trans ht)
  refine k2 ?_
  refine A3 (A2 (A4 Z Z) Z (A2 (C05 Z (by omega)) Z (A2 (E7 Z Z (by simp)) Z (A2 (A5 Z Z) Z (A6 ?_)))))
  refine k1 (k10 (k12 (k11 ?_)))
  exact B5 (F8 rfl rfl rfl) (by rw [O0,if_pos (by omega)];rfl)
 ·have h:=A1 (or_pick.symm.trans ht)
  refine k2 ?_
  refine A3 (A2 (A4 Z Z) Z (A2 (F1 Z Z) Z (A2 (A5 Z Z) Z (A6 ?_))))
  refine k1 ?_
  refine B2 rfl (fun ht=>?_) (fun ht=>?_)
  ·have h1:=A0 ht
   refine k2 ?_
   refine A3 (A2 (A5 Z Z) Z (A6 ?_))
   refine k1 (k10 (k12 (k11 ?_)))
   exact B5 (F8 rfl rfl rfl) (by rw [O0,if_neg (by omega),if_pos (by omega)])
  ·have h1:=A1 ht
   refine k2 ?_
   refine A3 (A2 (A4 Z Z) Z (A2 (F1 Z Z) Z (A2 (A5 Z Z) Z (A6 ?_))))
   refine k1 ?_
   refine B2 rfl (fun ht=>?_) (fun ht=>?_)
   ·have h2:=A0 ht
    refine k2 ?_
    refine A3 (A2 (A5 Z Z) Z (A6 ?_))
    refine k1 (k10 (k12 (k11 ?_)))
    exact B5 (F8 rfl rfl rfl) (by rw [O0,if_neg (by omega),if_neg (by omega),if_pos (by omega)])
   ·have h2:=A1 ht
    refine k2 ?_
    refine A3 (A2 (A4 Z Z) Z (A2 (D6 Z Z) Z (A2 (A4 Z Z) Z (A9 Z Z Z Z (fun hg=>by rw [hg];exact A4 Z Z) ?_))));refine A9 Z Z Z Z (fun hg=>by rw [hg];exact L9 Z Z) ?_;refine A2 (B4 Z (fun h=>by first | rfl | (rw [h];rfl)) (fun h=>by first | rfl | (rw [h];rfl))) Z ?_;refine A2 (A5 Z Z) Z (A6 ?_)
    refine k1 ?_
    refine B2 rfl (fun ht=>?_) (fun ht=>?_)
    ·have h3:=A0 (or_pick.symm.trans ht)
     refine k2 ?_
     have f6:(c.toNat:Int).fdiv (2 ^ min (Int.toNat 6) IntKind.u8.bits)=((c.toNat / 64:Nat):Int):=shr_u8 c.toNat 6 (by omega)
     have f3:(c.toNat:Int).fdiv (2 ^ min (Int.toNat 3) IntKind.u8.bits)=((c.toNat / 8:Nat):Int):=shr_u8 c.toNat 3 (by omega)
     have e1:=u8dig (c.toNat / 64) (by omega)
     have e2:=u8dig (c.toNat / 8 % 8) (by omega)
     have e3:=u8dig (c.toNat % 8) (by omega)
     have hol:=A49 c
     refine A3 (A2 (A4 Z Z) Z (A2 (A38 Z Z (by omega)) Z (A2 (A86 Z Z) Z (A2 (A4 Z Z) Z (A2 (A38 Z Z (by omega)) Z (A2 (T4 Z Z Z (fun _=>rfl)) Z (A2 (A86 Z Z) Z (A2 (A4 Z Z) Z (A2 (T4 Z Z Z (fun _=>rfl)) Z (A2 (A86 Z Z) Z ?_))))))))));rw [f6,f3,I11 (c.toNat / 8) (by omega),I11 c.toNat (by omega),e1,e2,e3];refine A2 (C6 (c:=u8C) (ys:=[UInt8.ofNat (48+c.toNat / 64),UInt8.ofNat (48+c.toNat / 8 % 8),UInt8.ofNat (48+c.toNat % 8)]) (D8 Z Z Z Z (D8 Z Z Z Z (D8 Z Z Z Z F0))) Z Z Z) Z (A2 (M4 TyStr.out Z (.pure _ _ _ _)) Z (A2 (E7 Z Z (by simp)) Z (A2 (A5 Z Z) Z (A6 ?_))))
     refine k1 (k10 (k12 (k11 ?_)))
     exact B5 (F8 rfl rfl rfl) (by rw [O0,if_neg (by omega),if_neg (by omega),if_neg (by omega),if_pos (by omega),hol];rfl)
    ·have h3:=A1 (or_pick.symm.trans ht)
     refine k5 (k2 ?_)
     refine A3 (A2 (A4 Z Z) Z (A2 (C05 Z (by omega)) Z (A2 (A5 Z Z) Z (A6 ?_))))
     refine k1 (k10 ?_)
     exact B5 (F8 rfl rfl rfl) (by rw [O0,if_neg (by omega),if_neg (by omega),if_neg (by omega),if_neg (by omega)])
theorem itoa_ok (n:Int) (h:0≤n∧n≤2147483647):FnOk Tryz.prog 228 [E2 n] (fun rs=>rs=[F5 (Lib.itoa n)]) :=
 J62 (xs:=[.int .i64 n]) (r:=.string ⟨(Lib.itoa n).toArray⟩) ⟨_,rfl,rfl,rfl⟩ rfl fun w hw =>
  (Tryz.strconv_Itoa n (by omega) (by omega) w (hw.pow10 rfl)).mono fun e w' ⟨he,k,os,hw'⟩=>⟨he,by subst hw';exact Lib.below_grow _ _ (Nat.le_refl _) _ _⟩
theorem x1 (n:Int):FnOk Tryz.prog 166 [E2 n] (fun rs=>rs=[F5 (I4 n)]):=by
 refine FnOk.intro Tryz.func166 (by decide) Z Z Z Z ?_
 refine k2 ?_
 refine A3 (A2 (A5 Z Z) Z (A6 ?_))
 refine k1 (k2 (k2 ?_))
 refine A3 (A2 (A4 Z Z) Z (A2 (D6 Z Z) Z (A2 (A4 Z Z) Z (A9 Z Z Z Z (fun hg=>by rw [hg];exact A4 Z Z) ?_))));refine A9 Z Z Z Z (fun hg=>by rw [hg];exact L9 Z Z) ?_;refine A2 (B4 Z (fun h=>by first | rfl | (rw [h];rfl)) (fun h=>by first | rfl | (rw [h];rfl))) Z ?_;refine A6 ?_
 refine k1 ?_
 refine B2 rfl (fun ht=>?_) (fun ht=>?_)
 ·have h:=A0 (or_pick.symm.trans ht)
  refine k2 ?_
  refine A3 (A2 (A5 Z Z) Z (A6 ?_))
  refine k1 (k10 (k11 ?_))
  exact B5 (F8 rfl rfl rfl) (by rw [I4,if_pos (by omega)])
 ·have h:=A1 (or_pick.symm.trans ht)
  refine k5 (k1 (k2 ?_))
  refine A3 (A2 (A4 Z Z) Z (B9 (itoa_ok n (by omega)) Z Z Z ?_));rintro _ rfl;refine A2 (A5 Z Z) Z (A6 ?_)
  refine k1 (k10 ?_)
  exact B5 (F8 rfl rfl rfl) (by rw [I4,if_neg (by omega)])
theorem D23 (a n:Int) (ha:-4611686018427387904≤a∧a≤4611686018427387904) (hn:-4611686018427387904≤n∧n≤4611686018427387904):FnOk Tryz.prog 168 [E2 a,E2 n] (fun rs=>rs=[F5 (G4 a n)]):=by
 refine FnOk.intro Tryz.func168 (by decide) Z Z Z Z ?_
 refine k2 ?_
 refine A3 (A2 (A5 Z Z) Z (A6 ?_))
 refine k1 (k2 (k2 ?_))
 refine A3 (A2 (A4 Z Z) Z (A2 (D6 Z Z) Z (A2 (A4 Z Z) Z (A9 Z Z Z Z (fun hg=>by rw [hg];exact A4 Z Z) ?_))));refine A9 Z Z Z Z (fun hg=>by rw [hg];exact D6 Z Z) ?_;refine A2 (B4 Z (fun h=>by first | rfl | (rw [h];rfl)) (fun h=>by first | rfl | (rw [h];rfl))) Z ?_;refine A2 (A4 Z Z) Z (A9 Z Z Z Z (fun hg=>by rw [hg];exact A4 Z Z) ?_);refine A9 Z Z Z Z (fun hg=>by rw [hg];exact L9 Z Z) ?_;refine A2 (B4 Z (fun h=>by first | rfl | (rw [h];rfl)) (fun h=>by first | rfl | (rw [h];rfl))) Z ?_;refine A2 (A4 Z Z) Z (A9 Z Z Z Z (fun hg=>by rw [hg];exact A4 Z Z) ?_);refine A9 Z Z Z Z (fun hg=>by rw [hg];exact A4 Z Z) ?_;refine A9 Z Z Z Z (fun hg=>by rw [hg];exact P5 Z Z (by (first | omega | (simp at hq;omega)))) ?_;refine A9 Z Z Z Z (fun hg=>by rw [hg];exact L9 Z Z) ?_;refine A2 (B4 Z (fun h=>by first | rfl | (rw [h];rfl)) (fun h=>by first | rfl | (rw [h];rfl))) Z ?_;refine A6 ?_
 refine k1 ?_
 have l1:=V8 a
 have l2:=V8 (a+1)
 have l3:=V8 n
 refine B2 rfl (fun ht=>?_) (fun ht=>?_)
 ·have h:=A0 ((by simp only [or_pick] at ht;exact ht):decide _=true)
  refine k2 ?_
  refine A3 (A2 (A5 Z Z) Z (A6 ?_))
  refine k1 (k10 (k11 ?_))
  exact B5 (F8 rfl rfl rfl) (by rw [G4,if_pos (by omega)])
 ·have h:=A1 ((by simp only [or_pick] at ht;exact ht):decide _=false)
  refine k5 (k1 (k2 (k2 ?_)))
  refine A3 (A2 (A4 Z Z) Z (A6 ?_))
  refine k1 (k3 (k2 ?_))
  refine A3 (A2 (F1 Z Z) Z (A2 (A5 Z Z) Z (A6 ?_)))
  refine k1 ?_
  refine B2 rfl (fun ht=>?_) (fun ht=>?_)
  ·have h0:=A0 ht
   refine k2 ?_
   refine A3 (A2 (A4 Z Z) Z (B9 (x1 a) Z Z Z ?_));rintro _ rfl;refine A2 (E7 Z Z (by simp;omega)) Z (A2 (A5 Z Z) Z (A6 ?_))
   refine k1 (k10 (k12 (k11 ?_)))
   exact B5 (F8 rfl rfl rfl) (by rw [G4,if_neg (by omega),if_pos h0])
  ·have h0:=A1 ht
   refine k2 ?_
   refine A3 (A2 (F1 Z Z) Z (A2 (A5 Z Z) Z (A6 ?_)))
   refine k1 ?_
   refine B2 rfl (fun ht=>?_) (fun ht=>?_)
   ·have h1:=A0 ht
    refine k2 ?_
    refine A3 (A2 (A4 Z Z) Z (A2 (C1 Z Z (by omega)) Z (B9 (x1 (a+1)) Z Z Z ?_)));rintro _ rfl;refine A2 (A5 Z Z) Z (A6 ?_)
    refine k1 (k10 (k12 (k11 ?_)))
    exact B5 (F8 rfl rfl rfl) (by rw [G4,if_neg (by omega),if_neg h0,if_pos h1])
   ·have h1:=A1 ht
    refine k5 (k2 ?_)
    refine A3 (A2 (A4 Z Z) Z (A2 (C1 Z Z (by omega)) Z (B9 (x1 (a+1)) Z Z Z ?_)));rintro _ rfl;refine A2 (E7 Z Z (by simp;omega)) Z (A2 (A4 Z Z) Z (B9 (x1 n) Z Z Z ?_));rintro _ rfl;refine A2 (E7 Z Z (by simp;omega)) Z (A2 (A5 Z Z) Z (A6 ?_))
    refine k1 (k10 ?_)
    exact B5 (F8 rfl rfl rfl) (by rw [G4,if_neg (by omega),if_neg h0,if_neg h1])
theorem A58 (B b:Nat) (l:List UInt8) (w:World) (h:Lib.IsBuilder 144 5 B b (Lib.byteCells l) w) (hBw:B≤w.heap.size) :
  Calls Tryz.prog 92 #[.pointer (some ⟨b,0,none⟩)] w fun e w'=>e=.returned (.string ⟨l.toArray⟩)∧Below B w w':=Tryz.Builder_String_any B b l w h hBw
theorem D24 (s:Str) (hs:s.length≤16777216):FnOk Tryz.prog 143 [F5 s] (fun rs=>rs=[F5 (H6 s)]):=by
 refine FnOk.intro Tryz.func143 (by decide) Z Z Z Z ?_
 refine k2 ?_
 refine A3 (A2 (A5 Z Z) Z (A6 ?_))
 refine k1 (k2 ?_)
 refine A3 (A2 (A4 Z Z) Z (A2 (j4 Z Z) Z (A2 (A5 Z Z) Z (A6 ?_))))
 refine k1 (k2 (k2 ?_))
 refine A3 (A2 (A4 Z Z) Z (A2 (D5 Z) Z (A2 (A4 Z Z) Z (A6 ?_))))
 refine k1 (k3 ?_)
 refine D1 (X:=Nat) (fun i=>([(0,H4 s),(3,J4 (.bool (plains s i))),(10,C3 s.length),(11,C3 i)],[])) (fun i=>i≤s.length) (fun i=>s.length - i) 0 (Nat.zero_le _) ?_ ?_
 ·rw [D73]
  exact J48 ⟨le1 rfl,le1 rfl,le1 rfl,le1 rfl,trivial⟩ trivial
 intro i hi
 dsimp only at hi ⊢
 refine k2 ?_
 refine A3 (A2 (D6 Z Z) Z (A6 ?_))
 refine k1 (k2 ?_)
 refine B2 rfl (fun ht=>?_) (fun ht=>?_)
 ·have hlt:i < s.length:=by have:=A0 ht;omega
  have hv:s[i]?=some s[i]:=by simp [hlt]
  obtain ⟨c,hc⟩:∃c,c=s[i]:=⟨_,rfl⟩
  have h2:=D74 s i hlt
  rw [←hc] at hv h2
  refine k5 (k1 (k2 (k3 (k2 ?_))))
  refine A3 (A2 (A4 Z Z) Z (A2 (A5 Z Z) Z (A6 ?_)))
  refine k1 ?_
  refine A3 (A2 (A4 Z Z) Z (A2 (A4 Z Z) Z (A9 Z Z Z Z (fun hg=>by rw [hg];exact A4 Z Z) ?_)));refine A9 Z Z Z Z (fun hg=>by rw [hg];exact A4 Z Z) ?_;refine A9 Z Z Z Z (fun hg=>by have hq:=hg;(try simp at hq);rw [hg];exact E9 Z Z (by omega) hv) ?_;refine A9 Z Z Z Z (fun hg=>by have hq:=hg;(try simp at hq);rw [hg];exact G7 (F42 c) Z Z) ?_;refine A2 (B4 Z (fun h=>by first | rfl | (rw [h];rfl)) (fun h=>by first | rfl | (rw [h];rfl))) Z ?_;refine A2 (A5 Z Z) Z (A6 ?_)
  refine k4 (k1 ?_)
  refine A3 (A2 (C1 Z Z (by omega)) Z (A2 (A4 Z Z) Z (A6 ?_)))
  refine k1 ?_
  refine ⟨i+1,hlt,by omega,?_⟩
  rw [show (if plains s i=true then N4 c else false)=plains s (i+1) from by rw [h2];cases plains s i<;>rfl]
  exact J48 ⟨le1 rfl,le1 rfl,le1 rfl,le1 rfl,trivial⟩ trivial
 have hi':i=s.length:=by have:=A1 ht;omega
 subst hi'
 refine k6 (k2 (k2 ?_))
 refine A3 (A2 (A4 Z Z) Z (A6 ?_))
 refine k1 ?_
 refine B2 rfl (fun ht=>?_) (fun ht=>?_)
 ·have h:plains s s.length=true:=ht
  refine k2 ?_
  refine A3 (A2 (A4 Z Z) Z (A2 (A5 Z Z) Z (A6 ?_)))
  refine k1 (k10 (k11 ?_))
  exact B5 (F8 rfl rfl rfl) (by rw [B12,if_pos h])
 have h:plains s s.length=false:=ht
 have hq:H6 s=(34::escs s s.length)++[34]:=by rw [B12,h];rfl
 refine k5 (k1 (k2 ?_))
 refine A3 (C2 (E14 700 Z) Z (A6 ?_))
 refine k1 (k2 ?_)
 refine F4 (J61 701 UInt8 1 u8C 5 (kb:=700) (o:=1) Z Z Z) ?_
 refine A3 (X3 (C10 (xs:=[]) (c:=34) ⟨⟨_,.inl rfl,rfl⟩,rfl⟩ (by simp)) Z Z Z ?_);rintro _ _ ⟨rfl,rfl⟩;refine A6 ?_
 refine k1 (k2 (k2 ?_))
 refine A3 (A2 (A4 Z Z) Z (A2 (D5 Z) Z (A2 (A4 Z Z) Z (A6 ?_))))
 refine k1 (k3 ?_)
 refine D1 (X:=Nat) (fun i=>([(0,H4 s),(5,.s (.one (.ref 700 0))),(26,C3 s.length),(27,C3 i)],[(700,.tbx 144 [.ref 700 0,.buf 701 UInt8 1 u8C (34::escs s i)]),(701,.spare (34::escs s i).length 1 5)])) (fun i=>i≤s.length) (fun i=>s.length - i) 0 (Nat.zero_le _) (J48 ⟨le1 rfl,le1 rfl,le1 rfl,le1 rfl,trivial⟩ ⟨rfl,rfl,trivial⟩) ?_
 intro i hi
 dsimp only at hi ⊢
 have hel:=H03 s i hi
 refine k2 ?_
 refine A3 (A2 (D6 Z Z) Z (A6 ?_))
 refine k1 (k2 ?_)
 refine B2 rfl (fun ht=>?_) (fun ht=>?_)
 ·have hlt:i < s.length:=by have:=A0 ht;omega
  have hv:s[i]?=some s[i]:=by simp [hlt]
  obtain ⟨c,hc⟩:∃c,c=s[i]:=⟨_,rfl⟩
  have h1:=F68 s i hlt
  have h2:=F67 c
  rw [←hc] at hv h1
  refine k5 (k1 (k2 (k3 (k2 ?_))))
  refine A3 (A2 (A4 Z Z) Z (A2 (A5 Z Z) Z (A6 ?_)))
  refine k1 ?_
  refine A3 (A2 (A4 Z Z) Z (A2 (A4 Z Z) Z (A2 (E9 Z Z (by omega) hv) Z (B9 (H44 c) Z Z Z ?_))));rintro _ rfl;refine X3 (Q4 (xs:=34::escs s i) (s:=O0 c) ⟨⟨_,.inr rfl,rfl⟩,rfl⟩ (by simp only [J78];omega)) Z Z Z ?_;rintro _ _ ⟨rfl,rfl⟩;refine A6 ?_
  refine k4 (k1 ?_)
  refine A3 (A2 (C1 Z Z (by omega)) Z (A2 (A4 Z Z) Z (A6 ?_)))
  refine k1 ?_
  refine ⟨i+1,hlt,by omega,?_⟩
  rw [h1]
  exact J48 ⟨le1 rfl,le1 rfl,le1 rfl,le1 rfl,trivial⟩ ⟨rfl,rfl,trivial⟩
 have hi':i=s.length:=by have:=A1 ht;omega
 subst hi'
 refine k6 (k2 ?_)
 refine A3 (X3 (C10 (xs:=34::escs s s.length) (c:=34) ⟨⟨_,.inr rfl,rfl⟩,rfl⟩ (by simp only [J78];omega)) Z Z Z ?_);rintro _ _ ⟨rfl,rfl⟩;refine A6 ?_
 refine k1 (k2 ?_)
 refine A3 (D17 (k:=700) (k':=701) ⟨_,rfl,rfl,rfl⟩ A58 Z Z Z Z Z (.inr Z) Z (A2 (A5 Z Z) Z (A6 ?_)))
 refine k1 (k10 ?_)
 exact B5 (F8 rfl rfl rfl) (by rw [hq])
theorem gD {s:Str} {i:Nat} (h:i < s.length):s[i]?=some (s.getD i 0):=by simp [h]
def B81 (s:Str) (i:Nat):Bool:=decide ((i < s.length∧48≤(s.getD i 0).toNat)∧(s.getD i 0).toNat≤57)
theorem H45 (s:Str) (i:Nat):B81 s i=match s[i]? with | some c=>Z6 c | none=>false:=by
 unfold B81 Z6
 by_cases h:i < s.length
 ·rw [gD h];simp [h]
 ·rw [K01 (by omega)];simp [h]
theorem I12 (s:Str) (i:Nat):(K9 (s.drop i)).length≤s.length - i:=by
 unfold K9
 have:=(List.takeWhile_sublist Z6 (l:=s.drop i)).length_le
 rw [J88] at this;exact this
theorem p8 {p:UInt8→Bool}:∀(s:Str) (k:Nat),k≤(s.takeWhile p).length→(match s[k]? with | some c=>p c | none=>false)=decide (k < (s.takeWhile p).length)
 | [],k,h=>by simp at h ⊢
 | c::r,0,h=>by by_cases hc:p c=true<;>simp [List.takeWhile_cons,hc]
 | c::r,k+1,h=>by
  by_cases hc:p c=true
  ·rw [List.takeWhile_cons,if_pos hc,J78] at h ⊢
   have:=p8 (p:=p) r k (by omega)
   rw [List.getElem?_cons_succ,this];simp
  ·rw [List.takeWhile_cons,if_neg hc] at h;simp at h
theorem C11 {p:UInt8→Bool}:∀(s:Str) (k:Nat),k < (s.takeWhile p).length→s[k]?=(s.takeWhile p)[k]?
 | [],k,h=>by simp at h
 | c::r,k,h=>by
  by_cases hc:p c=true
  ·rw [List.takeWhile_cons,if_pos hc] at h ⊢
   cases k with
   | zero=>rfl
   | succ k=>rw [List.getElem?_cons_succ,List.getElem?_cons_succ];exact C11 (p:=p) r k (by simpa using h)
  ·rw [List.takeWhile_cons,if_neg hc] at h;simp at h
theorem D25 (s:Str) (i k:Nat) (h:k≤(K9 (s.drop i)).length):B81 s (i+k)=decide (k < (K9 (s.drop i)).length):=by
 rw [H45,←J99]
 exact p8 (s.drop i) k h
theorem D26 {s:Str} {i k:Nat} (h:k < (K9 (s.drop i)).length):s[i+k]?=some ((K9 (s.drop i)).getD k 0)∧48≤((K9 (s.drop i)).getD k 0).toNat∧((K9 (s.drop i)).getD k 0).toNat≤57 ∧
  j3 ((K9 (s.drop i)).take (k+1))=10*j3 ((K9 (s.drop i)).take k)+(((K9 (s.drop i)).getD k 0).toNat - 48):=by
 have h1:s[i+k]?=(K9 (s.drop i))[k]?:=by rw [←J99];exact C11 _ _ h
 have h2:=gD h
 have h3:Z6 ((K9 (s.drop i)).getD k 0)=true:=by
  have hm:(K9 (s.drop i)).getD k 0∈(s.drop i).takeWhile Z6:=J93 h2
  exact List.all_eq_true.1 List.all_takeWhile _ hm
 unfold Z6 at h3
 have h3:=A0 h3
 refine ⟨by rw [h1,h2],h3.1,h3.2,?_⟩
 obtain ⟨hl,he⟩:=List.getElem?_eq_some_iff.1 h2
 rw [J86 hl,F70,he]
theorem C70 (n:Nat) (h:48≤n) (h2:n≤57):IntKind.i64.wrap (IntKind.u8.wrap ((n:Int) - 48))=((n - 48:Nat):Int):=by
 have:∀k:Fin 10,IntKind.i64.wrap (IntKind.u8.wrap (((k.1+48:Nat):Int) - 48))=((k.1:Nat):Int):=by decide
 have h3:=this ⟨n - 48,by omega⟩
 dsimp only at h3
 rw [show n - 48+48=n by omega] at h3
 exact h3
def C71 (s:Str) (i:Nat):List PV:=match Q0 (s.drop i) with
 | none=>[E2 0,E2 0,D3 false]
 | some (n,k)=>[E2 n,E2 ((i+k:Nat):Int),D3 true]
theorem x2 {s:Str} {n k:Nat} (h:Q0 s=some (n,k)):k=(K9 s).length∧n=j3 (K9 s)∧0 < k∧k≤s.length∧n≤2147483647:=by
 unfold Q0 at h
 split at h
 ·cases h
 ·rename_i h1
  cases h
  have h2:K9 s≠[]:=fun e=>h1 (.inl e)
  have h3:=List.length_pos_iff.2 h2
  have h4:(K9 s).length≤s.length:=by unfold K9;exact (List.takeWhile_sublist Z6).length_le
  refine ⟨rfl,rfl,h3,h4,?_⟩
  by_cases hv:j3 (K9 s)≤2147483647
  ·exact hv
  ·exact absurd (.inr (.inr (by omega))) h1
theorem F45 (s:Str) (i:Nat):FnOk Tryz.prog 256 [F5 s,E2 i] (fun rs=>rs=[D3 (B81 s i)]):=by
 refine FnOk.intro Tryz.func256 (by decide) Z Z Z Z ?_
 refine k2 ?_
 refine A3 (A2 (A5 Z Z) Z (A6 ?_))
 refine k1 (k2 ?_)
 refine A3 (A2 (A4 Z Z) Z (A2 (A4 Z Z) Z (A2 (D5 Z) Z (A2 (D6 Z Z) Z (A2 (A4 Z Z) Z (A9 Z Z Z Z (fun hg=>by rw [hg];exact A4 Z Z) ?_))))));refine A9 Z Z Z Z (fun hg=>by rw [hg];exact A4 Z Z) ?_;refine A9 Z Z Z Z (fun hg=>by have hq:=hg;(try simp at hq);rw [hg];exact E9 Z Z (by omega) (gD (by omega))) ?_;refine A9 Z Z Z Z (fun hg=>by rw [hg];exact Z1 Z Z) ?_;refine A2 (B4 Z (fun h=>by first | rfl | (rw [h];rfl)) (fun h=>by first | rfl | (rw [h];rfl))) Z ?_;refine A2 (A4 Z Z) Z (A9 Z Z Z Z (fun hg=>by rw [hg];exact A4 Z Z) ?_);refine A9 Z Z Z Z (fun hg=>by rw [hg];exact A4 Z Z) ?_;refine A9 Z Z Z Z (fun hg=>by have hq:=hg;(try simp at hq);rw [hg];exact E9 Z Z (by omega) (gD (by omega))) ?_;refine A9 Z Z Z Z (fun hg=>by rw [hg];exact m8 Z Z) ?_;refine A2 (B4 Z (fun h=>by first | rfl | (rw [h];rfl)) (fun h=>by first | rfl | (rw [h];rfl))) Z ?_;refine A2 (A5 Z Z) Z (A6 ?_)
 refine k1 (k10 ?_)
 refine B5 (F8 Z Z Z) ?_
 simp only [I3]
 unfold B81
 congr 4
 congr 1
 simp;omega
theorem B00 (s:Str) (i:Nat) (hi:i≤s.length) (hs:s.length≤1073741824):FnOk Tryz.prog 221 [F5 s,E2 i] (fun rs=>rs=C71 s i):=by
 obtain ⟨ds,hds⟩:∃ds,ds=K9 (s.drop i):=⟨_,rfl⟩
 have hle:=I12 s i
 have h0:=D25 s i 0 (Nat.zero_le _)
 rw [Nat.add_zero] at h0
 rw [←hds] at hle h0
 refine FnOk.intro Tryz.func221 (by decide) Z Z Z Z ?_
 refine k2 ?_
 refine A3 (A2 (A5 Z Z) Z (A2 (A5 Z Z) Z (A2 (A5 Z Z) Z (A6 ?_))))
 refine k1 (k2 (k2 ?_))
 refine A3 (A2 (A4 Z Z) Z (A2 (D6 Z Z) Z (A2 (A4 Z Z) Z (A9 Z Z Z Z (fun hg=>by rw [hg];exact A4 Z Z) ?_))));refine A9 Z Z Z Z (fun hg=>by rw [hg];exact A4 Z Z) ?_;refine A9 Z Z Z Z (fun hg=>by have hq:=hg;(try simp at hq);rw [hg];exact G7 (F45 s i) Z Z) ?_;refine A9 Z Z Z Z (fun hg=>by rw [hg];exact E4 Z) ?_;refine A2 (B4 Z (fun h=>by first | rfl | (rw [h];rfl)) (fun h=>by first | rfl | (rw [h];rfl))) Z ?_;refine A6 ?_
 rw [h0]
 refine k1 ?_
 by_cases hz:ds.length=0
 ·refine B2 rfl (fun ht=>?_) (fun ht=>?_)
  rotate_left
  ·exfalso;revert ht;simp [hz]
  refine k2 ?_
  refine A3 (A2 (A5 Z Z) Z (A2 (A5 Z Z) Z (A2 (A5 Z Z) Z (A6 ?_))))
  refine k1 (k10 (k11 ?_))
  refine B5 (rs:=[E2 0,E2 0,D3 false]) (B40 Z Z Z Z Z Z Z) ?_
  unfold C71 Q0
  rw [←hds,if_pos (.inl (List.length_eq_zero_iff.1 hz))]
 refine B2 rfl (fun ht=>?_) (fun ht=>?_)
 ·exfalso;revert ht;simp [show 0 < ds.length by omega]
 refine k5 (k1 (k2 ?_))
 refine A3 (A2 (A4 Z Z) Z (A2 (A5 Z Z) Z (A2 (A5 Z Z) Z (A6 ?_))))
 refine k1 (k2 (k3 ?_))
 refine D1 (X:=Nat) (fun k=>([(0,H4 s),(1,C3 i),(7,C3 ((min (j3 (ds.take k)) 2147483648:Nat):Int)),(8,C3 ((i+k:Nat):Int))],[])) (fun k=>k≤ds.length) (fun k=>ds.length - k) 0 (Nat.zero_le _) (J48 ⟨le1 rfl,le1 rfl,le1 rfl,le1 rfl,trivial⟩ trivial) ?_
 intro k hk
 dsimp only at hk ⊢
 have hrun:=D25 s i k (by rw [←hds];exact hk)
 rw [←hds] at hrun
 refine k2 (k2 ?_)
 refine A3 (A2 (A4 Z Z) Z (A2 (A4 Z Z) Z (B9 (F45 s (i+k)) Z Z Z ?_)));rintro _ rfl;refine A6 ?_
 rw [hrun]
 refine k1 ?_
 refine B2 rfl (fun ht=>?_) (fun ht=>?_)
 ·have hlt:k < ds.length:=A0 ht
  obtain ⟨g1,g2,g3,g4⟩:=D26 (s:=s) (i:=i) (k:=k) (by rw [←hds];exact hlt)
  rw [←hds] at g1 g2 g3 g4
  obtain ⟨c,hc⟩:∃c,c=ds.getD k 0:=⟨_,rfl⟩
  rw [←hc] at g1 g2 g3 g4
  obtain ⟨v,hv⟩:∃v,v=min (j3 (ds.take k)) 2147483648:=⟨_,rfl⟩
  have hvb:v≤2147483648:=by omega
  have hnew:min (j3 (ds.take (k+1))) 2147483648=min (10*v+(c.toNat - 48)) 2147483648:=by rw [g4];omega
  rw [←hv]
  have hsub:=C70 c.toNat g2 g3
  refine k5 (k1 (k2 (k3 ?_)))
  refine A3 (A2 (A4 Z Z) Z (A2 (F18 Z Z (by omega)) Z (A2 (A4 Z Z) Z (A2 (A4 Z Z) Z (A2 (E9 Z Z (by omega) g1) Z (A2 (C47 Z Z) Z (A2 (I1 Z) Z (A2 (C1 Z Z (by (rw [hsub];omega))) Z ?_))))))));refine A2 (F22 Z Z) Z (A2 (A5 Z Z) Z (A6 ?_))
  refine k4 (k1 ?_)
  refine A3 (A2 (A4 Z Z) Z (A2 (C1 Z Z (by omega)) Z (A2 (A5 Z Z) Z (A6 ?_))))
  refine k1 ?_
  refine ⟨k+1,hlt,by omega,?_⟩
  rw [hnew]
  refine J48 ⟨⟨_,rfl,.same _⟩,⟨_,rfl,.same _⟩,⟨_,rfl,.eq ?_⟩,⟨_,rfl,.eq ?_⟩,trivial⟩ trivial
  ·rw [hsub]
   congr 6
   split<;>omega
  ·congr 6
 ·have hk':k=ds.length:=by have:¬k < ds.length:=A1 ht;omega
  subst hk'
  rw [J97]
  have hv0:i < s.length:=by omega
  refine k6 (k2 (k2 ?_))
  refine A3 (A2 (A4 Z Z) Z (A2 (L9 Z Z) Z (A2 (A4 Z Z) Z (A9 Z Z Z Z (fun hg=>by rw [hg];exact A4 Z Z) ?_))));refine A9 Z Z Z Z (fun hg=>by rw [hg];exact A4 Z Z) ?_;refine A9 Z Z Z Z (fun hg=>by have hq:=hg;(try simp at hq);rw [hg];exact E9 Z Z (by omega) (gD hv0)) ?_;refine A9 Z Z Z Z (fun hg=>by rw [hg];exact F1 Z Z) ?_;refine A9 Z Z Z Z (fun hg=>by rw [hg];exact A4 Z Z) ?_;refine G5 Z Z Z (.gd (.val _)) Z (fun hg=>by obtain ⟨hg1,hg2⟩:=L7 hg;(try rw [hg1]);(try rw [hg2]);exact A4 Z Z) ?_;refine G5 Z Z Z (.gd (.val _)) Z (fun hg=>by obtain ⟨hg1,hg2⟩:=L7 hg;(try rw [hg1]);(try rw [hg2]);exact A4 Z Z) ?_;refine G5 Z Z Z (.gd (.val _)) Z (fun hg=>by have hq:=hg;(try simp at hq);obtain ⟨hg1,hg2⟩:=L7 hg;(try rw [hg1]);(try rw [hg2]);exact C1 Z Z (by omega)) ?_;refine G5 Z Z Z (.gd (.val _)) Z (fun hg=>by obtain ⟨hg1,hg2⟩:=L7 hg;(try rw [hg1]);(try rw [hg2]);exact L9 Z Z) ?_;refine A9 Z Z Z Z (fun hg=>by rw [hg];exact B4 Z (fun h=>by first | rfl | (rw [h];rfl)) (fun h=>by first | rfl | (rw [h];rfl))) ?_;refine A2 (B4 Z (fun h=>by first | rfl | (rw [h];rfl)) (fun h=>by first | rfl | (rw [h];rfl))) Z ?_;refine A6 ?_
  refine k1 ?_
  have hd0:(s.drop i).head?=some (s.getD i 0):=by rw [List.head?_drop,gD hv0]
  simp only [I3,or_pick]
  have hbad:(K9 (s.drop i)=[]∨((s.drop i).head?=some 48∧1 < (K9 (s.drop i)).length)∨2147483647 < j3 (K9 (s.drop i)))↔(2147483647 < ((min (j3 ds) 2147483648:Nat):Int)∨(((s.getD i 0).toNat:Int)=48∧(i:Int)+1 < ((i+ds.length:Nat):Int))):=by
   rw [←hds,hd0]
   have e1:ds≠[]:=fun e=>hz (by rw [e];rfl)
   have e2:(some (s.getD i 0)=some 48)↔((s.getD i 0).toNat:Int)=48:=by
    rw [Option.some.injEq,←UInt8.toNat_inj]
    have:(48:UInt8).toNat=48:=rfl
    omega
   simp only [e1,false_or,e2]
   omega
  refine B2 rfl (fun ht=>?_) (fun ht=>?_)
  ·have h1:=A0 ht
   refine k2 ?_
   refine A3 (A2 (A5 Z Z) Z (A2 (A5 Z Z) Z (A2 (A5 Z Z) Z (A6 ?_))))
   refine k1 (k10 (k11 ?_))
   refine B5 (rs:=[E2 0,E2 0,D3 false]) (B40 Z Z Z Z Z Z Z) ?_
   unfold C71 Q0
   rw [if_pos (hbad.2 (by first | exact h1 | simpa using h1))]
  ·have h1:=A1 ht
   have h2:¬(K9 (s.drop i)=[]∨((s.drop i).head?=some 48∧1 < (K9 (s.drop i)).length)∨2147483647 < j3 (K9 (s.drop i))):=fun hh=>h1 (by first | exact hbad.1 hh | simpa using hbad.1 hh)
   refine k5 (k1 (k2 ?_))
   refine A3 (A2 (A4 Z Z) Z (A2 (A4 Z Z) Z (A2 (A5 Z Z) Z (A2 (A5 Z Z) Z (A2 (A5 Z Z) Z (A6 ?_))))))
   refine k1 (k10 ?_)
   refine B5 (rs:=[E2 ((min (j3 ds) 2147483648:Nat):Int),E2 ((i+ds.length:Nat):Int),D3 true]) (B40 Z Z Z Z Z Z Z) ?_
   unfold C71 Q0
   rw [if_neg h2,←hds]
   have h3:j3 ds≤2147483647:=by
    rw [←hds] at h2
    by_cases hv:j3 ds≤2147483647
    ·exact hv
    ·exact absurd (.inr (.inr (by omega))) h2
   rw [show min (j3 ds) 2147483648=j3 ds by omega]
theorem B01 (s:Str) (i:Nat) (hi:i≤s.length) (hs:s.length≤1073741824):FnOk Tryz.prog 162 [F5 s,E2 i] (fun rs=>rs=C71 s i):=by
 obtain ⟨ds,hds⟩:∃ds,ds=K9 (s.drop i):=⟨_,rfl⟩
 have hle:=I12 s i
 rw [←hds] at hle
 have hd0:0 < ds.length→(s.drop i).head?=some (s.getD i 0):=fun h=>by rw [List.head?_drop,gD (by omega)]
 have e48:((s.getD i 0).toNat:Int)=48↔s.getD i 0=48:=by
  rw [←UInt8.toNat_inj]
  have:(48:UInt8).toNat=48:=rfl
  omega
 refine FnOk.intro Tryz.func162 (by decide) Z Z Z Z ?_
 refine k2 ?_
 refine A3 (A2 (A5 Z Z) Z (A2 (A5 Z Z) Z (A2 (A5 Z Z) Z (A6 ?_))))
 refine k1 (k2 (k2 ?_))
 refine A3 (A2 (A4 Z Z) Z (A2 (D6 Z Z) Z (A2 (A4 Z Z) Z (A9 Z Z Z Z (fun hg=>by rw [hg];exact A4 Z Z) ?_))));refine A9 Z Z Z Z (fun hg=>by rw [hg];exact A4 Z Z) ?_;refine A9 Z Z Z Z (fun hg=>by rw [hg];exact D5 Z) ?_;refine A9 Z Z Z Z (fun hg=>by rw [hg];exact L9 Z Z) ?_;refine A2 (B4 Z (fun h=>by first | rfl | (rw [h];rfl)) (fun h=>by first | rfl | (rw [h];rfl))) Z ?_;refine A6 ?_
 refine k1 ?_
 refine B2 rfl (fun ht=>?_) (fun ht=>?_)
 ·exfalso;revert ht;simp only [or_pick];simp;omega
 refine k5 (k1 (k2 ?_))
 refine A3 (A2 (A4 Z Z) Z (A2 (A5 Z Z) Z (A2 (A5 Z Z) Z (A6 ?_))))
 refine k1 (k2 (k3 ?_))
 refine D1 (X:=Nat) (fun k=>([(0,H4 s),(1,C3 i),(7,C3 (j3 (ds.take k):Int)),(8,C3 ((i+k:Nat):Int))],[])) (fun k=>k≤ds.length∧j3 (ds.take k)≤2147483647∧(1 < k→s.getD i 0≠48)) (fun k=>ds.length - k) 0 ⟨Nat.zero_le _,by simp [j3],by omega⟩ (J48 ⟨le1 rfl,le1 rfl,le1 rfl,le1 rfl,trivial⟩ trivial) ?_
 rintro k ⟨hk,hv,h48⟩
 dsimp only at hk hv h48 ⊢
 have hrun:=D25 s i k (by rw [←hds];exact hk)
 rw [←hds] at hrun
 unfold B81 at hrun
 refine k2 (k2 ?_)
 refine A3 (A2 (A4 Z Z) Z (A2 (A4 Z Z) Z (A2 (D5 Z) Z (A2 (D6 Z Z) Z (A2 (A4 Z Z) Z (A9 Z Z Z Z (fun hg=>by rw [hg];exact A4 Z Z) ?_))))));refine A9 Z Z Z Z (fun hg=>by rw [hg];exact A4 Z Z) ?_;refine A9 Z Z Z Z (fun hg=>by have hq:=hg;(try simp at hq);rw [hg];exact E9 Z Z (by omega) (gD (by omega))) ?_;refine A9 Z Z Z Z (fun hg=>by rw [hg];exact Z1 Z Z) ?_;refine A2 (B4 Z (fun h=>by first | rfl | (rw [h];rfl)) (fun h=>by first | rfl | (rw [h];rfl))) Z ?_;refine A2 (A4 Z Z) Z (A9 Z Z Z Z (fun hg=>by rw [hg];exact A4 Z Z) ?_);refine A9 Z Z Z Z (fun hg=>by rw [hg];exact A4 Z Z) ?_;refine A9 Z Z Z Z (fun hg=>by have hq:=hg;(try simp at hq);rw [hg];exact E9 Z Z (by omega) (gD (by omega))) ?_;refine A9 Z Z Z Z (fun hg=>by rw [hg];exact m8 Z Z) ?_;refine A2 (B4 Z (fun h=>by first | rfl | (rw [h];rfl)) (fun h=>by first | rfl | (rw [h];rfl))) Z ?_;refine A6 ?_
 refine k1 ?_
 simp only [I3]
 have hrun2:decide (((((i+k:Nat):Int) < (s.length:Int))∧(48:Int)≤((s.getD (i+k) 0).toNat:Int))∧((s.getD (i+k) 0).toNat:Int)≤57)=decide (k < ds.length):=by
  rw [←hrun]
  congr 1
  simp;omega
 refine B2 rfl (fun ht=>?_) (fun ht=>?_)
 ·have ht2:=ht
  have hlt:k < ds.length:=by
   have h1:=A0 ht
   refine A0 (hrun2 ▸ ?_)
   exact decide_eq_true (by first | exact h1 | simpa using h1)
  obtain ⟨g1,g2,g3,g4⟩:=D26 (s:=s) (i:=i) (k:=k) (by rw [←hds];exact hlt)
  rw [←hds] at g1 g2 g3 g4
  obtain ⟨c,hc⟩:∃c,c=ds.getD k 0:=⟨_,rfl⟩
  rw [←hc] at g1 g2 g3 g4
  have hsub:=C70 c.toNat g2 g3
  have hi0:i < s.length:=by omega
  refine k5 (k1 (k3 (k2 (k2 ?_))))
  refine A3 (A2 (A4 Z Z) Z (A2 (A4 Z Z) Z (A2 (L9 Z Z) Z (A2 (A4 Z Z) Z (A9 Z Z Z Z (fun hg=>by rw [hg];exact A4 Z Z) ?_)))));refine A9 Z Z Z Z (fun hg=>by rw [hg];exact A4 Z Z) ?_;refine A9 Z Z Z Z (fun hg=>by have hq:=hg;(try simp at hq);rw [hg];exact E9 Z Z (by omega) (gD hi0)) ?_;refine A9 Z Z Z Z (fun hg=>by rw [hg];exact F1 Z Z) ?_;refine A2 (B4 Z (fun h=>by first | rfl | (rw [h];rfl)) (fun h=>by first | rfl | (rw [h];rfl))) Z ?_;refine A6 ?_
  refine k1 ?_
  simp only [I3]
  refine B2 rfl (fun ht=>?_) (fun ht=>?_)
  ·have h1:=A0 ht
   have h1:0 < k∧s.getD i 0=48:=⟨by omega,e48.1 h1.2⟩
   refine k2 ?_
   refine A3 (A2 (A5 Z Z) Z (A2 (A5 Z Z) Z (A2 (A5 Z Z) Z (A6 ?_))))
   refine k1 (k10 (k11 (k12 (k11 (k12 (k11 ?_))))))
   refine B5 (rs:=[E2 0,E2 0,D3 false]) (B40 Z Z Z Z Z Z Z) ?_
   unfold C71 Q0
   rw [←hds,if_pos (.inr (.inl ⟨by rw [hd0 (by omega),h1.2],by omega⟩))]
  ·have h1:=A1 ht
   have h1:0 < k→s.getD i 0≠48:=fun h2 h3=>h1 ⟨by omega,e48.2 h3⟩
   refine k5 (k1 (k2 ?_))
   refine A3 (A2 (A4 Z Z) Z (A2 (F18 Z Z (by omega)) Z (A2 (A4 Z Z) Z (A2 (A4 Z Z) Z (A2 (E9 Z Z (by omega) g1) Z (A2 (C47 Z Z) Z (A2 (I1 Z) Z (A2 (C1 Z Z (by (rw [hsub];omega))) Z ?_))))))));refine A2 (A5 Z Z) Z (A6 ?_)
   rw [hsub,show 10*((j3 (ds.take k):Nat):Int)+((c.toNat - 48:Nat):Int)=((j3 (ds.take (k+1)):Nat):Int) by rw [g4];omega]
   refine k1 (k2 (k2 ?_))
   refine A3 (A2 (A4 Z Z) Z (A2 (L9 Z Z) Z (A6 ?_)))
   refine k1 ?_
   refine B2 rfl (fun ht=>?_) (fun ht=>?_)
   ·have h2:(2147483647:Int) < ((j3 (ds.take (k+1)):Nat):Int):=A0 ht
    refine k2 ?_
    refine A3 (A2 (A5 Z Z) Z (A2 (A5 Z Z) Z (A2 (A5 Z Z) Z (A6 ?_))))
    refine k1 (k10 (k11 (k12 (k11 (k12 (k11 ?_))))))
    refine B5 (rs:=[E2 0,E2 0,D3 false]) (B40 Z Z Z Z Z Z Z) ?_
    have hmono:∀j,k+1≤j→j≤ds.length→j3 (ds.take (k+1))≤j3 (ds.take j):=by
     intro j
     induction j with
     | zero=>intro h;omega
     | succ j ih =>
      intro h3 h4
      by_cases hj:k+1=j+1
      ·rw [hj];exact Nat.le_refl _
      ·have:=ih (by omega) (by omega)
       obtain ⟨_,_,_,g⟩:=D26 (s:=s) (i:=i) (k:=j) (by rw [←hds];omega)
       rw [←hds] at g
       omega
    have h3:=hmono ds.length (by omega) (Nat.le_refl _)
    rw [J97] at h3
    unfold C71 Q0
    rw [←hds,if_pos (.inr (.inr (by omega)))]
   ·have h2:¬(2147483647:Int) < ((j3 (ds.take (k+1)):Nat):Int):=A1 ht
    refine k5 (k1 ?_)
    refine A3 (A2 (A4 Z Z) Z (A2 (C1 Z Z (by omega)) Z (A2 (A5 Z Z) Z (A6 ?_))))
    refine k4 (k1 ?_)
    refine ⟨k+1,⟨hlt,by omega,fun _=>h1 (by omega)⟩,by omega,?_⟩
    rw [show ((i+(k+1):Nat):Int)=((i+k:Nat):Int)+1 by omega]
    exact J48 ⟨le1 rfl,le1 rfl,le1 rfl,le1 rfl,trivial⟩ trivial
 ·have hk':k=ds.length:=by
   have h1:=A1 ht
   have h2:¬k < ds.length:=by
    refine A1 (hrun2 ▸ ?_)
    exact decide_eq_false (by first | exact h1 | simpa using h1)
   omega
  subst hk'
  rw [J97] at hv ⊢
  refine k6 (k2 (k2 ?_))
  refine A3 (A2 (A4 Z Z) Z (A2 (A4 Z Z) Z (A2 (F1 Z Z) Z (A6 ?_))))
  refine k1 ?_
  refine B2 rfl (fun ht=>?_) (fun ht=>?_)
  ·have hz:ds.length=0:=by have:=A0 ht;omega
   refine k2 ?_
   refine A3 (A2 (A5 Z Z) Z (A2 (A5 Z Z) Z (A2 (A5 Z Z) Z (A6 ?_))))
   refine k1 (k10 (k11 ?_))
   refine B5 (rs:=[E2 0,E2 0,D3 false]) (B40 Z Z Z Z Z Z Z) ?_
   unfold C71 Q0
   rw [←hds,if_pos (.inl (List.length_eq_zero_iff.1 hz))]
  ·have hz:ds.length≠0:=by have:=A1 ht;omega
   refine k5 (k1 (k2 ?_))
   refine A3 (A2 (A4 Z Z) Z (A2 (A4 Z Z) Z (A2 (A5 Z Z) Z (A2 (A5 Z Z) Z (A2 (A5 Z Z) Z (A6 ?_))))))
   refine k1 (k10 ?_)
   refine B5 (rs:=[E2 (j3 ds:Int),E2 ((i+ds.length:Nat):Int),D3 true]) (B40 Z Z Z Z Z Z Z) ?_
   unfold C71 Q0
   rw [←hds,if_neg]
   rintro (h | ⟨h,h'⟩ | h)
   ·exact hz (by rw [h];rfl)
   ·rw [hd0 (by omega)] at h
    exact h48 h' (Option.some.inj h)
   ·omega
def C72 (s:Str) (i:Nat):List PV:=match P2 (s.drop i) with
 | none=>[E2 0,E2 0,E2 0,D3 false]
 | some (a,n,k)=>[E2 a,E2 n,E2 ((i+k:Nat):Int),D3 true]
theorem A75 {s:Str} {i n k:Nat} (h:Q0 (s.drop i)=some (n,k)):C71 s i=[E2 n,E2 ((i+k:Nat):Int),D3 true]:=by unfold C71;rw [h]
theorem A76 {s:Str} {i:Nat} (h:Q0 (s.drop i)=none):C71 s i=[E2 0,E2 0,D3 false]:=by unfold C71;rw [h]
theorem F46 (s:Str) (i:Nat) (hi:i≤s.length) (hs:s.length≤1073741824):FnOk Tryz.prog 258 [F5 s,E2 i] (fun rs=>rs=C72 s i):=by
 have hc:=B00 s i hi hs
 cases h1:Q0 (s.drop i) with
 | none =>
  rw [A76 h1] at hc
  refine FnOk.intro Tryz.func258 (by decide) Z Z Z Z ?_
  refine k2 ?_
  refine A3 (A2 (A5 Z Z) Z (A2 (A5 Z Z) Z (A2 (A5 Z Z) Z (A2 (A5 Z Z) Z (A6 ?_)))))
  refine k1 (k2 ?_)
  refine A3 (A2 (A4 Z Z) Z (A2 (A4 Z Z) Z (B9 (hc) Z Z Z ?_)));rintro _ rfl;refine A2 (A4 Z Z) Z (A2 (B1 Z Z) Z (A2 (B1 Z Z) Z (A2 (B1 Z Z) Z (A2 (A5 Z Z) Z (A2 (A5 Z Z) Z (A2 (A5 Z Z) Z (A6 ?_)))))))
  refine k1 (k2 (k2 ?_))
  refine A3 (A2 (A4 Z Z) Z (A2 (E4 Z) Z (A6 ?_)))
  refine k1 ?_
  refine B2 rfl (fun ht=>?_) (fun ht=>?_)
  ·refine k2 ?_
   refine A3 (A2 (A5 Z Z) Z (A2 (A5 Z Z) Z (A2 (A5 Z Z) Z (A2 (A5 Z Z) Z (A6 ?_)))))
   refine k1 (k10 (k11 ?_))
   exact B5 (ret4 rfl rfl rfl rfl rfl rfl rfl rfl rfl) (by unfold C72 P2;rw [h1])
  ·cases ht
 | some p =>
  obtain ⟨a,k⟩:=p
  rw [A75 h1] at hc
  obtain ⟨_,_,hk0,hk1,ha⟩:=x2 h1
  rw [J88] at hk1
  have hget:(s.drop i)[k]?=s[i+k]?:=by rw [J99]
  have hdd:(s.drop i).drop (k+1)=s.drop (i+k+1):=by rw [List.drop_drop];rfl
  have hcm2:decide (((i+k:Nat):Int) < (s.length:Int)∧((s.getD (i+k) 0).toNat:Int)=44)=decide (s[i+k]?=some 44):=by
   have:(44:UInt8).toNat=44:=rfl
   congr 1
   by_cases hlt:i+k < s.length
   ·rw [gD hlt,Option.some.injEq,←UInt8.toNat_inj]
    apply propext;constructor<;>intro h<;>omega
   ·rw [K01 (by omega)]
    apply propext;constructor<;>intro h
    ·omega
    ·cases h
  have hcase:(s[i+k]?=some 44∧Q0 (s.drop (i+k+1))=none)∨(∃c e,((∃kb,s[i+k]?=some 44∧Q0 (s.drop (i+k+1))=some (c,kb)∧e=k+1+kb)∨(s[i+k]?≠some 44∧c=1∧e=k))∧i+e≤s.length∧c≤2147483647∧P2 (s.drop i)=A07 (s.drop i) a c e):=by
   by_cases hcm:s[i+k]?=some 44
   ·have hlt:=(List.getElem?_eq_some_iff.1 hcm).1
    cases h2:Q0 (s.drop (i+k+1)) with
    | none=>exact .inl ⟨hcm,rfl⟩
    | some q =>
     obtain ⟨c,kb⟩:=q
     obtain ⟨_,_,hk2,hk3,hc2⟩:=x2 h2
     rw [J88] at hk3
     refine .inr ⟨c,k+1+kb,.inl ⟨kb,hcm,rfl,rfl⟩,by omega,hc2,?_⟩
     unfold P2
     rw [h1];dsimp only
     rw [hget,if_pos hcm,hdd,h2]
   ·refine .inr ⟨1,k,.inr ⟨hcm,rfl,rfl⟩,by omega,by omega,?_⟩
    unfold P2
    rw [h1];dsimp only
    rw [hget,if_neg hcm]
  rcases hcase with ⟨hcm,h2⟩ | ⟨c,e,hce,hel,hcb,hfin⟩
  ·have hlt:=(List.getElem?_eq_some_iff.1 hcm).1
   have hc2:=B00 s (i+k+1) (by omega) hs
   rw [A76 h2,show ((i+k+1:Nat):Int)=((i+k:Nat):Int)+1 by omega] at hc2
   refine FnOk.intro Tryz.func258 (by decide) Z Z Z Z ?_
   refine k2 ?_
   refine A3 (A2 (A5 Z Z) Z (A2 (A5 Z Z) Z (A2 (A5 Z Z) Z (A2 (A5 Z Z) Z (A6 ?_)))))
   refine k1 (k2 ?_)
   refine A3 (A2 (A4 Z Z) Z (A2 (A4 Z Z) Z (B9 (hc) Z Z Z ?_)));rintro _ rfl;refine A2 (A4 Z Z) Z (A2 (B1 Z Z) Z (A2 (B1 Z Z) Z (A2 (B1 Z Z) Z (A2 (A5 Z Z) Z (A2 (A5 Z Z) Z (A2 (A5 Z Z) Z (A6 ?_)))))))
   refine k1 (k2 (k2 ?_))
   refine A3 (A2 (A4 Z Z) Z (A2 (E4 Z) Z (A6 ?_)))
   refine k1 ?_
   refine B2 rfl (fun ht=>?_) (fun ht=>?_)
   ·cases ht
   refine k5 (k1 (k2 ?_))
   refine A3 (A2 (A5 Z Z) Z (A6 ?_))
   refine k1 (k2 (k2 ?_))
   refine A3 (A2 (A4 Z Z) Z (A2 (A4 Z Z) Z (A2 (D5 Z) Z (A2 (D6 Z Z) Z (A2 (A4 Z Z) Z (A9 Z Z Z Z (fun hg=>by rw [hg];exact A4 Z Z) ?_))))));refine A9 Z Z Z Z (fun hg=>by rw [hg];exact A4 Z Z) ?_;refine A9 Z Z Z Z (fun hg=>by have hq:=hg;(try simp at hq);rw [hg];exact E9 Z Z (by omega) (gD (by omega))) ?_;refine A9 Z Z Z Z (fun hg=>by rw [hg];exact F1 Z Z) ?_;refine A2 (B4 Z (fun h=>by first | rfl | (rw [h];rfl)) (fun h=>by first | rfl | (rw [h];rfl))) Z ?_;refine A6 ?_
   simp only [I3,J83]
   rw [hcm2]
   refine k1 ?_
   refine B2 rfl (fun ht=>?_) (fun ht=>?_)
   ·refine k2 ?_
    refine A3 (A2 (A4 Z Z) Z (A2 (A4 Z Z) Z (A2 (C1 Z Z (by omega)) Z (B9 (hc2) Z Z Z ?_))));rintro _ rfl;refine A2 (A4 Z Z) Z (A2 (B1 Z Z) Z (A2 (B1 Z Z) Z (A2 (B1 Z Z) Z (A2 (A5 Z Z) Z (A2 (A5 Z Z) Z (A2 (A5 Z Z) Z (A6 ?_)))))))
    refine k1 (k2 ?_)
    refine A3 (A2 (A4 Z Z) Z (A2 (E4 Z) Z (A6 ?_)))
    refine k1 ?_
    refine B2 rfl (fun ht=>?_) (fun ht=>?_)
    ·refine k2 ?_
     refine A3 (A2 (A5 Z Z) Z (A2 (A5 Z Z) Z (A2 (A5 Z Z) Z (A2 (A5 Z Z) Z (A6 ?_)))))
     refine k1 (k10 (k11 ?_))
     refine B5 (rs:=[E2 0,E2 0,E2 0,D3 false]) (ret4 Z Z Z Z Z Z Z Z Z) ?_
     unfold C72 P2
     rw [h1];dsimp only
     rw [hget,if_pos hcm,hdd,h2]
    ·cases ht
   ·exact absurd hcm (A1 ht)
  ·obtain ⟨st,hst⟩:∃st:Int,st=if 0 < c then (a:Int) - 1 else a:=⟨_,rfl⟩
   have hstb:-1≤st∧st≤2147483647:=by rw [hst];split<;>omega
   have hrc:=D23 st c (by omega) (by omega)
   refine FnOk.intro Tryz.func258 (by decide) Z Z Z Z ?_
   refine k2 ?_
   refine A3 (A2 (A5 Z Z) Z (A2 (A5 Z Z) Z (A2 (A5 Z Z) Z (A2 (A5 Z Z) Z (A6 ?_)))))
   refine k1 (k2 ?_)
   refine A3 (A2 (A4 Z Z) Z (A2 (A4 Z Z) Z (B9 (hc) Z Z Z ?_)));rintro _ rfl;refine A2 (A4 Z Z) Z (A2 (B1 Z Z) Z (A2 (B1 Z Z) Z (A2 (B1 Z Z) Z (A2 (A5 Z Z) Z (A2 (A5 Z Z) Z (A2 (A5 Z Z) Z (A6 ?_)))))))
   refine k1 (k2 (k2 ?_))
   refine A3 (A2 (A4 Z Z) Z (A2 (E4 Z) Z (A6 ?_)))
   refine k1 ?_
   refine B2 rfl (fun ht=>?_) (fun ht=>?_)
   ·cases ht
   refine k5 (k1 (k2 ?_))
   refine A3 (A2 (A5 Z Z) Z (A6 ?_))
   refine H8 ?_
   refine U6 [(0,H4 s),(1,C3 i),(8,C3 a),(9,C3 ((i+e:Nat):Int)),(11,C3 c)] [] ?_ ?_
   ·refine k2 ?_
    refine A3 (A2 (A4 Z Z) Z (A2 (A4 Z Z) Z (A2 (D5 Z) Z (A2 (D6 Z Z) Z (A2 (A4 Z Z) Z (A9 Z Z Z Z (fun hg=>by rw [hg];exact A4 Z Z) ?_))))));refine A9 Z Z Z Z (fun hg=>by rw [hg];exact A4 Z Z) ?_;refine A9 Z Z Z Z (fun hg=>by have hq:=hg;(try simp at hq);rw [hg];exact E9 Z Z (by omega) (gD (by omega))) ?_;refine A9 Z Z Z Z (fun hg=>by rw [hg];exact F1 Z Z) ?_;refine A2 (B4 Z (fun h=>by first | rfl | (rw [h];rfl)) (fun h=>by first | rfl | (rw [h];rfl))) Z ?_;refine A6 ?_
    simp only [I3,J83]
    rw [hcm2]
    refine k1 ?_
    refine B2 rfl (fun ht=>?_) (fun ht=>?_)
    ·have hcm:=A0 ht
     have hlt:=(List.getElem?_eq_some_iff.1 hcm).1
     rcases hce with ⟨kb,_,h2,he⟩ | ⟨hn,_⟩
     ·have hc2:=B00 s (i+k+1) (by omega) hs
      rw [A75 h2,show ((i+k+1:Nat):Int)=((i+k:Nat):Int)+1 by omega,show i+k+1+kb=i+e by omega] at hc2
      refine k2 ?_
      refine A3 (A2 (A4 Z Z) Z (A2 (A4 Z Z) Z (A2 (C1 Z Z (by omega)) Z (B9 (hc2) Z Z Z ?_))));rintro _ rfl;refine A2 (A4 Z Z) Z (A2 (B1 Z Z) Z (A2 (B1 Z Z) Z (A2 (B1 Z Z) Z (A2 (A5 Z Z) Z (A2 (A5 Z Z) Z (A2 (A5 Z Z) Z (A6 ?_)))))))
      refine k1 (k2 ?_)
      refine A3 (A2 (A4 Z Z) Z (A2 (E4 Z) Z (A6 ?_)))
      refine k1 ?_
      refine B2 rfl (fun ht=>?_) (fun ht=>?_)
      ·cases ht
      refine k5 (k1 ?_)
      exact J48 ⟨le1 rfl,le1 rfl,le1 rfl,le1 rfl,le1 rfl,trivial⟩ trivial
     ·exact absurd hcm hn
    ·have hcm:=A1 ht
     rcases hce with ⟨kb,h3,_⟩ | ⟨_,h2,h3⟩
     ·exact absurd h3 hcm
     ·subst h2;subst h3
      refine k5 (k1 ?_)
      exact J48 ⟨le1 rfl,le1 rfl,le1 rfl,le1 rfl,le1 rfl,trivial⟩ trivial
   refine U6 [(0,H4 s),(1,C3 i),(8,C3 st),(9,C3 ((i+e:Nat):Int)),(11,C3 c)] [] ?_ ?_
   ·refine k2 ?_
    refine A3 (A2 (A4 Z Z) Z (A2 (L9 Z Z) Z (A6 ?_)))
    refine k1 ?_
    refine B2 rfl (fun ht=>?_) (fun ht=>?_)
    ·have h3:(0:Int) < (c:Int):=A0 ht
     rw [if_pos (by omega)] at hst
     skip
     refine A3 (A2 (A4 Z Z) Z (A2 (P5 Z Z (by omega)) Z (A2 (A5 Z Z) Z (A6 ?_))))
     rw [←hst]
     refine k1 ?_
     exact J48 ⟨le1 rfl,le1 rfl,le1 rfl,le1 rfl,le1 rfl,trivial⟩ trivial
    ·have h3:¬(0:Int) < (c:Int):=A1 ht
     rw [if_neg (by omega)] at hst
     rw [hst]
     refine k5 (k1 ?_)
     exact J48 ⟨le1 rfl,le1 rfl,le1 rfl,le1 rfl,le1 rfl,trivial⟩ trivial
   unfold A07 at hfin
   rw [←hst] at hfin
   refine k2 (k2 ?_)
   refine C4 (by kernel_rfl) (by kernel_rfl) (A8 (A4 Z Z) Z Z (A8 (A4 Z Z) Z Z (A8 (G7 (hrc) Z Z) Z Z (A8 (A4 Z Z) Z Z (A8 (A4 Z Z) Z Z (A8 (A4 Z Z) Z Z (A8 (S5 Z Z Z (by omega) (by omega) (by omega)) Z Z (A8 (j4 Z Z) Z Z (H9 ?_)))))))))
   rw [show ((i:Int)).toNat=i by omega,show (((i+e:Nat):Int)).toNat - i=e by omega]
   refine k1 ?_
   refine B2 rfl (fun ht=>?_) (fun ht=>?_)
   ·have h3:¬G4 st c=(s.drop i).take e:=A0 ht
    refine k2 ?_
    refine A3 (A2 (A5 Z Z) Z (A2 (A5 Z Z) Z (A2 (A5 Z Z) Z (A2 (A5 Z Z) Z (A6 ?_)))))
    refine k1 (k10 (k11 ?_))
    refine B5 (rs:=[E2 0,E2 0,E2 0,D3 false]) (ret4 Z Z Z Z Z Z Z Z Z) ?_
    rw [if_neg h3] at hfin
    unfold C72;rw [hfin]
   ·have h3:G4 st c=(s.drop i).take e:=Decidable.not_not.1 (A1 ht)
    refine k5 (k1 (k2 ?_))
    refine A3 (A2 (A4 Z Z) Z (A2 (A4 Z Z) Z (A2 (A4 Z Z) Z (A2 (A5 Z Z) Z (A2 (A5 Z Z) Z (A2 (A5 Z Z) Z (A2 (A5 Z Z) Z (A6 ?_))))))))
    refine k1 (k10 ?_)
    refine B5 (rs:=[E2 st,E2 c,E2 ((i+e:Nat):Int),D3 true]) (ret4 Z Z Z Z Z Z Z Z Z) ?_
    rw [if_pos h3] at hfin
    unfold C72;rw [hfin]
theorem F47 (s:Str) (i:Nat) (hi:i≤s.length) (hs:s.length≤1073741824):FnOk Tryz.prog 226 [F5 s,E2 i] (fun rs=>rs=C72 s i):=by
 have hc:=B01 s i hi hs
 cases h1:Q0 (s.drop i) with
 | none =>
  rw [A76 h1] at hc
  refine FnOk.intro Tryz.func226 (by decide) Z Z Z Z ?_
  refine k2 ?_
  refine A3 (A2 (A5 Z Z) Z (A2 (A5 Z Z) Z (A2 (A5 Z Z) Z (A2 (A5 Z Z) Z (A6 ?_)))))
  refine k1 (k2 ?_)
  refine A3 (A2 (A4 Z Z) Z (A2 (A4 Z Z) Z (B9 (hc) Z Z Z ?_)));rintro _ rfl;refine A2 (A4 Z Z) Z (A2 (B1 Z Z) Z (A2 (B1 Z Z) Z (A2 (B1 Z Z) Z (A2 (A5 Z Z) Z (A2 (A5 Z Z) Z (A2 (A5 Z Z) Z (A6 ?_)))))))
  refine k1 (k2 (k2 ?_))
  refine A3 (A2 (A4 Z Z) Z (A2 (E4 Z) Z (A6 ?_)))
  refine k1 ?_
  refine B2 rfl (fun ht=>?_) (fun ht=>?_)
  ·refine k2 ?_
   refine A3 (A2 (A5 Z Z) Z (A2 (A5 Z Z) Z (A2 (A5 Z Z) Z (A2 (A5 Z Z) Z (A6 ?_)))))
   refine k1 (k10 (k11 ?_))
   exact B5 (ret4 rfl rfl rfl rfl rfl rfl rfl rfl rfl) (by unfold C72 P2;rw [h1])
  ·cases ht
 | some p =>
  obtain ⟨a,k⟩:=p
  rw [A75 h1] at hc
  obtain ⟨_,_,hk0,hk1,ha⟩:=x2 h1
  rw [J88] at hk1
  have hget:(s.drop i)[k]?=s[i+k]?:=by rw [J99]
  have hdd:(s.drop i).drop (k+1)=s.drop (i+k+1):=by rw [List.drop_drop];rfl
  have hcm2:decide (((i+k:Nat):Int) < (s.length:Int)∧((s.getD (i+k) 0).toNat:Int)=44)=decide (s[i+k]?=some 44):=by
   have:(44:UInt8).toNat=44:=rfl
   congr 1
   by_cases hlt:i+k < s.length
   ·rw [gD hlt,Option.some.injEq,←UInt8.toNat_inj]
    apply propext;constructor<;>intro h<;>omega
   ·rw [K01 (by omega)]
    apply propext;constructor<;>intro h
    ·omega
    ·cases h
  have hcase:(s[i+k]?=some 44∧Q0 (s.drop (i+k+1))=none)∨(∃c e,((∃kb,s[i+k]?=some 44∧Q0 (s.drop (i+k+1))=some (c,kb)∧e=k+1+kb)∨(s[i+k]?≠some 44∧c=1∧e=k))∧i+e≤s.length∧c≤2147483647∧P2 (s.drop i)=A07 (s.drop i) a c e):=by
   by_cases hcm:s[i+k]?=some 44
   ·have hlt:=(List.getElem?_eq_some_iff.1 hcm).1
    cases h2:Q0 (s.drop (i+k+1)) with
    | none=>exact .inl ⟨hcm,rfl⟩
    | some q =>
     obtain ⟨c,kb⟩:=q
     obtain ⟨_,_,hk2,hk3,hc2⟩:=x2 h2
     rw [J88] at hk3
     refine .inr ⟨c,k+1+kb,.inl ⟨kb,hcm,rfl,rfl⟩,by omega,hc2,?_⟩
     unfold P2
     rw [h1];dsimp only
     rw [hget,if_pos hcm,hdd,h2]
   ·refine .inr ⟨1,k,.inr ⟨hcm,rfl,rfl⟩,by omega,by omega,?_⟩
    unfold P2
    rw [h1];dsimp only
    rw [hget,if_neg hcm]
  rcases hcase with ⟨hcm,h2⟩ | ⟨c,e,hce,hel,hcb,hfin⟩
  ·have hlt:=(List.getElem?_eq_some_iff.1 hcm).1
   have hc2:=B01 s (i+k+1) (by omega) hs
   rw [A76 h2,show ((i+k+1:Nat):Int)=((i+k:Nat):Int)+1 by omega] at hc2
   refine FnOk.intro Tryz.func226 (by decide) Z Z Z Z ?_
   refine k2 ?_
   refine A3 (A2 (A5 Z Z) Z (A2 (A5 Z Z) Z (A2 (A5 Z Z) Z (A2 (A5 Z Z) Z (A6 ?_)))))
   refine k1 (k2 ?_)
   refine A3 (A2 (A4 Z Z) Z (A2 (A4 Z Z) Z (B9 (hc) Z Z Z ?_)));rintro _ rfl;refine A2 (A4 Z Z) Z (A2 (B1 Z Z) Z (A2 (B1 Z Z) Z (A2 (B1 Z Z) Z (A2 (A5 Z Z) Z (A2 (A5 Z Z) Z (A2 (A5 Z Z) Z (A6 ?_)))))))
   refine k1 (k2 (k2 ?_))
   refine A3 (A2 (A4 Z Z) Z (A2 (E4 Z) Z (A6 ?_)))
   refine k1 ?_
   refine B2 rfl (fun ht=>?_) (fun ht=>?_)
   ·cases ht
   refine k5 (k1 (k2 ?_))
   refine A3 (A2 (A5 Z Z) Z (A6 ?_))
   refine k1 (k2 (k2 ?_))
   refine A3 (A2 (A4 Z Z) Z (A2 (A4 Z Z) Z (A2 (D5 Z) Z (A2 (D6 Z Z) Z (A2 (A4 Z Z) Z (A9 Z Z Z Z (fun hg=>by rw [hg];exact A4 Z Z) ?_))))));refine A9 Z Z Z Z (fun hg=>by rw [hg];exact A4 Z Z) ?_;refine A9 Z Z Z Z (fun hg=>by have hq:=hg;(try simp at hq);rw [hg];exact E9 Z Z (by omega) (gD (by omega))) ?_;refine A9 Z Z Z Z (fun hg=>by rw [hg];exact F1 Z Z) ?_;refine A2 (B4 Z (fun h=>by first | rfl | (rw [h];rfl)) (fun h=>by first | rfl | (rw [h];rfl))) Z ?_;refine A6 ?_
   simp only [I3,J83]
   rw [hcm2]
   refine k1 ?_
   refine B2 rfl (fun ht=>?_) (fun ht=>?_)
   ·refine k2 ?_
    refine A3 (A2 (A4 Z Z) Z (A2 (A4 Z Z) Z (A2 (C1 Z Z (by omega)) Z (B9 (hc2) Z Z Z ?_))));rintro _ rfl;refine A2 (A4 Z Z) Z (A2 (B1 Z Z) Z (A2 (B1 Z Z) Z (A2 (B1 Z Z) Z (A2 (A5 Z Z) Z (A2 (A5 Z Z) Z (A2 (A5 Z Z) Z (A6 ?_)))))))
    refine k1 (k2 ?_)
    refine A3 (A2 (A4 Z Z) Z (A2 (E4 Z) Z (A6 ?_)))
    refine k1 ?_
    refine B2 rfl (fun ht=>?_) (fun ht=>?_)
    ·refine k2 ?_
     refine A3 (A2 (A5 Z Z) Z (A2 (A5 Z Z) Z (A2 (A5 Z Z) Z (A2 (A5 Z Z) Z (A6 ?_)))))
     refine k1 (k10 (k11 ?_))
     refine B5 (rs:=[E2 0,E2 0,E2 0,D3 false]) (ret4 Z Z Z Z Z Z Z Z Z) ?_
     unfold C72 P2
     rw [h1];dsimp only
     rw [hget,if_pos hcm,hdd,h2]
    ·cases ht
   ·exact absurd hcm (A1 ht)
  ·obtain ⟨st,hst⟩:∃st:Int,st=if 0 < c then (a:Int) - 1 else a:=⟨_,rfl⟩
   have hstb:-1≤st∧st≤2147483647:=by rw [hst];split<;>omega
   have hrc:=F43 st c (by omega) (by omega)
   refine FnOk.intro Tryz.func226 (by decide) Z Z Z Z ?_
   refine k2 ?_
   refine A3 (A2 (A5 Z Z) Z (A2 (A5 Z Z) Z (A2 (A5 Z Z) Z (A2 (A5 Z Z) Z (A6 ?_)))))
   refine k1 (k2 ?_)
   refine A3 (A2 (A4 Z Z) Z (A2 (A4 Z Z) Z (B9 (hc) Z Z Z ?_)));rintro _ rfl;refine A2 (A4 Z Z) Z (A2 (B1 Z Z) Z (A2 (B1 Z Z) Z (A2 (B1 Z Z) Z (A2 (A5 Z Z) Z (A2 (A5 Z Z) Z (A2 (A5 Z Z) Z (A6 ?_)))))))
   refine k1 (k2 (k2 ?_))
   refine A3 (A2 (A4 Z Z) Z (A2 (E4 Z) Z (A6 ?_)))
   refine k1 ?_
   refine B2 rfl (fun ht=>?_) (fun ht=>?_)
   ·cases ht
   refine k5 (k1 (k2 ?_))
   refine A3 (A2 (A5 Z Z) Z (A6 ?_))
   refine H8 ?_
   refine U6 [(0,H4 s),(1,C3 i),(8,C3 a),(9,C3 ((i+e:Nat):Int)),(11,C3 c)] [] ?_ ?_
   ·refine k2 ?_
    refine A3 (A2 (A4 Z Z) Z (A2 (A4 Z Z) Z (A2 (D5 Z) Z (A2 (D6 Z Z) Z (A2 (A4 Z Z) Z (A9 Z Z Z Z (fun hg=>by rw [hg];exact A4 Z Z) ?_))))));refine A9 Z Z Z Z (fun hg=>by rw [hg];exact A4 Z Z) ?_;refine A9 Z Z Z Z (fun hg=>by have hq:=hg;(try simp at hq);rw [hg];exact E9 Z Z (by omega) (gD (by omega))) ?_;refine A9 Z Z Z Z (fun hg=>by rw [hg];exact F1 Z Z) ?_;refine A2 (B4 Z (fun h=>by first | rfl | (rw [h];rfl)) (fun h=>by first | rfl | (rw [h];rfl))) Z ?_;refine A6 ?_
    simp only [I3,J83]
    rw [hcm2]
    refine k1 ?_
    refine B2 rfl (fun ht=>?_) (fun ht=>?_)
    ·have hcm:=A0 ht
     have hlt:=(List.getElem?_eq_some_iff.1 hcm).1
     rcases hce with ⟨kb,_,h2,he⟩ | ⟨hn,_⟩
     ·have hc2:=B01 s (i+k+1) (by omega) hs
      rw [A75 h2,show ((i+k+1:Nat):Int)=((i+k:Nat):Int)+1 by omega,show i+k+1+kb=i+e by omega] at hc2
      refine k2 ?_
      refine A3 (A2 (A4 Z Z) Z (A2 (A4 Z Z) Z (A2 (C1 Z Z (by omega)) Z (B9 (hc2) Z Z Z ?_))));rintro _ rfl;refine A2 (A4 Z Z) Z (A2 (B1 Z Z) Z (A2 (B1 Z Z) Z (A2 (B1 Z Z) Z (A2 (A5 Z Z) Z (A2 (A5 Z Z) Z (A2 (A5 Z Z) Z (A6 ?_)))))))
      refine k1 (k2 ?_)
      refine A3 (A2 (A4 Z Z) Z (A2 (E4 Z) Z (A6 ?_)))
      refine k1 ?_
      refine B2 rfl (fun ht=>?_) (fun ht=>?_)
      ·cases ht
      refine k5 (k1 ?_)
      exact J48 ⟨le1 rfl,le1 rfl,le1 rfl,le1 rfl,le1 rfl,trivial⟩ trivial
     ·exact absurd hcm hn
    ·have hcm:=A1 ht
     rcases hce with ⟨kb,h3,_⟩ | ⟨_,h2,h3⟩
     ·exact absurd h3 hcm
     ·subst h2;subst h3
      refine k5 (k1 ?_)
      exact J48 ⟨le1 rfl,le1 rfl,le1 rfl,le1 rfl,le1 rfl,trivial⟩ trivial
   refine U6 [(0,H4 s),(1,C3 i),(8,C3 st),(9,C3 ((i+e:Nat):Int)),(11,C3 c)] [] ?_ ?_
   ·refine k2 ?_
    refine A3 (A2 (A4 Z Z) Z (A2 (L9 Z Z) Z (A6 ?_)))
    refine k1 ?_
    refine B2 rfl (fun ht=>?_) (fun ht=>?_)
    ·have h3:(0:Int) < (c:Int):=A0 ht
     rw [if_pos (by omega)] at hst
     skip
     refine A3 (A2 (A4 Z Z) Z (A2 (P5 Z Z (by omega)) Z (A2 (A5 Z Z) Z (A6 ?_))))
     rw [←hst]
     refine k1 ?_
     exact J48 ⟨le1 rfl,le1 rfl,le1 rfl,le1 rfl,le1 rfl,trivial⟩ trivial
    ·have h3:¬(0:Int) < (c:Int):=A1 ht
     rw [if_neg (by omega)] at hst
     rw [hst]
     refine k5 (k1 ?_)
     exact J48 ⟨le1 rfl,le1 rfl,le1 rfl,le1 rfl,le1 rfl,trivial⟩ trivial
   unfold A07 at hfin
   rw [←hst] at hfin
   refine k2 (k2 ?_)
   refine C4 (by kernel_rfl) (by kernel_rfl) (A8 (A4 Z Z) Z Z (A8 (A4 Z Z) Z Z (A8 (G7 (hrc) Z Z) Z Z (A8 (A4 Z Z) Z Z (A8 (A4 Z Z) Z Z (A8 (A4 Z Z) Z Z (A8 (S5 Z Z Z (by omega) (by omega) (by omega)) Z Z (A8 (j4 Z Z) Z Z (H9 ?_)))))))))
   rw [show ((i:Int)).toNat=i by omega,show (((i+e:Nat):Int)).toNat - i=e by omega]
   refine k1 ?_
   refine B2 rfl (fun ht=>?_) (fun ht=>?_)
   ·have h3:¬G4 st c=(s.drop i).take e:=A0 ht
    refine k2 ?_
    refine A3 (A2 (A5 Z Z) Z (A2 (A5 Z Z) Z (A2 (A5 Z Z) Z (A2 (A5 Z Z) Z (A6 ?_)))))
    refine k1 (k10 (k11 ?_))
    refine B5 (rs:=[E2 0,E2 0,E2 0,D3 false]) (ret4 Z Z Z Z Z Z Z Z Z) ?_
    rw [if_neg h3] at hfin
    unfold C72;rw [hfin]
   ·have h3:G4 st c=(s.drop i).take e:=Decidable.not_not.1 (A1 ht)
    refine k5 (k1 (k2 ?_))
    refine A3 (A2 (A4 Z Z) Z (A2 (A4 Z Z) Z (A2 (A4 Z Z) Z (A2 (A5 Z Z) Z (A2 (A5 Z Z) Z (A2 (A5 Z Z) Z (A2 (A5 Z Z) Z (A6 ?_))))))))
    refine k1 (k10 ?_)
    refine B5 (rs:=[E2 st,E2 c,E2 ((i+e:Nat):Int),D3 true]) (ret4 Z Z Z Z Z Z Z Z Z) ?_
    rw [if_pos h3] at hfin
    unfold C72;rw [hfin]
abbrev c6 (s:Str) (i:Nat):Ob:=.box [.p (.v (.string ⟨s.toArray⟩)),.p (.v (.int .i64 (i:Int)))]
abbrev t8 (x:Int):S1:=.one (.p (.v (.int .u8 x)))
abbrev tBo (b:Bool):S1:=.one (.p (.v (.bool b)))
def F48 (c:UInt8):Prop:=48≤c.toNat∧c.toNat≤55
def A37 (s:Str) (i:Nat):Nat→Nat
 | 0=>0
 | q+1=>8*A37 s i q+((s.getD (i+q) 0).toNat - 48)
def K7 (s:Str) (i q:Nat):Prop:=i+q < s.length∧F48 (s.getD (i+q) 0)
instance (s:Str) (i q:Nat):Decidable (K7 s i q):=by unfold K7 F48;exact inferInstance
def D27 (s:Str) (i:Nat):Option UInt8:=if (K7 s i 0∧K7 s i 1∧K7 s i 2)∧A37 s i 3 < 256 then some (UInt8.ofNat (A37 s i 3)) else none
theorem B82 {s:Str} {i q:Nat} (hq:q < 3) (h:¬K7 s i q):D27 s i=none:=by
 unfold D27
 rw [if_neg]
 rintro ⟨⟨h0,h1,h2⟩,_⟩
 rcases (show q=0∨q=1∨q=2 by omega) with rfl | rfl | rfl<;>exact h ‹_›
theorem G01 {s:Str} {i:Nat}:∀q,q≤3→(∀p,p < q→K7 s i p)→A37 s i q≤8 ^ q - 1
 | 0,_,_=>by simp [A37]
 | q+1,hq,h=>by
  have ih:=G01 q (by omega) (fun p hp=>h p (by omega))
  have h1:=(h q (by omega)).2
  unfold F48 at h1
  simp only [A37]
  rcases (show q=0∨q=1∨q=2 by omega) with rfl | rfl | rfl<;>omega
theorem G63 {s:Str} {i:Nat} (h:∀p,p < 3→K7 s i p):D27 s i=if A37 s i 3 < 256 then some (UInt8.ofNat (A37 s i 3)) else none:=by
 unfold D27
 by_cases hv:A37 s i 3 < 256
 ·rw [if_pos ⟨⟨h 0 (by omega),h 1 (by omega),h 2 (by omega)⟩,hv⟩,if_pos hv]
 ·rw [if_neg (fun hh=>hv hh.2),if_neg hv]
theorem G64 {k0:Nat} {x:Ob} {ob:Obs} (h:D4 ob k0=some x):∀k o,D4 ((k0,x)::ob) k=some o→D4 ob k=some o:=by
 intro k o hk
 by_cases he:k0=k
 ·subst he;rw [D7] at hk;cases hk;exact h
 ·rw [C0 he] at hk;exact hk
theorem E37 {k0:Nat} {x y:Ob} {ob:Obs}:∀k o,D4 ((k0,x)::ob) k=some o→D4 ((k0,x)::(k0,y)::ob) k=some o:=by
 intro k o hk
 by_cases he:k0=k
 ·subst he;rw [D7] at hk ⊢;exact hk
 ·rw [C0 he] at hk ⊢;rw [C0 he];exact hk
theorem I39 {gf:Fr} {ob:Obs} (s:Str) (i:Nat) (hi:i≤s.length) (hs:s.length≤1073741824) (h5:D4 ob 705=some (c6 s i)) :
  AL.Met Tryz.prog 286 [.one (.ref 705 0)] gf ob []
   (fun rs ob'=>∃(x:Int) (b:Bool) (j:Nat),rs=[t8 x,tBo b]∧ob'=(705,c6 s j)::ob∧j≤s.length∧match D27 s i with
    | some c=>b=true∧x=c.toNat∧j=i+3
    | none=>b=false):=by
 refine AL.Met.introH Tryz.func286 (by decide) rfl rfl rfl (fun hH=>?_)
 refine k2 ?_
 refine A3 (A2 (A5 Z Z) Z (A2 (A5 Z Z) Z (A6 ?_)))
 refine k1 (k2 ?_)
 refine A3 (A2 (A5 Z Z) Z (A6 ?_))
 refine k1 (k2 (k2 ?_))
 refine A3 (A2 (A4 Z Z) Z (A6 ?_))
 refine k1 (k3 ?_)
 refine D1 (X:=Nat) (fun q=>([(0,.s (.one (.ref 705 0))),(4,C3 (A37 s i q:Int)),(5,C3 q)]++gf,(705,c6 s (i+q))::ob)) (fun q=>q≤3∧∀p,p < q→K7 s i p) (fun q=>3 - q) 0 ⟨by omega,by omega⟩ ?_ ?_
 ·exact J50 ⟨le1 rfl,le1 rfl,le1 rfl,trivial⟩ hH (by repeat (first | exact D9 | refine tail_cons rfl ?_)) (G64 h5)
 rintro q ⟨hq,hok⟩
 dsimp only at hq hok ⊢
 have hle:=G01 q hq hok
 have hlen:q=0∨i+q≤s.length:=by
  rcases Nat.eq_zero_or_pos q with h | h
  ·exact .inl h
  ·have:=(hok (q - 1) (by omega)).1;exact .inr (by omega)
 have hiq:i+q≤s.length:=by rcases hlen with rfl | h<;>omega
 have h8:A37 s i q≤512:=by rcases (show q=0∨q=1∨q=2∨q=3 by omega) with rfl | rfl | rfl | rfl<;>omega
 refine k2 ?_
 refine A3 (A2 (D6 Z Z) Z (A6 ?_))
 refine k1 (k2 ?_)
 refine B2 rfl (fun ht=>?_) (fun ht=>?_)
 ·have hlt:q < 3:=by have:=A0 ht;omega
  refine k5 (k1 (k2 (k3 (k2 (k2 ?_)))))
  refine C4 (by kernel_rfl) (by kernel_rfl) (A8 (A4 Z Z) Z Z (A8 (B8 Z) Z Z (A8 (A7 Z) Z Z (A8 (B0 Z Z Z) Z Z (A8 (A4 Z Z) Z Z (A8 (B8 Z) Z Z (A8 (A7 Z) Z Z (A8 (B0 Z Z Z) Z Z (A8 (D5 Z) Z Z (A8 (Z1 Z Z) Z Z (A8 (A4 Z Z) Z Z (C5 Z Z (fun hg=>by rw [hg];exact A4 Z Z) Z Z ?_))))))))))));refine C5 Z Z (fun hg=>by rw [hg];exact B8 Z) Z Z ?_;refine C5 Z Z (fun hg=>by rw [hg];exact A7 Z) Z Z ?_;refine C5 Z Z (fun hg=>by rw [hg];exact B0 Z Z Z) Z Z ?_;refine C5 Z Z (fun hg=>by rw [hg];exact A4 Z Z) Z Z ?_;refine C5 Z Z (fun hg=>by rw [hg];exact B8 Z) Z Z ?_;refine C5 Z Z (fun hg=>by rw [hg];exact A7 Z) Z Z ?_;refine C5 Z Z (fun hg=>by rw [hg];exact B0 Z Z Z) Z Z ?_;refine C5 Z Z (fun hg=>by have hq:=hg;(try simp at hq);rw [hg];exact E9 Z Z (by omega) (gD (by omega))) Z Z ?_;refine C5 Z Z (fun hg=>by rw [hg];exact D6 Z Z) Z Z ?_;refine A8 (B4 Z (fun h=>by first | rfl | (rw [h];rfl)) (fun h=>by first | rfl | (rw [h];rfl))) Z Z ?_;refine A8 (A4 Z Z) Z Z (C5 Z Z (fun hg=>by rw [hg];exact A4 Z Z) Z Z ?_);refine C5 Z Z (fun hg=>by rw [hg];exact B8 Z) Z Z ?_;refine C5 Z Z (fun hg=>by rw [hg];exact A7 Z) Z Z ?_;refine C5 Z Z (fun hg=>by rw [hg];exact B0 Z Z Z) Z Z ?_;refine C5 Z Z (fun hg=>by rw [hg];exact A4 Z Z) Z Z ?_;refine C5 Z Z (fun hg=>by rw [hg];exact B8 Z) Z Z ?_;refine C5 Z Z (fun hg=>by rw [hg];exact A7 Z) Z Z ?_;refine C5 Z Z (fun hg=>by rw [hg];exact B0 Z Z Z) Z Z ?_;refine C5 Z Z (fun hg=>by have hq:=hg;(try simp at hq);rw [hg];exact E9 Z Z (by omega) (gD (by omega))) Z Z ?_;refine C5 Z Z (fun hg=>by rw [hg];exact L9 Z Z) Z Z ?_;refine A8 (B4 Z (fun h=>by first | rfl | (rw [h];rfl)) (fun h=>by first | rfl | (rw [h];rfl))) Z Z ?_;refine H9 ?_
  refine k1 ?_
  simp only [or_pick,J83]
  have hsnd:decide ((((s.length:Int)≤((i+q:Nat):Int))∨((s.getD (i+q) 0).toNat:Int) < 48)∨(55:Int) < ((s.getD (i+q) 0).toNat:Int))=decide (¬K7 s i q):=by
   congr 1
   unfold K7 F48
   apply propext;constructor
   ·intro h1 h2;omega
   ·intro h1
    by_cases h3:i+q < s.length
    ·by_cases h4:48≤(s.getD (i+q) 0).toNat
     ·by_cases h5:(s.getD (i+q) 0).toNat≤55
      ·exact absurd ⟨h3,h4,h5⟩ h1
      ·exact .inr (by omega)
     ·exact .inl (.inr (by omega))
    ·exact .inl (.inl (by omega))
  rw [hsnd]
  refine B2 rfl (fun ht=>?_) (fun ht=>?_)
  ·have hbad:¬K7 s i q:=A0 ht
   refine k2 ?_
   refine A3 (A2 (A5 Z Z) Z (A2 (A5 Z Z) Z (A6 ?_)))
   refine k1 (k10 (k11 (k12 (k11 (k11 (k12 (k11 ?_)))))))
   refine H7 (A71 rfl rfl rfl) (by repeat (first | exact D9 | refine tail_cons rfl ?_ | refine E0 _ ?_)) (fun _ _ h=>h) ⟨0,false,i+q,rfl,rfl,hiq,?_⟩
   rw [B82 hlt hbad]
  ·have hgood:K7 s i q:=Decidable.not_not.1 (A1 ht)
   obtain ⟨g1,g2,g3⟩:=hgood
   have hgood:K7 s i q:=⟨g1,g2,g3⟩
   have hsub:=C70 (s.getD (i+q) 0).toNat g2 (by omega)
   refine k5 (k1 (k2 ?_))
   have hv:s[i+q]?=some (s.getD (i+q) 0):=gD g1
   refine C4 (by kernel_rfl) (by kernel_rfl) (A8 (A4 Z Z) Z Z (A8 (F18 Z Z (by omega)) Z Z (A8 (A4 Z Z) Z Z (A8 (B8 Z) Z Z (A8 (A7 Z) Z Z (A8 (B0 Z Z Z) Z Z (A8 (A4 Z Z) Z Z (A8 (B8 Z) Z Z (A8 (A7 Z) Z Z (A8 (B0 Z Z Z) Z Z (A8 (E9 Z Z (by omega) hv) Z Z (A8 (C47 Z Z) Z Z (A8 (I1 Z) Z Z (A8 (C1 Z Z (by (rw [hsub];omega))) Z Z ?_))))))))))))));refine A8 (A5 Z Z) Z Z (H9 ?_)
   rw [hsub]
   refine k1 ?_
   refine A3 (A2 (A4 Z Z) Z (A2 (B8 Z) Z (A2 (A7 Z) Z (A2 (B0 Z Z Z) Z (A2 (C1 Z Z (by omega)) Z (A2 (B8 Z) Z (A2 (A7 Z) Z (E3 (B7 TySz.out Z Z Z Z Z Z) (A6 ?_)))))))))
   refine k4 (k1 ?_)
   refine A3 (A2 (C1 Z Z (by omega)) Z (A2 (A4 Z Z) Z (A6 ?_)))
   refine k1 ?_
   refine ⟨q+1,⟨by omega,fun p hp=>?_⟩,by omega,?_⟩
   ·by_cases hpq:p=q
    ·rw [hpq];exact hgood
    ·exact hok p (by omega)
   rw [show ((A37 s i (q+1):Nat):Int)=8*((A37 s i q:Nat):Int)+(((s.getD (i+q) 0).toNat - 48:Nat):Int) by simp only [A37];omega,show c6 s (i+(q+1))=.box [.p (.v (.string ⟨s.toArray⟩)),.p (.v (.int .i64 (((i+q:Nat):Int)+1)))] by unfold c6;congr 6]
   exact J50 ⟨le1 rfl,le1 rfl,le1 rfl,trivial⟩ hH (by repeat (first | exact D9 | refine tail_cons rfl ?_)) E37
 ·have hq3:q=3:=by have:=A1 ht;omega
  subst hq3
  refine k6 (k2 ?_)
  refine A3 (A2 (A4 Z Z) Z (A2 (I1 Z) Z (A2 (A4 Z Z) Z (A2 (D6 Z Z) Z (A2 (A5 Z Z) Z (A2 (A5 Z Z) Z (A6 ?_)))))))
  refine k1 (k10 ?_)
  refine H7 (A71 rfl rfl rfl) (by repeat (first | exact D9 | refine tail_cons rfl ?_ | refine E0 _ ?_)) (fun _ _ h=>h) ⟨_,_,i+3,rfl,rfl,hiq,?_⟩
  rw [G63 hok]
  by_cases hv:A37 s i 3 < 256
  ·rw [if_pos hv]
   refine ⟨decide_eq_true (by omega),?_,rfl⟩
   rw [UInt8.toNat_ofNat']
   have:∀n:Fin 256,IntKind.u8.wrap ((n.1:Nat):Int)=((n.1 % 2 ^ 8:Nat):Int):=by decide
   exact this ⟨_,hv⟩
  ·rw [if_neg hv]
   exact decide_eq_false (by omega)
def D28 (s:Str) (i:Nat):Option (UInt8 × Nat):=if i < s.length then
  (if (s.getD i 0).toNat=34∨(s.getD i 0).toNat=92 then some (s.getD i 0,i+1) else if (s.getD i 0).toNat=110 then some (10,i+1) else if (s.getD i 0).toNat=116 then some (9,i+1) else (D27 s i).map fun x=>(x,i+3))
 else none
theorem D97 (s:Str) (i:Nat):D28 s i=(B32 (s.drop i)).map fun p=>(p.1,i+p.2):=by
 unfold D28
 by_cases hi:i < s.length
 ·rw [if_pos hi]
  have h0:(s.drop i)[0]?=some (s.getD i 0):=by rw [J99];exact gD hi
  have hg:∀q,(s.drop i)[q]?=s[i+q]?:=fun q=>J99
  obtain ⟨d,r,hdr⟩:∃d r,s.drop i=d::r:=by
   cases h:s.drop i with
   | nil=>rw [h] at h0;cases h0
   | cons d r=>exact ⟨d,r,rfl⟩
  rw [hdr] at h0 hg ⊢
  have hd:s.getD i 0=d:=by simpa using h0.symm
  rw [hd]
  simp only [B32]
  by_cases c1:d.toNat=34∨d.toNat=92
  ·rw [if_pos c1,if_pos c1];rfl
  ·rw [if_neg c1,if_neg c1]
   by_cases c2:d.toNat=110
   ·rw [if_pos c2,if_pos c2];rfl
   ·rw [if_neg c2,if_neg c2]
    by_cases c3:d.toNat=116
    ·rw [if_pos c3,if_pos c3];rfl
    ·rw [if_neg c3,if_neg c3]
     cases r with
     | nil =>
      have:¬K7 s i 1:=fun h=>by have:=h.1;have h2:=hg 1;rw [J79 this] at h2;simp at h2
      rw [B82 (q:=1) (by omega) this];rfl
     | cons e r2 =>
      cases r2 with
      | nil =>
       have:¬K7 s i 2:=fun h=>by have:=h.1;have h2:=hg 2;rw [J79 this] at h2;simp at h2
       rw [B82 (q:=2) (by omega) this];rfl
      | cons f r3 =>
       have h1:=hg 1
       have h2:=hg 2
       simp only [List.getElem?_cons_succ,List.getElem?_cons_zero] at h1 h2
       have l1:=(List.getElem?_eq_some_iff.1 h1.symm).1
       have l2:=(List.getElem?_eq_some_iff.1 h2.symm).1
       have e1:s.getD (i+1) 0=e:=by have:=gD l1;rw [←h1] at this;exact (Option.some.inj this).symm
       have e2:s.getD (i+2) 0=f:=by have:=gD l2;rw [←h2] at this;exact (Option.some.inj this).symm
       have hV:D27 s i=octV d e f:=by
        unfold D27 octV K7 F48
        simp only [A37,Nat.add_zero,hd,e1,e2]
        by_cases hc:(((((d.toNat < 48∨55 < d.toNat)∨e.toNat < 48)∨55 < e.toNat)∨f.toNat < 48)∨55 < f.toNat)∨256≤64*(d.toNat - 48)+8*(e.toNat - 48)+(f.toNat - 48)
        ·rw [if_pos hc,if_neg (by omega)]
        ·rw [if_neg hc,if_pos (by omega)]
         congr 2;omega
       rw [hV]
       show (octV d e f).map _=((octV d e f).map _).map _
       rw [Option.map_map];rfl
 ·rw [if_neg hi,J87 (by omega)];rfl
theorem I13 {s:Str} {i j:Nat} {x:UInt8} (h:D28 s i=some (x,j)):i < j∧j≤s.length:=by
 rw [D97] at h
 cases he:B32 (s.drop i) with
 | none=>rw [he] at h;cases h
 | some p =>
  obtain ⟨y,k⟩:=p
  rw [he] at h
  simp at h
  have:=F72 he
  rw [J88] at this
  omega
theorem E38 {gf:Fr} {ob:Obs} (s:Str) (i:Nat) (hi:i≤s.length) (hs:s.length≤1073741824) (h5:D4 ob 705=some (c6 s i)) :
  AL.Met Tryz.prog 280 [.one (.ref 705 0)] gf ob []
   (fun rs ob'=>∃(x:Int) (b:Bool) (j:Nat),rs=[t8 x,tBo b]∧ob'=(705,c6 s j)::ob∧j≤s.length∧match D28 s i with
    | some (c,j')=>b=true∧x=c.toNat∧j=j'
    | none=>b=false):=by
 refine AL.Met.introH Tryz.func280 (by decide) rfl rfl rfl (fun hH=>?_)
 refine F4 (fr':=[(0,.s (.one (.ref 705 0)))]++gf) (ob':=(705,c6 s i)::ob) (J50 ⟨le1 rfl,trivial⟩ hH (by repeat (first | exact D9 | refine tail_cons rfl ?_)) (G64 h5)) ?_
 refine k2 ?_
 refine A3 (A2 (A5 Z Z) Z (A2 (A5 Z Z) Z (A6 ?_)))
 refine k1 (k2 (k2 ?_))
 refine C4 (by kernel_rfl) (by kernel_rfl) (A8 (A4 Z Z) Z Z (A8 (B8 Z) Z Z (A8 (A7 Z) Z Z (A8 (B0 Z Z Z) Z Z (A8 (A4 Z Z) Z Z (A8 (B8 Z) Z Z (A8 (A7 Z) Z Z (A8 (B0 Z Z Z) Z Z (A8 (D5 Z) Z Z (A8 (Z1 Z Z) Z Z (H9 ?_)))))))))))
 refine k1 ?_
 refine B2 rfl (fun ht=>?_) (fun ht=>?_)
 ·have h1:¬i < s.length:=by have:=A0 ht;omega
  refine k2 ?_
  refine A3 (A2 (A5 Z Z) Z (A2 (A5 Z Z) Z (A6 ?_)))
  refine k1 (k10 (k11 ?_))
  refine H7 (A71 rfl rfl rfl) (by repeat (first | exact D9 | refine tail_cons rfl ?_ | refine E0 _ ?_)) (fun _ _ h=>h) ⟨0,false,i,rfl,rfl,hi,?_⟩
  unfold D28;rw [if_neg h1]
 have hlt:i < s.length:=by have:=A1 ht;omega
 obtain ⟨c,hc⟩:∃c,c=s.getD i 0:=⟨_,rfl⟩
 have hv:s[i]?=some c:=by rw [hc];exact gD hlt
 have hE:D28 s i=(if c.toNat=34∨c.toNat=92 then some (c,i+1) else if c.toNat=110 then some (10,i+1) else if c.toNat=116 then some (9,i+1) else (D27 s i).map fun x=>(x,i+3)):=by unfold D28;rw [if_pos hlt,←hc]
 refine k5 (k1 (k2 (k2 ?_)))
 refine C4 (by kernel_rfl) (by kernel_rfl) (A8 (A4 Z Z) Z Z (A8 (B8 Z) Z Z (A8 (A7 Z) Z Z (A8 (B0 Z Z Z) Z Z (A8 (A4 Z Z) Z Z (A8 (B8 Z) Z Z (A8 (A7 Z) Z Z (A8 (B0 Z Z Z) Z Z (A8 (E9 Z Z (by omega) hv) Z Z (A8 (A5 Z Z) Z Z (H9 ?_)))))))))))
 refine k1 (k2 ?_)
 refine A3 (A2 (A4 Z Z) Z (A6 ?_))
 refine H8 ?_
 refine H98 ?_
 refine U6 ([(0,.s (.one (.ref 705 0))),(4,.s (t8 c.toNat)),(24,.s (t8 c.toNat)),(25,J4 (.bool (decide (c.toNat=34∨c.toNat=92))))]++gf) ((705,c6 s i)::ob) ?_ ?_
 ·refine k2 ?_
  refine A3 (A2 (F1 Z Z) Z (A2 (A5 Z Z) Z (A6 ?_)))
  refine k1 ?_
  refine B2 rfl (fun ht=>?_) (fun ht=>?_)
  ·have h1:(c.toNat:Int)=34:=A0 ht
   refine k5 (k1 ?_)
   exact J50 ⟨le1 rfl,le1 rfl,le1 rfl,⟨_,rfl,.eq (by congr 4;apply propext;constructor<;>intro _<;>omega)⟩,trivial⟩ hH (by repeat (first | exact D9 | refine tail_cons rfl ?_)) (fun _ _ h=>h)
  ·have h1:¬(c.toNat:Int)=34:=A1 ht
   skip
   refine A3 (A2 (F1 Z Z) Z (A2 (A5 Z Z) Z (A6 ?_)))
   refine k1 ?_
   exact J50 ⟨le1 rfl,le1 rfl,le1 rfl,⟨_,rfl,.eq (by congr 4;apply propext;constructor<;>intro _<;>omega)⟩,trivial⟩ hH (by repeat (first | exact D9 | refine tail_cons rfl ?_)) (fun _ _ h=>h)
 skip
 refine B2 rfl (fun ht=>?_) (fun ht=>?_)
 ·have h1:=A0 ht
  rw [if_pos h1] at hE
  refine k2 ?_
  refine A3 (A2 (A4 Z Z) Z (A2 (B8 Z) Z (A2 (A7 Z) Z (A2 (B0 Z Z Z) Z (A2 (C1 Z Z (by omega)) Z (A2 (B8 Z) Z (A2 (A7 Z) Z (E3 (B7 TySz.out Z Z Z Z Z Z) (A6 ?_)))))))))
  refine k1 (k2 ?_)
  refine A3 (A2 (A4 Z Z) Z (A2 (A5 Z Z) Z (A2 (A5 Z Z) Z (A6 ?_))))
  refine k1 (k10 (k12 (k11 ?_)))
  refine H7 (A71 rfl rfl rfl) (by repeat (first | exact D9 | refine tail_cons rfl ?_ | refine E0 _ ?_)) E37 ⟨c.toNat,true,i+1,rfl,rfl,hlt,?_⟩
  rw [hE];exact ⟨rfl,rfl,rfl⟩
 have h1:=A1 ht
 rw [if_neg h1] at hE
 refine k2 ?_
 refine A3 (A2 (F1 Z Z) Z (A2 (A5 Z Z) Z (A6 ?_)))
 refine k1 ?_
 refine B2 rfl (fun ht=>?_) (fun ht=>?_)
 ·have h2:(c.toNat:Int)=110:=A0 ht
  rw [if_pos (by omega)] at hE
  refine k2 ?_
  refine A3 (A2 (A4 Z Z) Z (A2 (B8 Z) Z (A2 (A7 Z) Z (A2 (B0 Z Z Z) Z (A2 (C1 Z Z (by omega)) Z (A2 (B8 Z) Z (A2 (A7 Z) Z (E3 (B7 TySz.out Z Z Z Z Z Z) (A6 ?_)))))))))
  refine k1 (k2 ?_)
  refine A3 (A2 (A5 Z Z) Z (A2 (A5 Z Z) Z (A6 ?_)))
  refine k1 (k10 (k12 (k11 ?_)))
  refine H7 (A71 rfl rfl rfl) (by repeat (first | exact D9 | refine tail_cons rfl ?_ | refine E0 _ ?_)) E37 ⟨10,true,i+1,rfl,rfl,hlt,?_⟩
  rw [hE];exact ⟨rfl,rfl,rfl⟩
 have h2:¬(c.toNat:Int)=110:=A1 ht
 rw [if_neg (by omega)] at hE
 refine k2 ?_
 refine A3 (A2 (F1 Z Z) Z (A2 (A5 Z Z) Z (A6 ?_)))
 refine k1 ?_
 refine B2 rfl (fun ht=>?_) (fun ht=>?_)
 ·have h3:(c.toNat:Int)=116:=A0 ht
  rw [if_pos (by omega)] at hE
  refine k2 ?_
  refine A3 (A2 (A4 Z Z) Z (A2 (B8 Z) Z (A2 (A7 Z) Z (A2 (B0 Z Z Z) Z (A2 (C1 Z Z (by omega)) Z (A2 (B8 Z) Z (A2 (A7 Z) Z (E3 (B7 TySz.out Z Z Z Z Z Z) (A6 ?_)))))))))
  refine k1 (k2 ?_)
  refine A3 (A2 (A5 Z Z) Z (A2 (A5 Z Z) Z (A6 ?_)))
  refine k1 (k10 (k12 (k11 ?_)))
  refine H7 (A71 rfl rfl rfl) (by repeat (first | exact D9 | refine tail_cons rfl ?_ | refine E0 _ ?_)) E37 ⟨9,true,i+1,rfl,rfl,hlt,?_⟩
  rw [hE];exact ⟨rfl,rfl,rfl⟩
 have h3:¬(c.toNat:Int)=116:=A1 ht
 rw [if_neg (by omega)] at hE
 refine k5 (k2 ?_)
 refine A3 (A2 (A4 Z Z) Z (X3 (I39 s i hi hs Z) Z Z Z ?_));rintro _ _ ⟨x,b,j,rfl,rfl,hj,ho⟩;refine A2 (B1 Z Z) Z (A2 (B1 Z Z) Z (A2 (A5 Z Z) Z (A2 (A5 Z Z) Z (A6 ?_))))
 refine k1 (k10 ?_)
 refine H7 (A71 rfl rfl rfl) (by repeat (first | exact D9 | refine tail_cons rfl ?_ | refine E0 _ ?_)) E37 ⟨x,b,j,rfl,rfl,hj,?_⟩
 rw [hE]
 cases hoc:D27 s i with
 | none=>rw [hoc] at ho;exact ho
 | some y=>rw [hoc] at ho;exact ho
def goOn (s acc:Str):Option (UInt8 × Nat)→Option (Str × Nat)
 | none=>none
 | some (x,j)=>I0 s j (acc++[x])
theorem y9 {s:Str} {i:Nat} {acc:Str} (h:i < s.length):I0 s i acc=if (s.getD i 0).toNat=34 then some (acc,i+1) else if (s.getD i 0).toNat=92 then goOn s acc (D28 s (i+1)) else I0 s (i+1) (acc++[s.getD i 0]):=by
 have hg:s[i]=s.getD i 0:=by have:=gD h;rw [J79 h] at this;exact Option.some.inj this
 rw [I0,dif_pos h,hg,D97]
 by_cases c1:(s.getD i 0).toNat=34
 ·rw [if_pos c1,if_pos c1]
 ·rw [if_neg c1,if_neg c1]
  by_cases c2:(s.getD i 0).toNat=92
  ·rw [if_pos c2,if_pos c2]
   split
   ·rename_i he;rw [he];rfl
   ·rename_i x k he;rw [he];rfl
  ·rw [if_neg c2,if_neg c2]
theorem x3 {s:Str} {i:Nat} {acc:Str} (h:s.length≤i):I0 s i acc=none:=by rw [I0,dif_neg (by omega)]
theorem E39 {gf:Fr} (s:Str) (i:Nat) (hi:i≤s.length) (hs:s.length≤1073741824) :
  AL.Met Tryz.prog 272 [.one (.ref 705 0)] gf [(705,c6 s i)] [706]
   (fun rs ob'=>∃(w:Str) (b:Bool) (j:Nat),rs=[.one (.p (.v (.string ⟨w.toArray⟩))),tBo b]∧ob'=[(705,c6 s j)]∧j≤s.length∧match I0 s i [] with
    | some (w',j')=>b=true∧w=w'∧j=j'
    | none=>b=false):=by
 refine AL.Met.introH Tryz.func272 (by decide) rfl rfl rfl (fun hH=>?_)
 refine k2 ?_
 refine A3 (A2 (A5 Z Z) Z (A2 (A5 Z Z) Z (A6 ?_)))
 refine k1 (k2 ?_)
 refine A3 (C2 (G52 706 _ u8C Z Z) Z (A6 ?_))
 refine k1 (k2 (k3 ?_))
 refine D1 (X:=Nat × Str) (fun z=>([(0,.s (.one (.ref 705 0))),(4,.s (.one (.mut 706)))]++Fr.forget 706 gf,[(706,.grow 5 UInt8 1 u8C z.2),(705,c6 s z.1)])) (fun z=>z.1≤s.length∧z.2.length≤z.1∧I0 s z.1 z.2=I0 s i []) (fun z=>s.length - z.1) (i,[]) ⟨hi,Nat.zero_le _,rfl⟩ ?_ ?_
 ·exact J50 ⟨le1 rfl,le1 rfl,trivial⟩ (U2 hH) (by repeat (first | exact D9 | refine tail_cons rfl ?_ | refine U3 _ ?_ | refine E0 _ ?_)) (ObIn.spec (ob':=[(706,_),(705,_)]) ⟨rfl,rfl,trivial⟩)
 rintro ⟨p,acc⟩ ⟨hp,hal,hgo⟩
 dsimp only at hp hal hgo ⊢
 refine k2 (k2 ?_)
 refine C4 (by kernel_rfl) (by kernel_rfl) (A8 (A4 Z Z) Z Z (A8 (B8 Z) Z Z (A8 (A7 Z) Z Z (A8 (B0 Z Z Z) Z Z (A8 (A4 Z Z) Z Z (A8 (B8 Z) Z Z (A8 (A7 Z) Z Z (A8 (B0 Z Z Z) Z Z (A8 (D5 Z) Z Z (A8 (D6 Z Z) Z Z (H9 ?_)))))))))))
 refine k1 ?_
 refine B2 rfl (fun ht=>?_) (fun ht=>?_)
 ·have hlt:p < s.length:=by have:=A0 ht;omega
  obtain ⟨c,hc⟩:∃c,c=s.getD p 0:=⟨_,rfl⟩
  have hv:s[p]?=some c:=by rw [hc];exact gD hlt
  rw [y9 hlt,←hc] at hgo
  refine k5 (k1 (k3 (k2 ?_)))
  refine C4 (by kernel_rfl) (by kernel_rfl) (A8 (A4 Z Z) Z Z (A8 (B8 Z) Z Z (A8 (A7 Z) Z Z (A8 (B0 Z Z Z) Z Z (A8 (A4 Z Z) Z Z (A8 (B8 Z) Z Z (A8 (A7 Z) Z Z (A8 (B0 Z Z Z) Z Z (A8 (E9 Z Z (by omega) hv) Z Z (A8 (A5 Z Z) Z Z (H9 ?_)))))))))))
  refine k1 (k2 ?_)
  refine A3 (A2 (A4 Z Z) Z (A2 (B8 Z) Z (A2 (A7 Z) Z (A2 (B0 Z Z Z) Z (A2 (C1 Z Z (by omega)) Z (A2 (B8 Z) Z (A2 (A7 Z) Z (E3 (B7 TySz.out Z Z Z Z Z Z) (A6 ?_)))))))))
  refine k1 (k2 (k2 ?_))
  refine A3 (A2 (A4 Z Z) Z (A2 (F1 Z Z) Z (A6 ?_)))
  refine k1 ?_
  refine B2 rfl (fun ht=>?_) (fun ht=>?_)
  ·have h1:(c.toNat:Int)=34:=A0 ht
   rw [if_pos (by omega)] at hgo
   refine k2 ?_
   refine F4 (J63 (t:=4) Z Z Z) ?_
   refine A3 (A2 (A4 Z Z) Z (A2 (M4 TyStr.out Z (.buf _ _ _ _ _)) Z (A2 (A5 Z Z) Z (A2 (A5 Z Z) Z (A6 ?_)))))
   refine k1 (k10 (k11 (k12 (k11 (k12 (k11 ?_))))))
   refine H7 (A71 rfl rfl rfl) (by repeat (first | exact D9 | refine tail_cons rfl ?_ | refine E0 _ ?_)) (ObIn.spec (ob':=[(705,c6 s (p+1))]) ⟨rfl,trivial⟩) ⟨acc,true,p+1,rfl,rfl,hlt,?_⟩
   rw [←hgo];exact ⟨rfl,rfl,rfl⟩
  have h1:¬(c.toNat:Int)=34:=A1 ht
  rw [if_neg (by omega)] at hgo
  obtain ⟨nx,hnx⟩:∃nx:Option (UInt8 × Nat),nx=if c.toNat=92 then D28 s (p+1) else some (c,p+1):=⟨_,rfl⟩
  have hgo2:goOn s acc nx=I0 s i []:=by
   rw [←hgo,hnx]
   by_cases h2:c.toNat=92
   ·rw [if_pos h2,if_pos h2]
   ·rw [if_neg h2,if_neg h2];rfl
  have hnb:∀x j,nx=some (x,j)→p < j∧j≤s.length:=by
   intro x j hj
   rw [hnx] at hj
   by_cases h2:c.toNat=92
   ·rw [if_pos h2] at hj;have:=I13 hj;omega
   ·rw [if_neg h2] at hj;cases hj;omega
  cases hq:nx with
  | none =>
   refine k5 (k1 (k2 (k2 ?_)))
   refine A3 (A2 (A4 Z Z) Z (A2 (F1 Z Z) Z (A6 ?_)))
   refine k1 ?_
   rw [hq] at hgo2
   have h2:c.toNat=92:=by
    by_cases h2:c.toNat=92
    ·exact h2
    ·rw [if_neg h2,hq] at hnx;cases hnx
   rw [if_pos h2,hq] at hnx
   refine B2 rfl (fun ht=>?_) (fun ht=>?_)
   rotate_left
   ·exact absurd (show (c.toNat:Int)=92 by omega) (A1 ht)
   refine k2 ?_
   refine A3 (A2 (A5 Z Z) Z (A6 ?_))
   refine k1 (k2 ?_)
   refine A3 (A2 (A4 Z Z) Z (X3 (E38 s (p+1) hlt hs Z) Z Z Z ?_));rintro _ _ ⟨x,b,j,rfl,rfl,hj,ho⟩;refine A2 (A4 Z Z) Z (A2 (B1 Z Z) Z (A2 (B1 Z Z) Z (A2 (A5 Z Z) Z (A2 (A5 Z Z) Z (A6 ?_)))))
   rw [←hnx] at ho
   have ho:b=false:=ho
   subst ho
   refine k1 (k2 ?_)
   refine A3 (A2 (A4 Z Z) Z (A2 (E4 Z) Z (A6 ?_)))
   refine k1 ?_
   refine B2 rfl (fun ht=>?_) (fun ht=>?_)
   ·refine k2 ?_
    refine A3 (A2 (A5 Z Z) Z (A2 (A5 Z Z) Z (A6 ?_)))
    refine k1 (k10 (k11 (k12 (k11 (k12 (k11 ?_))))))
    refine H7 (A71 rfl rfl rfl) (by repeat (first | exact D9 | refine tail_cons rfl ?_ | refine E0 _ ?_)) (ObIn.spec (ob':=[(705,c6 s j)]) ⟨rfl,trivial⟩) ⟨[],false,j,rfl,rfl,hj,?_⟩
    rw [←hgo2];exact (rfl:false=false)
   ·cases ht
  | some q =>
   obtain ⟨y,j⟩:=q
   obtain ⟨hj1,hj2⟩:=hnb y j hq
   rw [hq] at hgo2
   refine F84 ?_
   refine H8 ?_
   refine U6 ([(0,.s (.one (.ref 705 0))),(4,.s (.one (.mut 706))),(5,.s (t8 y.toNat))]++Fr.forget 706 gf) [(706,.grow 5 UInt8 1 u8C acc),(705,c6 s j)] ?_ ?_
   ·refine k2 ?_
    refine A3 (A2 (A4 Z Z) Z (A2 (F1 Z Z) Z (A6 ?_)))
    refine k1 ?_
    refine B2 rfl (fun ht=>?_) (fun ht=>?_)
    ·have h2:c.toNat=92:=by have:(c.toNat:Int)=92:=A0 ht;omega
     rw [if_pos h2,hq] at hnx
     refine k2 ?_
     refine A3 (A2 (A5 Z Z) Z (A6 ?_))
     refine k1 (k2 ?_)
     refine A3 (A2 (A4 Z Z) Z (X3 (E38 s (p+1) hlt hs Z) Z Z Z ?_));rintro _ _ ⟨x,b,j',rfl,rfl,hj,ho⟩;refine A2 (A4 Z Z) Z (A2 (B1 Z Z) Z (A2 (B1 Z Z) Z (A2 (A5 Z Z) Z (A2 (A5 Z Z) Z (A6 ?_)))))
     rw [←hnx] at ho
     obtain ⟨rfl,rfl,rfl⟩:=ho
     refine k1 (k2 ?_)
     refine A3 (A2 (A4 Z Z) Z (A2 (E4 Z) Z (A6 ?_)))
     refine k1 ?_
     refine B2 rfl (fun ht=>?_) (fun ht=>?_)
     ·cases ht
     refine k5 (k1 ?_)
     exact J50 ⟨le1 rfl,le1 rfl,le1 rfl,trivial⟩ (U2 hH) (by repeat (first | exact D9 | refine tail_cons rfl ?_)) (ObIn.spec (ob':=[(706,_),(705,_)]) ⟨rfl,rfl,trivial⟩)
    ·have h2:¬c.toNat=92:=by have:¬(c.toNat:Int)=92:=A1 ht;omega
     rw [if_neg h2,hq] at hnx
     obtain ⟨rfl,rfl⟩:y=c∧j=p+1:=by simpa using hnx
     refine k5 (k1 ?_)
     exact J50 ⟨le1 rfl,le1 rfl,le1 rfl,trivial⟩ (U2 hH) (by repeat (first | exact D9 | refine tail_cons rfl ?_)) (ObIn.spec (ob':=[(706,_),(705,_)]) ⟨rfl,rfl,trivial⟩)
   skip
   refine A3 (A2 (A4 Z Z) Z (A2 (A4 Z Z) Z (A2 (C6 (c:=u8C) (ys:=[y]) (D8 Z Z Z Z F0) Z Z Z) Z (C2 (W9 Z Z Z (.pure _ _ _ _) (by (simp;omega)) Z) Z (A2 (A5 Z Z) Z (A6 ?_))))))
   refine k4 (k1 ?_)
   refine ⟨(j,acc++[y]),⟨hj2,by simp;omega,hgo2⟩,by dsimp only;omega,?_⟩
   exact J50 ⟨le1 rfl,le1 rfl,trivial⟩ (U2 hH) (by repeat (first | exact D9 | refine tail_cons rfl ?_ | refine U3 _ ?_)) (ObIn.spec (ob':=[(706,_),(705,_)]) ⟨rfl,rfl,trivial⟩)
 ·have hend:s.length≤p:=by have:=A1 ht;omega
  rw [x3 hend] at hgo
  refine k6 (k2 ?_)
  refine A3 (A2 (A5 Z Z) Z (A2 (A5 Z Z) Z (A6 ?_)))
  refine k1 (k10 ?_)
  refine H7 (A71 rfl rfl rfl) (by repeat (first | exact D9 | refine tail_cons rfl ?_ | refine E0 _ ?_)) (ObIn.spec (ob':=[(705,c6 s p)]) ⟨rfl,trivial⟩) ⟨[],false,p,rfl,rfl,hp,?_⟩
  rw [←hgo]
theorem I40 {s:Str} {i k:Nat} (h:i+k < s.length):(s.drop i).getD k 0=s.getD (i+k) 0:=by
 have h1:=gD (s:=s.drop i) (i:=k) (by rw [J88];omega)
 rw [J99,gD h] at h1
 exact (Option.some.inj h1).symm
theorem B55 (s:Str) (i:Nat) (n:Nat):∀(k:Nat) (acc:Str),s.length - (i+k)≤n→I0 (s.drop i) k acc=(I0 s (i+k) acc).map fun p=>(p.1,p.2 - i):=by
 induction n with
 | zero =>
  intro k acc h
  rw [x3 (by rw [J88];omega),x3 (by omega)];rfl
 | succ n ih =>
  intro k acc h
  by_cases hlt:i+k < s.length
  ·rw [y9 (by rw [J88];omega),y9 hlt,I40 hlt]
   by_cases c1:(s.getD (i+k) 0).toNat=34
   ·rw [if_pos c1,if_pos c1];simp;omega
   ·rw [if_neg c1,if_neg c1]
    by_cases c2:(s.getD (i+k) 0).toNat=92
    ·rw [if_pos c2,if_pos c2,D97,D97,List.drop_drop,show i+(k+1)=i+k+1 by omega]
     cases he:B32 (s.drop (i+k+1)) with
     | none=>rfl
     | some q =>
      obtain ⟨x,e⟩:=q
      simp only [Option.map_some]
      show I0 (s.drop i) (k+1+e) (acc++[x])=Option.map _ (I0 s (i+k+1+e) (acc++[x]))
      rw [ih (k+1+e) _ (by omega),show i+(k+1+e)=i+k+1+e by omega]
    ·rw [if_neg c2,if_neg c2,ih (k+1) _ (by omega),show i+(k+1)=i+k+1 by omega]
  ·rw [x3 (by rw [J88];omega),x3 (by omega)];rfl
theorem head_drop {s:Str} {i:Nat}:(s.drop i).head?=some 34↔(i < s.length∧(s.getD i 0).toNat=34):=by
 rw [List.head?_drop]
 by_cases h:i < s.length
 ·rw [gD h,Option.some.injEq,←UInt8.toNat_inj]
  have:(34:UInt8).toNat=34:=rfl
  constructor
  ·intro h1;exact ⟨h,by omega⟩
  ·intro h1;omega
 ·rw [K01 (by omega)]
  constructor
  ·intro h1;cases h1
  ·intro h1;exact absurd h1.1 h
theorem B02 {p:UInt8→Bool} (s:Str) (i:Nat):((s.drop i).takeWhile p).length≤s.length - i:=by
 have:=(List.takeWhile_sublist p (l:=s.drop i)).length_le
 rw [J88] at this;exact this
theorem p9 {p:UInt8→Bool}:∀(s:Str),s.take (s.takeWhile p).length=s.takeWhile p
 | []=>rfl
 | c::r=>by
  by_cases hc:p c=true
  ·rw [List.takeWhile_cons,if_pos hc,J78,List.take_succ_cons,p9 r]
  ·rw [List.takeWhile_cons,if_neg hc];rfl
theorem H46 {s:Str} {i j:Nat} {w:Str} (h:I0 s i []=some (w,j)):i < j∧j≤s.length∧w.length+i≤j:=by
 have:=H75 (s:=s) (s.length - i) (Nat.le_refl _) h
 simpa using this
set_option maxHeartbeats 1000000
theorem J07 {gf:Fr} (s:Str) (i:Nat) (hi:i≤s.length) (hs:s.length≤16777216) :
  AL.Met Tryz.prog 253 [.one (.ref 705 0)] gf [(705,c6 s i)] [706]
   (fun rs ob'=>∃(w:Str) (b:Bool) (j:Nat),rs=[.one (.p (.v (.string ⟨w.toArray⟩))),tBo b]∧ob'=[(705,c6 s j)]∧j≤s.length∧match Q9 (s.drop i) with
    | some (w',k)=>b=true∧w=w'∧j=i+k
    | none=>b=false):=by
 have hcase:(i < s.length∧(s.getD i 0).toNat=34∧I0 s (i+1) []=none) ∨
   ∃w j,((i < s.length∧(s.getD i 0).toNat=34∧I0 s (i+1) []=some (w,j))∨(¬(i < s.length∧(s.getD i 0).toNat=34)∧w=(s.drop i).takeWhile N4∧j=i+w.length)) ∧
    i≤j∧j≤s.length∧w.length≤s.length∧Q9 (s.drop i)=if H6 w=(s.drop i).take (j - i) then some (w,j - i) else none:=by
  by_cases hq:i < s.length∧(s.getD i 0).toNat=34
  ·cases hg:I0 s (i+1) [] with
   | none=>exact .inl ⟨hq.1,hq.2,rfl⟩
   | some p =>
    obtain ⟨w,j⟩:=p
    have h1:=H46 hg
    refine .inr ⟨w,j,.inl ⟨hq.1,hq.2,rfl⟩,by omega,by omega,by omega,?_⟩
    unfold Q9
    rw [if_pos (head_drop.2 hq),B55 s i s.length 1 [] (by omega),hg]
    rfl
  ·have hl:=B02 (p:=N4) s i
   refine .inr ⟨(s.drop i).takeWhile N4,_,.inr ⟨hq,rfl,rfl⟩,by omega,by omega,by omega,?_⟩
   unfold Q9
   rw [if_neg (fun h=>hq (head_drop.1 h)),show i+((s.drop i).takeWhile N4).length - i=((s.drop i).takeWhile N4).length by omega,p9]
   by_cases hn:(s.drop i).takeWhile N4=[]
   ·rw [if_pos hn,hn];rfl
   ·rw [if_neg hn]
    have:H6 ((s.drop i).takeWhile N4)=(s.drop i).takeWhile N4:=by unfold H6;rw [if_pos ⟨hn,List.all_takeWhile⟩]
    rw [this,if_pos rfl]
 have htest:decide ((i:Int) < (s.length:Int)∧((s.getD i 0).toNat:Int)=34)=decide (i < s.length∧(s.getD i 0).toNat=34):=by congr 1;apply propext;constructor<;>intro h<;>omega
 refine AL.Met.introH Tryz.func253 (by decide) rfl rfl rfl (fun hH=>?_)
 refine k2 ?_
 refine A3 (A2 (A5 Z Z) Z (A2 (A5 Z Z) Z (A6 ?_)))
 refine k1 (k2 ?_)
 refine A3 (A2 (A4 Z Z) Z (A2 (B8 Z) Z (A2 (A7 Z) Z (A2 (B0 Z Z Z) Z (A2 (A5 Z Z) Z (A6 ?_))))))
 refine k1 (k2 ?_)
 refine A3 (A2 (A5 Z Z) Z (A6 ?_))
 rcases hcase with ⟨hlt,h34,hg⟩ | ⟨w,j,hwj,hij,hjl,hwl,hW⟩
 ·refine k1 (k2 (k2 ?_))
  refine A3 (A2 (A4 Z Z) Z (A2 (A4 Z Z) Z (A2 (B8 Z) Z (A2 (A7 Z) Z (A2 (B0 Z Z Z) Z (A2 (D5 Z) Z (A2 (D6 Z Z) Z (A2 (A4 Z Z) Z (A9 Z Z Z Z (fun hg=>by rw [hg];exact A4 Z Z) ?_)))))))));refine A9 Z Z Z Z (fun hg=>by rw [hg];exact B8 Z) ?_;refine A9 Z Z Z Z (fun hg=>by rw [hg];exact A7 Z) ?_;refine A9 Z Z Z Z (fun hg=>by rw [hg];exact B0 Z Z Z) ?_;refine A9 Z Z Z Z (fun hg=>by rw [hg];exact A4 Z Z) ?_;refine A9 Z Z Z Z (fun hg=>by have hq:=hg;(try simp at hq);rw [hg];exact E9 Z Z (by omega) (gD (by omega))) ?_;refine A9 Z Z Z Z (fun hg=>by rw [hg];exact F1 Z Z) ?_;refine A2 (B4 Z (fun h=>by first | rfl | (rw [h];rfl)) (fun h=>by first | rfl | (rw [h];rfl))) Z ?_;refine A6 ?_
  simp only [I3,J83]
  rw [htest]
  refine k1 ?_
  refine B2 rfl (fun ht=>?_) (fun ht=>?_)
  rotate_left
  ·exact absurd ⟨hlt,h34⟩ (A1 ht)
  refine k2 ?_
  refine A3 (A2 (A4 Z Z) Z (A2 (B8 Z) Z (A2 (A7 Z) Z (A2 (B0 Z Z Z) Z (A2 (C1 Z Z (by omega)) Z (A2 (B8 Z) Z (A2 (A7 Z) Z (E3 (B7 TySz.out Z Z Z Z Z Z) (A6 ?_)))))))))
  refine k1 (k2 ?_)
  refine F4 (fr':=[(0,.s (.one (.ref 705 0))),(4,C3 i)]++gf) (ob':=[(705,c6 s (i+1))]) (J50 ⟨le1 rfl,le1 rfl,trivial⟩ hH (by repeat (first | exact D9 | refine tail_cons rfl ?_)) (ObIn.spec (ob':=[(705,_)]) ⟨rfl,trivial⟩)) ?_
  refine A3 (A2 (A5 Z Z) Z (A6 ?_))
  refine k1 (k2 ?_)
  refine A3 (A2 (A4 Z Z) Z (X3 (E39 s (i+1) hlt (by omega)) Z Z Z ?_));rintro _ _ ⟨w,b,j,rfl,rfl,hj,ho⟩;refine A2 (A4 Z Z) Z (A2 (B1 Z Z) Z (A2 (B1 Z Z) Z (A2 (A5 Z Z) Z (A2 (A5 Z Z) Z (A6 ?_)))))
  rw [hg] at ho
  have ho:b=false:=ho
  subst ho
  refine k1 (k2 ?_)
  refine A3 (A2 (A4 Z Z) Z (A2 (E4 Z) Z (A6 ?_)))
  refine k1 ?_
  refine B2 rfl (fun ht=>?_) (fun ht=>?_)
  ·refine k2 ?_
   refine A3 (A2 (A5 Z Z) Z (A2 (A5 Z Z) Z (A6 ?_)))
   refine k1 (k10 (k11 ?_))
   refine H7 (A71 rfl rfl rfl) (by repeat (first | exact D9 | refine tail_cons rfl ?_ | refine E0 _ ?_)) (fun _ _ h=>h) ⟨[],false,j,rfl,rfl,hj,?_⟩
   have:Q9 (s.drop i)=none:=by
    unfold Q9
    rw [if_pos (head_drop.2 ⟨hlt,h34⟩),B55 s i s.length 1 [] (by omega),hg];rfl
   rw [this]
  ·cases ht
 ·refine H8 ?_
  refine U6 ([(0,.s (.one (.ref 705 0))),(4,C3 i),(5,H4 w)]++Fr.forget 706 gf) [(705,c6 s j)] ?_ ?_
  ·refine k2 ?_
   refine A3 (A2 (A4 Z Z) Z (A2 (A4 Z Z) Z (A2 (B8 Z) Z (A2 (A7 Z) Z (A2 (B0 Z Z Z) Z (A2 (D5 Z) Z (A2 (D6 Z Z) Z (A2 (A4 Z Z) Z (A9 Z Z Z Z (fun hg=>by rw [hg];exact A4 Z Z) ?_)))))))));refine A9 Z Z Z Z (fun hg=>by rw [hg];exact B8 Z) ?_;refine A9 Z Z Z Z (fun hg=>by rw [hg];exact A7 Z) ?_;refine A9 Z Z Z Z (fun hg=>by rw [hg];exact B0 Z Z Z) ?_;refine A9 Z Z Z Z (fun hg=>by rw [hg];exact A4 Z Z) ?_;refine A9 Z Z Z Z (fun hg=>by have hq:=hg;(try simp at hq);rw [hg];exact E9 Z Z (by omega) (gD (by omega))) ?_;refine A9 Z Z Z Z (fun hg=>by rw [hg];exact F1 Z Z) ?_;refine A2 (B4 Z (fun h=>by first | rfl | (rw [h];rfl)) (fun h=>by first | rfl | (rw [h];rfl))) Z ?_;refine A6 ?_
   simp only [I3,J83]
   rw [htest]
   refine k1 ?_
   refine B2 rfl (fun ht=>?_) (fun ht=>?_)
   ·have hq:=A0 ht
    rcases hwj with ⟨_,_,hg⟩ | ⟨hn,_⟩
    ·refine k2 ?_
     refine A3 (A2 (A4 Z Z) Z (A2 (B8 Z) Z (A2 (A7 Z) Z (A2 (B0 Z Z Z) Z (A2 (C1 Z Z (by omega)) Z (A2 (B8 Z) Z (A2 (A7 Z) Z (E3 (B7 TySz.out Z Z Z Z Z Z) (A6 ?_)))))))))
     refine k1 (k2 ?_)
     refine F4 (fr':=[(0,.s (.one (.ref 705 0))),(4,C3 i)]++gf) (ob':=[(705,c6 s (i+1))]) (J50 ⟨le1 rfl,le1 rfl,trivial⟩ hH (by repeat (first | exact D9 | refine tail_cons rfl ?_)) (ObIn.spec (ob':=[(705,_)]) ⟨rfl,trivial⟩)) ?_
     refine A3 (A2 (A5 Z Z) Z (A6 ?_))
     refine k1 (k2 ?_)
     refine A3 (A2 (A4 Z Z) Z (X3 (E39 s (i+1) hq.1 (by omega)) Z Z Z ?_));rintro _ _ ⟨w',b,j',rfl,rfl,hj,ho⟩;refine A2 (A4 Z Z) Z (A2 (B1 Z Z) Z (A2 (B1 Z Z) Z (A2 (A5 Z Z) Z (A2 (A5 Z Z) Z (A6 ?_)))))
     rw [hg] at ho
     obtain ⟨rfl,rfl,rfl⟩:=ho
     refine k1 (k2 ?_)
     refine A3 (A2 (A4 Z Z) Z (A2 (E4 Z) Z (A6 ?_)))
     refine k1 ?_
     refine B2 rfl (fun ht=>?_) (fun ht=>?_)
     ·cases ht
     refine k5 (k1 ?_)
     exact J50 ⟨le1 rfl,le1 rfl,le1 rfl,trivial⟩ (U2 hH) (by repeat (first | exact D9 | refine tail_cons rfl ?_ | refine U3 _ ?_ | refine E0 _ ?_)) (ObIn.spec (ob':=[(705,_)]) ⟨rfl,trivial⟩)
    ·exact absurd hq hn
   ·have hq:=A1 ht
    rcases hwj with ⟨h1,h2,_⟩ | ⟨_,hw,hj⟩
    ·exact absurd ⟨h1,h2⟩ hq
    have hl:=B02 (p:=N4) s i
    rw [←hw] at hl
    refine k2 (k3 ?_)
    refine D1 (X:=Nat) (fun k=>([(0,.s (.one (.ref 705 0))),(4,C3 i)]++gf,[(705,c6 s (i+k))])) (fun k=>k≤w.length) (fun k=>w.length - k) 0 (Nat.zero_le _) ?_ ?_
    ·exact J50 ⟨le1 rfl,le1 rfl,trivial⟩ hH (by repeat (first | exact D9 | refine tail_cons rfl ?_)) (ObIn.spec (ob':=[(705,_)]) ⟨rfl,trivial⟩)
    intro k hk
    dsimp only at hk ⊢
    have hrun:=p8 (p:=N4) (s.drop i) k (by rw [←hw];exact hk)
    rw [←hw,J99] at hrun
    obtain ⟨c,hc⟩:∃c,c=s.getD (i+k) 0:=⟨_,rfl⟩
    have hv:i+k < s.length→s[i+k]?=some c:=fun h=>by rw [hc];exact gD h
    have hrun2:(if decide (((i+k:Nat):Int) < (s.length:Int))=true then N4 c else false)=decide (k < w.length):=by
     rw [←hrun]
     by_cases hlt:i+k < s.length
     ·rw [hv hlt,if_pos (decide_eq_true (by omega))]
     ·rw [K01 (by omega),if_neg (by simp;omega)]
    refine k2 (k2 ?_)
    refine C4 (by kernel_rfl) (by kernel_rfl) (A8 (A4 Z Z) Z Z (A8 (B8 Z) Z Z (A8 (A7 Z) Z Z (A8 (B0 Z Z Z) Z Z (A8 (A4 Z Z) Z Z (A8 (B8 Z) Z Z (A8 (A7 Z) Z Z (A8 (B0 Z Z Z) Z Z (A8 (D5 Z) Z Z (A8 (D6 Z Z) Z Z (A8 (A4 Z Z) Z Z (C5 Z Z (fun hg=>by rw [hg];exact A4 Z Z) Z Z ?_))))))))))));refine C5 Z Z (fun hg=>by rw [hg];exact B8 Z) Z Z ?_;refine C5 Z Z (fun hg=>by rw [hg];exact A7 Z) Z Z ?_;refine C5 Z Z (fun hg=>by rw [hg];exact B0 Z Z Z) Z Z ?_;refine C5 Z Z (fun hg=>by rw [hg];exact A4 Z Z) Z Z ?_;refine C5 Z Z (fun hg=>by rw [hg];exact B8 Z) Z Z ?_;refine C5 Z Z (fun hg=>by rw [hg];exact A7 Z) Z Z ?_;refine C5 Z Z (fun hg=>by rw [hg];exact B0 Z Z Z) Z Z ?_;refine C5 Z Z (fun hg=>by have hq:=hg;(try simp at hq);rw [hg];exact E9 Z Z (by omega) (hv (by omega))) Z Z ?_;refine C5 Z Z (fun hg=>by have hq:=hg;(try simp at hq);rw [hg];exact G7 (F42 c) Z Z) Z Z ?_;refine A8 (B4 Z (fun h=>by first | rfl | (rw [h];rfl)) (fun h=>by first | rfl | (rw [h];rfl))) Z Z ?_;refine H9 ?_
    rw [hrun2]
    refine k1 ?_
    refine B2 rfl (fun ht=>?_) (fun ht=>?_)
    ·have hlt:=A0 ht
     refine k5 (k1 (k3 ?_))
     refine A3 (A2 (A4 Z Z) Z (A2 (B8 Z) Z (A2 (A7 Z) Z (A2 (B0 Z Z Z) Z (A2 (C1 Z Z (by omega)) Z (A2 (B8 Z) Z (A2 (A7 Z) Z (E3 (B7 TySz.out Z Z Z Z Z Z) (A6 ?_)))))))))
     refine k4 (k1 ?_)
     exact ⟨k+1,hlt,by omega,J50 ⟨le1 rfl,le1 rfl,trivial⟩ hH (by repeat (first | exact D9 | refine tail_cons rfl ?_)) (ObIn.spec (ob':=[(705,_)]) ⟨rfl,trivial⟩)⟩
    ·have hk2:k=w.length:=by have:=A1 ht;omega
     subst hk2
     refine k6 (k7 (k7 (k8 Z (k1 ?_))))
     refine C4 (by kernel_rfl) (by kernel_rfl) (A8 (A4 Z Z) Z Z (A8 (B8 Z) Z Z (A8 (A7 Z) Z Z (A8 (B0 Z Z Z) Z Z (A8 (A4 Z Z) Z Z (A8 (A4 Z Z) Z Z (A8 (B8 Z) Z Z (A8 (A7 Z) Z Z (A8 (B0 Z Z Z) Z Z (A8 (S5 Z Z Z (by omega) (by omega) (by omega)) Z Z (A8 (A5 Z Z) Z Z (H9 ?_))))))))))))
     have hww:(s.drop i).take (i+w.length - i)=w:=by rw [Nat.add_sub_cancel_left,hw];exact p9 _
     rw [J83,J83,hww]
     refine k1 ?_
     refine Sees.trans (Sees.forget 706) ?_
     subst hj
     exact J50 ⟨le1 rfl,le1 rfl,le1 rfl,trivial⟩ (U2 hH) (by repeat (first | exact D9 | refine tail_cons rfl ?_ | refine U3 _ ?_ | refine E0 _ ?_)) (ObIn.spec (ob':=[(705,_)]) ⟨rfl,trivial⟩)
  ·refine k2 ?_
   refine C4 (by kernel_rfl) (by kernel_rfl) (A8 (A4 Z Z) Z Z (A8 (A4 Z Z) Z Z (A8 (G7 (D24 w (by omega)) Z Z) Z Z (A8 (A4 Z Z) Z Z (A8 (B8 Z) Z Z (A8 (A7 Z) Z Z (A8 (B0 Z Z Z) Z Z (A8 (A4 Z Z) Z Z (A8 (A4 Z Z) Z Z (A8 (B8 Z) Z Z (A8 (A7 Z) Z Z (A8 (B0 Z Z Z) Z Z (A8 (S5 Z Z Z (by omega) (by omega) (by omega)) Z Z (A8 (V1 Z Z) Z Z (A8 (A5 Z Z) Z Z (A8 (A5 Z Z) Z Z (H9 ?_)))))))))))))))))
   rw [J83,J83]
   refine k1 (k10 ?_)
   refine H7 (A71 rfl rfl rfl) (by repeat (first | exact D9 | refine tail_cons rfl ?_ | refine E0 _ ?_)) (fun _ _ h=>h) ⟨w,_,j,rfl,rfl,hjl,?_⟩
   rw [hW]
   by_cases hqw:H6 w=(s.drop i).take (j - i)
   ·rw [if_pos hqw];exact ⟨decide_eq_true hqw,rfl,by omega⟩
   ·rw [if_neg hqw];exact decide_eq_false hqw
def C73 (s:Str) (i:Nat):List PV:=match Q9 (s.drop i) with
 | none=>[F5 [],E2 0,D3 false]
 | some (w,k)=>[F5 w,E2 ((i+k:Nat):Int),D3 true]
theorem D57 (s:Str) (i:Nat) (hi:i≤s.length) (hs:s.length≤16777216):FnOk Tryz.prog 214 [F5 s,E2 i] (fun rs=>rs=C73 s i):=by
 refine FnOk.intro Tryz.func214 (by decide) Z Z Z Z ?_
 refine k2 ?_
 refine A3 (A2 (A5 Z Z) Z (A2 (A5 Z Z) Z (A2 (A5 Z Z) Z (A6 ?_))))
 refine k1 (k2 (k2 ?_))
 refine A3 (A2 (A4 Z Z) Z (A2 (D6 Z Z) Z (A2 (A4 Z Z) Z (A9 Z Z Z Z (fun hg=>by rw [hg];exact A4 Z Z) ?_))));refine A9 Z Z Z Z (fun hg=>by rw [hg];exact A4 Z Z) ?_;refine A9 Z Z Z Z (fun hg=>by rw [hg];exact D5 Z) ?_;refine A9 Z Z Z Z (fun hg=>by rw [hg];exact L9 Z Z) ?_;refine A2 (B4 Z (fun h=>by first | rfl | (rw [h];rfl)) (fun h=>by first | rfl | (rw [h];rfl))) Z ?_;refine A6 ?_
 refine k1 ?_
 refine B2 rfl (fun ht=>?_) (fun ht=>?_)
 ·exfalso;revert ht;simp only [or_pick];simp;omega
 refine k5 (k1 (k2 ?_))
 refine A3 (A2 (A4 Z Z) Z (A2 (A4 Z Z) Z (A2 (F6 Z) Z (C2 (P6 705 Z Z Z) Z (A2 (A5 Z Z) Z (A6 ?_))))))
 refine k1 (k2 ?_)
 refine A3 (A2 (A4 Z Z) Z (X3 (J07 s i hi hs) Z Z Z ?_));rintro _ _ ⟨w,b,j,rfl,rfl,hj,ho⟩;refine A2 (A4 Z Z) Z (A2 (B1 Z Z) Z (A2 (B1 Z Z) Z (A2 (A5 Z Z) Z (A2 (A5 Z Z) Z (A6 ?_)))))
 refine k1 (k2 (k2 ?_))
 refine A3 (A2 (A4 Z Z) Z (A2 (E4 Z) Z (A6 ?_)))
 refine k1 ?_
 cases hw:Q9 (s.drop i) with
 | none =>
  rw [hw] at ho
  have ho:b=false:=ho
  subst ho
  refine B2 rfl (fun ht=>?_) (fun ht=>?_)
  ·refine k2 ?_
   refine A3 (A2 (A5 Z Z) Z (A2 (A5 Z Z) Z (A2 (A5 Z Z) Z (A6 ?_))))
   refine k1 (k10 (k11 ?_))
   exact B5 (rs:=[F5 [],E2 0,D3 false]) (B40 rfl rfl rfl rfl rfl rfl rfl) (by unfold C73;rw [hw])
  ·cases ht
 | some q =>
  obtain ⟨w',k⟩:=q
  rw [hw] at ho
  obtain ⟨rfl,rfl,rfl⟩:=ho
  refine B2 rfl (fun ht=>?_) (fun ht=>?_)
  ·cases ht
  refine k5 (k1 (k2 ?_))
  refine C4 (by kernel_rfl) (by kernel_rfl) (A8 (A4 Z Z) Z Z (A8 (A4 Z Z) Z Z (A8 (B8 Z) Z Z (A8 (A7 Z) Z Z (A8 (B0 Z Z Z) Z Z (A8 (A5 Z Z) Z Z (A8 (A5 Z Z) Z Z (A8 (A5 Z Z) Z Z (H9 ?_)))))))))
  refine k1 (k10 ?_)
  exact B5 (rs:=[F5 w,E2 ((i+k:Nat):Int),D3 true]) (B40 rfl rfl rfl rfl rfl rfl rfl) (by unfold C73;rw [hw])
theorem I41 (s:Str) (i:Nat) (hs:s.length≤1073741824) (hi:i≤s.length):FnOk Tryz.prog 225 [F5 s,E2 i]
  (fun rs=>∃(x:Int) (b:Bool),rs=[.one (.v (.int .u8 x)),D3 b]∧match D27 s i with
   | some c=>b=true∧x=c.toNat
   | none=>b=false):=by
 refine FnOk.intro Tryz.func225 (by decide) Z Z Z Z ?_
 refine k2 ?_
 refine A3 (A2 (A5 Z Z) Z (A2 (A5 Z Z) Z (A6 ?_)))
 refine k1 (k2 ?_)
 refine A3 (A2 (A5 Z Z) Z (A6 ?_))
 refine k1 (k2 (k2 ?_))
 refine A3 (A2 (A4 Z Z) Z (A2 (A5 Z Z) Z (A6 ?_)))
 refine k1 (k3 ?_)
 refine D1 (X:=Nat) (fun q=>([(0,H4 s),(1,C3 i),(6,C3 (A37 s i q:Int)),(7,C3 ((i+q:Nat):Int))],[])) (fun q=>q≤3∧∀p,p < q→K7 s i p) (fun q=>3 - q) 0 ⟨by omega,by omega⟩ (J48 ⟨le1 rfl,le1 rfl,le1 rfl,le1 rfl,trivial⟩ trivial) ?_
 rintro q ⟨hq,hok⟩
 dsimp only at hq hok ⊢
 have hle:=G01 q hq hok
 have h8:A37 s i q≤512:=by rcases (show q=0∨q=1∨q=2∨q=3 by omega) with rfl | rfl | rfl | rfl<;>omega
 refine k2 (k2 ?_)
 refine A3 (A2 (A4 Z Z) Z (A2 (A4 Z Z) Z (A2 (C1 Z Z (by omega)) Z (A2 (D6 Z Z) Z (A6 ?_)))))
 refine k1 ?_
 refine B2 rfl (fun ht=>?_) (fun ht=>?_)
 ·have hlt:q < 3:=by have:=A0 ht;omega
  have hvv:i+q < s.length→s[i+q]?=some (s.getD (i+q) 0):=gD
  refine k5 (k1 (k2 (k3 (k2 (k2 ?_)))))
  refine A3 (A2 (A4 Z Z) Z (A2 (A4 Z Z) Z (A2 (D5 Z) Z (A2 (Z1 Z Z) Z (A2 (A4 Z Z) Z (A9 Z Z Z Z (fun hg=>by rw [hg];exact A4 Z Z) ?_))))));refine A9 Z Z Z Z (fun hg=>by rw [hg];exact A4 Z Z) ?_;refine A9 Z Z Z Z (fun hg=>by have hq:=hg;(try simp at hq);rw [hg];exact E9 Z Z (by omega) (hvv (by omega))) ?_;refine A9 Z Z Z Z (fun hg=>by rw [hg];exact D6 Z Z) ?_;refine A2 (B4 Z (fun h=>by first | rfl | (rw [h];rfl)) (fun h=>by first | rfl | (rw [h];rfl))) Z ?_;refine A2 (A4 Z Z) Z (A9 Z Z Z Z (fun hg=>by rw [hg];exact A4 Z Z) ?_);refine A9 Z Z Z Z (fun hg=>by rw [hg];exact A4 Z Z) ?_;refine A9 Z Z Z Z (fun hg=>by have hq:=hg;(try simp at hq);rw [hg];exact E9 Z Z (by omega) (hvv (by omega))) ?_;refine A9 Z Z Z Z (fun hg=>by rw [hg];exact L9 Z Z) ?_;refine A2 (B4 Z (fun h=>by first | rfl | (rw [h];rfl)) (fun h=>by first | rfl | (rw [h];rfl))) Z ?_;refine A6 ?_
  refine k1 ?_
  simp only [or_pick]
  have hsnd:decide ((((s.length:Int)≤((i+q:Nat):Int))∨((s.getD (i+q) 0).toNat:Int) < 48)∨(55:Int) < ((s.getD (i+q) 0).toNat:Int))=decide (¬K7 s i q):=by
   congr 1
   unfold K7 F48
   apply propext;constructor
   ·intro h1 h2;omega
   ·intro h1
    by_cases h3:i+q < s.length
    ·by_cases h4:48≤(s.getD (i+q) 0).toNat
     ·by_cases h5:(s.getD (i+q) 0).toNat≤55
      ·exact absurd ⟨h3,h4,h5⟩ h1
      ·exact .inr (by omega)
     ·exact .inl (.inr (by omega))
    ·exact .inl (.inl (by omega))
  rw [hsnd]
  refine B2 rfl (fun ht=>?_) (fun ht=>?_)
  ·have hbad:¬K7 s i q:=A0 ht
   refine k2 ?_
   refine A3 (A2 (A5 Z Z) Z (A2 (A5 Z Z) Z (A6 ?_)))
   refine k1 (k10 (k11 (k12 (k11 (k11 (k12 (k11 ?_)))))))
   refine B5 (rs:=[.one (.v (.int .u8 0)),D3 false]) (X2 rfl rfl rfl rfl rfl) ⟨0,false,rfl,?_⟩
   rw [B82 hlt hbad]
  ·have hgood:K7 s i q:=Decidable.not_not.1 (A1 ht)
   obtain ⟨g1,g2,g3⟩:=hgood
   have hgood:K7 s i q:=⟨g1,g2,g3⟩
   have hsub:=C70 (s.getD (i+q) 0).toNat g2 (by omega)
   refine k5 (k1 ?_)
   refine A3 (A2 (A4 Z Z) Z (A2 (F18 Z Z (by omega)) Z (A2 (A4 Z Z) Z (A2 (A4 Z Z) Z (A2 (E9 Z Z (by omega) (hvv g1)) Z (A2 (C47 Z Z) Z (A2 (I1 Z) Z (A2 (C1 Z Z (by (rw [hsub];omega))) Z ?_))))))));refine A2 (A5 Z Z) Z (A6 ?_)
   rw [hsub]
   refine k4 (k1 ?_)
   refine A3 (A2 (A4 Z Z) Z (A2 (C1 Z Z (by omega)) Z (A2 (A5 Z Z) Z (A6 ?_))))
   refine k1 ?_
   refine ⟨q+1,⟨by omega,fun p hp=>?_⟩,by omega,?_⟩
   ·by_cases hpq:p=q
    ·rw [hpq];exact hgood
    ·exact hok p (by omega)
   rw [show ((A37 s i (q+1):Nat):Int)=8*((A37 s i q:Nat):Int)+(((s.getD (i+q) 0).toNat - 48:Nat):Int) by simp only [A37];omega,show ((i+(q+1):Nat):Int)=((i+q:Nat):Int)+1 by omega]
   exact J48 ⟨le1 rfl,le1 rfl,le1 rfl,le1 rfl,trivial⟩ trivial
 ·have hq3:q=3:=by have:=A1 ht;omega
  subst hq3
  refine k6 (k2 ?_)
  refine A3 (A2 (A4 Z Z) Z (A2 (I1 Z) Z (A2 (A4 Z Z) Z (A2 (D6 Z Z) Z (A2 (A5 Z Z) Z (A2 (A5 Z Z) Z (A6 ?_)))))))
  refine k1 (k10 ?_)
  refine B5 (X2 rfl rfl rfl rfl rfl) ⟨_,_,rfl,?_⟩
  rw [G63 hok]
  by_cases hv:A37 s i 3 < 256
  ·rw [if_pos hv]
   refine ⟨decide_eq_true (by omega),?_⟩
   rw [UInt8.toNat_ofNat']
   have:∀n:Fin 256,IntKind.u8.wrap ((n.1:Nat):Int)=((n.1 % 2 ^ 8:Nat):Int):=by decide
   exact this ⟨_,hv⟩
  ·rw [if_neg hv]
   exact decide_eq_false (by omega)
theorem l6 {s:Str} {i:Nat} (h:Q9 (s.drop i)=none):C73 s i=[F5 [],E2 0,D3 false]:=by unfold C73;rw [h]
theorem C28 {s:Str} {i k:Nat} {w:Str} (h:Q9 (s.drop i)=some (w,k)):C73 s i=[F5 w,E2 ((i+k:Nat):Int),D3 true]:=by unfold C73;rw [h]
theorem F00 {s:Str} {i:Nat} (hlt:i < s.length) (h34:(s.getD i 0).toNat=34):Q9 (s.drop i)=match I0 s (i+1) [] with
  | none=>none
  | some (w,j)=>if H6 w=(s.drop i).take (j - i) then some (w,j - i) else none:=by
 unfold Q9
 rw [if_pos (head_drop.2 ⟨hlt,h34⟩),B55 s i s.length 1 [] (by omega)]
 cases I0 s (i+1) []<;>rfl
set_option maxHeartbeats 1000000
theorem G65 (s:Str) (i:Nat) (hs:s.length≤16777216):FnOk Tryz.prog 161 [F5 s,E2 i] (fun rs=>rs=C73 s i):=by
 refine FnOk.intro Tryz.func161 (by decide) Z Z Z Z ?_
 refine k2 ?_
 refine A3 (A2 (A5 Z Z) Z (A2 (A5 Z Z) Z (A2 (A5 Z Z) Z (A6 ?_))))
 refine k1 (k2 (k2 ?_))
 refine A3 (A2 (A4 Z Z) Z (A2 (D6 Z Z) Z (A2 (A4 Z Z) Z (A9 Z Z Z Z (fun hg=>by rw [hg];exact A4 Z Z) ?_))));refine A9 Z Z Z Z (fun hg=>by rw [hg];exact A4 Z Z) ?_;refine A9 Z Z Z Z (fun hg=>by rw [hg];exact D5 Z) ?_;refine A9 Z Z Z Z (fun hg=>by rw [hg];exact Z1 Z Z) ?_;refine A2 (B4 Z (fun h=>by first | rfl | (rw [h];rfl)) (fun h=>by first | rfl | (rw [h];rfl))) Z ?_;refine A6 ?_
 simp only [or_pick]
 refine k1 ?_
 refine B2 rfl (fun ht=>?_) (fun ht=>?_)
 ·have h1:s.length≤i:=by have:=A0 ht;omega
  refine k2 ?_
  refine A3 (A2 (A5 Z Z) Z (A2 (A5 Z Z) Z (A2 (A5 Z Z) Z (A6 ?_))))
  refine k1 (k10 (k11 ?_))
  refine B5 (rs:=[F5 [],E2 0,D3 false]) (B40 Z Z Z Z Z Z Z) ?_
  have:Q9 (s.drop i)=none:=by rw [J87 h1];rfl
  rw [l6 this]
 have hlt:i < s.length:=by have:=A1 ht;omega
 obtain ⟨c0,hc0⟩:∃c0,c0=s.getD i 0:=⟨_,rfl⟩
 have hv0:s[i]?=some c0:=by rw [hc0];exact gD hlt
 refine k5 (k1 (k2 ?_))
 refine A3 (A2 (A4 Z Z) Z (A2 (A5 Z Z) Z (A6 ?_)))
 refine k1 (k2 (k2 ?_))
 refine A3 (A2 (A4 Z Z) Z (A2 (A4 Z Z) Z (A2 (E9 Z Z (by omega) hv0) Z (A2 (L4 Z Z) Z (A6 ?_)))))
 refine k1 ?_
 refine B2 rfl (fun ht=>?_) (fun ht=>?_)
 ·have h34:¬(s.getD i 0).toNat=34:=by have h:¬(c0.toNat:Int)=34:=A0 ht;rw [←hc0];omega
  obtain ⟨w,hw⟩:∃w,w=(s.drop i).takeWhile N4:=⟨_,rfl⟩
  have hl:=B02 (p:=N4) s i
  rw [←hw] at hl
  have hW:Q9 (s.drop i)=if w=[] then none else some (w,w.length):=by
   unfold Q9
   rw [if_neg (fun h=>h34 (head_drop.1 h).2),←hw]
  refine k2 (k3 ?_)
  refine D1 (X:=Nat) (fun k=>([(0,H4 s),(1,C3 i),(7,C3 ((i+k:Nat):Int))],[])) (fun k=>k≤w.length) (fun k=>w.length - k) 0 (Nat.zero_le _) (J48 ⟨le1 rfl,le1 rfl,le1 rfl,trivial⟩ trivial) ?_
  intro k hk
  dsimp only at hk ⊢
  have hrun:=p8 (p:=N4) (s.drop i) k (by rw [←hw];exact hk)
  rw [←hw,J99] at hrun
  obtain ⟨c,hc⟩:∃c,c=s.getD (i+k) 0:=⟨_,rfl⟩
  have hv:i+k < s.length→s[i+k]?=some c:=fun h=>by rw [hc];exact gD h
  have hrun2:(if decide (((i+k:Nat):Int) < (s.length:Int))=true then N4 c else false)=decide (k < w.length):=by
   rw [←hrun]
   by_cases hlt:i+k < s.length
   ·rw [hv hlt,if_pos (decide_eq_true (by omega))]
   ·rw [K01 (by omega),if_neg (by simp;omega)]
  refine k2 (k2 ?_)
  refine A3 (A2 (A4 Z Z) Z (A2 (A4 Z Z) Z (A2 (D5 Z) Z (A2 (D6 Z Z) Z (A2 (A4 Z Z) Z (A9 Z Z Z Z (fun hg=>by rw [hg];exact A4 Z Z) ?_))))));refine A9 Z Z Z Z (fun hg=>by rw [hg];exact A4 Z Z) ?_;refine A9 Z Z Z Z (fun hg=>by have hq:=hg;(try simp at hq);rw [hg];exact E9 Z Z (by omega) (hv (by omega))) ?_;refine A9 Z Z Z Z (fun hg=>by have hq:=hg;(try simp at hq);rw [hg];exact G7 (F41 c) Z Z) ?_;refine A2 (B4 Z (fun h=>by first | rfl | (rw [h];rfl)) (fun h=>by first | rfl | (rw [h];rfl))) Z ?_;refine A6 ?_
  rw [hrun2]
  refine k1 ?_
  refine B2 rfl (fun ht=>?_) (fun ht=>?_)
  ·have hlt:=A0 ht
   refine k5 (k1 (k3 ?_))
   refine A3 (A2 (A4 Z Z) Z (A2 (C1 Z Z (by omega)) Z (A2 (A5 Z Z) Z (A6 ?_))))
   refine k4 (k1 ?_)
   exact ⟨k+1,hlt,by omega,J48 ⟨le1 rfl,le1 rfl,le1 rfl,trivial⟩ trivial⟩
  ·have hk2:k=w.length:=by have:=A1 ht;omega
   subst hk2
   refine k6 (k2 (k2 ?_))
   refine A3 (A2 (A4 Z Z) Z (A2 (A4 Z Z) Z (A2 (F1 Z Z) Z (A6 ?_))))
   refine k1 ?_
   refine B2 rfl (fun ht=>?_) (fun ht=>?_)
   ·have h0:w=[]:=List.length_eq_zero_iff.1 (by have:=A0 ht;omega)
    refine k2 ?_
    refine A3 (A2 (A5 Z Z) Z (A2 (A5 Z Z) Z (A2 (A5 Z Z) Z (A6 ?_))))
    refine k1 (k10 (k11 (k11 ?_)))
    refine B5 (rs:=[F5 [],E2 0,D3 false]) (B40 Z Z Z Z Z Z Z) ?_
    rw [l6 (by rw [hW,if_pos h0])]
   ·have h0:w≠[]:=fun e=>by have:=A1 ht;rw [e] at this;simp at this
    have hww:(s.drop i).take (i+w.length - i)=w:=by rw [Nat.add_sub_cancel_left,hw];exact p9 _
    refine k5 (k1 (k2 ?_))
    refine A3 (A2 (A4 Z Z) Z (A2 (A4 Z Z) Z (A2 (A4 Z Z) Z (A2 (S5 Z Z Z (by omega) (by omega) (by omega)) Z (A2 (A4 Z Z) Z (A2 (A5 Z Z) Z (A2 (A5 Z Z) Z (A2 (A5 Z Z) Z (A6 ?_)))))))))
    rw [J83,J83,hww]
    refine k1 (k10 (k11 ?_))
    refine B5 (rs:=[F5 w,E2 ((i+w.length:Nat):Int),D3 true]) (B40 Z Z Z Z Z Z Z) ?_
    rw [C28 (by rw [hW,if_neg h0])]
 have h34:(s.getD i 0).toNat=34:=by
  have h:(c0.toNat:Int)=34:=Decidable.not_not.1 (A1 ht)
  rw [←hc0];omega
 have hW:=F00 hlt h34
 refine k5 (k1 (k2 ?_))
 refine A3 (C2 (V3 30 _ u8C Z) Z (A6 ?_))
 refine k1 (k2 ?_)
 refine A3 (A2 (A4 Z Z) Z (A2 (C1 Z Z (by omega)) Z (A2 (A5 Z Z) Z (A6 ?_))))
 refine k1 (k2 (k3 ?_))
 refine D1 (X:=Nat × Str) (fun z=>([(0,H4 s),(1,C3 i),(7,C3 (z.1:Int)),(8,.s (.one (.buf 30 UInt8 1 u8C z.2)))],[(30,.spare z.2.length 1 5)])) (fun z=>z.1≤s.length∧z.2.length≤z.1∧i < z.1∧I0 s z.1 z.2=I0 s (i+1) []) (fun z=>s.length - z.1) (i+1,[]) ⟨hlt,Nat.zero_le _,by dsimp only;omega,rfl⟩ (J48 ⟨le1 rfl,le1 rfl,le1 rfl,le1 rfl,trivial⟩ ⟨rfl,trivial⟩) ?_
 rintro ⟨p,acc⟩ ⟨hp,hal,hip,hgo⟩
 dsimp only at hp hal hip hgo ⊢
 obtain ⟨c,hc⟩:∃c,c=s.getD p 0:=⟨_,rfl⟩
 have hv:p < s.length→s[p]?=some c:=fun h=>by rw [hc];exact gD h
 refine k2 (k2 ?_)
 refine A3 (A2 (A4 Z Z) Z (A2 (A4 Z Z) Z (A2 (D5 Z) Z (A2 (D6 Z Z) Z (A2 (A4 Z Z) Z (A9 Z Z Z Z (fun hg=>by rw [hg];exact A4 Z Z) ?_))))));refine A9 Z Z Z Z (fun hg=>by rw [hg];exact A4 Z Z) ?_;refine A9 Z Z Z Z (fun hg=>by have hq:=hg;(try simp at hq);rw [hg];exact E9 Z Z (by omega) (hv (by omega))) ?_;refine A9 Z Z Z Z (fun hg=>by rw [hg];exact L4 Z Z) ?_;refine A2 (B4 Z (fun h=>by first | rfl | (rw [h];rfl)) (fun h=>by first | rfl | (rw [h];rfl))) Z ?_;refine A6 ?_
 simp only [I3]
 refine k1 ?_
 refine B2 rfl (fun ht=>?_) (fun ht=>?_)
 ·have hh:=A0 ht
  have hpl:p < s.length:=by omega
  have hn34:¬c.toNat=34:=by omega
  rw [y9 hpl,←hc,if_neg hn34] at hgo
  refine k5 (k1 (k3 (k2 (k2 ?_))))
  refine A3 (A2 (A4 Z Z) Z (A2 (A4 Z Z) Z (A2 (E9 Z Z (by omega) (hv hpl)) Z (A2 (L4 Z Z) Z (A6 ?_)))))
  refine k1 ?_
  refine B2 rfl (fun ht=>?_) (fun ht=>?_)
  ·have h92:¬c.toNat=92:=by have h:¬(c.toNat:Int)=92:=A0 ht;omega
   rw [if_neg h92] at hgo
   refine k2 ?_
   refine A3 (A2 (A4 Z Z) Z (A2 (A4 Z Z) Z (A2 (A4 Z Z) Z (A2 (E9 Z Z (by omega) (hv hpl)) Z (A2 (C6 (c:=u8C) (ys:=[c]) (D8 Z Z Z Z F0) Z Z Z) Z (C2 (F9 Z Z Z (.pure _ _ _ _) (by (simp;omega)) Z) Z (A2 (A5 Z Z) Z (A6 ?_))))))))
   refine k1 (k2 ?_)
   refine A3 (A2 (A4 Z Z) Z (A2 (C1 Z Z (by omega)) Z (A2 (A5 Z Z) Z (A6 ?_))))
   refine k1 (k6 (k7 (k8 Z (k1 ?_))))
   exact ⟨(p+1,acc++[c]),⟨hpl,by simp;omega,by dsimp only;omega,hgo⟩,by dsimp only;omega,J48 ⟨le1 rfl,le1 rfl,le1 rfl,le1 rfl,trivial⟩ ⟨rfl,trivial⟩⟩
  have h92:c.toNat=92:=by have h:(c.toNat:Int)=92:=Decidable.not_not.1 (A1 ht);omega
  rw [if_pos h92] at hgo
  refine k5 (k1 (k2 (k2 ?_)))
  refine A3 (A2 (A4 Z Z) Z (A2 (C1 Z Z (by omega)) Z (A2 (A4 Z Z) Z (A2 (D5 Z) Z (A2 (F1 Z Z) Z (A6 ?_))))))
  refine k1 ?_
  refine B2 rfl (fun ht=>?_) (fun ht=>?_)
  ·have he:s.length≤p+1:=by have:=A0 ht;omega
   have hE:D28 s (p+1)=none:=by unfold D28;rw [if_neg (by omega)]
   rw [hE] at hgo
   refine k2 ?_
   refine A3 (A2 (A5 Z Z) Z (A2 (A5 Z Z) Z (A2 (A5 Z Z) Z (A6 ?_))))
   refine k1 (k10 (k11 (k12 (k11 (k12 (k11 ?_))))))
   refine B5 (rs:=[F5 [],E2 0,D3 false]) (B40 Z Z Z Z Z Z Z) ?_
   rw [l6 (by rw [hW,←hgo];rfl)]
  have hp1:p+1 < s.length:=by have:=A1 ht;omega
  obtain ⟨d,hd⟩:∃d,d=s.getD (p+1) 0:=⟨_,rfl⟩
  have hvd:s[p+1]?=some d:=by rw [hd];exact gD hp1
  have hE:D28 s (p+1)=(if d.toNat=34∨d.toNat=92 then some (d,p+1+1) else if d.toNat=110 then some (10,p+1+1) else if d.toNat=116 then some (9,p+1+1) else (D27 s (p+1)).map fun x=>(x,p+1+3)):=by unfold D28;rw [if_pos hp1,←hd]
  refine k5 (k1 (k2 ?_))
  refine A3 (A2 (A4 Z Z) Z (A2 (A4 Z Z) Z (A2 (C1 Z Z (by omega)) Z (A2 (E9 Z Z (by omega) hvd) Z (A6 ?_)))))
  refine k1 (k3 (k2 (k2 ?_)))
  refine A3 (A2 (F1 Z Z) Z (A2 (A5 Z Z) Z (A6 ?_)))
  refine k1 ?_
  refine B2 rfl (fun ht=>?_) (fun ht=>?_)
  ·have hx:(d.toNat:Int)=34:=A0 ht
   have h1:d.toNat=34∨d.toNat=92:=by omega
   rw [hE,if_pos h1] at hgo
   have hgo:I0 s (p+1+1) (acc++[d])=I0 s (i+1) []:=hgo
   refine k5 (k1 ?_)
   refine B2 rfl (fun ht=>?_) (fun ht=>?_)
   rotate_left
   ·exact absurd hx (A1 ht)
   refine k2 ?_
   refine A3 (A2 (A4 Z Z) Z (A2 (A4 Z Z) Z (A2 (A4 Z Z) Z (A2 (C1 Z Z (by omega)) Z (A2 (E9 Z Z (by omega) hvd) Z (A2 (C6 (c:=u8C) (ys:=[d]) (D8 Z Z Z Z F0) Z Z Z) Z (C2 (F9 Z Z Z (.pure _ _ _ _) (by (simp;omega)) Z) Z (A2 (A5 Z Z) Z (A6 ?_)))))))))
   refine k1 ?_
   refine A3 (A2 (A4 Z Z) Z (A2 (C1 Z Z (by omega)) Z (A2 (A5 Z Z) Z (A6 ?_))))
   refine k4 (k4 (k1 ?_))
   exact ⟨(p+1+1,acc++[d]),⟨by dsimp only;omega,by simp;omega,by dsimp only;omega,hgo⟩,by dsimp only;omega,J48 ⟨le1 rfl,le1 rfl,le1 rfl,le1 rfl,trivial⟩ ⟨rfl,trivial⟩⟩
  have hx:¬(d.toNat:Int)=34:=A1 ht
  skip
  refine A3 (A2 (F1 Z Z) Z (A2 (A5 Z Z) Z (A6 ?_)))
  refine k1 ?_
  refine B2 rfl (fun ht=>?_) (fun ht=>?_)
  ·have hy:(d.toNat:Int)=92:=A0 ht
   have h1:d.toNat=34∨d.toNat=92:=by omega
   rw [hE,if_pos h1] at hgo
   have hgo:I0 s (p+1+1) (acc++[d])=I0 s (i+1) []:=hgo
   refine k2 ?_
   refine A3 (A2 (A4 Z Z) Z (A2 (A4 Z Z) Z (A2 (A4 Z Z) Z (A2 (C1 Z Z (by omega)) Z (A2 (E9 Z Z (by omega) hvd) Z (A2 (C6 (c:=u8C) (ys:=[d]) (D8 Z Z Z Z F0) Z Z Z) Z (C2 (F9 Z Z Z (.pure _ _ _ _) (by (simp;omega)) Z) Z (A2 (A5 Z Z) Z (A6 ?_)))))))))
   refine k1 ?_
   refine A3 (A2 (A4 Z Z) Z (A2 (C1 Z Z (by omega)) Z (A2 (A5 Z Z) Z (A6 ?_))))
   refine k4 (k4 (k1 ?_))
   exact ⟨(p+1+1,acc++[d]),⟨by dsimp only;omega,by simp;omega,by dsimp only;omega,hgo⟩,by dsimp only;omega,J48 ⟨le1 rfl,le1 rfl,le1 rfl,le1 rfl,trivial⟩ ⟨rfl,trivial⟩⟩
  have hy:¬(d.toNat:Int)=92:=A1 ht
  have h1:¬(d.toNat=34∨d.toNat=92):=by omega
  rw [if_neg h1] at hE
  refine k2 ?_
  refine A3 (A2 (F1 Z Z) Z (A2 (A5 Z Z) Z (A6 ?_)))
  refine k1 ?_
  refine B2 rfl (fun ht=>?_) (fun ht=>?_)
  ·have h2:(d.toNat:Int)=110:=A0 ht
   rw [hE,if_pos (by omega)] at hgo
   have hgo:I0 s (p+1+1) (acc++[10])=I0 s (i+1) []:=hgo
   refine k2 ?_
   refine A3 (A2 (A4 Z Z) Z (A2 (C6 (c:=u8C) (ys:=[10]) (D8 Z Z Z Z F0) Z Z Z) Z (C2 (F9 Z Z Z (.pure _ _ _ _) (by (simp;omega)) Z) Z (A2 (A5 Z Z) Z (A6 ?_)))))
   refine k1 ?_
   refine A3 (A2 (A4 Z Z) Z (A2 (C1 Z Z (by omega)) Z (A2 (A5 Z Z) Z (A6 ?_))))
   refine k4 (k4 (k1 ?_))
   exact ⟨(p+1+1,acc++[10]),⟨by dsimp only;omega,by simp;omega,by dsimp only;omega,hgo⟩,by dsimp only;omega,J48 ⟨le1 rfl,le1 rfl,le1 rfl,le1 rfl,trivial⟩ ⟨rfl,trivial⟩⟩
  have h2:¬(d.toNat:Int)=110:=A1 ht
  rw [if_neg (by omega)] at hE
  refine k2 ?_
  refine A3 (A2 (F1 Z Z) Z (A2 (A5 Z Z) Z (A6 ?_)))
  refine k1 ?_
  refine B2 rfl (fun ht=>?_) (fun ht=>?_)
  ·have h3:(d.toNat:Int)=116:=A0 ht
   rw [hE,if_pos (by omega)] at hgo
   have hgo:I0 s (p+1+1) (acc++[9])=I0 s (i+1) []:=hgo
   refine k2 ?_
   refine A3 (A2 (A4 Z Z) Z (A2 (C6 (c:=u8C) (ys:=[9]) (D8 Z Z Z Z F0) Z Z Z) Z (C2 (F9 Z Z Z (.pure _ _ _ _) (by (simp;omega)) Z) Z (A2 (A5 Z Z) Z (A6 ?_)))))
   refine k1 ?_
   refine A3 (A2 (A4 Z Z) Z (A2 (C1 Z Z (by omega)) Z (A2 (A5 Z Z) Z (A6 ?_))))
   refine k4 (k4 (k1 ?_))
   exact ⟨(p+1+1,acc++[9]),⟨by dsimp only;omega,by simp;omega,by dsimp only;omega,hgo⟩,by dsimp only;omega,J48 ⟨le1 rfl,le1 rfl,le1 rfl,le1 rfl,trivial⟩ ⟨rfl,trivial⟩⟩
  have h3:¬(d.toNat:Int)=116:=A1 ht
  rw [if_neg (by omega)] at hE
  refine k2 ?_
  refine A3 (A2 (A4 Z Z) Z (A2 (A4 Z Z) Z (A2 (C1 Z Z (by omega)) Z (B9 (I41 s (p+1) (by omega) (by omega)) Z Z Z ?_))));rintro _ ⟨x,b,rfl,ho⟩;refine A2 (A4 Z Z) Z (A2 (B1 Z Z) Z (A2 (B1 Z Z) Z (A2 (A5 Z Z) Z (A2 (A5 Z Z) Z (A6 ?_)))))
  refine k1 (k2 (k2 ?_))
  refine A3 (A2 (A4 Z Z) Z (A2 (E4 Z) Z (A6 ?_)))
  refine k1 ?_
  cases hoc:D27 s (p+1) with
  | none =>
   rw [hoc] at ho hE
   have ho:b=false:=ho
   subst ho
   rw [hE] at hgo
   refine B2 rfl (fun ht=>?_) (fun ht=>?_)
   ·refine k2 ?_
    refine A3 (A2 (A5 Z Z) Z (A2 (A5 Z Z) Z (A2 (A5 Z Z) Z (A6 ?_))))
    refine k1 (k10 (k11 (k12 (k12 (k11 (k12 (k11 ?_)))))))
    refine B5 (rs:=[F5 [],E2 0,D3 false]) (B40 Z Z Z Z Z Z Z) ?_
    rw [l6 (by rw [hW,←hgo];rfl)]
   ·cases ht
  | some y =>
   rw [hoc] at ho hE
   obtain ⟨rfl,rfl⟩:=ho
   have hle:=I13 hE
   rw [hE] at hgo
   have hgo:I0 s (p+1+3) (acc++[y])=I0 s (i+1) []:=hgo
   refine B2 rfl (fun ht=>?_) (fun ht=>?_)
   ·cases ht
   refine k5 (k1 (k2 ?_))
   refine A3 (A2 (A4 Z Z) Z (A2 (A4 Z Z) Z (A2 (C6 (c:=u8C) (ys:=[y]) (D8 Z Z Z Z F0) Z Z Z) Z (C2 (F9 Z Z Z (.pure _ _ _ _) (by (simp;omega)) Z) Z (A2 (A5 Z Z) Z (A6 ?_))))))
   refine k1 ?_
   refine A3 (A2 (A4 Z Z) Z (A2 (C1 Z Z (by omega)) Z (A2 (A5 Z Z) Z (A6 ?_))))
   refine k4 (k4 (k1 ?_))
   exact ⟨(p+1+3,acc++[y]),⟨by dsimp only;omega,by simp;omega,by dsimp only;omega,hgo⟩,by dsimp only;omega,J48 ⟨le1 rfl,le1 rfl,le1 rfl,le1 rfl,trivial⟩ ⟨rfl,trivial⟩⟩
 ·have hh:=A1 ht
  have htk:(s.drop i).take (((p:Int)+1).toNat - i)=(s.drop i).take (p+1 - i):=rfl
  refine k6 (k2 (k2 ?_))
  refine C4 (by kernel_rfl) (by kernel_rfl) (A8 (A4 Z Z) Z Z (A8 (A4 Z Z) Z Z (A8 (D5 Z) Z Z (A8 (Z1 Z Z) Z Z (A8 (A4 Z Z) Z Z (C5 Z Z (fun hg=>by rw [hg];exact A4 Z Z) Z Z ?_))))));refine C5 Z Z (fun hg=>by rw [hg];exact M4 TyStr.out Z (.buf _ _ _ _ _)) Z Z ?_;refine C5 Z Z (fun hg=>by have hq:=hg;(try simp at hq);rw [hg];exact G7 (F44 acc (by omega)) Z Z) Z Z ?_;refine C5 Z Z (fun hg=>by rw [hg];exact A4 Z Z) Z Z ?_;refine C5 Z Z (fun hg=>by rw [hg];exact A4 Z Z) Z Z ?_;refine C5 Z Z (fun hg=>by rw [hg];exact A4 Z Z) Z Z ?_;refine C5 Z Z (fun hg=>by have hq:=hg;(try simp at hq);rw [hg];exact C1 Z Z (by omega)) Z Z ?_;refine C5 Z Z (fun hg=>by have hq:=hg;(try simp at hq);rw [hg];exact S5 Z Z Z (by omega) (by omega) (by omega)) Z Z ?_;refine C5 Z Z (fun hg=>by rw [hg];exact j4 Z Z) Z Z ?_;refine A8 (B4 Z (fun h=>by first | rfl | (rw [h];rfl)) (fun h=>by first | rfl | (rw [h];rfl))) Z Z ?_;refine H9 ?_
  simp only [or_pick]
  rw [J83,htk]
  refine k1 ?_
  by_cases hpl:p < s.length
  ·have hc34:c.toNat=34:=by
    by_cases h:c.toNat=34
    ·exact h
    ·exact absurd ⟨by omega,by omega⟩ hh
   rw [y9 hpl,←hc,if_pos hc34] at hgo
   rw [←hgo] at hW
   have hW:Q9 (s.drop i)=if H6 acc=(s.drop i).take (p+1 - i) then some (acc,p+1 - i) else none:=hW
   refine B2 rfl (fun ht=>?_) (fun ht=>?_)
   ·have h1:¬H6 acc=(s.drop i).take (p+1 - i):=by
     rcases A0 ht with h | h
     ·omega
     ·exact h
    refine k2 ?_
    refine A3 (A2 (A5 Z Z) Z (A2 (A5 Z Z) Z (A2 (A5 Z Z) Z (A6 ?_))))
    refine k1 (k10 (k11 ?_))
    refine B5 (rs:=[F5 [],E2 0,D3 false]) (B40 Z Z Z Z Z Z Z) ?_
    rw [l6 (by rw [hW,if_neg h1])]
   ·have h1:H6 acc=(s.drop i).take (p+1 - i):=Decidable.not_not.1 fun h=>A1 ht (.inr h)
    refine k5 (k1 (k2 ?_))
    refine A3 (A2 (A4 Z Z) Z (A2 (M4 TyStr.out Z (.buf _ _ _ _ _)) Z (A2 (A4 Z Z) Z (A2 (C1 Z Z (by omega)) Z (A2 (A5 Z Z) Z (A2 (A5 Z Z) Z (A2 (A5 Z Z) Z (A6 ?_))))))))
    refine k1 (k10 ?_)
    refine B5 (rs:=[F5 acc,E2 ((p:Int)+1),D3 true]) (B40 Z Z Z Z Z Z Z) ?_
    rw [C28 (k:=p+1 - i) (by rw [hW,if_pos h1]),show ((i+(p+1 - i):Nat):Int)=(p:Int)+1 by omega]
  ·rw [x3 (by omega)] at hgo
   rw [←hgo] at hW
   refine B2 rfl (fun ht=>?_) (fun ht=>?_)
   rotate_left
   ·exact absurd (.inl (by omega)) (A1 ht)
   refine k2 ?_
   refine A3 (A2 (A5 Z Z) Z (A2 (A5 Z Z) Z (A2 (A5 Z Z) Z (A6 ?_))))
   refine k1 (k10 (k11 ?_))
   refine B5 (rs:=[F5 [],E2 0,D3 false]) (B40 Z Z Z Z Z Z Z) ?_
   rw [l6 (by rw [hW])]
theorem F49 (s:Str) (c:UInt8):FnOk Tryz.prog 196 [F5 s,F5 [c]] (fun rs=>rs=[E2 (s.count c)]) :=
 J55 (xs:=[.string ⟨s.toArray⟩,.string ⟨#[c]⟩]) ⟨_,rfl,rfl,rfl⟩ rfl fun w=>by simpa [Lib.countByte] using Tryz.strings_Count_one ⟨s.toArray⟩ c w
theorem F50 (s:Str) (c:UInt8):FnOk Tryz.prog 247 [F5 s,F5 [c]] (fun rs=>rs=[E2 (Lib.indexByte s c)]) :=
 J55 (xs:=[.string ⟨s.toArray⟩,.string ⟨#[c]⟩]) ⟨_,rfl,rfl,rfl⟩ rfl fun w=>by simpa using Tryz.strings_Index_one ⟨s.toArray⟩ c w
def Z4 (r:Str):List Str:=(D2 (r++[10])).map List.dropLast
theorem J08 {a b:Str} (h:(10:UInt8)∉a):Z4 (a++10::b)=a::Z4 b:=by
 unfold Z4 D2
 rw [J89,K08,B20 _ _ _ h];simp
theorem I42 {r:Str} (h:(10:UInt8)∉r):Z4 r=[r]:=by
 unfold Z4 D2
 rw [B20 _ _ _ h];simp [G2]
theorem C29 (r:Str):(Z4 r).length=r.count 10+1:=by
 unfold Z4
 rw [K10,F14,K26,D45];simp
theorem I43 {P:List Str} {i:Nat} {r a b:Str} (h:P.drop i=Z4 r) (hr:r=a++10::b) (ha:(10:UInt8)∉a):P[i]?=some a∧P.drop (i+1)=Z4 b:=by
 have e:Z4 r=a::Z4 b:=by rw [hr,J08 ha]
 rw [e] at h
 refine ⟨by rw [←List.head?_drop,h];rfl,?_⟩
 rw [←List.tail_drop,h];rfl
theorem D58 {s:Str} (h:s≠[]):c9 s=if ended s=true then some (Z4 s.dropLast) else none:=by
 unfold c9
 rw [if_neg h]
 by_cases he:ended s=true
 ·rw [if_pos he,if_pos he]
  obtain ⟨a,rfl⟩:=ended_iff.1 he
  rw [List.dropLast_concat];rfl
 ·rw [if_neg he,if_neg he]
theorem G02 (s:Str) (hs:s.length≤536870912):FnOk Tryz.prog 197 [F5 s,F5 [10],E2 0,E2 (-1)] (fun rs=>rs=[c5 (Z4 s)]):=by
 have hP:=C29 s
 have hc:s.count 10≤s.length:=List.count_le_length
 have h10:([10]:Str).length=1:=rfl
 obtain ⟨P,hPe⟩:∃P,P=Z4 s:=⟨_,rfl⟩
 have hPl:P.length=s.count 10+1:=by rw [hPe];exact hP
 refine FnOk.intro Tryz.func197 (by decide) Z Z Z Z ?_
 refine k2 ?_
 refine A3 (A2 (A5 Z Z) Z (A6 ?_))
 refine k1 (k2 (k2 ?_))
 refine A3 (A2 (A4 Z Z) Z (A2 (F1 Z Z) Z (A6 ?_)))
 refine k1 ?_
 refine B2 rfl (fun ht=>?_) (fun ht=>?_)
 ·exact absurd (A0 ht) (by omega)
 refine k5 (k1 (k2 (k2 ?_)))
 refine A3 (A2 (A4 Z Z) Z (A2 (V1 Z Z) Z (A6 ?_)))
 refine k1 ?_
 refine B2 rfl (fun ht=>?_) (fun ht=>?_)
 ·exact absurd (A0 ht) (by simp)
 refine k5 (k1 (k2 (k2 ?_)))
 refine A3 (A2 (A4 Z Z) Z (A2 (D6 Z Z) Z (A6 ?_)))
 refine k1 ?_
 refine B2 rfl (fun ht=>?_) (fun ht=>?_)
 rotate_left
 ·exact absurd (A1 ht) (by omega)
 skip
 refine A3 (A2 (A4 Z Z) Z (A2 (A4 Z Z) Z (B9 (F49 s 10) Z Z Z ?_)));rintro _ rfl;refine A2 (C1 Z Z (by omega)) Z (A2 (A5 Z Z) Z (A6 ?_))
 refine k1 (k2 ?_)
 refine A3 (A2 (A4 Z Z) Z (A2 (A4 Z Z) Z (A2 (D5 Z) Z (A2 (C1 Z Z (by omega)) Z (A2 (F22 Z Z) Z (A2 (A5 Z Z) Z (A6 ?_)))))))
 refine k1 (k2 ?_)
 rw [show (if (s.length:Int)+1 < (s.count 10:Int)+1 then (s.length:Int)+1 else (s.count 10:Int)+1)=(P.length:Int) from by split<;>omega]
 refine A3 (A2 (A4 Z Z) Z (C2 (o7 9 Str J5 [] Z Z (by omega) (by omega) (fun _=>by first | exact ⟨⟨rfl,rfl⟩,trivial⟩ | exact ⟨P4 _ _ _,trivial⟩) (by first | rfl | (simp [H3,J8,Ob.free,SV.free,S1.free,TC.free]<;>rfl))) Z ?_));refine A2 (A5 Z Z) Z (A6 ?_)
 refine k1 (k2 ?_)
 refine A3 (A2 (A4 Z Z) Z (A2 (P5 Z Z (by omega)) Z (A2 (A5 Z Z) Z (A6 ?_))))
 refine k1 (k2 ?_)
 refine A3 (A2 (A5 Z Z) Z (A6 ?_))
 refine k1 (k2 (k3 ?_))
 refine D1 (X:=Nat × Str) (fun x=>([(0,H4 x.2),(1,H4 [10]),(2,C3 0),(3,C3 ((P.length:Int) - 1)),(9,.s (.one (.mut 9))),(10,C3 x.1)],[(9,.arr Str 1 J5 (P.take x.1++List.replicate (P.length - x.1) []))])) (fun x=>x.1+1≤P.length∧P.drop x.1=Z4 x.2∧x.2.length≤s.length) (fun x=>P.length - x.1) (0,s) ⟨by dsimp only;omega,hPe,Nat.le_refl _⟩ (J48 ⟨le1 rfl,le1 rfl,le1 rfl,le1 rfl,le1 rfl,le1 rfl,trivial⟩ ⟨rfl,trivial⟩) ?_
 rintro ⟨i,r⟩ ⟨hi,hp,hr⟩
 dsimp only at hi hp hr ⊢
 refine k2 (k2 ?_)
 refine A3 (A2 (A4 Z Z) Z (A2 (A4 Z Z) Z (A2 (D6 Z Z) Z (A6 ?_))))
 refine k1 ?_
 refine B2 rfl (fun ht=>?_) (fun ht=>?_)
 ·have hlt:i+1 < P.length:=by have:=A0 ht;omega
  have hin:(10:UInt8)∈r:=by
   have h1:=C29 r
   have h2:(P.drop i).length=r.count 10+1:=by rw [hp];exact h1
   rw [J88] at h2
   exact List.count_pos_iff.1 (by omega)
  rcases j6 10 r with ⟨h1,_⟩ | ⟨a,b,h1,h2,h3⟩
  ·exact absurd hin h1
  obtain ⟨h4,h5⟩:=I43 hp h1 h2
  have hl:r.length=a.length+1+b.length:=by rw [h1];simp;omega
  refine k5 (k1 (k3 (k2 ?_)))
  refine A3 (A2 (A4 Z Z) Z (A2 (A4 Z Z) Z (B9 (F50 r 10) Z Z Z ?_)));rintro _ rfl;refine A2 (A5 Z Z) Z (A6 ?_)
  refine k1 (k2 (k2 ?_))
  refine A3 (A2 (A4 Z Z) Z (A2 (D6 Z Z) Z (A6 ?_)))
  refine k1 ?_
  rw [h3]
  refine B2 rfl (fun ht=>?_) (fun ht=>?_)
  ·exact absurd (A0 ht) (by omega)
  refine k5 (k1 (k2 ?_))
  refine A3 (A2 (A4 Z Z) Z (A2 (A4 Z Z) Z (A2 (A4 Z Z) Z (A2 (A4 Z Z) Z (A2 (A4 Z Z) Z (A2 (C1 Z Z (by omega)) Z (A2 (j5 Z Z (by omega) (by omega)) Z (A2 (E8 Z Z Z (by omega) (by (simp;omega))) Z (E3 (I2 TySz.out Z Z (by simp;omega) Z Z) (A6 ?_))))))))))
  refine k1 (k2 ?_)
  refine A3 (A2 (A4 Z Z) Z (A2 (A4 Z Z) Z (A2 (A4 Z Z) Z (A2 (D5 Z) Z (A2 (C1 Z Z (by omega)) Z (A2 (V2 Z Z (by omega) (by omega)) Z (A2 (A5 Z Z) Z (A6 ?_))))))))
  refine k1 ?_
  refine A3 (A2 (A4 Z Z) Z (A2 (C1 Z Z (by omega)) Z (A2 (A5 Z Z) Z (A6 ?_))))
  refine k4 (k1 ?_)
  have e1:r.take (((a.length:Int)+0).toNat)=a:=by rw [h1,show ((a.length:Int)+0).toNat=a.length by omega,List.take_left]
  have e2:r.drop (((a.length:Int)+(([10]:Str).length:Int)).toNat)=b:=by rw [h1,h10,show ((a.length:Int)+((1:Nat):Int)).toNat=a.length+1 by omega,show a++10::b=(a++[10])++b by simp,List.drop_left' (by simp)]
  refine ⟨(i+1,b),⟨by dsimp only;omega,h5,by dsimp only;omega⟩,by dsimp only;omega,?_⟩
  rw [e1,e2]
  dsimp only
  rw [←B89 P [] _ i h4]
  exact J48 ⟨le1 rfl,le1 rfl,le1 rfl,le1 rfl,le1 rfl,le1 rfl,trivial⟩ ⟨rfl,trivial⟩
 ·have hge:i+1=P.length:=by have:=A1 ht;omega
  have h1:=C29 r
  have h2:(P.drop i).length=r.count 10+1:=by rw [hp];exact h1
  rw [J88] at h2
  have h3:(10:UInt8)∉r:=List.count_eq_zero.1 (by omega)
  have h4:P[i]?=some r:=by rw [←List.head?_drop,hp,I42 h3];rfl
  refine k6 (k2 ?_)
  refine A3 (A2 (A4 Z Z) Z (A2 (A4 Z Z) Z (A2 (A4 Z Z) Z (A2 (E8 Z Z Z (by omega) (by (simp;omega))) Z (E3 (I2 TySz.out Z Z (by simp;omega) Z Z) (A6 ?_))))))
  refine k1 (k2 ?_)
  have e:(P.take i++List.replicate (P.length - i) ([]:Str)).set (i:Int).toNat r=P:=by rw [J83,B89 P [] r i h4,hge];simp
  rw [e]
  refine F4 (Sees.freeze (k:=9) Z) ?_
  refine A3 (A2 (A4 Z Z) Z (A2 (A4 Z Z) Z (A2 (C1 Z Z (by omega)) Z (A2 (D10 Z (.pure _ _ _ _) Z (by omega) (by omega)) Z (A2 (A5 Z Z) Z (A6 ?_))))))
  refine k1 (k10 ?_)
  exact B5 (F8 rfl rfl rfl) (by rw [show ((i:Int)+1).toNat=P.length by omega,J97,hPe])
theorem J09 (s:Str) (hs:s.length≤536870912):FnOk Tryz.prog 146 [F5 s,F5 [10]] (fun rs=>rs=[c5 (Z4 s)]):=by
 refine FnOk.intro Tryz.func146 (by decide) Z Z Z Z ?_
 refine k2 ?_
 refine A3 (A2 (A5 Z Z) Z (A6 ?_))
 refine k1 (k2 ?_)
 refine A3 (A2 (A4 Z Z) Z (A2 (A4 Z Z) Z (B9 (G02 s hs) Z Z Z ?_)));rintro _ rfl;refine A2 (A5 Z Z) Z (A6 ?_)
 refine k1 (k10 ?_)
 exact B5 (F8 rfl rfl rfl) rfl
theorem C12 (s p:Str):FnOk Tryz.prog 257 [F5 s,F5 p] (fun rs=>rs=[D3 (decide (s.take p.length=p))]):=by
 refine FnOk.intro Tryz.func257 (by decide) Z Z Z Z ?_
 refine k2 ?_
 refine A3 (A2 (A5 Z Z) Z (A6 ?_))
 refine k1 (k2 ?_)
 refine A3 (A2 (A4 Z Z) Z (A2 (D5 Z) Z (A2 (A4 Z Z) Z (A2 (D5 Z) Z (A2 (Z1 Z Z) Z (A2 (A4 Z Z) Z (A9 Z Z Z Z (fun hg=>by rw [hg];exact A4 Z Z) ?_)))))));refine A9 Z Z Z Z (fun hg=>by rw [hg];exact A4 Z Z) ?_;refine A9 Z Z Z Z (fun hg=>by rw [hg];exact D5 Z) ?_;refine A9 Z Z Z Z (fun hg=>by have hq:=hg;(try simp at hq);rw [hg];exact j5 Z Z (by omega) (by omega)) ?_;refine A9 Z Z Z Z (fun hg=>by rw [hg];exact A4 Z Z) ?_;refine A9 Z Z Z Z (fun hg=>by rw [hg];exact V1 Z Z) ?_;refine A2 (B4 Z (fun h=>by first | rfl | (rw [h];rfl)) (fun h=>by first | rfl | (rw [h];rfl))) Z ?_;refine A2 (A5 Z Z) Z (A6 ?_)
 simp only [I3,J83]
 refine k1 (k10 ?_)
 refine B5 (F8 Z Z Z) ?_
 congr 4
 congr 1
 apply propext;constructor
 ·intro h;exact h.2
 ·intro h
  refine ⟨?_,h⟩
  have:=congrArg List.length h
  rw [J90] at this;omega
theorem A12 (s p:Str):FnOk Tryz.prog 222 [F5 s,F5 p] (fun rs=>rs=[D3 (decide (s.take p.length=p))]):=by
 refine FnOk.intro Tryz.func222 (by decide) Z Z Z Z ?_
 refine k2 ?_
 refine A3 (A2 (A5 Z Z) Z (A6 ?_))
 refine k1 (k2 ?_)
 refine A3 (A2 (A4 Z Z) Z (A2 (A4 Z Z) Z (B9 (C12 s p) Z Z Z ?_)));rintro _ rfl;refine A2 (A5 Z Z) Z (A6 ?_)
 refine k1 (k10 ?_)
 exact B5 (F8 rfl rfl rfl) rfl
def F01 (s p:Str):List PV:=if s.take p.length=p then [F5 (s.drop p.length),D3 true] else [F5 s,D3 false]
theorem F02 (s p:Str):FnOk Tryz.prog 252 [F5 s,F5 p] (fun rs=>rs=F01 s p):=by
 refine FnOk.intro Tryz.func252 (by decide) Z Z Z Z ?_
 refine k2 ?_
 refine A3 (A2 (A5 Z Z) Z (A2 (A5 Z Z) Z (A6 ?_)))
 refine k1 (k2 (k2 ?_))
 refine A3 (A2 (A4 Z Z) Z (A2 (A4 Z Z) Z (B9 (C12 s p) Z Z Z ?_)));rintro _ rfl;refine A2 (E4 Z) Z (A6 ?_)
 refine k1 ?_
 refine B2 rfl (fun ht=>?_) (fun ht=>?_)
 ·have h:¬s.take p.length=p:=by intro h;rw [decide_eq_true h] at ht;cases ht
  refine k2 ?_
  refine A3 (A2 (A4 Z Z) Z (A2 (A5 Z Z) Z (A2 (A5 Z Z) Z (A6 ?_))))
  refine k1 (k10 (k11 ?_))
  exact B5 (rs:=[F5 s,D3 false]) (X2 rfl rfl rfl rfl rfl) (by unfold F01;rw [if_neg h])
 ·have h:s.take p.length=p:=by
   by_cases h:s.take p.length=p
   ·exact h
   ·rw [decide_eq_false h] at ht;cases ht
  have hl:p.length≤s.length:=by
   have:=congrArg List.length h
   rw [J90] at this;omega
  refine k5 (k1 (k2 ?_))
  refine A3 (A2 (A4 Z Z) Z (A2 (A4 Z Z) Z (A2 (D5 Z) Z (A2 (V2 Z Z (by omega) (by omega)) Z (A2 (A5 Z Z) Z (A2 (A5 Z Z) Z (A6 ?_)))))))
  refine k1 (k10 ?_)
  exact B5 (rs:=[F5 (s.drop p.length),D3 true]) (X2 rfl rfl rfl rfl rfl) (by unfold F01;rw [if_pos h])
theorem r7 (s p:Str):FnOk Tryz.prog 213 [F5 s,F5 p] (fun rs=>rs=F01 s p):=by
 have hc:=F02 s p
 unfold F01 at hc ⊢
 by_cases h:s.take p.length=p
 ·rw [if_pos h] at hc ⊢
  refine FnOk.intro Tryz.func213 (by decide) Z Z Z Z ?_
  refine k2 ?_
  refine A3 (A2 (A5 Z Z) Z (A2 (A5 Z Z) Z (A6 ?_)))
  refine k1 (k2 ?_)
  refine A3 (A2 (A4 Z Z) Z (A2 (A4 Z Z) Z (B9 (hc) Z Z Z ?_)));rintro _ rfl;refine A2 (B1 Z Z) Z (A2 (B1 Z Z) Z (A2 (A5 Z Z) Z (A2 (A5 Z Z) Z (A6 ?_))))
  refine k1 (k10 ?_)
  exact B5 (X2 rfl rfl rfl rfl rfl) rfl
 ·rw [if_neg h] at hc ⊢
  refine FnOk.intro Tryz.func213 (by decide) Z Z Z Z ?_
  refine k2 ?_
  refine A3 (A2 (A5 Z Z) Z (A2 (A5 Z Z) Z (A6 ?_)))
  refine k1 (k2 ?_)
  refine A3 (A2 (A4 Z Z) Z (A2 (A4 Z Z) Z (B9 (hc) Z Z Z ?_)));rintro _ rfl;refine A2 (B1 Z Z) Z (A2 (B1 Z Z) Z (A2 (A5 Z Z) Z (A2 (A5 Z Z) Z (A6 ?_))))
  refine k1 (k10 ?_)
  exact B5 (X2 rfl rfl rfl rfl rfl) rfl
theorem H47 (s:Str):ended s=decide (1≤s.length∧s.drop (s.length - 1)=[10]):=by
 by_cases h:ended s=true
 ·rw [h]
  obtain ⟨a,rfl⟩:=ended_iff.1 h
  symm;apply decide_eq_true;simp
 ·have h2:ended s=false:=by simpa using h
  rw [h2];symm;apply decide_eq_false
  rintro ⟨h3,h4⟩
  refine h (ended_iff.2 ⟨s.take (s.length - 1),?_⟩)
  rw [←h4,K18]
theorem F03 (s:Str) (hs:s.length≤1073741824):FnOk Tryz.prog 251 [F5 s,F5 [10]] (fun rs=>rs=[D3 (ended s)]):=by
 have h10:([10]:Str).length=1:=rfl
 refine FnOk.intro Tryz.func251 (by decide) Z Z Z Z ?_
 refine k2 ?_
 refine A3 (A2 (A5 Z Z) Z (A6 ?_))
 refine k1 (k2 ?_)
 refine A3 (A2 (A4 Z Z) Z (A2 (D5 Z) Z (A2 (A4 Z Z) Z (A2 (D5 Z) Z (A2 (Z1 Z Z) Z (A2 (A4 Z Z) Z (A9 Z Z Z Z (fun hg=>by rw [hg];exact A4 Z Z) ?_)))))));refine A9 Z Z Z Z (fun hg=>by rw [hg];exact A4 Z Z) ?_;refine A9 Z Z Z Z (fun hg=>by rw [hg];exact D5 Z) ?_;refine A9 Z Z Z Z (fun hg=>by rw [hg];exact A4 Z Z) ?_;refine A9 Z Z Z Z (fun hg=>by rw [hg];exact D5 Z) ?_;refine A9 Z Z Z Z (fun hg=>by have hq:=hg;(try simp at hq);rw [hg];exact P5 Z Z (by omega)) ?_;refine A9 Z Z Z Z (fun hg=>by have hq:=hg;(try simp at hq);rw [hg];exact V2 Z Z (by omega) (by omega)) ?_;refine A9 Z Z Z Z (fun hg=>by rw [hg];exact A4 Z Z) ?_;refine A9 Z Z Z Z (fun hg=>by rw [hg];exact V1 Z Z) ?_;refine A2 (B4 Z (fun h=>by first | rfl | (rw [h];rfl)) (fun h=>by first | rfl | (rw [h];rfl))) Z ?_;refine A2 (A5 Z Z) Z (A6 ?_)
 simp only [I3]
 refine k1 (k10 ?_)
 refine B5 (F8 Z Z Z) ?_
 rw [H47,h10]
 congr 4
 congr 1
 rw [show ((s.length:Int) - ((1:Nat):Int)).toNat=s.length - 1 by omega]
 apply propext;constructor
 ·intro h;exact ⟨by omega,h.2⟩
 ·intro h;exact ⟨by omega,h.2⟩
def F51 (s:Str):List PV:=if ended s=true then [F5 s.dropLast,D3 true] else [F5 s,D3 false]
theorem F04 (s:Str) (hs:s.length≤1073741824):FnOk Tryz.prog 212 [F5 s,F5 [10]] (fun rs=>rs=F51 s):=by
 have h10:([10]:Str).length=1:=rfl
 refine FnOk.intro Tryz.func212 (by decide) Z Z Z Z ?_
 refine k2 ?_
 refine A3 (A2 (A5 Z Z) Z (A2 (A5 Z Z) Z (A6 ?_)))
 refine k1 (k2 (k2 ?_))
 refine A3 (A2 (A4 Z Z) Z (A2 (A4 Z Z) Z (B9 (F03 s hs) Z Z Z ?_)));rintro _ rfl;refine A2 (E4 Z) Z (A6 ?_)
 refine k1 ?_
 refine B2 rfl (fun ht=>?_) (fun ht=>?_)
 ·have h:ended s=false:=by cases h:ended s<;>rw [h] at ht<;>simp at ht ⊢
  refine k2 ?_
  refine A3 (A2 (A4 Z Z) Z (A2 (A5 Z Z) Z (A2 (A5 Z Z) Z (A6 ?_))))
  refine k1 (k10 (k11 ?_))
  exact B5 (rs:=[F5 s,D3 false]) (X2 rfl rfl rfl rfl rfl) (by unfold F51;rw [h];rfl)
 ·have h:ended s=true:=by cases h:ended s<;>rw [h] at ht<;>simp at ht ⊢
  have hl:1≤s.length:=by obtain ⟨a,rfl⟩:=ended_iff.1 h;simp
  refine k5 (k1 (k2 ?_))
  refine A3 (A2 (A4 Z Z) Z (A2 (A4 Z Z) Z (A2 (D5 Z) Z (A2 (A4 Z Z) Z (A2 (D5 Z) Z (A2 (P5 Z Z (by omega)) Z (A2 (j5 Z Z (by omega) (by omega)) Z (A2 (A5 Z Z) Z (A2 (A5 Z Z) Z (A6 ?_))))))))))
  refine k1 (k10 ?_)
  refine B5 (rs:=[F5 s.dropLast,D3 true]) (X2 rfl rfl (by rw [h10,show ((s.length:Int) - ((1:Nat):Int)).toNat=s.length - 1 by omega,←List.dropLast_eq_take];rfl) rfl rfl) (by unfold F51;rw [if_pos h])
theorem G03 (s:Str) (hs:s.length≤1073741824):FnOk Tryz.prog 145 [F5 s,F5 [10]] (fun rs=>rs=F51 s):=by
 have hc:=F04 s hs
 unfold F51 at hc ⊢
 by_cases h:ended s=true
 ·rw [if_pos h] at hc ⊢
  refine FnOk.intro Tryz.func145 (by decide) Z Z Z Z ?_
  refine k2 ?_
  refine A3 (A2 (A5 Z Z) Z (A2 (A5 Z Z) Z (A6 ?_)))
  refine k1 (k2 ?_)
  refine A3 (A2 (A4 Z Z) Z (A2 (A4 Z Z) Z (B9 (hc) Z Z Z ?_)));rintro _ rfl;refine A2 (B1 Z Z) Z (A2 (B1 Z Z) Z (A2 (A5 Z Z) Z (A2 (A5 Z Z) Z (A6 ?_))))
  refine k1 (k10 ?_)
  exact B5 (X2 rfl rfl rfl rfl rfl) rfl
 ·rw [if_neg h] at hc ⊢
  refine FnOk.intro Tryz.func145 (by decide) Z Z Z Z ?_
  refine k2 ?_
  refine A3 (A2 (A5 Z Z) Z (A2 (A5 Z Z) Z (A6 ?_)))
  refine k1 (k2 ?_)
  refine A3 (A2 (A4 Z Z) Z (A2 (A4 Z Z) Z (B9 (hc) Z Z Z ?_)));rintro _ rfl;refine A2 (B1 Z Z) Z (A2 (B1 Z Z) Z (A2 (A5 Z Z) Z (A2 (A5 Z Z) Z (A6 ?_))))
  refine k1 (k10 ?_)
  exact B5 (X2 rfl rfl rfl rfl rfl) rfl
def A27 (s:Str):List PV:=match c9 s with
 | none=>[c5 [],D3 false]
 | some l=>[c5 l,D3 true]
theorem H48 (s:Str) (hs:s.length≤536870912):FnOk Tryz.prog 75 [F5 s] (fun rs=>rs=A27 s):=by
 refine FnOk.intro Tryz.func75 (by decide) Z Z Z Z ?_
 refine k2 ?_
 refine A3 (A2 (A5 Z Z) Z (A2 (A5 Z Z) Z (A6 ?_)))
 refine k1 (k2 (k2 ?_))
 refine A3 (A2 (A4 Z Z) Z (A2 (V1 Z Z) Z (A6 ?_)))
 refine k1 ?_
 refine B2 rfl (fun ht=>?_) (fun ht=>?_)
 ·have h:s=[]:=A0 ht
  refine k2 ?_
  refine A3 (A2 (G9 _ 1 J5) Z (A2 (A5 Z Z) Z (A6 ?_)))
  refine k1 (k10 (k11 ?_))
  exact B5 (rs:=[c5 [],D3 true]) (X2 rfl rfl rfl rfl rfl) (by unfold A27 c9;rw [if_pos h])
 have h:s≠[]:=A1 ht
 have hc:=G03 s (by omega)
 unfold F51 at hc
 by_cases he:ended s=true
 ·rw [if_pos he] at hc
  have hl:s.dropLast.length≤s.length:=by rw [List.length_dropLast];omega
  refine k5 (k1 (k2 ?_))
  refine A3 (A2 (A4 Z Z) Z (B9 (hc) Z Z Z ?_));rintro _ rfl;refine A2 (A4 Z Z) Z (A2 (B1 Z Z) Z (A2 (B1 Z Z) Z (A2 (A5 Z Z) Z (A2 (A5 Z Z) Z (A6 ?_)))))
  refine k1 (k2 (k2 ?_))
  refine A3 (A2 (A4 Z Z) Z (A2 (E4 Z) Z (A6 ?_)))
  refine k1 ?_
  refine B2 rfl (fun ht=>?_) (fun ht=>?_)
  ·cases ht
  refine k5 (k1 (k2 ?_))
  refine A3 (A2 (A4 Z Z) Z (B9 (J09 s.dropLast (by omega)) Z Z Z ?_));rintro _ rfl;refine A2 (A5 Z Z) Z (A2 (A5 Z Z) Z (A6 ?_))
  refine k1 (k10 ?_)
  exact B5 (rs:=[c5 (Z4 s.dropLast),D3 true]) (X2 rfl rfl rfl rfl rfl) (by unfold A27;rw [D58 h,if_pos he])
 ·rw [if_neg he] at hc
  refine k5 (k1 (k2 ?_))
  refine A3 (A2 (A4 Z Z) Z (B9 (hc) Z Z Z ?_));rintro _ rfl;refine A2 (A4 Z Z) Z (A2 (B1 Z Z) Z (A2 (B1 Z Z) Z (A2 (A5 Z Z) Z (A2 (A5 Z Z) Z (A6 ?_)))))
  refine k1 (k2 (k2 ?_))
  refine A3 (A2 (A4 Z Z) Z (A2 (E4 Z) Z (A6 ?_)))
  refine k1 ?_
  refine B2 rfl (fun ht=>?_) (fun ht=>?_)
  ·refine k2 ?_
   refine A3 (A2 (G9 _ 1 J5) Z (A2 (A5 Z Z) Z (A6 ?_)))
   refine k1 (k10 (k11 ?_))
   exact B5 (rs:=[c5 [],D3 false]) (X2 rfl rfl rfl rfl rfl) (by unfold A27;rw [D58 h,if_neg he])
  ·cases ht
end Go.Proofs.YtgejaedjnbjpoaaGreatDoor
