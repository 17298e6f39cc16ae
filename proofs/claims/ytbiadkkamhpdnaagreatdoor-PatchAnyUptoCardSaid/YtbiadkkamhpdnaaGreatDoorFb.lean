/- Walks of the program's functions. -/
import Derived.Test.YtbiadkkamhpdnaaGreatDoorFa
import Derived.Test.YtbiadkkamhpdnaaGreatDoorFs
import Derived.Lib.AppendIntMem
set_option linter.unusedSimpArgs false
namespace Go.Proofs.YtbiadkkamhpdnaaGreatDoor
open Go Go.AL
set_option maxRecDepth 100000
theorem F29 (c:UInt8):FnOk Tryz.prog 201 [pByte c] (fun rs=>rs=[O8 (A27 c)]):=by
 refine FnOk.intro Tryz.func201 (by decide) Z Z Z Z ?_
 refine k2 ?_
 refine A3 (A2 (A5 Z Z) Z (A6 ?_))
 refine k1 (k2 ?_)
 refine A3 (A2 (A4 Z Z) Z (A2 (B80 Z Z) Z (A2 (A4 Z Z) Z (A8 Z Z Z Z (fun hg=>by rw [hg];exact A4 Z Z) ?_))));refine A8 Z Z Z Z (fun hg=>by rw [hg];exact A93 Z Z) ?_;refine A2 (B2 Z (fun h=>by first | rfl | (rw [h];rfl)) (fun h=>by first | rfl | (rw [h];rfl))) Z ?_;refine A2 (A4 Z Z) Z (A8 Z Z Z Z (fun hg=>by rw [hg];exact A4 Z Z) ?_);refine A8 Z Z Z Z (fun hg=>by rw [hg];exact H8 Z Z) ?_;refine A2 (B2 Z (fun h=>by first | rfl | (rw [h];rfl)) (fun h=>by first | rfl | (rw [h];rfl))) Z ?_;refine A2 (A4 Z Z) Z (A8 Z Z Z Z (fun hg=>by rw [hg];exact A4 Z Z) ?_);refine A8 Z Z Z Z (fun hg=>by rw [hg];exact H8 Z Z) ?_;refine A2 (B2 Z (fun h=>by first | rfl | (rw [h];rfl)) (fun h=>by first | rfl | (rw [h];rfl))) Z ?_;refine A2 (A5 Z Z) Z (A6 ?_)
 refine k1 (k10 ?_)
 refine B5 (F5 Z Z Z) ?_
 simp only [J6]
 congr 4
 unfold A27
 congr 1
 simp;omega
theorem F30 (c:UInt8):FnOk Tryz.prog 197 [pByte c] (fun rs=>rs=[O8 (A27 c)]):=by
 refine FnOk.intro Tryz.func197 (by decide) Z Z Z Z ?_
 refine k2 ?_
 refine A3 (A2 (A5 Z Z) Z (A6 ?_))
 refine k1 (k2 ?_)
 refine A3 (A2 (A4 Z Z) Z (A2 (B80 Z Z) Z (A2 (A4 Z Z) Z (A8 Z Z Z Z (fun hg=>by rw [hg];exact A4 Z Z) ?_))));refine A8 Z Z Z Z (fun hg=>by rw [hg];exact A93 Z Z) ?_;refine A2 (B2 Z (fun h=>by first | rfl | (rw [h];rfl)) (fun h=>by first | rfl | (rw [h];rfl))) Z ?_;refine A2 (A4 Z Z) Z (A8 Z Z Z Z (fun hg=>by rw [hg];exact A4 Z Z) ?_);refine A8 Z Z Z Z (fun hg=>by rw [hg];exact H8 Z Z) ?_;refine A2 (B2 Z (fun h=>by first | rfl | (rw [h];rfl)) (fun h=>by first | rfl | (rw [h];rfl))) Z ?_;refine A2 (A4 Z Z) Z (A8 Z Z Z Z (fun hg=>by rw [hg];exact A4 Z Z) ?_);refine A8 Z Z Z Z (fun hg=>by rw [hg];exact H8 Z Z) ?_;refine A2 (B2 Z (fun h=>by first | rfl | (rw [h];rfl)) (fun h=>by first | rfl | (rw [h];rfl))) Z ?_;refine A2 (A5 Z Z) Z (A6 ?_)
 refine k1 (k10 ?_)
 refine B5 (F5 Z Z Z) ?_
 simp only [J6]
 congr 4
 unfold A27
 congr 1
 simp;omega
theorem A20 (n:Int):FnOk Tryz.prog 152 [I8 n] (fun rs=>rs=[I1 (m7 n)]):=by
 obtain ⟨k,hk⟩:∃k:Nat,n.toNat=k:=⟨_,rfl⟩
 induction k using Nat.strongRecOn generalizing n with
 | _ k ih =>
 refine FnOk.intro Tryz.func152 (by decide) Z Z Z Z ?_
 refine k2 ?_
 refine A3 (A2 (A5 Z Z) Z (A6 ?_))
 refine k1 (k2 (k2 ?_))
 refine A3 (A2 (A4 Z Z) Z (A2 (E5 Z Z) Z (A2 (A4 Z Z) Z (A8 Z Z Z Z (fun hg=>by rw [hg];exact A4 Z Z) ?_))));refine A8 Z Z Z Z (fun hg=>by rw [hg];exact L1 Z Z) ?_;refine A2 (B2 Z (fun h=>by first | rfl | (rw [h];rfl)) (fun h=>by first | rfl | (rw [h];rfl))) Z ?_;refine A6 ?_
 refine k1 ?_
 refine B4 rfl (fun ht=>?_) (fun ht=>?_)
 ·have h:=A0 (or_pick.symm.trans ht)
  refine k2 ?_
  refine A3 (A2 (A5 Z Z) Z (A6 ?_))
  refine k1 (k10 (k11 ?_))
  exact B5 (F5 rfl rfl rfl) (by rw [m7,if_pos (by omega)])
 ·have h:=A1 (or_pick.symm.trans ht)
  refine k5 (k1 (k2 (k2 ?_)))
  refine A3 (A2 (A4 Z Z) Z (A2 (E5 Z Z) Z (A6 ?_)))
  refine k1 ?_
  refine B4 rfl (fun ht=>?_) (fun ht=>?_)
  ·have h2:=A0 ht
   refine k2 ?_
   refine A3 (A2 (A4 Z Z) Z (A2 (A4 Z Z) Z (A2 (C3 Z Z (by omega)) Z (A2 (j8 Z Z Z (by (first | omega | (simp;omega))) (by (first | omega | (simp;omega))) (by (first | omega | (simp;omega)))) Z (A2 (A5 Z Z) Z (A6 ?_))))))
   refine k1 (k10 (k11 ?_))
   refine B5 (F5 Z Z Z) ?_
   rw [F44 n (by omega) h2]
   have e:(n+1).toNat - n.toNat=1:=by omega
   rw [e];rfl
  ·have h2:=A1 ht
   have hl:=T5 (n / 10)
   have hq:IntKind.i64.wrap (n.tdiv 10)=n / 10:=by
    rw [B81]<;>rw [Int.tdiv_eq_ediv_of_nonneg (by omega)];omega
   have hr:n.tmod 10=n % 10:=Int.tmod_eq_emod_of_nonneg (by omega)
   have ihq:FnOk Tryz.prog 152 [I8 (IntKind.i64.wrap (n.tdiv 10))] (fun rs=>rs=[I1 (m7 (n / 10))]):=by
    rw [hq];exact ih (n / 10).toNat (by omega) (n / 10) rfl
   refine k5 (k1 (k2 ?_))
   refine D7 (by kernel_rfl) (by kernel_rfl) (B0 (A4 Z Z) Z Z (B0 (B23 Z Z (by omega)) Z Z (B0 (E9 (ihq) Z Z) Z Z (B0 (A4 Z Z) Z Z (B0 (A92 Z Z (by omega)) Z Z (B0 (A4 Z Z) Z Z (B0 (A92 Z Z (by omega)) Z Z (B0 (C3 Z Z (by omega)) Z Z (B0 (j8 Z Z Z (by (first | omega | (simp;omega))) (by (first | omega | (simp;omega))) (by (first | omega | (simp;omega)))) Z Z (B0 (F2 Z Z (by (simp;omega))) Z Z (B0 (A5 Z Z) Z Z (H5 ?_))))))))))))
   refine k1 (k10 ?_)
   refine B5 (F5 Z Z Z) ?_
   rw [fmt_big n (by omega) (by omega)]
   rw [hr]
   have e:(n % 10+1).toNat - (n % 10).toNat=1:=by omega
   rw [e];rfl
theorem D20 (a n:Int) (ha:-4611686018427387904≤a∧a≤4611686018427387904) (hn:-4611686018427387904≤n∧n≤4611686018427387904):FnOk Tryz.prog 139 [I8 a,I8 n] (fun rs=>rs=[I1 (Q7 a n)]):=by
 refine FnOk.intro Tryz.func139 (by decide) Z Z Z Z ?_
 refine k2 ?_
 refine A3 (A2 (A5 Z Z) Z (A6 ?_))
 refine k1 (k2 (k2 ?_))
 refine A3 (A2 (A4 Z Z) Z (A2 (E5 Z Z) Z (A2 (A4 Z Z) Z (A8 Z Z Z Z (fun hg=>by rw [hg];exact A4 Z Z) ?_))));refine A8 Z Z Z Z (fun hg=>by rw [hg];exact E5 Z Z) ?_;refine A2 (B2 Z (fun h=>by first | rfl | (rw [h];rfl)) (fun h=>by first | rfl | (rw [h];rfl))) Z ?_;refine A2 (A4 Z Z) Z (A8 Z Z Z Z (fun hg=>by rw [hg];exact A4 Z Z) ?_);refine A8 Z Z Z Z (fun hg=>by rw [hg];exact L1 Z Z) ?_;refine A2 (B2 Z (fun h=>by first | rfl | (rw [h];rfl)) (fun h=>by first | rfl | (rw [h];rfl))) Z ?_;refine A2 (A4 Z Z) Z (A8 Z Z Z Z (fun hg=>by rw [hg];exact A4 Z Z) ?_);refine A8 Z Z Z Z (fun hg=>by rw [hg];exact A4 Z Z) ?_;refine A8 Z Z Z Z (fun hg=>by rw [hg];exact N6 Z Z (by (first | omega | (simp at hq;omega)))) ?_;refine A8 Z Z Z Z (fun hg=>by rw [hg];exact L1 Z Z) ?_;refine A2 (B2 Z (fun h=>by first | rfl | (rw [h];rfl)) (fun h=>by first | rfl | (rw [h];rfl))) Z ?_;refine A6 ?_
 refine k1 ?_
 have l1:=T5 a
 have l2:=T5 (a+1)
 have l3:=T5 n
 refine B4 rfl (fun ht=>?_) (fun ht=>?_)
 ·have h:=A0 ((by simp only [or_pick] at ht;exact ht):decide _=true)
  refine k2 ?_
  refine A3 (A2 (A5 Z Z) Z (A6 ?_))
  refine k1 (k10 (k11 ?_))
  exact B5 (F5 rfl rfl rfl) (by rw [Q7,if_pos (by omega)])
 ·have h:=A1 ((by simp only [or_pick] at ht;exact ht):decide _=false)
  refine k5 (k1 (k2 (k2 ?_)))
  refine A3 (A2 (A4 Z Z) Z (A6 ?_))
  refine k1 (k3 (k2 ?_))
  refine A3 (A2 (J9 Z Z) Z (A2 (A5 Z Z) Z (A6 ?_)))
  refine k1 ?_
  refine B4 rfl (fun ht=>?_) (fun ht=>?_)
  ·have h0:=A0 ht
   refine k2 ?_
   refine A3 (A2 (A4 Z Z) Z (C2 (A20 a) Z Z Z ?_));rintro _ rfl;refine A2 (F2 Z Z (by simp;omega)) Z (A2 (A5 Z Z) Z (A6 ?_))
   refine k1 (k10 (k12 (k11 ?_)))
   exact B5 (F5 rfl rfl rfl) (by rw [Q7,if_neg (by omega),if_pos h0])
  ·have h0:=A1 ht
   refine k2 ?_
   refine A3 (A2 (J9 Z Z) Z (A2 (A5 Z Z) Z (A6 ?_)))
   refine k1 ?_
   refine B4 rfl (fun ht=>?_) (fun ht=>?_)
   ·have h1:=A0 ht
    refine k2 ?_
    refine A3 (A2 (A4 Z Z) Z (A2 (C3 Z Z (by omega)) Z (C2 (A20 (a+1)) Z Z Z ?_)));rintro _ rfl;refine A2 (A5 Z Z) Z (A6 ?_)
    refine k1 (k10 (k12 (k11 ?_)))
    exact B5 (F5 rfl rfl rfl) (by rw [Q7,if_neg (by omega),if_neg h0,if_pos h1])
   ·have h1:=A1 ht
    refine k5 (k2 ?_)
    refine A3 (A2 (A4 Z Z) Z (A2 (C3 Z Z (by omega)) Z (C2 (A20 (a+1)) Z Z Z ?_)));rintro _ rfl;refine A2 (F2 Z Z (by simp;omega)) Z (A2 (A4 Z Z) Z (C2 (A20 n) Z Z Z ?_));rintro _ rfl;refine A2 (F2 Z Z (by simp;omega)) Z (A2 (A5 Z Z) Z (A6 ?_))
    refine k1 (k10 ?_)
    exact B5 (F5 rfl rfl rfl) (by rw [Q7,if_neg (by omega),if_neg h0,if_neg h1])
theorem W1:([48,49,50,51,52,53,54,55]:Str).length=8:=rfl
theorem u8q (c:UInt8) (k:Nat):IntKind.u8.wrap ((c.toNat:Int).tdiv (k:Int))=((c.toNat / k:Nat):Int):=by
 have hc:=c.toNat_lt
 have h1:(c.toNat:Int).tdiv (k:Int)=((c.toNat / k:Nat):Int):=by rw [Int.tdiv_eq_ediv_of_nonneg (by omega)];simp
 have h2:c.toNat / k≤c.toNat:=Nat.div_le_self _ _
 rw [h1]
 generalize c.toNat / k=q at *
 rw [IntWalk.u8_in _ (by omega)]
theorem u8r (n k:Nat):(n:Int).tmod (k:Int)=((n % k:Nat):Int):=by
 rw [Int.tmod_eq_emod_of_nonneg (by omega)];simp
theorem u8s (n:Nat) (h:n < 255):IntKind.u8.wrap ((n:Int)+1)=((n+1:Nat):Int):=by
 rw [IntWalk.u8_in _ (by omega)];simp
set_option maxHeartbeats 1000000 in
theorem D21 (s:Str) (hs:s.length≤16777216):FnOk Tryz.prog 138 [I1 s] (fun rs=>rs=[I1 (c4 s)]):=by
 refine FnOk.intro Tryz.func138 (by decide) Z Z Z Z ?_
 refine k2 ?_
 refine A3 (A2 (A5 Z Z) Z (A6 ?_))
 refine k1 (k2 ?_)
 refine A3 (A2 (A4 Z Z) Z (A2 (i6 Z Z) Z (A2 (A5 Z Z) Z (A6 ?_))))
 refine k1 (k2 ?_)
 refine A3 (A2 (A5 Z Z) Z (A6 ?_))
 refine k1 (k2 (k2 ?_))
 refine A3 (A2 (A5 Z Z) Z (A6 ?_))
 refine k1 (k3 ?_)
 refine D8 (X:=Nat) (fun i=>([(0,P8 s),(3,J4 (.bool (plains s i))),(4,P8 (34::escs s i)),(5,D2 i)],[])) (fun i=>i≤s.length) (fun i=>s.length - i) 0 (Nat.zero_le _) ?_ ?_
 ·rw [B94,F45]
  first | exact F77 ⟨le1 rfl,le1 rfl,le1 rfl,le1 rfl,trivial⟩ trivial | trace_state
 intro i hi
 dsimp only at hi ⊢
 have hel:=E38 s i hi
 refine k2 (k2 ?_)
 refine A3 (A2 (A4 Z Z) Z (A2 (A4 Z Z) Z (A2 (H7 Z) Z (A2 (E5 Z Z) Z (A6 ?_)))))
 refine k1 ?_
 refine B4 rfl (fun ht=>?_) (fun ht=>?_)
 ·have hlt:i < s.length:=by have:=A0 ht;omega
  have hv:s[i]?=some s[i]:=by simp [hlt]
  obtain ⟨c,hc⟩:∃c,c=s[i]:=⟨_,rfl⟩
  have h1:=D38 s i hlt
  have h2:=B95 s i hlt
  rw [←hc] at hv h1 h2
  have h3:=c.toNat_lt
  refine k5 (k1 (k2 (k3 (k2 ?_))))
  refine A3 (A2 (A4 Z Z) Z (A2 (A4 Z Z) Z (A2 (Y3 Z Z (by omega) hv) Z (A2 (A5 Z Z) Z (A6 ?_)))))
  refine k1 (k2 ?_)
  refine A3 (A2 (A4 Z Z) Z (A2 (A4 Z Z) Z (A8 Z Z Z Z (fun hg=>by rw [hg];exact A4 Z Z) ?_)));refine A8 Z Z Z Z (fun hg=>by have hq:=hg;(try simp at hq);rw [hg];exact E9 (F29 c) Z Z) ?_;refine A2 (B2 Z (fun h=>by first | rfl | (rw [h];rfl)) (fun h=>by first | rfl | (rw [h];rfl))) Z ?_;refine A2 (A5 Z Z) Z (A6 ?_)
  rw [show (if plains s i=true then A27 c else false)=plains s (i+1) from by rw [h2];cases plains s i<;>rfl]
  have hsub:(s.drop i).take 1=[c]:=by rw [G12 hlt,←hc];rfl
  have hone:(i:Int).toNat=i∧((i:Int)+1).toNat - i=1:=by omega
  refine k1 (k3 (k2 ?_))
  refine A3 (A2 (A4 Z Z) Z (A2 (J9 Z Z) Z (A2 (A4 Z Z) Z (A8 Z Z Z Z (fun hg=>by rw [hg];exact A4 Z Z) ?_))));refine A8 Z Z Z Z (fun hg=>by rw [hg];exact J9 Z Z) ?_;refine A2 (B2 Z (fun h=>by first | rfl | (rw [h];rfl)) (fun h=>by first | rfl | (rw [h];rfl))) Z ?_;refine A2 (A5 Z Z) Z (A6 ?_)
  refine k1 ?_
  refine B4 rfl (fun ht=>?_) (fun ht=>?_)
  ·have h:=A0 (or_pick.symm.trans ht)
   skip
   refine A3 (A2 (A4 Z Z) Z (A2 (F2 Z Z (by (simp;omega))) Z (A2 (A4 Z Z) Z (A2 (A4 Z Z) Z (A2 (A4 Z Z) Z (A2 (C3 Z Z (by omega)) Z (A2 (j8 Z Z Z (by omega) (by omega) (by omega)) Z (A2 (F2 Z Z (by (simp;omega))) Z (A2 (A5 Z Z) Z (A6 ?_))))))))))
   refine k4 (k4 (k1 ?_))
   refine A3 (A2 (A4 Z Z) Z (A2 (C3 Z Z (by omega)) Z (A2 (A5 Z Z) Z (A6 ?_))))
   refine k1 ?_
   refine ⟨i+1,hlt,by omega,?_⟩
   rw [h1,show V1 c=_ from by rw [V1,if_pos (by omega)]]
   rw [hone.1,hone.2,hsub,G28]
   exact F77 ⟨le1 rfl,le1 rfl,le1 rfl,le1 rfl,trivial⟩ trivial
  ·have h:=A1 (or_pick.symm.trans ht)
   refine k2 ?_
   refine A3 (A2 (A4 Z Z) Z (A2 (J9 Z Z) Z (A2 (A5 Z Z) Z (A6 ?_))))
   refine k1 ?_
   refine B4 rfl (fun ht=>?_) (fun ht=>?_)
   ·have h4:=A0 ht
    skip
    refine A3 (A2 (A4 Z Z) Z (A2 (F2 Z Z (by simp;omega)) Z (A2 (A5 Z Z) Z (A6 ?_))))
    refine k4 (k4 (k1 ?_))
    refine A3 (A2 (A4 Z Z) Z (A2 (C3 Z Z (by omega)) Z (A2 (A5 Z Z) Z (A6 ?_))))
    refine k1 ?_
    refine ⟨i+1,hlt,by omega,?_⟩
    rw [h1,show V1 c=_ from by rw [V1,if_neg (by omega),if_pos (by omega)]]
    exact F77 ⟨le1 rfl,le1 rfl,le1 rfl,le1 rfl,trivial⟩ trivial
   ·have h4:=A1 ht
    refine k2 ?_
    refine A3 (A2 (A4 Z Z) Z (A2 (J9 Z Z) Z (A2 (A5 Z Z) Z (A6 ?_))))
    refine k1 ?_
    refine B4 rfl (fun ht=>?_) (fun ht=>?_)
    ·have h5:=A0 ht
     skip
     refine A3 (A2 (A4 Z Z) Z (A2 (F2 Z Z (by simp;omega)) Z (A2 (A5 Z Z) Z (A6 ?_))))
     refine k4 (k4 (k1 ?_))
     refine A3 (A2 (A4 Z Z) Z (A2 (C3 Z Z (by omega)) Z (A2 (A5 Z Z) Z (A6 ?_))))
     refine k1 ?_
     refine ⟨i+1,hlt,by omega,?_⟩
     rw [h1,show V1 c=_ from by rw [V1,if_neg (by omega),if_neg (by omega),if_pos (by omega)]]
     exact F77 ⟨le1 rfl,le1 rfl,le1 rfl,le1 rfl,trivial⟩ trivial
    ·have h5:=A1 ht
     refine k2 ?_
     refine A3 (A2 (A4 Z Z) Z (A2 (E5 Z Z) Z (A2 (A4 Z Z) Z (A8 Z Z Z Z (fun hg=>by rw [hg];exact A4 Z Z) ?_))));refine A8 Z Z Z Z (fun hg=>by rw [hg];exact L1 Z Z) ?_;refine A2 (B2 Z (fun h=>by first | rfl | (rw [h];rfl)) (fun h=>by first | rfl | (rw [h];rfl))) Z ?_;refine A2 (A5 Z Z) Z (A6 ?_)
     refine k1 ?_
     refine B4 rfl (fun ht=>?_) (fun ht=>?_)
     ·have h6:=A0 (or_pick.symm.trans ht)
      have e1:IntKind.u8.wrap ((c.toNat:Int).tdiv 64)=((c.toNat / 64:Nat):Int):=u8q c 64
      have e2:IntKind.u8.wrap ((c.toNat:Int).tdiv 8)=((c.toNat / 8:Nat):Int):=u8q c 8
      have e3:(IntKind.u8.wrap ((c.toNat:Int).tdiv 8)).tmod 8=((c.toNat / 8 % 8:Nat):Int):=by rw [e2];exact u8r _ 8
      have e4:(c.toNat:Int).tmod 8=((c.toNat % 8:Nat):Int):=u8r _ 8
      have e5:IntKind.u8.wrap (IntKind.u8.wrap ((c.toNat:Int).tdiv 64)+1)=((c.toNat / 64+1:Nat):Int):=by rw [e1];exact u8s _ (by omega)
      have e6:IntKind.u8.wrap ((IntKind.u8.wrap ((c.toNat:Int).tdiv 8)).tmod 8+1)=((c.toNat / 8 % 8+1:Nat):Int):=by rw [e3];exact u8s _ (by omega)
      have e7:IntKind.u8.wrap ((c.toNat:Int).tmod 8+1)=((c.toNat % 8+1:Nat):Int):=by rw [e4];exact u8s _ (by omega)
      have hol:=D36 c
      have hob:V1 c=92::B93 c:=by rw [V1,if_neg (by omega),if_neg (by omega),if_neg (by omega),if_pos (by omega)]
      have g1:c.toNat / 64 < 8:=by omega
      skip
      refine D7 (by kernel_rfl) (by kernel_rfl) (B0 (A4 Z Z) Z Z (B0 (F2 Z Z (by (simp;omega))) Z Z (B0 (A4 Z Z) Z Z (B0 (B23 Z Z (by omega)) Z Z (B0 (A4 Z Z) Z Z (B0 (B23 Z Z (by omega)) Z Z (B0 (A11 Z Z) Z Z (B0 (j8 Z Z Z (by (first | omega | (simp only [W1];omega))) (by (first | omega | (simp only [W1];omega))) (by (first | omega | (simp only [W1];omega)))) Z Z (B0 (F2 Z Z (by (simp only [G07,G10,G11,G17,G25];omega))) Z Z (B0 (A4 Z Z) Z Z (B0 (B23 Z Z (by omega)) Z Z (B0 (A92 Z Z (by omega)) Z Z (B0 (A4 Z Z) Z Z (B0 (B23 Z Z (by omega)) Z Z (B0 (A92 Z Z (by omega)) Z Z (B0 (A11 Z Z) Z Z (B0 (j8 Z Z Z (by (first | omega | (simp only [W1];omega))) (by (first | omega | (simp only [W1];omega))) (by (first | omega | (simp only [W1];omega)))) Z Z (B0 (F2 Z Z (by (simp only [G07,G10,G11,G17,G25];omega))) Z Z (B0 (A4 Z Z) Z Z (B0 (A92 Z Z (by omega)) Z Z (B0 (A4 Z Z) Z Z (B0 (A92 Z Z (by omega)) Z Z (B0 (A11 Z Z) Z Z ?_)))))))))))))))))))))));refine B0 (j8 Z Z Z (by (first | omega | (simp only [W1];omega))) (by (first | omega | (simp only [W1];omega))) (by (first | omega | (simp only [W1];omega)))) Z Z (B0 (F2 Z Z (by (simp only [G07,G10,G11,G17,G25];omega))) Z Z (B0 (A5 Z Z) Z Z (H5 ?_)))
      have k1:∀q:Nat,((q+1:Nat):Int).toNat - ((q:Nat):Int).toNat=1:=fun q=>by omega
      refine k4 (k4 ?_)
      refine A3 (A2 (A4 Z Z) Z (A2 (C3 Z Z (by omega)) Z (A2 (A5 Z Z) Z (A6 ?_))))
      skip
      refine ⟨i+1,hlt,by omega,?_⟩
      rw [e5,e6,e7,e1,e3,e4,k1 (c.toNat / 64),k1 (c.toNat / 8 % 8),k1 (c.toNat % 8),h1,hob,show 34::(escs s i++(92::B93 c))=34::escs s i++[92]++(digs8.drop (c.toNat / 64)).take 1++(digs8.drop (c.toNat / 8 % 8)).take 1++(digs8.drop (c.toNat % 8)).take 1 from by unfold B93;simp only [G39,G28,G36]]
      exact F77 ⟨le1 rfl,le1 rfl,le1 rfl,le1 rfl,trivial⟩ trivial
     ·have h6:=A1 (or_pick.symm.trans ht)
      skip
      refine A3 (A2 (A4 Z Z) Z (A2 (A4 Z Z) Z (A2 (A4 Z Z) Z (A2 (A4 Z Z) Z (A2 (C3 Z Z (by omega)) Z (A2 (j8 Z Z Z (by omega) (by omega) (by omega)) Z (A2 (F2 Z Z (by simp;omega)) Z (A2 (A5 Z Z) Z (A6 ?_)))))))))
      refine k4 (k4 (k1 ?_))
      refine A3 (A2 (A4 Z Z) Z (A2 (C3 Z Z (by omega)) Z (A2 (A5 Z Z) Z (A6 ?_))))
      refine k1 ?_
      refine ⟨i+1,hlt,by omega,?_⟩
      rw [h1,show V1 c=_ from by rw [V1,if_neg (by omega),if_neg (by omega),if_neg (by omega),if_neg (by omega)]]
      rw [hone.1,hone.2,hsub]
      exact F77 ⟨le1 rfl,le1 rfl,le1 rfl,le1 rfl,trivial⟩ trivial
 ·have hi':i=s.length:=by have:=A1 ht;omega
  subst hi'
  refine k6 (k2 (k2 ?_))
  refine A3 (A2 (A4 Z Z) Z (A6 ?_))
  refine k1 ?_
  refine B4 rfl (fun ht=>?_) (fun ht=>?_)
  ·have h:plains s s.length=true:=ht
   refine k2 ?_
   refine A3 (A2 (A4 Z Z) Z (A2 (A5 Z Z) Z (A6 ?_)))
   refine k1 (k10 (k11 ?_))
   exact B5 (F5 rfl rfl rfl) (by rw [A28,if_pos h])
  ·have h:plains s s.length=false:=ht
   refine k5 (k1 (k2 ?_))
   refine A3 (A2 (A4 Z Z) Z (A2 (F2 Z Z (by simp;omega)) Z (A2 (A5 Z Z) Z (A6 ?_))))
   refine k1 (k10 ?_)
   exact B5 (F5 rfl rfl rfl) (by rw [A28,h];rfl)
end Go.Proofs.YtbiadkkamhpdnaaGreatDoor
namespace Go.Proofs.YtbiadkkamhpdnaaGreatDoor
open Go Go.AL Go.RowKit
set_option maxRecDepth 100000
theorem u8dig (q:Nat) (h:q < 8):IntKind.u8.wrap (48+(q:Int))=((UInt8.ofNat (48+q)).toNat:Int):=by
 rw [IntWalk.u8_in _ (by omega)]
 have:(UInt8.ofNat (48+q)).toNat=48+q:=by rw [UInt8.toNat_ofNat'];omega
 rw [this];simp
theorem F16 (x:Nat) (h:x < 256):IntKind.u8.wrap ((BitVec.ofInt IntKind.u8.bits (x:Int) &&& BitVec.ofInt IntKind.u8.bits 7).toNat:Int)=((x % 8:Nat):Int):=by
 have h1:(BitVec.ofInt IntKind.u8.bits (x:Int) &&& BitVec.ofInt IntKind.u8.bits 7).toNat=x % 8:=by
  rw [BitVec.toNat_and,BitVec.toNat_ofInt,BitVec.toNat_ofInt]
  have e1:((x:Int) % ((2 ^ IntKind.u8.bits:Nat):Int)).toNat=x:=by
   rw [show ((2 ^ IntKind.u8.bits:Nat):Int)=256 by rfl];omega
  have e2:((7:Int) % ((2 ^ IntKind.u8.bits:Nat):Int)).toNat=2 ^ 3 - 1:=by rfl
  rw [e1,e2,Nat.and_two_pow_sub_one_eq_mod]
 rw [h1,IntWalk.u8_in _ (by omega)]
theorem shr_u8 (x:Nat) (c:Nat) (h:c≤8):(x:Int).fdiv (2 ^ min (Int.toNat (c:Int)) IntKind.u8.bits)=((x / 2 ^ c:Nat):Int):=by
 rw [shr_eq _ _ IntKind.u8.bits ⟨by omega,by show (c:Int)≤8;omega⟩]
 simp
theorem E69 (c:UInt8):FnOk Tryz.prog 198 [pByte c] (fun rs=>rs=[I1 (V1 c)]):=by
 have hc:=c.toNat_lt
 refine FnOk.intro Tryz.func198 (by decide) Z Z Z Z ?_
 refine k2 ?_
 refine A3 (A2 (A5 Z Z) Z (A6 ?_))
 refine k1 (k2 (k3 (k2 ?_)))
 refine A3 (A2 (A4 Z Z) Z (A2 (J9 Z Z) Z (A2 (A4 Z Z) Z (A8 Z Z Z Z (fun hg=>by rw [hg];exact A4 Z Z) ?_))));refine A8 Z Z Z Z (fun hg=>by rw [hg];exact J9 Z Z) ?_;refine A2 (B2 Z (fun h=>by first | rfl | (rw [h];rfl)) (fun h=>by first | rfl | (rw [h];rfl))) Z ?_;refine A2 (A5 Z Z) Z (A6 ?_)
 refine k1 ?_
 refine B4 rfl (fun ht=>?_) (fun ht=>?_)
 ·have h:=A0 (or_pick.symm.trans ht)
  refine k2 ?_
  refine A3 (A2 (A4 Z Z) Z (A2 (A95 Z (by omega)) Z (A2 (F2 Z Z (by simp)) Z (A2 (A5 Z Z) Z (A6 ?_)))))
  refine k1 (k10 (k12 (k11 ?_)))
  exact B5 (F5 rfl rfl rfl) (by rw [V1,if_pos (by omega)];rfl)
 ·have h:=A1 (or_pick.symm.trans ht)
  refine k2 ?_
  refine A3 (A2 (A4 Z Z) Z (A2 (J9 Z Z) Z (A2 (A5 Z Z) Z (A6 ?_))))
  refine k1 ?_
  refine B4 rfl (fun ht=>?_) (fun ht=>?_)
  ·have h1:=A0 ht
   refine k2 ?_
   refine A3 (A2 (A5 Z Z) Z (A6 ?_))
   refine k1 (k10 (k12 (k11 ?_)))
   exact B5 (F5 rfl rfl rfl) (by rw [V1,if_neg (by omega),if_pos (by omega)])
  ·have h1:=A1 ht
   refine k2 ?_
   refine A3 (A2 (A4 Z Z) Z (A2 (J9 Z Z) Z (A2 (A5 Z Z) Z (A6 ?_))))
   refine k1 ?_
   refine B4 rfl (fun ht=>?_) (fun ht=>?_)
   ·have h2:=A0 ht
    refine k2 ?_
    refine A3 (A2 (A5 Z Z) Z (A6 ?_))
    refine k1 (k10 (k12 (k11 ?_)))
    exact B5 (F5 rfl rfl rfl) (by rw [V1,if_neg (by omega),if_neg (by omega),if_pos (by omega)])
   ·have h2:=A1 ht
    refine k2 ?_
    refine A3 (A2 (A4 Z Z) Z (A2 (E5 Z Z) Z (A2 (A4 Z Z) Z (A8 Z Z Z Z (fun hg=>by rw [hg];exact A4 Z Z) ?_))));refine A8 Z Z Z Z (fun hg=>by rw [hg];exact L1 Z Z) ?_;refine A2 (B2 Z (fun h=>by first | rfl | (rw [h];rfl)) (fun h=>by first | rfl | (rw [h];rfl))) Z ?_;refine A2 (A5 Z Z) Z (A6 ?_)
    refine k1 ?_
    refine B4 rfl (fun ht=>?_) (fun ht=>?_)
    ·have h3:=A0 (or_pick.symm.trans ht)
     refine k2 ?_
     have f6:(c.toNat:Int).fdiv (2 ^ min (Int.toNat 6) IntKind.u8.bits)=((c.toNat / 64:Nat):Int):=shr_u8 c.toNat 6 (by omega)
     have f3:(c.toNat:Int).fdiv (2 ^ min (Int.toNat 3) IntKind.u8.bits)=((c.toNat / 8:Nat):Int):=shr_u8 c.toNat 3 (by omega)
     have e1:=u8dig (c.toNat / 64) (by omega)
     have e2:=u8dig (c.toNat / 8 % 8) (by omega)
     have e3:=u8dig (c.toNat % 8) (by omega)
     have hol:=E37 c
     refine A3 (A2 (A4 Z Z) Z (A2 (D90 Z Z (by omega)) Z (A2 (A11 Z Z) Z (A2 (A4 Z Z) Z (A2 (D90 Z Z (by omega)) Z (A2 (C17 Z Z Z (fun _=>rfl)) Z (A2 (A11 Z Z) Z (A2 (A4 Z Z) Z (A2 (C17 Z Z Z (fun _=>rfl)) Z (A2 (A11 Z Z) Z ?_))))))))));rw [f6,f3,F16 (c.toNat / 8) (by omega),F16 c.toNat (by omega),e1,e2,e3];refine A2 (E3 (c:=u8C) (ys:=[UInt8.ofNat (48+c.toNat / 64),UInt8.ofNat (48+c.toNat / 8 % 8),UInt8.ofNat (48+c.toNat % 8)]) (E6 Z Z Z Z (E6 Z Z Z Z (E6 Z Z Z Z I9))) Z Z Z) Z (A2 (s7 TyStr.out Z (.pure _ _ _ _)) Z (A2 (F2 Z Z (by simp)) Z (A2 (A5 Z Z) Z (A6 ?_))))
     refine k1 (k10 (k12 (k11 ?_)))
     exact B5 (F5 rfl rfl rfl) (by rw [V1,if_neg (by omega),if_neg (by omega),if_neg (by omega),if_pos (by omega),hol];rfl)
    ·have h3:=A1 (or_pick.symm.trans ht)
     refine k5 (k2 ?_)
     refine A3 (A2 (A4 Z Z) Z (A2 (A95 Z (by omega)) Z (A2 (A5 Z Z) Z (A6 ?_))))
     refine k1 (k10 ?_)
     exact B5 (F5 rfl rfl rfl) (by rw [V1,if_neg (by omega),if_neg (by omega),if_neg (by omega),if_neg (by omega)])
theorem itoa_ok (n:Int) (h:0≤n∧n≤2147483647):FnOk Tryz.prog 205 [I8 n] (fun rs=>rs=[I1 (Lib.itoa n)]) :=
 F94 (xs:=[.int .i64 n]) (r:=.string ⟨(Lib.itoa n).toArray⟩) ⟨_,rfl,rfl,rfl⟩ rfl fun w hw =>
  (Tryz.strconv_Itoa n (by omega) (by omega) w (hw.pow10 rfl)).mono fun e w' ⟨he,k,os,hw'⟩=>⟨he,by subst hw';exact Lib.below_grow _ _ (Nat.le_refl _) _ _⟩
theorem A21 (n:Int):FnOk Tryz.prog 148 [I8 n] (fun rs=>rs=[I1 (m7 n)]):=by
 refine FnOk.intro Tryz.func148 (by decide) Z Z Z Z ?_
 refine k2 ?_
 refine A3 (A2 (A5 Z Z) Z (A6 ?_))
 refine k1 (k2 (k2 ?_))
 refine A3 (A2 (A4 Z Z) Z (A2 (E5 Z Z) Z (A2 (A4 Z Z) Z (A8 Z Z Z Z (fun hg=>by rw [hg];exact A4 Z Z) ?_))));refine A8 Z Z Z Z (fun hg=>by rw [hg];exact L1 Z Z) ?_;refine A2 (B2 Z (fun h=>by first | rfl | (rw [h];rfl)) (fun h=>by first | rfl | (rw [h];rfl))) Z ?_;refine A6 ?_
 refine k1 ?_
 refine B4 rfl (fun ht=>?_) (fun ht=>?_)
 ·have h:=A0 (or_pick.symm.trans ht)
  refine k2 ?_
  refine A3 (A2 (A5 Z Z) Z (A6 ?_))
  refine k1 (k10 (k11 ?_))
  exact B5 (F5 rfl rfl rfl) (by rw [m7,if_pos (by omega)])
 ·have h:=A1 (or_pick.symm.trans ht)
  refine k5 (k1 (k2 ?_))
  refine A3 (A2 (A4 Z Z) Z (C2 (itoa_ok n (by omega)) Z Z Z ?_));rintro _ rfl;refine A2 (A5 Z Z) Z (A6 ?_)
  refine k1 (k10 ?_)
  exact B5 (F5 rfl rfl rfl) (by rw [m7,if_neg (by omega)])
theorem D22 (a n:Int) (ha:-4611686018427387904≤a∧a≤4611686018427387904) (hn:-4611686018427387904≤n∧n≤4611686018427387904):FnOk Tryz.prog 151 [I8 a,I8 n] (fun rs=>rs=[I1 (Q7 a n)]):=by
 refine FnOk.intro Tryz.func151 (by decide) Z Z Z Z ?_
 refine k2 ?_
 refine A3 (A2 (A5 Z Z) Z (A6 ?_))
 refine k1 (k2 (k2 ?_))
 refine A3 (A2 (A4 Z Z) Z (A2 (E5 Z Z) Z (A2 (A4 Z Z) Z (A8 Z Z Z Z (fun hg=>by rw [hg];exact A4 Z Z) ?_))));refine A8 Z Z Z Z (fun hg=>by rw [hg];exact E5 Z Z) ?_;refine A2 (B2 Z (fun h=>by first | rfl | (rw [h];rfl)) (fun h=>by first | rfl | (rw [h];rfl))) Z ?_;refine A2 (A4 Z Z) Z (A8 Z Z Z Z (fun hg=>by rw [hg];exact A4 Z Z) ?_);refine A8 Z Z Z Z (fun hg=>by rw [hg];exact L1 Z Z) ?_;refine A2 (B2 Z (fun h=>by first | rfl | (rw [h];rfl)) (fun h=>by first | rfl | (rw [h];rfl))) Z ?_;refine A2 (A4 Z Z) Z (A8 Z Z Z Z (fun hg=>by rw [hg];exact A4 Z Z) ?_);refine A8 Z Z Z Z (fun hg=>by rw [hg];exact A4 Z Z) ?_;refine A8 Z Z Z Z (fun hg=>by rw [hg];exact N6 Z Z (by (first | omega | (simp at hq;omega)))) ?_;refine A8 Z Z Z Z (fun hg=>by rw [hg];exact L1 Z Z) ?_;refine A2 (B2 Z (fun h=>by first | rfl | (rw [h];rfl)) (fun h=>by first | rfl | (rw [h];rfl))) Z ?_;refine A6 ?_
 refine k1 ?_
 have l1:=T5 a
 have l2:=T5 (a+1)
 have l3:=T5 n
 refine B4 rfl (fun ht=>?_) (fun ht=>?_)
 ·have h:=A0 ((by simp only [or_pick] at ht;exact ht):decide _=true)
  refine k2 ?_
  refine A3 (A2 (A5 Z Z) Z (A6 ?_))
  refine k1 (k10 (k11 ?_))
  exact B5 (F5 rfl rfl rfl) (by rw [Q7,if_pos (by omega)])
 ·have h:=A1 ((by simp only [or_pick] at ht;exact ht):decide _=false)
  refine k5 (k1 (k2 (k2 ?_)))
  refine A3 (A2 (A4 Z Z) Z (A6 ?_))
  refine k1 (k3 (k2 ?_))
  refine A3 (A2 (J9 Z Z) Z (A2 (A5 Z Z) Z (A6 ?_)))
  refine k1 ?_
  refine B4 rfl (fun ht=>?_) (fun ht=>?_)
  ·have h0:=A0 ht
   refine k2 ?_
   refine A3 (A2 (A4 Z Z) Z (C2 (A21 a) Z Z Z ?_));rintro _ rfl;refine A2 (F2 Z Z (by simp;omega)) Z (A2 (A5 Z Z) Z (A6 ?_))
   refine k1 (k10 (k12 (k11 ?_)))
   exact B5 (F5 rfl rfl rfl) (by rw [Q7,if_neg (by omega),if_pos h0])
  ·have h0:=A1 ht
   refine k2 ?_
   refine A3 (A2 (J9 Z Z) Z (A2 (A5 Z Z) Z (A6 ?_)))
   refine k1 ?_
   refine B4 rfl (fun ht=>?_) (fun ht=>?_)
   ·have h1:=A0 ht
    refine k2 ?_
    refine A3 (A2 (A4 Z Z) Z (A2 (C3 Z Z (by omega)) Z (C2 (A21 (a+1)) Z Z Z ?_)));rintro _ rfl;refine A2 (A5 Z Z) Z (A6 ?_)
    refine k1 (k10 (k12 (k11 ?_)))
    exact B5 (F5 rfl rfl rfl) (by rw [Q7,if_neg (by omega),if_neg h0,if_pos h1])
   ·have h1:=A1 ht
    refine k5 (k2 ?_)
    refine A3 (A2 (A4 Z Z) Z (A2 (C3 Z Z (by omega)) Z (C2 (A21 (a+1)) Z Z Z ?_)));rintro _ rfl;refine A2 (F2 Z Z (by simp;omega)) Z (A2 (A4 Z Z) Z (C2 (A21 n) Z Z Z ?_));rintro _ rfl;refine A2 (F2 Z Z (by simp;omega)) Z (A2 (A5 Z Z) Z (A6 ?_))
    refine k1 (k10 ?_)
    exact B5 (F5 rfl rfl rfl) (by rw [Q7,if_neg (by omega),if_neg h0,if_neg h1])
theorem A98 (B b:Nat) (l:List UInt8) (w:World) (h:Lib.IsBuilder 124 5 B b (Lib.byteCells l) w) (hBw:B≤w.heap.size) :
  Calls Tryz.prog 89 #[.pointer (some ⟨b,0,none⟩)] w fun e w'=>e=.returned (.string ⟨l.toArray⟩)∧Below B w w':=Tryz.Builder_String_any B b l w h hBw
theorem D23 (s:Str) (hs:s.length≤16777216):FnOk Tryz.prog 134 [I1 s] (fun rs=>rs=[I1 (c4 s)]):=by
 refine FnOk.intro Tryz.func134 (by decide) Z Z Z Z ?_
 refine k2 ?_
 refine A3 (A2 (A5 Z Z) Z (A6 ?_))
 refine k1 (k2 ?_)
 refine A3 (A2 (A4 Z Z) Z (A2 (i6 Z Z) Z (A2 (A5 Z Z) Z (A6 ?_))))
 refine k1 (k2 (k2 ?_))
 refine A3 (A2 (A4 Z Z) Z (A2 (H7 Z) Z (A2 (A4 Z Z) Z (A6 ?_))))
 refine k1 (k3 ?_)
 refine D8 (X:=Nat) (fun i=>([(0,P8 s),(3,J4 (.bool (plains s i))),(10,D2 s.length),(11,D2 i)],[])) (fun i=>i≤s.length) (fun i=>s.length - i) 0 (Nat.zero_le _) ?_ ?_
 ·rw [B94]
  exact F77 ⟨le1 rfl,le1 rfl,le1 rfl,le1 rfl,trivial⟩ trivial
 intro i hi
 dsimp only at hi ⊢
 refine k2 ?_
 refine A3 (A2 (E5 Z Z) Z (A6 ?_))
 refine k1 (k2 ?_)
 refine B4 rfl (fun ht=>?_) (fun ht=>?_)
 ·have hlt:i < s.length:=by have:=A0 ht;omega
  have hv:s[i]?=some s[i]:=by simp [hlt]
  obtain ⟨c,hc⟩:∃c,c=s[i]:=⟨_,rfl⟩
  have h2:=B95 s i hlt
  rw [←hc] at hv h2
  refine k5 (k1 (k2 (k3 (k2 ?_))))
  refine A3 (A2 (A4 Z Z) Z (A2 (A5 Z Z) Z (A6 ?_)))
  refine k1 ?_
  refine A3 (A2 (A4 Z Z) Z (A2 (A4 Z Z) Z (A8 Z Z Z Z (fun hg=>by rw [hg];exact A4 Z Z) ?_)));refine A8 Z Z Z Z (fun hg=>by rw [hg];exact A4 Z Z) ?_;refine A8 Z Z Z Z (fun hg=>by have hq:=hg;(try simp at hq);rw [hg];exact Y3 Z Z (by omega) hv) ?_;refine A8 Z Z Z Z (fun hg=>by have hq:=hg;(try simp at hq);rw [hg];exact E9 (F30 c) Z Z) ?_;refine A2 (B2 Z (fun h=>by first | rfl | (rw [h];rfl)) (fun h=>by first | rfl | (rw [h];rfl))) Z ?_;refine A2 (A5 Z Z) Z (A6 ?_)
  refine k4 (k1 ?_)
  refine A3 (A2 (C3 Z Z (by omega)) Z (A2 (A4 Z Z) Z (A6 ?_)))
  refine k1 ?_
  refine ⟨i+1,hlt,by omega,?_⟩
  rw [show (if plains s i=true then A27 c else false)=plains s (i+1) from by rw [h2];cases plains s i<;>rfl]
  exact F77 ⟨le1 rfl,le1 rfl,le1 rfl,le1 rfl,trivial⟩ trivial
 have hi':i=s.length:=by have:=A1 ht;omega
 subst hi'
 refine k6 (k2 (k2 ?_))
 refine A3 (A2 (A4 Z Z) Z (A6 ?_))
 refine k1 ?_
 refine B4 rfl (fun ht=>?_) (fun ht=>?_)
 ·have h:plains s s.length=true:=ht
  refine k2 ?_
  refine A3 (A2 (A4 Z Z) Z (A2 (A5 Z Z) Z (A6 ?_)))
  refine k1 (k10 (k11 ?_))
  exact B5 (F5 rfl rfl rfl) (by rw [A28,if_pos h])
 have h:plains s s.length=false:=ht
 have hq:c4 s=(34::escs s s.length)++[34]:=by rw [A28,h];rfl
 refine k5 (k1 (k2 ?_))
 refine A3 (C4 (D96 700 Z) Z (A6 ?_))
 refine k1 (k2 ?_)
 refine K3 (F91 701 UInt8 1 u8C 5 (kb:=700) (o:=1) Z Z Z) ?_
 refine A3 (t6 (y7 (xs:=[]) (c:=34) ⟨⟨_,.inl rfl,rfl⟩,rfl⟩ (by simp)) Z Z Z ?_);rintro _ _ ⟨rfl,rfl⟩;refine A6 ?_
 refine k1 (k2 (k2 ?_))
 refine A3 (A2 (A4 Z Z) Z (A2 (H7 Z) Z (A2 (A4 Z Z) Z (A6 ?_))))
 refine k1 (k3 ?_)
 refine D8 (X:=Nat) (fun i=>([(0,P8 s),(5,.s (.one (.ref 700 0))),(26,D2 s.length),(27,D2 i)],[(700,.tbx 124 [.ref 700 0,.buf 701 UInt8 1 u8C (34::escs s i)]),(701,.spare (34::escs s i).length 1 5)])) (fun i=>i≤s.length) (fun i=>s.length - i) 0 (Nat.zero_le _) (F77 ⟨le1 rfl,le1 rfl,le1 rfl,le1 rfl,trivial⟩ ⟨rfl,rfl,trivial⟩) ?_
 intro i hi
 dsimp only at hi ⊢
 have hel:=E38 s i hi
 refine k2 ?_
 refine A3 (A2 (E5 Z Z) Z (A6 ?_))
 refine k1 (k2 ?_)
 refine B4 rfl (fun ht=>?_) (fun ht=>?_)
 ·have hlt:i < s.length:=by have:=A0 ht;omega
  have hv:s[i]?=some s[i]:=by simp [hlt]
  obtain ⟨c,hc⟩:∃c,c=s[i]:=⟨_,rfl⟩
  have h1:=D38 s i hlt
  have h2:=D37 c
  rw [←hc] at hv h1
  refine k5 (k1 (k2 (k3 (k2 ?_))))
  refine A3 (A2 (A4 Z Z) Z (A2 (A5 Z Z) Z (A6 ?_)))
  refine k1 ?_
  refine A3 (A2 (A4 Z Z) Z (A2 (A4 Z Z) Z (A2 (Y3 Z Z (by omega) hv) Z (C2 (E69 c) Z Z Z ?_))));rintro _ rfl;refine t6 (T0 (xs:=34::escs s i) (s:=V1 c) ⟨⟨_,.inr rfl,rfl⟩,rfl⟩ (by simp only [G10];omega)) Z Z Z ?_;rintro _ _ ⟨rfl,rfl⟩;refine A6 ?_
  refine k4 (k1 ?_)
  refine A3 (A2 (C3 Z Z (by omega)) Z (A2 (A4 Z Z) Z (A6 ?_)))
  refine k1 ?_
  refine ⟨i+1,hlt,by omega,?_⟩
  rw [h1]
  exact F77 ⟨le1 rfl,le1 rfl,le1 rfl,le1 rfl,trivial⟩ ⟨rfl,rfl,trivial⟩
 have hi':i=s.length:=by have:=A1 ht;omega
 subst hi'
 refine k6 (k2 ?_)
 refine A3 (t6 (y7 (xs:=34::escs s s.length) (c:=34) ⟨⟨_,.inr rfl,rfl⟩,rfl⟩ (by simp only [G10];omega)) Z Z Z ?_);rintro _ _ ⟨rfl,rfl⟩;refine A6 ?_
 refine k1 (k2 ?_)
 refine A3 (D09 (k:=700) (k':=701) ⟨_,rfl,rfl,rfl⟩ A98 Z Z Z Z Z (.inr Z) Z (A2 (A5 Z Z) Z (A6 ?_)))
 refine k1 (k10 ?_)
 exact B5 (F5 rfl rfl rfl) (by rw [hq])
theorem D24 (s:Str) (c:UInt8):FnOk Tryz.prog 216 [I1 s,I1 [c]] (fun rs=>rs=[I8 (s.count c)]) :=
 F81 (xs:=[.string ⟨s.toArray⟩,.string ⟨#[c]⟩]) ⟨_,rfl,rfl,rfl⟩ rfl fun w=>by simpa [Lib.countByte] using Tryz.strings_Count_one ⟨s.toArray⟩ c w
theorem F31 (s:Str) (c:UInt8):FnOk Tryz.prog 246 [I1 s,I1 [c]] (fun rs=>rs=[I8 (Lib.indexByte s c)]) :=
 F81 (xs:=[.string ⟨s.toArray⟩,.string ⟨#[c]⟩]) ⟨_,rfl,rfl,rfl⟩ rfl fun w=>by simpa using Tryz.strings_Index_one ⟨s.toArray⟩ c w
theorem E14 (s:Str) (hs:s.length≤536870912):FnOk Tryz.prog 217 [I1 s,I1 [10],I8 1,I8 (-1)] (fun rs=>rs=[T9 (N9 s)]):=by
 have hP:=V2 s []
 have hc:s.count 10≤s.length:=List.count_le_length
 have h10:([10]:Str).length=1:=rfl
 obtain ⟨P,hPe⟩:∃P,P=N9 s:=⟨_,rfl⟩
 have hPl:P.length=s.count 10+1:=by rw [hPe];exact hP
 refine FnOk.intro Tryz.func217 (by decide) Z Z Z Z ?_
 refine k2 ?_
 refine A3 (A2 (A5 Z Z) Z (A6 ?_))
 refine k1 (k2 (k2 ?_))
 refine A3 (A2 (A4 Z Z) Z (A2 (J9 Z Z) Z (A6 ?_)))
 refine k1 ?_
 refine B4 rfl (fun ht=>?_) (fun ht=>?_)
 ·exact absurd (A0 ht) (by omega)
 refine k5 (k1 (k2 (k2 ?_)))
 refine A3 (A2 (A4 Z Z) Z (A2 (u7 Z Z) Z (A6 ?_)))
 refine k1 ?_
 refine B4 rfl (fun ht=>?_) (fun ht=>?_)
 ·exact absurd (A0 ht) (by simp)
 refine k5 (k1 (k2 (k2 ?_)))
 refine A3 (A2 (A4 Z Z) Z (A2 (E5 Z Z) Z (A6 ?_)))
 refine k1 ?_
 refine B4 rfl (fun ht=>?_) (fun ht=>?_)
 rotate_left
 ·exact absurd (A1 ht) (by omega)
 skip
 refine A3 (A2 (A4 Z Z) Z (A2 (A4 Z Z) Z (C2 (D24 s 10) Z Z Z ?_)));rintro _ rfl;refine A2 (C3 Z Z (by omega)) Z (A2 (A5 Z Z) Z (A6 ?_))
 refine k1 (k2 ?_)
 refine A3 (A2 (A4 Z Z) Z (A2 (A4 Z Z) Z (A2 (H7 Z) Z (A2 (C3 Z Z (by omega)) Z (A2 (E99 Z Z) Z (A2 (A5 Z Z) Z (A6 ?_)))))))
 refine k1 (k2 ?_)
 rw [show (if (s.length:Int)+1 < (s.count 10:Int)+1 then (s.length:Int)+1 else (s.count 10:Int)+1)=(P.length:Int) from by split<;>omega]
 refine A3 (A2 (A4 Z Z) Z (C4 (D51 9 Str H0 [] Z Z (by omega) (by omega) (fun _=>by first | exact ⟨⟨rfl,rfl⟩,trivial⟩ | exact ⟨X2 _ _ _,trivial⟩) (by first | rfl | (simp [G8,M4,Ob.free,SV.free,S1.free,TC.free]<;>rfl))) Z ?_));refine A2 (A5 Z Z) Z (A6 ?_)
 refine k1 (k2 ?_)
 refine A3 (A2 (A4 Z Z) Z (A2 (N6 Z Z (by omega)) Z (A2 (A5 Z Z) Z (A6 ?_))))
 refine k1 (k2 ?_)
 refine A3 (A2 (A5 Z Z) Z (A6 ?_))
 refine k1 (k2 (k3 ?_))
 refine D8 (X:=Nat × Str) (fun x=>([(0,P8 x.2),(1,P8 [10]),(2,D2 1),(3,D2 ((P.length:Int) - 1)),(9,.s (.one (.mut 9))),(10,D2 x.1)],[(9,.arr Str 1 H0 (P.take x.1++List.replicate (P.length - x.1) []))])) (fun x=>x.1+1≤P.length∧P.drop x.1=N9 x.2∧x.2.length≤s.length) (fun x=>P.length - x.1) (0,s) ⟨by dsimp only;omega,hPe,Nat.le_refl _⟩ (F77 ⟨le1 rfl,le1 rfl,le1 rfl,le1 rfl,le1 rfl,le1 rfl,trivial⟩ ⟨rfl,trivial⟩) ?_
 rintro ⟨i,r⟩ ⟨hi,hp,hr⟩
 dsimp only at hi hp hr ⊢
 refine k2 (k2 ?_)
 refine A3 (A2 (A4 Z Z) Z (A2 (A4 Z Z) Z (A2 (E5 Z Z) Z (A6 ?_))))
 refine k1 ?_
 refine B4 rfl (fun ht=>?_) (fun ht=>?_)
 ·have hlt:i+1 < P.length:=by have:=A0 ht;omega
  have hin:(10:UInt8)∈r:=by
   have h1:=V2 r []
   have h2:(P.drop i).length=r.count 10+1:=by rw [hp];exact h1
   rw [G25] at h2
   exact List.count_pos_iff.1 (by omega)
  rcases X6 10 r with ⟨h1,_⟩ | ⟨a,b,h1,h2,h3⟩
  ·exact absurd hin h1
  obtain ⟨h4,h5⟩:=E82 hp h1 h2
  have hl:r.length=a.length+1+b.length:=by rw [h1];simp;omega
  refine k5 (k1 (k3 (k2 ?_)))
  refine A3 (A2 (A4 Z Z) Z (A2 (A4 Z Z) Z (C2 (F31 r 10) Z Z Z ?_)));rintro _ rfl;refine A2 (A5 Z Z) Z (A6 ?_)
  refine k1 (k2 (k2 ?_))
  refine A3 (A2 (A4 Z Z) Z (A2 (E5 Z Z) Z (A6 ?_)))
  refine k1 ?_
  rw [h3]
  refine B4 rfl (fun ht=>?_) (fun ht=>?_)
  ·exact absurd (A0 ht) (by omega)
  refine k5 (k1 (k2 ?_))
  refine A3 (A2 (A4 Z Z) Z (A2 (A4 Z Z) Z (A2 (A4 Z Z) Z (A2 (A4 Z Z) Z (A2 (A4 Z Z) Z (A2 (C3 Z Z (by omega)) Z (A2 (E98 Z Z (by omega) (by omega)) Z (A2 (N3 Z Z Z (by omega) (by (simp;omega))) Z (F3 (T4 TySz.out Z Z (by simp;omega) Z Z) (A6 ?_))))))))))
  refine k1 (k2 ?_)
  refine A3 (A2 (A4 Z Z) Z (A2 (A4 Z Z) Z (A2 (A4 Z Z) Z (A2 (H7 Z) Z (A2 (C3 Z Z (by omega)) Z (A2 (n_sub_l Z Z (by omega) (by omega)) Z (A2 (A5 Z Z) Z (A6 ?_))))))))
  refine k1 ?_
  refine A3 (A2 (A4 Z Z) Z (A2 (C3 Z Z (by omega)) Z (A2 (A5 Z Z) Z (A6 ?_))))
  refine k4 (k1 ?_)
  have e1:r.take (((a.length:Int)+1).toNat)=a++[10]:=by rw [h1,show ((a.length:Int)+1).toNat=a.length+1 by omega,show a++10::b=(a++[10])++b by simp,List.take_left' (by simp)]
  have e2:r.drop (((a.length:Int)+(([10]:Str).length:Int)).toNat)=b:=by rw [h1,h10,show ((a.length:Int)+((1:Nat):Int)).toNat=a.length+1 by omega,show a++10::b=(a++[10])++b by simp,List.drop_left' (by simp)]
  refine ⟨(i+1,b),⟨by dsimp only;omega,h5,by dsimp only;omega⟩,by dsimp only;omega,?_⟩
  rw [e1,e2]
  dsimp only
  rw [←D39 P [] _ i h4]
  exact F77 ⟨le1 rfl,le1 rfl,le1 rfl,le1 rfl,le1 rfl,le1 rfl,trivial⟩ ⟨rfl,trivial⟩
 ·have hge:i+1=P.length:=by have:=A1 ht;omega
  have h1:=V2 r []
  have h2:(P.drop i).length=r.count 10+1:=by rw [hp];exact h1
  rw [G25] at h2
  have h3:(10:UInt8)∉r:=List.count_eq_zero.1 (by omega)
  have h4:P[i]?=some r:=by rw [←List.head?_drop,hp];unfold N9;rw [C95 _ _ h3];rfl
  refine k6 (k2 ?_)
  refine A3 (A2 (A4 Z Z) Z (A2 (A4 Z Z) Z (A2 (A4 Z Z) Z (A2 (N3 Z Z Z (by omega) (by (simp;omega))) Z (F3 (T4 TySz.out Z Z (by simp;omega) Z Z) (A6 ?_))))))
  refine k1 (k2 ?_)
  have e:(P.take i++List.replicate (P.length - i) ([]:Str)).set (i:Int).toNat r=P:=by rw [G46,D39 P [] r i h4,hge];simp
  rw [e]
  refine K3 (Sees.freeze (k:=9) Z) ?_
  refine A3 (A2 (A4 Z Z) Z (A2 (A4 Z Z) Z (A2 (C3 Z Z (by omega)) Z (A2 (D05 Z (.pure _ _ _ _) Z (by omega) (by omega)) Z (A2 (A5 Z Z) Z (A6 ?_))))))
  refine k1 (k10 ?_)
  exact B5 (F5 rfl rfl rfl) (by rw [show ((i:Int)+1).toNat=P.length by omega,G23,hPe])
theorem C89 (s:Str) (hs:s.length≤536870912):FnOk Tryz.prog 174 [I1 s,I1 [10]] (fun rs=>rs=[T9 (N9 s)]):=by
 refine FnOk.intro Tryz.func174 (by decide) Z Z Z Z ?_
 refine k2 ?_
 refine A3 (A2 (A5 Z Z) Z (A6 ?_))
 refine k1 (k2 ?_)
 refine A3 (A2 (A4 Z Z) Z (A2 (A4 Z Z) Z (A2 (A4 Z Z) Z (A2 (H7 Z) Z (C2 (E14 s hs) Z Z Z ?_)))));rintro _ rfl;refine A2 (A5 Z Z) Z (A6 ?_)
 refine k1 (k10 ?_)
 exact B5 (F5 rfl rfl rfl) rfl
theorem F32 (s:Str) (hs:s.length≤536870912):FnOk Tryz.prog 173 [I1 s] (fun rs=>rs=[I8 (S5 s)]):=by
 have hl:=C96 s
 have hc:s.count 10≤s.length:=List.count_le_length
 refine FnOk.intro Tryz.func173 (by decide) Z Z Z Z ?_
 refine k2 ?_
 refine A3 (A2 (A5 Z Z) Z (A6 ?_))
 refine k1 (k2 ?_)
 refine A3 (A2 (A4 Z Z) Z (C2 (D24 s 10) Z Z Z ?_));rintro _ rfl;refine A2 (A5 Z Z) Z (A6 ?_)
 refine M8 ?_
 refine s9 [(0,P8 s),(3,D2 (B6 s).length)] [] ?_ ?_
 ·refine k2 ?_
  refine A3 (A2 (A4 Z Z) Z (A2 (i6 Z Z) Z (A2 (A4 Z Z) Z (A8 Z Z Z Z (fun hg=>by rw [hg];exact A4 Z Z) ?_))));refine A8 Z Z Z Z (fun hg=>by have hq:=hg;(try simp at hq);rw [hg];exact E9 (A80 s (by omega)) Z Z) ?_;refine A8 Z Z Z Z (fun hg=>by rw [hg];exact L2 Z) ?_;refine A2 (B2 Z (fun h=>by first | rfl | (rw [h];rfl)) (fun h=>by first | rfl | (rw [h];rfl))) Z ?_;refine A6 ?_
  refine k1 ?_
  refine B4 rfl (fun ht=>?_) (fun ht=>?_)
  ·have h:s≠[]∧ended s=false:=by
    by_cases h1:s=[]
    ·simp [h1] at ht
    ·refine ⟨h1,?_⟩;simpa [h1] using ht
   rw [if_pos h] at hl
   skip
   refine A3 (A2 (A4 Z Z) Z (A2 (C3 Z Z (by omega)) Z (A2 (A5 Z Z) Z (A6 ?_))))
   refine k1 ?_
   rw [hl,Int.natCast_add]
   exact F77 ⟨le1 rfl,le1 rfl,trivial⟩ trivial
  ·have h:¬(s≠[]∧ended s=false):=by
    rintro ⟨h1,h2⟩
    simp [h1,h2] at ht
   rw [if_neg h] at hl
   refine k5 (k1 ?_)
   rw [hl]
   exact F77 ⟨le1 rfl,le1 rfl,trivial⟩ trivial
 ·refine k2 (k2 ?_)
  refine A3 (A2 (A4 Z Z) Z (A2 (H7 Z) Z (A2 (L1 Z Z) Z (A2 (A4 Z Z) Z (A8 Z Z Z Z (fun hg=>by rw [hg];exact A4 Z Z) ?_)))));refine A8 Z Z Z Z (fun hg=>by rw [hg];exact L1 Z Z) ?_;refine A2 (B2 Z (fun h=>by first | rfl | (rw [h];rfl)) (fun h=>by first | rfl | (rw [h];rfl))) Z ?_;refine A6 ?_
  refine k1 ?_
  refine B4 rfl (fun ht=>?_) (fun ht=>?_)
  ·have h:=A0 (or_pick.symm.trans ht)
   refine k2 ?_
   refine A3 (A2 (A5 Z Z) Z (A6 ?_))
   refine k1 (k10 (k11 ?_))
   exact B5 (F5 rfl rfl rfl) (by rw [S5,if_pos (by omega)])
  ·have h:=A1 (or_pick.symm.trans ht)
   refine k5 (k1 (k2 ?_))
   refine A3 (A2 (A5 Z Z) Z (A6 ?_))
   refine k1 (k10 ?_)
   exact B5 (F5 rfl rfl rfl) (by rw [S5,if_neg (by omega)])
theorem F33 (s:Str) (hs:s.length≤536870912):FnOk Tryz.prog 107 [I1 s] (fun rs=>rs=[T9 (D4 s).1,I8 (D4 s).2]):=by
 have hp:B6 s=if (N9 s).getLastD []=[] then (N9 s).dropLast else N9 s:=E39 s []
 have hc:(N9 s).length=s.count 10+1:=V2 s []
 have hcl:s.count 10≤s.length:=List.count_le_length
 refine FnOk.intro Tryz.func107 (by decide) Z Z Z Z ?_
 refine k2 ?_
 refine A3 (A2 (A5 Z Z) Z (A2 (A5 Z Z) Z (A6 ?_)))
 refine k1 (k2 (k2 ?_))
 refine A3 (A2 (A4 Z Z) Z (C2 (F32 s hs) Z Z Z ?_));rintro _ rfl;refine A2 (A5 Z Z) Z (A6 ?_)
 refine k1 (k2 ?_)
 refine A3 (A2 (A4 Z Z) Z (A2 (H8 Z Z) Z (A6 ?_)))
 refine k1 ?_
 refine B4 rfl (fun ht=>?_) (fun ht=>?_)
 ·have h:S5 s≠0:=by simpa using ht
  have h1:s.length > 1048576∨(B6 s).length > 4096:=by
   by_cases h1:s.length > 1048576∨(B6 s).length > 4096
   ·exact h1
   ·exact absurd (by rw [S5,if_neg h1]) h
  refine k2 ?_
  refine A3 (A2 (A4 Z Z) Z (A2 (Z7 _ 1 H0) Z (A2 (A5 Z Z) Z (A6 ?_))))
  refine k1 (k10 (k11 ?_))
  exact B5 (Z9 rfl rfl rfl rfl rfl) (by rw [D4,if_pos h1,S5,if_pos h1])
 ·have h:S5 s=0:=by simpa using ht
  have h1:¬(s.length > 1048576∨(B6 s).length > 4096):=fun h1=>by rw [S5,if_pos h1] at h;omega
  have hv:(N9 s)[(N9 s).length - 1]?=some ((N9 s).getLastD []):=by
   rw [←List.getLast?_eq_getElem?,List.getLast?_eq_some_getLast (fun e=>by rw [e] at hc;simp at hc)]
   rw [List.getLastD_eq_getLast?,List.getLast?_eq_some_getLast (fun e=>by rw [e] at hc;simp at hc)];rfl
  have hi:(((N9 s).length:Int) - 1).toNat=(N9 s).length - 1:=by omega
  refine k5 (k1 (k2 ?_))
  refine A3 (A2 (A4 Z Z) Z (C2 (C89 s hs) Z Z Z ?_));rintro _ rfl;refine A2 (A5 Z Z) Z (A6 ?_)
  refine M8 ?_
  refine s9 [(5,D5 Str 1 H0 (B6 s))] [] ?_ ?_
  ·refine k2 ?_
   refine A3 (A2 (A4 Z Z) Z (A2 (A4 Z Z) Z (A2 (E1 Z (.pure _ _ _ _)) Z (A2 (N6 Z Z (by omega)) Z (A2 (B1 Z (.pure _ _ _ _) Z (by omega) (by rw [hi];exact hv)) Z ?_)))));refine A2 (B3 Z Z) Z (A2 (u7 Z Z) Z (A6 ?_))
   refine k1 ?_
   refine B4 rfl (fun ht=>?_) (fun ht=>?_)
   ·have h2:=A0 ht
    skip
    refine A3 (A2 (A4 Z Z) Z (A2 (A4 Z Z) Z (A2 (E1 Z (.pure _ _ _ _)) Z (A2 (N6 Z Z (by omega)) Z (A2 (D05 Z (.pure _ _ _ _) Z (by omega) (by omega)) Z (A2 (A5 Z Z) Z (A6 ?_)))))))
    refine k1 ?_
    rw [hp,if_pos h2,List.dropLast_eq_take,←hi]
    exact F77 ⟨le1 rfl,trivial⟩ trivial
   ·have h2:=A1 ht
    refine k5 (k1 ?_)
    rw [hp,if_neg h2]
    exact F77 ⟨le1 rfl,trivial⟩ trivial
  ·refine k2 ?_
   refine A3 (A2 (A4 Z Z) Z (A2 (A5 Z Z) Z (A2 (A5 Z Z) Z (A6 ?_))))
   refine k1 (k10 ?_)
   exact B5 (Z9 rfl rfl rfl rfl rfl) (by rw [D4,if_neg h1])
theorem A04 (s:Str) (hs:s.length≤536870912):FnOk Tryz.prog 119 [I1 s] (fun rs=>rs=[T9 (D4 s).1,I8 (D4 s).2]):=by
 refine FnOk.intro Tryz.func119 (by decide) Z Z Z Z ?_
 refine k2 ?_
 refine A3 (A2 (A5 Z Z) Z (A2 (A5 Z Z) Z (A6 ?_)))
 refine k1 (k2 (k2 ?_))
 refine A3 (A2 (A4 Z Z) Z (C2 (F57 s (by omega)) Z Z Z ?_));rintro _ rfl;refine A2 (H8 Z Z) Z (A6 ?_)
 refine k1 ?_
 refine B4 rfl (fun ht=>?_) (fun ht=>?_)
 ·have h:S5 s≠0:=by simpa using ht
  have h1:s.length > 1048576∨(B6 s).length > 4096:=by
   by_cases h1:s.length > 1048576∨(B6 s).length > 4096
   ·exact h1
   ·exact absurd (by rw [S5,if_neg h1]) h
  refine k2 ?_
  refine A3 (A2 (Z7 _ 1 H0) Z (A2 (A5 Z Z) Z (A6 ?_)))
  refine k1 (k10 (k11 ?_))
  exact B5 (Z9 rfl rfl rfl rfl rfl) (by rw [D4,if_pos h1])
 ·have h:S5 s=0:=by simpa using ht
  have h1:¬(s.length > 1048576∨(B6 s).length > 4096):=fun h1=>by rw [S5,if_pos h1] at h;omega
  refine k5 (k1 (k2 ?_))
  refine A3 (A2 (A4 Z Z) Z (C2 (B41 s (by omega)) Z Z Z ?_));rintro _ rfl;refine A2 (A5 Z Z) Z (A2 (A5 Z Z) Z (A6 ?_))
  refine k1 (k10 ?_)
  exact B5 (Z9 rfl rfl rfl rfl rfl) (by rw [D4,if_neg h1])
theorem B71 (n:Int):FnOk Tryz.prog 229 [I8 n] (fun rs=>rs=[O8 (decide (G9 n))]):=by
 refine FnOk.intro Tryz.func229 (by decide) Z Z Z Z ?_
 refine k2 ?_
 refine A3 (A2 (A5 Z Z) Z (A6 ?_))
 refine k1 (k2 ?_)
 refine A3 (A2 (A4 Z Z) Z (A2 (B80 Z Z) Z (A2 (A4 Z Z) Z (A8 Z Z Z Z (fun hg=>by rw [hg];exact A4 Z Z) ?_))));refine A8 Z Z Z Z (fun hg=>by rw [hg];exact A93 Z Z) ?_;refine A2 (B2 Z (fun h=>by first | rfl | (rw [h];rfl)) (fun h=>by first | rfl | (rw [h];rfl))) Z ?_;refine A2 (A5 Z Z) Z (A6 ?_)
 refine k1 (k10 ?_)
 refine B5 (F5 Z Z Z) ?_
 simp only [J6]
 rfl
theorem E15 (l:List Change) (m n:Int) (hl:l.length≤1073741824):FnOk Tryz.prog 185 [pChanges l,I8 m,I8 n] (fun rs=>rs=[I8 (Y0 l m n)]):=by
 refine FnOk.intro Tryz.func185 (by decide) Z Z Z Z ?_
 refine k2 ?_
 refine A3 (A2 (A5 Z Z) Z (A6 ?_))
 refine k1 (k2 (k2 ?_))
 refine A3 (A2 (A4 Z Z) Z (C2 (B71 m) Z Z Z ?_));rintro _ rfl;refine A2 (L2 Z) Z (A2 (A4 Z Z) Z (A8 Z Z Z Z (fun hg=>by rw [hg];exact A4 Z Z) ?_));refine A8 Z Z Z Z (fun hg=>by have hq:=hg;(try simp at hq);rw [hg];exact E9 (B71 n) Z Z) ?_;refine A8 Z Z Z Z (fun hg=>by rw [hg];exact L2 Z) ?_;refine A2 (B2 Z (fun h=>by first | rfl | (rw [h];rfl)) (fun h=>by first | rfl | (rw [h];rfl))) Z ?_;refine A6 ?_
 refine k1 ?_
 refine B4 rfl (fun ht=>?_) (fun ht=>?_)
 ·simp only [←decide_not,or_pick] at ht
  have h:¬G9 m∨¬G9 n:=A0 ht
  refine k2 ?_
  refine A3 (A2 (A5 Z Z) Z (A6 ?_))
  refine k1 (k10 (k11 ?_))
  exact B5 (F5 rfl rfl rfl) (by rw [Y0,if_pos h])
 simp only [←decide_not,or_pick] at ht
 have h:¬(¬G9 m∨¬G9 n):=A1 ht
 have hm:0≤m∧m≤4096:=by by_cases hm:G9 m;exact hm;exact absurd (.inl hm) h
 have hn:0≤n∧n≤4096:=by by_cases hn:G9 n;exact hn;exact absurd (.inr hn) h
 refine k5 (k1 (k2 ?_))
 refine A3 (A2 (A5 Z Z) Z (A2 (A5 Z Z) Z (A6 ?_)))
 refine k1 (k2 (k2 ?_))
 refine A3 (A2 (A5 Z Z) Z (A6 ?_))
 refine k1 (k3 ?_)
 refine D8 (X:=Nat × Int × Int) (fun x=>([(0,D5 Change 4 changeC l),(1,D2 m),(2,D2 n),(7,D2 x.2.1),(8,D2 x.2.2),(9,D2 x.1)],[])) (fun x=>x.1≤l.length∧I3 0 0 0 l m n=I3 x.1 x.2.1 x.2.2 (l.drop x.1) m n∧0≤x.2.1∧x.2.1≤8192∧0≤x.2.2∧x.2.2≤8192) (fun x=>l.length - x.1) (0,0,0) ⟨Nat.zero_le _,rfl,by decide,by decide,by decide,by decide⟩ (F77 ⟨le1 rfl,le1 rfl,le1 rfl,le1 rfl,le1 rfl,le1 rfl,trivial⟩ trivial) ?_
 rintro ⟨k,i,j⟩ ⟨hk,hp,hi,hi2,hj,hj2⟩
 dsimp only at hk hp hi hi2 hj hj2 ⊢
 refine k2 (k2 ?_)
 refine A3 (A2 (A4 Z Z) Z (A2 (A4 Z Z) Z (A2 (E1 Z (.pure _ _ _ _)) Z (A2 (E5 Z Z) Z (A6 ?_)))))
 refine k1 ?_
 refine B4 rfl (fun ht=>?_) (fun ht=>?_)
 ·have hlt:k < l.length:=by have:=A0 ht;omega
  have hv:l[k]?=some l[k]:=by simp [hlt]
  obtain ⟨c,hc⟩:∃c,c=l[k]:=⟨_,rfl⟩
  rw [G12 hlt,I3] at hp
  rw [←hc] at hv hp
  refine k5 (k1 (k2 (k3 (k2 ?_))))
  refine A3 (A2 (A4 Z Z) Z (A2 (A4 Z Z) Z (A2 (B1 Z (.pure _ _ _ _) Z (by omega) hv) Z (A2 (D3 Z Z) Z (C4 (F7 10 Z) Z (F3 (B8 TySz.out Z Z Z Z Z Z) (A6 ?_)))))))
  refine k1 (k2 (k2 ?_))
  refine A3 (A2 (A7 Z) Z (A2 (A9 Z Z Z) Z (C2 (B71 c.Old) Z Z Z ?_)));rintro _ rfl;refine A2 (L2 Z) Z (A2 (A4 Z Z) Z (A8 Z Z Z Z (fun hg=>by rw [hg];exact A7 Z) ?_));refine A8 Z Z Z Z (fun hg=>by rw [hg];exact A9 Z Z Z) ?_;refine A8 Z Z Z Z (fun hg=>by have hq:=hg;(try simp at hq);rw [hg];exact E9 (B71 c.OldLen) Z Z) ?_;refine A8 Z Z Z Z (fun hg=>by rw [hg];exact L2 Z) ?_;refine A2 (B2 Z (fun h=>by first | rfl | (rw [h];rfl)) (fun h=>by first | rfl | (rw [h];rfl))) Z ?_;refine A2 (A4 Z Z) Z (A8 Z Z Z Z (fun hg=>by rw [hg];exact A7 Z) ?_);refine A8 Z Z Z Z (fun hg=>by rw [hg];exact A9 Z Z Z) ?_;refine A8 Z Z Z Z (fun hg=>by have hq:=hg;(try simp at hq);rw [hg];exact E9 (B71 c.New) Z Z) ?_;refine A8 Z Z Z Z (fun hg=>by rw [hg];exact L2 Z) ?_;refine A2 (B2 Z (fun h=>by first | rfl | (rw [h];rfl)) (fun h=>by first | rfl | (rw [h];rfl))) Z ?_;refine A2 (A4 Z Z) Z (A8 Z Z Z Z (fun hg=>by rw [hg];exact A7 Z) ?_);refine A8 Z Z Z Z (fun hg=>by rw [hg];exact A9 Z Z Z) ?_;refine A8 Z Z Z Z (fun hg=>by have hq:=hg;(try simp at hq);rw [hg];exact E9 (B71 c.NewLen) Z Z) ?_;refine A8 Z Z Z Z (fun hg=>by rw [hg];exact L2 Z) ?_;refine A2 (B2 Z (fun h=>by first | rfl | (rw [h];rfl)) (fun h=>by first | rfl | (rw [h];rfl))) Z ?_;refine A2 (A4 Z Z) Z (A8 Z Z Z Z (fun hg=>by rw [hg];exact A7 Z) ?_);refine A8 Z Z Z Z (fun hg=>by rw [hg];exact A9 Z Z Z) ?_;refine A8 Z Z Z Z (fun hg=>by rw [hg];exact A7 Z) ?_;refine A8 Z Z Z Z (fun hg=>by rw [hg];exact A9 Z Z Z) ?_;refine A8 Z Z Z Z (fun hg=>by have hq:=hg;(try simp at hq);simp [G9] at hq;rw [hg];exact C3 Z Z (by omega)) ?_;refine A8 Z Z Z Z (fun hg=>by rw [hg];exact J9 Z Z) ?_;refine A2 (B2 Z (fun h=>by first | rfl | (rw [h];rfl)) (fun h=>by first | rfl | (rw [h];rfl))) Z ?_;refine A2 (A4 Z Z) Z (A8 Z Z Z Z (fun hg=>by rw [hg];exact A7 Z) ?_);refine A8 Z Z Z Z (fun hg=>by rw [hg];exact A9 Z Z Z) ?_;refine A8 Z Z Z Z (fun hg=>by rw [hg];exact A4 Z Z) ?_;refine A8 Z Z Z Z (fun hg=>by have hq:=hg;(try simp at hq);simp [G9] at hq;rw [hg];exact N6 Z Z (by omega)) ?_;refine A8 Z Z Z Z (fun hg=>by rw [hg];exact A7 Z) ?_
  refine A8 Z Z Z Z (fun hg=>by rw [hg];exact A9 Z Z Z) ?_;refine A8 Z Z Z Z (fun hg=>by rw [hg];exact A4 Z Z) ?_;refine A8 Z Z Z Z (fun hg=>by have hq:=hg;(try simp at hq);simp [G9] at hq;rw [hg];exact N6 Z Z (by omega)) ?_;refine A8 Z Z Z Z (fun hg=>by rw [hg];exact H8 Z Z) ?_;refine A2 (B2 Z (fun h=>by first | rfl | (rw [h];rfl)) (fun h=>by first | rfl | (rw [h];rfl))) Z ?_;refine A2 (A4 Z Z) Z (A8 Z Z Z Z (fun hg=>by rw [hg];exact A7 Z) ?_);refine A8 Z Z Z Z (fun hg=>by rw [hg];exact A9 Z Z Z) ?_;refine A8 Z Z Z Z (fun hg=>by rw [hg];exact A4 Z Z) ?_;refine A8 Z Z Z Z (fun hg=>by rw [hg];exact E5 Z Z) ?_;refine A2 (B2 Z (fun h=>by first | rfl | (rw [h];rfl)) (fun h=>by first | rfl | (rw [h];rfl))) Z ?_;refine A2 (A4 Z Z) Z (A8 Z Z Z Z (fun hg=>by rw [hg];exact A4 Z Z) ?_);refine A8 Z Z Z Z (fun hg=>by rw [hg];exact L1 Z Z) ?_;refine A8 Z Z Z Z (fun hg=>by rw [hg];exact A4 Z Z) ?_;refine I0 Z Z Z (.gd (.val _)) Z (fun hg=>by obtain ⟨hg1,hg2⟩:=Q8 hg;(try rw [hg1]);(try rw [hg2]);exact A7 Z) ?_;refine I0 Z Z Z (.gd (.val _)) Z (fun hg=>by obtain ⟨hg1,hg2⟩:=Q8 hg;(try rw [hg1]);(try rw [hg2]);exact A9 Z Z Z) ?_;refine I0 Z Z Z (.gd (.val _)) Z (fun hg=>by obtain ⟨hg1,hg2⟩:=Q8 hg;(try rw [hg1]);(try rw [hg2]);exact A4 Z Z) ?_;refine I0 Z Z Z (.gd (.val _)) Z (fun hg=>by obtain ⟨hg1,hg2⟩:=Q8 hg;(try rw [hg1]);(try rw [hg2]);exact J9 Z Z) ?_;refine A8 Z Z Z Z (fun hg=>by rw [hg];exact B2 Z (fun h=>by first | rfl | (rw [h];rfl)) (fun h=>by first | rfl | (rw [h];rfl))) ?_;refine A2 (B2 Z (fun h=>by first | rfl | (rw [h];rfl)) (fun h=>by first | rfl | (rw [h];rfl))) Z ?_;refine A6 ?_
  refine k1 ?_
  refine B4 rfl (fun ht=>?_) (fun ht=>?_)
  ·simp only [←decide_not,or_pick,J6] at ht
   have h:C62 k i j c:=A0 ht
   refine k2 ?_
   refine A3 (A2 (A5 Z Z) Z (A6 ?_))
   refine k1 (k10 (k11 (k12 (k11 (k11 (k12 (k11 ?_)))))))
   exact B5 (F5 rfl rfl rfl) (by rw [Y0,if_neg ‹¬(¬G9 m∨¬G9 n)›,hp,decide_eq_false (fun hh=>hh h)];rfl)
  ·simp only [←decide_not,or_pick,J6] at ht
   have h:¬C62 k i j c:=A1 ht
   have hr:(0≤c.Old∧c.Old≤4096)∧(0≤c.OldLen∧c.OldLen≤4096)∧(0≤c.New∧c.New≤4096)∧(0≤c.NewLen∧c.NewLen≤4096):=by
    unfold C62 at h
    by_cases a1:G9 c.Old<;>by_cases a2:G9 c.OldLen<;>by_cases a3:G9 c.New<;>by_cases a4:G9 c.NewLen<;>simp [a1,a2,a3,a4] at h
    exact ⟨a1,a2,a3,a4⟩
   rw [decide_eq_true h,Bool.true_and] at hp
   refine k5 (k1 ?_)
   refine D7 (by kernel_rfl) (by kernel_rfl) (B0 (A7 Z) Z Z (B0 (A9 Z Z Z) Z Z (B0 (A7 Z) Z Z (B0 (A9 Z Z Z) Z Z (B0 (C3 Z Z (by omega)) Z Z (B0 (A7 Z) Z Z (B0 (A9 Z Z Z) Z Z (B0 (A7 Z) Z Z (B0 (A9 Z Z Z) Z Z (B0 (C3 Z Z (by omega)) Z Z (B0 (A5 Z Z) Z Z (B0 (A5 Z Z) Z Z (H5 ?_)))))))))))))
   refine k4 (k1 ?_)
   refine A3 (A2 (A4 Z Z) Z (A2 (C3 Z Z (by omega)) Z (A2 (A5 Z Z) Z (A6 ?_))))
   refine k1 ?_
   exact ⟨(k+1,c.Old+c.OldLen,c.New+c.NewLen),⟨by dsimp only;omega,hp,by dsimp only;omega,by dsimp only;omega,by dsimp only;omega,by dsimp only;omega⟩,by dsimp only;omega,F77 ⟨le1 rfl,le1 rfl,le1 rfl,le1 rfl,le1 rfl,le1 rfl,trivial⟩ trivial⟩
 ·have hk':k=l.length:=by have:=A1 ht;omega
  rw [hk',G18 (Nat.le_refl _),I3] at hp
  refine k6 (k2 (k2 ?_))
  refine A3 (A2 (A4 Z Z) Z (A2 (A4 Z Z) Z (A2 (N6 Z Z (by omega)) Z (A2 (A4 Z Z) Z (A2 (A4 Z Z) Z (A2 (N6 Z Z (by omega)) Z (A2 (H8 Z Z) Z (A2 (A4 Z Z) Z (A8 Z Z Z Z (fun hg=>by rw [hg];exact A4 Z Z) ?_)))))))));refine A8 Z Z Z Z (fun hg=>by rw [hg];exact A4 Z Z) ?_;refine A8 Z Z Z Z (fun hg=>by rw [hg];exact E5 Z Z) ?_;refine A2 (B2 Z (fun h=>by first | rfl | (rw [h];rfl)) (fun h=>by first | rfl | (rw [h];rfl))) Z ?_;refine A6 ?_
  refine k1 ?_
  refine B4 rfl (fun ht=>?_) (fun ht=>?_)
  ·have h2:=A0 (or_pick.symm.trans ht)
   refine k2 ?_
   refine A3 (A2 (A5 Z Z) Z (A6 ?_))
   refine k1 (k10 (k11 ?_))
   exact B5 (F5 rfl rfl rfl) (by rw [Y0,if_neg h,hp,decide_eq_false (fun hh=>hh h2)];rfl)
  ·have h2:=A1 (or_pick.symm.trans ht)
   refine k5 (k1 (k2 ?_))
   refine A3 (A2 (A5 Z Z) Z (A6 ?_))
   refine k1 (k10 ?_)
   exact B5 (F5 rfl rfl rfl) (by rw [Y0,if_neg h,hp,decide_eq_true h2];rfl)
theorem C50 (l:List Change) (m n ctx:Int) (hl:l.length≤1073741824):FnOk Tryz.prog 122 [pChanges l,I8 m,I8 n,I8 ctx] (fun rs=>rs=[pHunks (K7 l m n ctx).1,I8 (K7 l m n ctx).2]):=by
 refine FnOk.intro Tryz.func122 (by decide) Z Z Z Z ?_
 refine k2 ?_
 refine A3 (A2 (A5 Z Z) Z (A2 (A5 Z Z) Z (A6 ?_)))
 refine k1 (k2 (k2 ?_))
 refine A3 (A2 (A4 Z Z) Z (A2 (E5 Z Z) Z (A2 (A4 Z Z) Z (A8 Z Z Z Z (fun hg=>by rw [hg];exact A4 Z Z) ?_))));refine A8 Z Z Z Z (fun hg=>by rw [hg];exact L1 Z Z) ?_;refine A2 (B2 Z (fun h=>by first | rfl | (rw [h];rfl)) (fun h=>by first | rfl | (rw [h];rfl))) Z ?_;refine A6 ?_
 refine k1 ?_
 refine B4 rfl (fun ht=>?_) (fun ht=>?_)
 ·have h:=A0 (or_pick.symm.trans ht)
  refine k2 ?_
  refine A3 (A2 (Z7 _ 6 hunkC) Z (A2 (A5 Z Z) Z (A6 ?_)))
  refine k1 (k10 (k11 ?_))
  exact B5 (Z9 rfl rfl rfl rfl rfl) (by rw [K7,if_pos (by omega)])
 have h:=A1 (or_pick.symm.trans ht)
 refine k5 (k1 (k2 (k2 ?_)))
 refine A3 (A2 (A4 Z Z) Z (A2 (A4 Z Z) Z (A2 (A4 Z Z) Z (C2 (E15 l m n hl) Z Z Z ?_))));rintro _ rfl;refine A2 (A5 Z Z) Z (A6 ?_)
 refine k1 (k2 ?_)
 refine A3 (A2 (A4 Z Z) Z (A2 (H8 Z Z) Z (A6 ?_)))
 refine k1 ?_
 refine B4 rfl (fun ht=>?_) (fun ht=>?_)
 ·have h1:Y0 l m n≠0:=A0 ht
  refine k2 ?_
  refine A3 (A2 (A4 Z Z) Z (A2 (Z7 _ 6 hunkC) Z (A2 (A5 Z Z) Z (A6 ?_))))
  refine k1 (k10 (k11 ?_))
  exact B5 (Z9 rfl rfl rfl rfl rfl) (by rw [K7,if_neg (by omega),if_pos h1])
 have h1:Y0 l m n=0:=by simpa using ht
 obtain ⟨hm,hn,hs⟩:=B74 h1
 unfold G9 at hm hn
 refine k5 (k1 (k2 ?_))
 refine A51 [(0,D5 Change 4 changeC l),(1,D2 m),(2,D2 n),(3,D2 ctx)] [] (F77 ⟨le1 rfl,le1 rfl,le1 rfl,le1 rfl,trivial⟩ trivial) ?_
 refine A3 (C4 (F53 11 _ hunkC Z) Z (A6 ?_))
 refine k1 (k2 (k2 ?_))
 refine A3 (A2 (A5 Z Z) Z (A6 ?_))
 refine k1 (k3 ?_)
 refine D8 (X:=Nat) (fun k=>([(0,D5 Change 4 changeC l),(1,D2 m),(3,D2 ctx),(11,.s (.one (.mut 11))),(12,D2 k)],[(11,.grow 175 Hunk 6 hunkC (F8 l m ctx k))])) (fun k=>k≤l.length) (fun k=>l.length - k) 0 (Nat.zero_le _) (F77 ⟨le1 rfl,le1 rfl,le1 rfl,le1 rfl,le1 rfl,trivial⟩ ⟨rfl,trivial⟩) ?_
 intro k hk
 dsimp only at hk ⊢
 have hgl:=V3 l m ctx k
 refine k2 (k2 ?_)
 refine A3 (A2 (A4 Z Z) Z (A2 (A4 Z Z) Z (A2 (E1 Z (.pure _ _ _ _)) Z (A2 (E5 Z Z) Z (A6 ?_)))))
 refine k1 ?_
 refine B4 rfl (fun ht=>?_) (fun ht=>?_)
 ·have hlt:k < l.length:=by have:=A0 ht;omega
  have hv:l[k]?=some (cAt l k):=C13 hlt
  obtain ⟨⟨g1,g2⟩,⟨g3,g4⟩,⟨g5,g6⟩,⟨g7,g8⟩,g9,g10⟩:=hs.get k hlt
  refine D45 ?_
  refine M8 ?_
  refine E96 ?_
  refine E97 ?_
  refine s9 [(0,D5 Change 4 changeC l),(1,D2 m),(3,D2 ctx),(11,.s (.one (.mut 11))),(12,D2 k)] [(11,.grow 175 Hunk 6 hunkC (O5 l ctx k (F8 l m ctx k)))] ?_ ?_
  ·refine k2 ?_
   have hp1:k≠0→l[((k:Int) - 1).toNat]?=some (cAt l (k - 1))∧(0≤(cAt l (k - 1)).Old∧(cAt l (k - 1)).Old≤4096)∧0≤(cAt l (k - 1)).OldLen∧(cAt l (k - 1)).OldLen≤4096:=fun hk0=>by
    have:=hs.get (k - 1) (by omega)
    refine ⟨?_,this.1,this.2.1⟩
    rw [show ((k:Int) - 1).toNat=k - 1 by omega];exact C13 (by omega)
   refine D7 (by kernel_rfl) (by kernel_rfl) (B0 (A4 Z Z) Z Z (B0 (J9 Z Z) Z Z (B0 (A4 Z Z) Z Z (C7 Z Z (fun hg=>by rw [hg];exact A4 Z Z) Z Z ?_))));refine C7 Z Z (fun hg=>by rw [hg];exact A4 Z Z) Z Z ?_;refine C7 Z Z (fun hg=>by have hq:=hg;(try simp at hq);rw [hg];exact B1 Z (.pure _ _ _ _) Z (by omega) hv) Z Z ?_;refine C7 Z Z (fun hg=>by rw [hg];exact B7 Z) Z Z ?_;refine C7 Z Z (fun hg=>by rw [hg];exact B3 Z Z) Z Z ?_;refine C7 Z Z (fun hg=>by rw [hg];exact A4 Z Z) Z Z ?_;refine C7 Z Z (fun hg=>by rw [hg];exact A4 Z Z) Z Z ?_;refine C7 Z Z (fun hg=>by have hq:=hg;(try simp at hq);rw [hg];exact N6 Z Z (by omega)) Z Z ?_;refine C7 Z Z (fun hg=>by have hq:=hg;(try simp at hq);rw [hg];exact B1 Z (.pure _ _ _ _) Z (by omega) (hp1 (by simpa using hq)).1) Z Z ?_;refine C7 Z Z (fun hg=>by rw [hg];exact B7 Z) Z Z ?_;refine C7 Z Z (fun hg=>by rw [hg];exact B3 Z Z) Z Z ?_;refine C7 Z Z (fun hg=>by have hq:=hg;(try simp at hq);have hp2:=hp1 (by simpa using hq);rw [hg];exact N6 Z Z (by omega)) Z Z ?_;refine C7 Z Z (fun hg=>by rw [hg];exact A4 Z Z) Z Z ?_;refine C7 Z Z (fun hg=>by rw [hg];exact A4 Z Z) Z Z ?_;refine C7 Z Z (fun hg=>by have hq:=hg;(try simp at hq);rw [hg];exact N6 Z Z (by omega)) Z Z ?_;refine C7 Z Z (fun hg=>by have hq:=hg;(try simp at hq);rw [hg];exact B1 Z (.pure _ _ _ _) Z (by omega) (hp1 (by simpa using hq)).1) Z Z ?_;refine C7 Z Z (fun hg=>by rw [hg];exact B7 Z) Z Z ?_;refine C7 Z Z (fun hg=>by rw [hg];exact B3 Z Z) Z Z ?_;refine C7 Z Z (fun hg=>by have hq:=hg;(try simp at hq);have hp2:=hp1 (by simpa using hq);rw [hg];exact N6 Z Z (by omega)) Z Z ?_;refine C7 Z Z (fun hg=>by rw [hg];exact A4 Z Z) Z Z ?_;refine C7 Z Z (fun hg=>by have hq:=hg;(try simp at hq);rw [hg];exact n_mul Z Z (by omega)) Z Z ?_;refine C7 Z Z (fun hg=>by rw [hg];exact L1 Z Z) Z Z ?_;refine B0 (B2 Z (fun h=>by first | rfl | (rw [h];rfl)) (fun h=>by first | rfl | (rw [h];rfl))) Z Z ?_;refine H5 ?_
   refine k1 ?_
   refine B4 rfl (fun ht=>?_) (fun ht=>?_)
   ·have h2:=A0 (or_pick.symm.trans ht)
    have ho:opens l ctx k:=by unfold opens;omega
    have hmin:0≤Z5 ctx (cAt l k).Old∧Z5 ctx (cAt l k).Old≤(cAt l k).Old:=by unfold Z5;split<;>omega
    refine k2 ?_
    refine A3 (A2 (A4 Z Z) Z (A2 (A4 Z Z) Z (A2 (A4 Z Z) Z (A2 (B1 Z (.pure _ _ _ _) Z (by omega) hv) Z (A2 (B7 Z) Z (A2 (B3 Z Z) Z (A2 (E99 Z Z) Z (A2 (A5 Z Z) Z (A6 ?_)))))))))
    rw [show (if (cAt l k).Old < ctx then (cAt l k).Old else ctx)=Z5 ctx (cAt l k).Old from rfl]
    refine k1 ?_
    refine D7 (by kernel_rfl) (by kernel_rfl) (B0 (A4 Z Z) Z Z (B0 (A4 Z Z) Z Z (B0 (A4 Z Z) Z Z (B0 (A4 Z Z) Z Z (B0 (B1 Z (.pure _ _ _ _) Z (by omega) hv) Z Z (B0 (B7 Z) Z Z (B0 (B3 Z Z) Z Z (B0 (A4 Z Z) Z Z (B0 (N6 Z Z (by omega)) Z Z (B0 (J2 Z) Z Z (B0 (A4 Z Z) Z Z (B0 (A4 Z Z) Z Z (B0 (B1 Z (.pure _ _ _ _) Z (by omega) hv) Z Z (B0 (B7 Z) Z Z (B0 (B3 Z Z) Z Z (B0 (A4 Z Z) Z Z (B0 (N6 Z Z (by omega)) Z Z (B0 (J2 Z) Z Z (B0 (J2 Z) Z Z (B0 (E3 (c:=hunkC) (ys:=[W9 l ctx k]) (E6 Z Z Z Z I9) Z Z Z) Z Z (T7 (Q4 Z Z Z (.pure _ _ _ _) (by simp;omega) Z) Z Z (B0 (A5 Z Z) Z Z (H5 ?_)))))))))))))))))))))))
    refine k1 ?_
    rw [O5,if_pos ho]
    exact F77 ⟨le1 rfl,le1 rfl,le1 rfl,le1 rfl,le1 rfl,trivial⟩ ⟨rfl,trivial⟩
   ·have h2:=A1 (or_pick.symm.trans ht)
    have ho:¬opens l ctx k:=by unfold opens;omega
    refine k5 (k1 ?_)
    rw [O5,if_neg ho]
    exact F77 ⟨le1 rfl,le1 rfl,le1 rfl,le1 rfl,le1 rfl,trivial⟩ ⟨rfl,trivial⟩
  ·obtain ⟨out,hout⟩:∃out,out=O5 l ctx k (F8 l m ctx k):=⟨_,rfl⟩
   have hsucc:F8 l m ctx (k+1)=out.set (out.length - 1) (A29 l m ctx k (out.getD (out.length - 1) B96)):=by rw [hout];rfl
   have hol:0 < out.length∧out.length≤k+1:=by
    rw [hout,O5]
    split
    ·simp only [G07,G10,G11];omega
    ·rename_i ho
     have:k≠0:=fun e=>ho (.inl e)
     omega
   rw [←hout]
   obtain ⟨h0,hh0⟩:∃h0,h0=out.getD (out.length - 1) B96:=⟨_,rfl⟩
   have hvo:out[out.length - 1]?=some h0:=by rw [hh0,G13,G09 (by omega)];rfl
   rw [←hh0] at hsucc
   have hi:((out.length:Int) - 1).toNat=out.length - 1:=by omega
   have hmin:0≤Z5 ctx (m - ((cAt l k).Old+(cAt l k).OldLen))∧Z5 ctx (m - ((cAt l k).Old+(cAt l k).OldLen))≤m - ((cAt l k).Old+(cAt l k).OldLen):=by unfold Z5;split<;>omega
   refine k2 ?_
   refine A3 (A2 (A4 Z Z) Z (A2 (F01 Z Z) Z (A2 (N6 Z Z (by omega)) Z (A2 (A5 Z Z) Z (A6 ?_)))))
   refine k1 (k2 ?_)
   refine D7 (by kernel_rfl) (by kernel_rfl) (B0 (A4 Z Z) Z Z (B0 (A4 Z Z) Z Z (B0 (B1 Z (.pure _ _ _ _) Z (by omega) hv) Z Z (B0 (B7 Z) Z Z (B0 (B3 Z Z) Z Z (B0 (A4 Z Z) Z Z (B0 (A4 Z Z) Z Z (B0 (B1 Z (.pure _ _ _ _) Z (by omega) hv) Z Z (B0 (B7 Z) Z Z (B0 (B3 Z Z) Z Z (B0 (C3 Z Z (by omega)) Z Z (B0 (A4 Z Z) Z Z (B0 (A4 Z Z) Z Z (B0 (B1 Z (.pure _ _ _ _) Z (by omega) hv) Z Z (B0 (B7 Z) Z Z (B0 (B3 Z Z) Z Z (B0 (A4 Z Z) Z Z (B0 (A4 Z Z) Z Z (B0 (B1 Z (.pure _ _ _ _) Z (by omega) hv) Z Z (B0 (B7 Z) Z Z (B0 (B3 Z Z) Z Z (B0 (C3 Z Z (by omega)) Z Z (B0 (A5 Z Z) Z Z ?_)))))))))))))))))))))));refine B0 (A5 Z Z) Z Z (H5 ?_)
   refine k1 (k2 ?_)
   refine A3 (A2 (A4 Z Z) Z (A2 (A4 Z Z) Z (A2 (A4 Z Z) Z (A2 (N6 Z Z (by omega)) Z (A2 (E99 Z Z) Z (A2 (A5 Z Z) Z (A6 ?_)))))))
   refine k1 (k2 ?_)
   rw [show (if m - ((cAt l k).Old+(cAt l k).OldLen) < ctx then m - ((cAt l k).Old+(cAt l k).OldLen) else ctx)=Z5 ctx (m - ((cAt l k).Old+(cAt l k).OldLen)) from rfl]
   refine A3 (A2 (A4 Z Z) Z (A2 (A4 Z Z) Z (A2 (A4 Z Z) Z (A2 (C3 Z Z (by omega)) Z (A2 (i8 Z Z Z (by omega) (by omega)) Z (A2 (J5 Z) Z (F3 (A00 (({ h0 with Last:=(k:Int)+1 }:Hunk)) TySz.out Z Z (by rw [hi];exact hvo) Z Z Z Z (fun _ _ _ h=>A01 h) (by intro j h1 h2;rcases j with _ | _ | _ | _ | _ | _ | _ | j<;>first | rfl | omega)) ?_)))))));refine A6 ?_
   rw [hi]
   refine k1 (k2 ?_)
   have hv2:(out.set (out.length - 1) { h0 with Last:=(k:Int)+1 })[out.length - 1]?=some { h0 with Last:=(k:Int)+1 }:=G45 (by omega)
   obtain ⟨h2,hh2⟩:∃h2:Hunk,h2={ h0 with Last:=(k:Int)+1 }:=⟨_,rfl⟩
   rw [←hh2] at hv2 ⊢
   obtain ⟨out2,ho2⟩:∃out2,out2=out.set (out.length - 1) h2:=⟨_,rfl⟩
   have hol2:out2.length=out.length:=by rw [ho2];simp
   rw [←ho2] at hv2 ⊢
   refine A3 (A2 (A4 Z Z) Z (A2 (A4 Z Z) Z (A2 (A4 Z Z) Z (A2 (A4 Z Z) Z (A2 (C3 Z Z (by omega)) Z (A2 (i8 Z Z Z (by omega) (by (simp only [hol2];omega))) Z (A2 (J5 Z) Z (A2 (J5 Z) Z (F3 (A00 (({ h2 with Old:=⟨h2.Old.From,(cAt l k).Old+(cAt l k).OldLen+Z5 ctx (m - ((cAt l k).Old+(cAt l k).OldLen))⟩ }:Hunk)) TySz.out Z Z (by rw [hi];exact hv2) Z Z Z Z (fun _ _ _ h=>A01 h) (by intro j h1 h2;rcases j with _ | _ | _ | _ | _ | _ | _ | j<;>first | rfl | omega)) ?_)))))))));refine A6 ?_
   rw [hi]
   refine k1 ?_
   obtain ⟨h3,hh3⟩:∃h3:Hunk,h3={ h2 with Old:=⟨h2.Old.From,(cAt l k).Old+(cAt l k).OldLen+Z5 ctx (m - ((cAt l k).Old+(cAt l k).OldLen))⟩ }:=⟨_,rfl⟩
   have hv3:(out2.set (out.length - 1) h3)[out.length - 1]?=some h3:=G45 (by omega)
   rw [←hh3]
   obtain ⟨out3,ho3⟩:∃out3,out3=out2.set (out.length - 1) h3:=⟨_,rfl⟩
   have hol3:out3.length=out.length:=by rw [ho3];simp [hol2]
   rw [←ho3] at hv3 ⊢
   refine A3 (A2 (A4 Z Z) Z (A2 (A4 Z Z) Z (A2 (A4 Z Z) Z (A2 (A4 Z Z) Z (A2 (C3 Z Z (by omega)) Z (A2 (i8 Z Z Z (by omega) (by (simp only [hol3];omega))) Z (A2 (J5 Z) Z (A2 (J5 Z) Z (F3 (A00 (({ h3 with New:=⟨h3.New.From,(cAt l k).New+(cAt l k).NewLen+Z5 ctx (m - ((cAt l k).Old+(cAt l k).OldLen))⟩ }:Hunk)) TySz.out Z Z (by rw [hi];exact hv3) Z Z Z Z (fun _ _ _ h=>A01 h) (by intro j h1 h2;rcases j with _ | _ | _ | _ | _ | _ | _ | j<;>first | rfl | omega)) ?_)))))))));refine A6 ?_
   rw [hi]
   have hfin:out3.set (out.length - 1) { h3 with New:=⟨h3.New.From,(cAt l k).New+(cAt l k).NewLen+Z5 ctx (m - ((cAt l k).Old+(cAt l k).OldLen))⟩ }=F8 l m ctx (k+1):=by
    rw [hsucc,ho3,ho2,List.set_set,List.set_set,hh3,hh2];rfl
   rw [hfin]
   refine k4 (k1 ?_)
   refine A3 (A2 (A4 Z Z) Z (A2 (C3 Z Z (by omega)) Z (A2 (A5 Z Z) Z (A6 ?_))))
   refine k1 ?_
   exact ⟨k+1,by omega,by omega,F77 ⟨le1 rfl,le1 rfl,le1 rfl,le1 rfl,le1 rfl,trivial⟩ ⟨rfl,trivial⟩⟩
 ·have hk':k=l.length:=by have:=A1 ht;omega
  subst hk'
  refine k6 (k2 ?_)
  refine K3 (F96 (t:=11) (k:=11) Z Z Z) ?_
  refine A3 (A2 (A4 Z Z) Z (A2 (A5 Z Z) Z (A2 (A5 Z Z) Z (A6 ?_))))
  refine k1 (k10 ?_)
  exact B5 (Z9 rfl rfl rfl rfl rfl) (by rw [K7,if_neg (by omega),if_neg (by rw [h1];decide)])
theorem C51 (a b:List Str) (ha:a.length≤4096) (hb:b.length≤4096):FnOk Tryz.prog 120 [T9 a,T9 b] (fun rs=>rs=[pChanges (A24 (H3 (D6 [a,b]) a) (H3 (D6 [a,b]) b))]):=by
 have h1:(H3 (D6 [a,b]) a).length=a.length:=by simp [H3]
 have h2:(H3 (D6 [a,b]) b).length=b.length:=by simp [H3]
 refine FnOk.intro Tryz.func120 (by decide) Z Z Z Z ?_
 refine k2 ?_
 refine A3 (A2 (A5 Z Z) Z (A6 ?_))
 refine k1 (k2 ?_)
 refine A3 (A2 (A4 Z Z) Z (A2 (A4 Z Z) Z (A2 (E3 (c:=strsC) (ys:=[a,b]) (E6 Z Z Z Z (E6 Z Z Z Z I9)) Z Z Z) Z (C2 (ids_ok [a,b] (by simp;omega) (by simp)) Z Z Z ?_))));rintro _ rfl;refine A2 (A5 Z Z) Z (A6 ?_)
 refine k1 (k2 ?_)
 refine D7 (by kernel_rfl) (by kernel_rfl) (B0 (A4 Z Z) Z Z (B0 (B1 Z (.pure _ _ _ _) Z (by omega) Z) Z Z (B0 (B3 Z Z) Z Z (B0 (A4 Z Z) Z Z (B0 (B1 Z (.pure _ _ _ _) Z (by omega) Z) Z Z (B0 (B3 Z Z) Z Z (B0 (E9 (walk_ok _ _ (by omega) (by omega)) Z Z) Z Z (B0 (A5 Z Z) Z Z (H5 ?_)))))))))
 refine k1 (k10 ?_)
 exact B5 (F5 rfl rfl rfl) rfl
theorem j1 (a b:UInt8):decide ((a.toNat:Int)≠(b.toNat:Int))=decide (a≠b):=by
 by_cases h:a=b
 ·subst h;simp
 ·have:(a.toNat:Int)≠(b.toNat:Int):=fun e=>h (UInt8.toNat_inj.1 (by omega))
  rw [decide_eq_true this,decide_eq_true h]
theorem A05 (s:Str):FnOk Tryz.prog 82 [I1 s] (fun rs=>rs=[O8 (J0 s)]):=by
 refine FnOk.intro Tryz.func82 (by decide) Z Z Z Z ?_
 refine k2 ?_
 refine A3 (A2 (A5 Z Z) Z (A6 ?_))
 refine k1 (k2 ?_)
 refine A3 (A2 (A4 Z Z) Z (A2 (H7 Z) Z (A2 (B80 Z Z) Z (A2 (A4 Z Z) Z (A8 Z Z Z Z (fun hg=>by rw [hg];exact A4 Z Z) ?_)))));refine A8 Z Z Z Z (fun hg=>by rw [hg];exact H7 Z) ?_;refine A8 Z Z Z Z (fun hg=>by rw [hg];exact A93 Z Z) ?_;refine A2 (B2 Z (fun h=>by first | rfl | (rw [h];rfl)) (fun h=>by first | rfl | (rw [h];rfl))) Z ?_;refine A2 (A5 Z Z) Z (A6 ?_)
 refine k1 (k10 ?_)
 refine B5 (F5 Z Z Z) ?_
 simp only [J6]
 congr 4
 unfold J0
 congr 1
 apply propext
 omega
theorem P9 (h:PatchHunk) (k:UInt8) (hl:h.Lines.length≤268435456):FnOk Tryz.prog 71 [pPhunk h,pByte k] (fun rs=>rs=[T9 (B9 h.Lines k)]):=by
 obtain ⟨ls,hls⟩:∃ls,ls=h.Lines:=⟨_,rfl⟩
 refine FnOk.intro Tryz.func71 (by decide) Z Z Z Z ?_
 refine k2 ?_
 refine A3 (C4 (U9 2 Z Z Z) Z (A2 (A5 Z Z) Z (A6 ?_)))
 refine k1 (k2 ?_)
 refine A3 (C4 (X3 5 _ H0 Z) Z (A6 ?_))
 refine k1 (k2 (k2 ?_))
 refine A3 (A2 (A5 Z Z) Z (A6 ?_))
 refine k1 (k3 ?_)
 refine D8 (X:=Nat) (fun i=>([(1,.s (pByte k).s1),(2,.s (.one (.ref 2 0))),(5,.s (.one (.buf 5 Str 1 H0 (B9 (h.Lines.take i) k)))),(6,D2 i)],[(2,.box (pPhunk h).s1.cells),(5,.spare (B9 (h.Lines.take i) k).length 1 9)])) (fun i=>i≤h.Lines.length) (fun i=>h.Lines.length - i) 0 (Nat.zero_le _) (F77 ⟨le1 rfl,le1 rfl,le1 rfl,le1 rfl,trivial⟩ ⟨rfl,rfl,trivial⟩) ?_
 intro i hi
 dsimp only at hi ⊢
 have hlen:=F0 (h.Lines.take i) k
 rw [G17] at hlen
 refine k2 (k2 ?_)
 refine A3 (A2 (A4 Z Z) Z (A2 (A7 Z) Z (A2 (A9 Z Z Z) Z (A2 (E1 Z (.pure _ _ _ _)) Z (A2 (E5 Z Z) Z (A6 ?_))))))
 refine k1 ?_
 refine B4 rfl (fun ht=>?_) (fun ht=>?_)
 ·have hlt:i < h.Lines.length:=by have:=A0 ht;omega
  have hv:h.Lines[i]?=some h.Lines[i]:=by simp [hlt]
  have hsucc:=X0 h.Lines k i hlt
  obtain ⟨x,hx⟩:∃x,x=h.Lines[i]:=⟨_,rfl⟩
  rw [←hx] at hv hsucc
  refine k5 (k1 (k2 (k3 (k2 ?_))))
  refine A3 (A2 (A7 Z) Z (A2 (A9 Z Z Z) Z (A2 (A4 Z Z) Z (A2 (B1 Z (.pure _ _ _ _) Z (by omega) hv) Z (A2 (B7 Z) Z (A2 (B3 Z Z) Z (A2 (A4 Z Z) Z (A2 (H8 Z Z) Z (A6 ?_)))))))))
  refine k1 ?_
  refine B4 rfl (fun ht=>?_) (fun ht=>?_)
  ·have h1:x.Kind≠k:=A0 ((j1 _ _).symm.trans ht)
   rw [if_pos h1] at hsucc
   skip
   refine A3 (A2 (A4 Z Z) Z (A2 (A7 Z) Z (A2 (A9 Z Z Z) Z (A2 (A4 Z Z) Z (A2 (B1 Z (.pure _ _ _ _) Z (by omega) hv) Z (A2 (B7 Z) Z (A2 (B3 Z Z) Z (A2 (E3 (c:=H0) (ys:=[_]) (E6 Z Z Z Z I9) Z Z Z) Z (C4 (F4 Z Z Z (.pure _ _ _ _) (by simp;omega) Z) Z (A2 (A5 Z Z) Z (A6 ?_)))))))))))
   refine k4 (k1 ?_)
   refine A3 (A2 (A4 Z Z) Z (A2 (C3 Z Z (by omega)) Z (A2 (A5 Z Z) Z (A6 ?_))))
   refine k1 ?_
   refine ⟨i+1,by omega,by omega,?_⟩
   rw [hsucc]
   exact F77 ⟨le1 rfl,le1 rfl,le1 rfl,le1 rfl,trivial⟩ ⟨rfl,rfl,trivial⟩
  ·have h1:¬x.Kind≠k:=A1 ((j1 _ _).symm.trans ht)
   rw [if_neg h1] at hsucc
   refine k5 (k4 (k1 ?_))
   refine A3 (A2 (A4 Z Z) Z (A2 (C3 Z Z (by omega)) Z (A2 (A5 Z Z) Z (A6 ?_))))
   refine k1 ?_
   refine ⟨i+1,by omega,by omega,?_⟩
   rw [hsucc]
   exact F77 ⟨le1 rfl,le1 rfl,le1 rfl,le1 rfl,trivial⟩ ⟨rfl,rfl,trivial⟩
 ·have hi':i=h.Lines.length:=by have:=A1 ht;omega
  subst hi'
  refine k6 (k2 ?_)
  refine A3 (A2 (A4 Z Z) Z (A2 (A5 Z Z) Z (A6 ?_)))
  refine k1 (k10 ?_)
  exact B5 (F5 rfl rfl rfl) (by rw [G23])
theorem E16 (p:Patch) (k:UInt8) (hp:szP p.Hunks≤268435456):FnOk Tryz.prog 143 [pPatch p,pByte k] (fun rs=>rs=[O8 (B75 p.Hunks k)]):=by
 have hsl:=U4 p.Hunks
 refine FnOk.intro Tryz.func143 (by decide) Z Z Z Z ?_
 refine k2 ?_
 refine A3 (C4 (U9 2 Z Z Z) Z (A2 (A5 Z Z) Z (A6 ?_)))
 refine k1 (k2 ?_)
 refine A3 (C4 (X3 5 _ H0 Z) Z (A6 ?_))
 refine k1 (k2 (k2 ?_))
 refine A3 (A2 (A5 Z Z) Z (A6 ?_))
 refine k1 (k3 ?_)
 refine D8 (X:=Nat) (fun i=>([(1,.s (pByte k).s1),(2,.s (.one (.ref 2 0))),(5,.s (.one (.buf 5 Str 1 H0 (E8 (p.Hunks.take i) k)))),(6,D2 i)],[(2,.box (pPatch p).s1.cells),(5,.spare (E8 (p.Hunks.take i) k).length 1 9)])) (fun i=>i≤p.Hunks.length) (fun i=>p.Hunks.length - i) 0 (Nat.zero_le _) (F77 ⟨le1 rfl,le1 rfl,le1 rfl,le1 rfl,trivial⟩ ⟨rfl,rfl,trivial⟩) ?_
 intro i hi
 dsimp only at hi ⊢
 have hlen:=C97 (p.Hunks.take i) k
 have hle:=A09 p.Hunks i
 refine k2 (k2 ?_)
 refine A3 (A2 (A4 Z Z) Z (A2 (A7 Z) Z (A2 (A9 Z Z Z) Z (A2 (E1 Z (.pure _ _ _ _)) Z (A2 (E5 Z Z) Z (A6 ?_))))))
 refine k1 ?_
 refine B4 rfl (fun ht=>?_) (fun ht=>?_)
 ·have hlt:i < p.Hunks.length:=by have:=A0 ht;omega
  have hv:p.Hunks[i]?=some p.Hunks[i]:=by simp [hlt]
  have hsucc:=C64 p.Hunks k i hlt
  have hmem:p.Hunks[i]∈p.Hunks:=G22 hlt
  obtain ⟨h,hx⟩:∃x,x=p.Hunks[i]:=⟨_,rfl⟩
  rw [←hx] at hv hsucc hmem
  have h1:=U3 hmem
  have h2:=F0 h.Lines k
  have h3:=P1 h.Lines
  unfold szH at h1
  refine k5 (k1 (k2 (k3 ?_)))
  refine A3 (A2 (A4 Z Z) Z (A2 (A7 Z) Z (A2 (A9 Z Z Z) Z (A2 (A4 Z Z) Z (A2 (B1 Z (.pure _ _ _ _) Z (by omega) hv) Z (A2 (D3 Z Z) Z (A2 (A4 Z Z) Z (C2 (P9 h k (by omega)) Z Z Z ?_))))))));rintro _ rfl;refine C4 (F4 Z Z Z (.pure _ _ _ _) (by omega) Z) Z (A2 (A5 Z Z) Z (A6 ?_))
  refine k4 (k1 ?_)
  refine A3 (A2 (A4 Z Z) Z (A2 (C3 Z Z (by omega)) Z (A2 (A5 Z Z) Z (A6 ?_))))
  refine k1 ?_
  refine ⟨i+1,by omega,by omega,?_⟩
  rw [hsucc]
  exact F77 ⟨le1 rfl,le1 rfl,le1 rfl,le1 rfl,trivial⟩ ⟨rfl,rfl,trivial⟩
 ·have hi':i=p.Hunks.length:=by have:=A1 ht;omega
  subst hi'
  rw [G23] at hlen ⊢
  obtain ⟨all,hall⟩:∃all,all=E8 p.Hunks k:=⟨_,rfl⟩
  have hmem:∀s∈all,s.length≤szP p.Hunks:=fun s hs=>C98 (k:=k) (by rw [←hall];exact hs)
  rw [B75,←hall]
  rw [←hall] at hlen
  refine k6 (k2 (k2 ?_))
  refine A3 (A2 (A5 Z Z) Z (A6 ?_))
  refine k1 (k3 ?_)
  refine D8 (X:=Nat) (fun i=>([(5,D5 Str 1 H0 all),(7,D2 i)],[])) (fun i=>i≤all.length+1∧L5 all=L5 (all.drop i)) (fun i=>all.length+1 - i) 0 ⟨Nat.zero_le _,rfl⟩ (F77 ⟨leL rfl,le1 rfl,trivial⟩ trivial) ?_
  rintro i ⟨hi,he⟩
  dsimp only at hi he ⊢
  refine k2 (k2 ?_)
  refine A3 (A2 (A4 Z Z) Z (A2 (C3 Z Z (by omega)) Z (A2 (A4 Z Z) Z (A2 (E1 Z (.pure _ _ _ _)) Z (A2 (E5 Z Z) Z (A6 ?_))))))
  refine k1 ?_
  refine B4 rfl (fun ht=>?_) (fun ht=>?_)
  ·have hlt:i+1 < all.length:=by have:=A0 ht;omega
   have hv:all[i]?=some all[i]:=by simp
   have h1:=hmem all[i] (G22 _)
   rw [C99 all i hlt] at he
   refine k5 (k1 (k2 (k3 (k2 ?_))))
   refine A3 (A2 (A4 Z Z) Z (A2 (A4 Z Z) Z (A2 (B1 Z (.pure _ _ _ _) Z (by omega) hv) Z (A2 (B3 Z Z) Z (C2 (C49 all[i] (by omega)) Z Z Z ?_)))));rintro _ rfl;refine A2 (L2 Z) Z (A6 ?_)
   refine k1 ?_
   refine B4 rfl (fun ht=>?_) (fun ht=>?_)
   ·have h2:ended all[i]=false:=by simpa using ht
    rw [h2] at he
    refine k2 ?_
    refine A3 (A2 (A5 Z Z) Z (A6 ?_))
    refine k1 (k10 (k12 (k11 (k11 (k12 (k11 ?_))))))
    exact B5 (F5 rfl rfl rfl) (by rw [he];rfl)
   ·have h2:ended all[i]=true:=by simpa using ht
    rw [h2,Bool.true_and] at he
    refine k5 (k4 (k1 ?_))
    refine A3 (A2 (A4 Z Z) Z (A2 (C3 Z Z (by omega)) Z (A2 (A5 Z Z) Z (A6 ?_))))
    refine k1 ?_
    exact ⟨i+1,⟨by omega,he⟩,by omega,F77 ⟨le1 rfl,le1 rfl,trivial⟩ trivial⟩
  ·have hge:all.length≤i+1:=by have:=A1 ht;omega
   rw [D00 all i hge] at he
   refine k6 (k2 ?_)
   refine A3 (A2 (A5 Z Z) Z (A6 ?_))
   refine k1 (k10 ?_)
   exact B5 (F5 rfl rfl rfl) (by rw [he])
theorem kn32 (c:UInt8):decide ((c.toNat:Int)≠32)=decide (c≠32):=j1 c 32
theorem kn45 (c:UInt8):decide ((c.toNat:Int)≠45)=decide (c≠45):=j1 c 45
theorem kn43 (c:UInt8):decide ((c.toNat:Int)≠43)=decide (c≠43):=j1 c 43
theorem B42 (b:Bool):(!b)=decide (b=false):=by cases b<;>rfl
theorem B85 (ls:List PatchLine) (n:Nat) (h:n < ls.length):Q6 (ls.take (n+1))=(if Q6 (ls.take n)=true then true else decide (ls[n].Kind≠32)):=by
 unfold Q6
 rw [G14 h,List.any_append]
 cases (ls.take n).any _<;>simp
theorem F63 (p:Patch) (hp:szP p.Hunks≤268435456):FnOk Tryz.prog 83 [pPatch p] (fun rs=>rs=[O8 (M5 p.Hunks)]):=by
 have hsl:=U4 p.Hunks
 refine FnOk.intro Tryz.func83 (by decide) Z Z Z Z ?_
 refine k2 ?_
 refine A3 (C4 (U9 1 Z Z Z) Z (A2 (A5 Z Z) Z (A6 ?_)))
 refine k1 (k2 ?_)
 refine A3 (A2 (A5 Z Z) Z (A2 (A5 Z Z) Z (A6 ?_)))
 refine k1 (k2 (k2 ?_))
 refine A3 (A2 (A5 Z Z) Z (A6 ?_))
 refine k1 (k3 ?_)
 refine D8 (X:=Nat × Int × Int) (fun x=>([(1,.s (.one (.ref 1 0))),(3,D2 x.2.1),(4,D2 x.2.2),(5,D2 x.1)],[(1,.box (pPatch p).s1.cells)])) (fun x=>x.1≤p.Hunks.length∧S8 0 0 p.Hunks=S8 x.2.1 x.2.2 (p.Hunks.drop x.1)∧0≤x.2.1∧x.2.1≤4096∧0≤x.2.2∧x.2.2≤4096) (fun x=>p.Hunks.length - x.1) (0,0,0) ⟨Nat.zero_le _,rfl,by decide,by decide,by decide,by decide⟩ (F77 ⟨le1 rfl,le1 rfl,le1 rfl,le1 rfl,trivial⟩ ⟨rfl,trivial⟩) ?_
 rintro ⟨k,i,j⟩ ⟨hk,hg,hi,hi2,hj,hj2⟩
 dsimp only at hk hg hi hi2 hj hj2 ⊢
 refine k2 (k2 ?_)
 refine A3 (A2 (A4 Z Z) Z (A2 (A7 Z) Z (A2 (A9 Z Z Z) Z (A2 (E1 Z (.pure _ _ _ _)) Z (A2 (E5 Z Z) Z (A6 ?_))))))
 refine k1 ?_
 refine B4 rfl (fun ht=>?_) (fun ht=>?_)
 ·have hlt:k < p.Hunks.length:=by have:=A0 ht;omega
  have hv:p.Hunks[k]?=some p.Hunks[k]:=by simp [hlt]
  have hmem:p.Hunks[k]∈p.Hunks:=G22 hlt
  rw [G12 hlt,S8] at hg
  obtain ⟨h,hx⟩:∃x,x=p.Hunks[k]:=⟨_,rfl⟩
  rw [←hx] at hv hmem hg
  have h1:=U3 hmem
  have h3:=P1 h.Lines
  have ho:=F0 h.Lines 43
  have hn:=F0 h.Lines 45
  unfold szH at h1
  refine k5 (k1 (k2 (k3 (k2 ?_))))
  refine A3 (A2 (A7 Z) Z (A2 (A9 Z Z Z) Z (A2 (A4 Z Z) Z (A2 (B1 Z (.pure _ _ _ _) Z (by omega) hv) Z (A2 (D3 Z Z) Z (C4 (F7 6 Z) Z (F3 (B8 TySz.out Z Z Z Z Z Z) (A6 ?_))))))))
  refine k1 (k2 ?_)
  refine A3 (A2 (A5 Z Z) Z (A6 ?_))
  refine k1 (k2 (k2 ?_))
  refine A3 (A2 (A5 Z Z) Z (A6 ?_))
  refine k1 (k3 ?_)
  refine D8 (X:=Nat) (fun n=>([(1,.s (.one (.ref 1 0))),(3,D2 i),(4,D2 j),(5,D2 k),(6,.s (.one (.ref 6 0))),(7,J4 (.bool (Q6 (h.Lines.take n)))),(8,D2 n)],[(1,.box (pPatch p).s1.cells),(6,.box (pPhunk h).s1.cells)])) (fun n=>n≤h.Lines.length∧h.Lines.all S7=(h.Lines.drop n).all S7) (fun n=>h.Lines.length - n) 0 ⟨Nat.zero_le _,rfl⟩ (F77 ⟨le1 rfl,le1 rfl,le1 rfl,le1 rfl,le1 rfl,le1 rfl,le1 rfl,trivial⟩ ⟨rfl,rfl,trivial⟩) ?_
  rintro n ⟨hn1,hn2⟩
  dsimp only at hn1 hn2 ⊢
  refine k2 (k2 ?_)
  refine A3 (A2 (A4 Z Z) Z (A2 (A7 Z) Z (A2 (A9 Z Z Z) Z (A2 (E1 Z (.pure _ _ _ _)) Z (A2 (E5 Z Z) Z (A6 ?_))))))
  refine k1 ?_
  refine B4 rfl (fun ht=>?_) (fun ht=>?_)
  ·have hlt2:n < h.Lines.length:=by have:=A0 ht;omega
   have hv2:h.Lines[n]?=some h.Lines[n]:=by simp [hlt2]
   have hmem2:=x8 (G22 hlt2)
   have hsucc:=B85 h.Lines n hlt2
   rw [G12 hlt2,List.all_cons] at hn2
   obtain ⟨x,hx2⟩:∃x,x=h.Lines[n]:=⟨_,rfl⟩
   rw [←hx2] at hv2 hmem2 hsucc hn2
   refine k5 (k1 (k2 (k3 (k2 ?_))))
   refine A3 (A2 (A7 Z) Z (A2 (A9 Z Z Z) Z (A2 (A4 Z Z) Z (A2 (B1 Z (.pure _ _ _ _) Z (by omega) hv2) Z (A2 (B7 Z) Z (A2 (B3 Z Z) Z (A2 (A5 Z Z) Z (A6 ?_))))))))
   refine k1 (k2 (k2 ?_))
   refine A3 (A2 (A4 Z Z) Z (A2 (H8 Z Z) Z (A2 (A4 Z Z) Z (A8 Z Z Z Z (fun hg=>by rw [hg];exact A4 Z Z) ?_))));refine A8 Z Z Z Z (fun hg=>by rw [hg];exact H8 Z Z) ?_;refine A2 (B2 Z (fun h=>by first | rfl | (rw [h];rfl)) (fun h=>by first | rfl | (rw [h];rfl))) Z ?_;refine A2 (A4 Z Z) Z (A8 Z Z Z Z (fun hg=>by rw [hg];exact A4 Z Z) ?_);refine A8 Z Z Z Z (fun hg=>by rw [hg];exact H8 Z Z) ?_;refine A2 (B2 Z (fun h=>by first | rfl | (rw [h];rfl)) (fun h=>by first | rfl | (rw [h];rfl))) Z ?_;refine A2 (A4 Z Z) Z (A8 Z Z Z Z (fun hg=>by rw [hg];exact A7 Z) ?_);refine A8 Z Z Z Z (fun hg=>by rw [hg];exact A9 Z Z Z) ?_;refine A8 Z Z Z Z (fun hg=>by rw [hg];exact A4 Z Z) ?_;refine A8 Z Z Z Z (fun hg=>by have hq:=hg;(try simp at hq);rw [hg];exact B1 Z (.pure _ _ _ _) Z (by omega) hv2) ?_;refine A8 Z Z Z Z (fun hg=>by rw [hg];exact B7 Z) ?_;refine A8 Z Z Z Z (fun hg=>by rw [hg];exact B3 Z Z) ?_;refine A8 Z Z Z Z (fun hg=>by have hq:=hg;(try simp at hq);rw [hg];exact E9 (line_ok x.Text (by omega)) Z Z) ?_;refine A8 Z Z Z Z (fun hg=>by rw [hg];exact L2 Z) ?_;refine A2 (B2 Z (fun h=>by first | rfl | (rw [h];rfl)) (fun h=>by first | rfl | (rw [h];rfl))) Z ?_;refine A6 ?_
   refine k1 ?_
   refine B4 rfl (fun ht=>?_) (fun ht=>?_)
   ·simp only [kn32,kn45,kn43,J6,B42,or_pick] at ht
    have hb:C63 x:=A0 ht
    refine k2 ?_
    refine A3 (A2 (A5 Z Z) Z (A6 ?_))
    refine k1 (k10 (k11 (k12 (k11 (k11 (k12 (k11 (k12 (k11 (k11 (k12 (k11 ?_))))))))))))
    refine B5 (F5 Z Z Z) ?_
    have:S7 x=false:=decide_eq_false (fun hh=>hh hb)
    rw [M5,hg,hn2,this];rfl
   ·simp only [kn32,kn45,kn43,J6,B42,or_pick] at ht
    have hb:¬C63 x:=A1 ht
    have hgl:S7 x=true:=decide_eq_true hb
    rw [hgl,Bool.true_and] at hn2
    refine k5 (k1 ?_)
    refine A3 (A2 (A4 Z Z) Z (A2 (A4 Z Z) Z (A8 Z Z Z Z (fun hg=>by rw [hg];exact A4 Z Z) ?_)));refine A8 Z Z Z Z (fun hg=>by rw [hg];exact H8 Z Z) ?_;refine A2 (B2 Z (fun h=>by first | rfl | (rw [h];rfl)) (fun h=>by first | rfl | (rw [h];rfl))) Z ?_;refine A2 (A5 Z Z) Z (A6 ?_)
    refine k4 (k1 ?_)
    refine A3 (A2 (A4 Z Z) Z (A2 (C3 Z Z (by omega)) Z (A2 (A5 Z Z) Z (A6 ?_))))
    refine k1 ?_
    refine ⟨n+1,⟨by omega,hn2⟩,by omega,?_⟩
    rw [kn32,←hsucc]
    exact F77 ⟨le1 rfl,le1 rfl,le1 rfl,le1 rfl,le1 rfl,le1 rfl,le1 rfl,trivial⟩ ⟨rfl,rfl,trivial⟩
  ·have hn':n=h.Lines.length:=by have:=A1 ht;omega
   subst hn'
   rw [G23]
   rw [G18 (Nat.le_refl _)] at hn2
   rw [hn2,List.all_nil,Bool.true_and] at hg
   refine k6 (k2 (k2 ?_))
   refine A3 (A2 (A4 Z Z) Z (A2 (L2 Z) Z (A2 (A4 Z Z) Z (A8 Z Z Z Z (fun hg=>by rw [hg];exact A7 Z) ?_))));refine A8 Z Z Z Z (fun hg=>by rw [hg];exact A9 Z Z Z) ?_;refine A8 Z Z Z Z (fun hg=>by rw [hg];exact A4 Z Z) ?_;refine A8 Z Z Z Z (fun hg=>by rw [hg];exact E5 Z Z) ?_;refine A2 (B2 Z (fun h=>by first | rfl | (rw [h];rfl)) (fun h=>by first | rfl | (rw [h];rfl))) Z ?_;refine A2 (A4 Z Z) Z (A8 Z Z Z Z (fun hg=>by rw [hg];exact A7 Z) ?_);refine A8 Z Z Z Z (fun hg=>by rw [hg];exact A9 Z Z Z) ?_;refine A8 Z Z Z Z (fun hg=>by rw [hg];exact A4 Z Z) ?_;refine A8 Z Z Z Z (fun hg=>by rw [hg];exact E5 Z Z) ?_;refine A2 (B2 Z (fun h=>by first | rfl | (rw [h];rfl)) (fun h=>by first | rfl | (rw [h];rfl))) Z ?_;refine A2 (A4 Z Z) Z (A8 Z Z Z Z (fun hg=>by rw [hg];exact A7 Z) ?_);refine A8 Z Z Z Z (fun hg=>by rw [hg];exact A9 Z Z Z) ?_;refine A8 Z Z Z Z (fun hg=>by rw [hg];exact L1 Z Z) ?_;refine A2 (B2 Z (fun h=>by first | rfl | (rw [h];rfl)) (fun h=>by first | rfl | (rw [h];rfl))) Z ?_;refine A2 (A4 Z Z) Z (A8 Z Z Z Z (fun hg=>by rw [hg];exact A7 Z) ?_);refine A8 Z Z Z Z (fun hg=>by rw [hg];exact A9 Z Z Z) ?_;refine A8 Z Z Z Z (fun hg=>by rw [hg];exact L1 Z Z) ?_;refine A2 (B2 Z (fun h=>by first | rfl | (rw [h];rfl)) (fun h=>by first | rfl | (rw [h];rfl))) Z ?_;refine A2 (A4 Z Z) Z (A8 Z Z Z Z (fun hg=>by rw [hg];exact A7 Z) ?_);refine A8 Z Z Z Z (fun hg=>by rw [hg];exact A9 Z Z Z) ?_;refine A8 Z Z Z Z (fun hg=>by rw [hg];exact A4 Z Z) ?_;refine A8 Z Z Z Z (fun hg=>by have hq:=hg;(try simp at hq);rw [hg];exact N6 Z Z (by omega)) ?_;refine A8 Z Z Z Z (fun hg=>by rw [hg];exact A7 Z) ?_;refine A8 Z Z Z Z (fun hg=>by rw [hg];exact A9 Z Z Z) ?_;refine A8 Z Z Z Z (fun hg=>by rw [hg];exact A4 Z Z) ?_;refine A8 Z Z Z Z (fun hg=>by have hq:=hg;(try simp at hq);rw [hg];exact N6 Z Z (by omega)) ?_;refine A8 Z Z Z Z (fun hg=>by rw [hg];exact H8 Z Z) ?_;refine A2 (B2 Z (fun h=>by first | rfl | (rw [h];rfl)) (fun h=>by first | rfl | (rw [h];rfl))) Z ?_;refine A6 ?_
   refine k1 ?_
   refine B4 rfl (fun ht=>?_) (fun ht=>?_)
   ·simp only [B42,or_pick] at ht
    have hb:N7 (Q6 h.Lines) i j h:=A0 ht
    refine k2 ?_
    refine A3 (A2 (A5 Z Z) Z (A6 ?_))
    refine k1 (k10 (k11 (k12 (k11 (k11 (k12 (k11 ?_)))))))
    exact B5 (F5 rfl rfl rfl) (by rw [M5,hg,decide_eq_false (fun hh=>hh hb)];rfl)
   ·simp only [B42,or_pick] at ht
    have hb:¬N7 (Q6 h.Lines) i j h:=A1 ht
    rw [decide_eq_true hb,Bool.true_and] at hg
    have hb2:i≤h.Old∧j≤h.New∧h.Old≤4096∧h.New≤4096:=by unfold N7 at hb;omega
    refine k5 (k1 (k2 ?_))
    refine D7 (by kernel_rfl) (by kernel_rfl) (B0 (A7 Z) Z Z (B0 (A9 Z Z Z) Z Z (B0 (C1 Z Z Z) Z Z (B0 (E9 (P9 h 43 (by omega)) Z Z) Z Z (B0 (E1 Z (.pure _ _ _ _)) Z Z (B0 (C3 Z Z (by omega)) Z Z (B0 (A7 Z) Z Z (B0 (A9 Z Z Z) Z Z (B0 (C1 Z Z Z) Z Z (B0 (E9 (P9 h 45 (by omega)) Z Z) Z Z (B0 (E1 Z (.pure _ _ _ _)) Z Z (B0 (C3 Z Z (by omega)) Z Z (B0 (A5 Z Z) Z Z (B0 (A5 Z Z) Z Z (H5 ?_)))))))))))))))
    refine k1 (k2 ?_)
    refine A3 (A2 (A4 Z Z) Z (A2 (L1 Z Z) Z (A2 (A4 Z Z) Z (A8 Z Z Z Z (fun hg=>by rw [hg];exact A4 Z Z) ?_))));refine A8 Z Z Z Z (fun hg=>by rw [hg];exact L1 Z Z) ?_;refine A2 (B2 Z (fun h=>by first | rfl | (rw [h];rfl)) (fun h=>by first | rfl | (rw [h];rfl))) Z ?_;refine A6 ?_
    refine k1 ?_
    refine B4 rfl (fun ht=>?_) (fun ht=>?_)
    ·have hb3:=A0 (or_pick.symm.trans ht)
     refine k2 ?_
     refine A3 (A2 (A5 Z Z) Z (A6 ?_))
     refine k1 (k10 (k12 (k11 (k11 (k12 (k11 ?_))))))
     exact B5 (F5 rfl rfl rfl) (by rw [M5,hg,decide_eq_false (fun hh=>hh hb3)];rfl)
    ·have hb3:=A1 (or_pick.symm.trans ht)
     rw [decide_eq_true (p:=¬(4096 < h.Old+H9 h∨4096 < h.New+M3 h)) hb3,Bool.true_and] at hg
     refine k5 (k4 (k1 ?_))
     refine A3 (A2 (A4 Z Z) Z (A2 (C3 Z Z (by omega)) Z (A2 (A5 Z Z) Z (A6 ?_))))
     refine k1 ?_
     exact ⟨(k+1,h.Old+H9 h,h.New+M3 h),⟨by dsimp only;omega,hg,by unfold H9;dsimp only;omega,by unfold H9;dsimp only;omega,by unfold M3;dsimp only;omega,by unfold M3;dsimp only;omega⟩,by dsimp only;omega,F77 ⟨le1 rfl,le1 rfl,le1 rfl,le1 rfl,trivial⟩ ⟨rfl,trivial⟩⟩
 ·have hk':k=p.Hunks.length:=by have:=A1 ht;omega
  rw [hk',G18 (Nat.le_refl _),S8] at hg
  refine k6 (k2 ?_)
  refine A3 (A2 (C1 Z Z Z) Z (C2 (E16 p 43 hp) Z Z Z ?_));rintro _ rfl;refine A2 (A4 Z Z) Z (A8 Z Z Z Z (fun hg=>by rw [hg];exact C1 Z Z Z) ?_);refine A8 Z Z Z Z (fun hg=>by have hq:=hg;(try simp at hq);rw [hg];exact E9 (E16 p 45 hp) Z Z) ?_;refine A2 (B2 Z (fun h=>by first | rfl | (rw [h];rfl)) (fun h=>by first | rfl | (rw [h];rfl))) Z ?_;refine A2 (A5 Z Z) Z (A6 ?_)
  refine k1 (k10 ?_)
  refine B5 (F5 Z Z Z) ?_
  rw [M5,hg]
  cases B75 p.Hunks 43<;>rfl
theorem F34 (p:Patch) (hp:PFit p) (hrange:∀h∈p.Hunks,(-4611686018427387904≤h.Old∧h.Old≤4611686018427387904)∧(-4611686018427387904≤h.New∧h.New≤4611686018427387904)):FnOk Tryz.prog 78 [pPatch p] (fun rs=>rs=[I1 (O0 p)]):=by
 have hsl:=U4 p.Hunks
 have hpl:=hp.hunks
 have hpo:=hp.old
 have hpn:=hp.new
 have hq1:=Z1 p.OldName
 have hq2:=Z1 p.NewName
 have hnf:=Z3 p
 have hnl:(W5 p).length=2:=rfl
 refine FnOk.intro Tryz.func78 (by decide) Z Z Z Z ?_
 refine k2 ?_
 refine A3 (C4 (U9 1 Z Z Z) Z (A2 (A5 Z Z) Z (A6 ?_)))
 refine k1 (k2 ?_)
 refine K8 10 (by kernel_rfl) (by kernel_rfl) Z (B0 (A7 Z) Z Z (B0 (A9 Z Z Z) Z Z (B0 (E9 (D21 p.OldName (by omega)) Z Z) Z Z (B0 (F2 Z Z (by (simp only [G10,G11];omega))) Z Z (B0 (F2 Z Z (by (simp only [G07,G10,G11];omega))) Z Z (B0 (A7 Z) Z Z (B0 (A9 Z Z Z) Z Z (B0 (E9 (D21 p.NewName (by omega)) Z Z) Z Z (B0 (F2 Z Z (by (simp only [G10,G11];omega))) Z Z (B0 (F2 Z Z (by (simp only [G07,G10,G11];omega))) Z Z (H5 (d_turn (C26 3 (c:=H0) (ys:=(W5 p)) (E6 Z Z Z Z (E6 Z Z Z Z I9)) Z Z Z (by first | rfl | (simp [G8,M4,Ob.free,SV.free,S1.free,TC.free]<;>rfl))) Z ?_))))))))))));refine B0 (A5 Z Z) Z Z (H5 ?_)
 refine k1 (k2 (k2 ?_))
 refine A3 (A2 (A5 Z Z) Z (A6 ?_))
 refine k1 (k3 ?_)
 refine D8 (X:=Nat) (fun k=>([(1,.s (.one (.ref 1 0))),(3,.s (.one (.buf 3 Str 1 H0 (W5 p++((p.Hunks.take k).map R3).flatten)))),(4,D2 k)],[(1,.box (pPatch p).s1.cells),(3,.spare (W5 p++((p.Hunks.take k).map R3).flatten).length 1 9)])) (fun k=>k≤p.Hunks.length) (fun k=>p.Hunks.length - k) 0 (Nat.zero_le _) (F77 ⟨le1 rfl,le1 rfl,le1 rfl,trivial⟩ ⟨rfl,rfl,trivial⟩) ?_
 intro k hk
 dsimp only at hk ⊢
 have hle:=A09 p.Hunks k
 have hlb:=E43 (p.Hunks.take k)
 refine k2 (k2 ?_)
 refine A3 (A2 (A4 Z Z) Z (A2 (A7 Z) Z (A2 (A9 Z Z Z) Z (A2 (E1 Z (.pure _ _ _ _)) Z (A2 (E5 Z Z) Z (A6 ?_))))))
 refine k1 ?_
 refine B4 rfl (fun ht=>?_) (fun ht=>?_)
 ·have hlt:k < p.Hunks.length:=by have:=A0 ht;omega
  have hv:p.Hunks[k]?=some p.Hunks[k]:=by simp [hlt]
  have hmem:p.Hunks[k]∈p.Hunks:=G22 hlt
  have hsucc:=B98 p.Hunks k hlt
  obtain ⟨h,hx⟩:∃x,x=p.Hunks[k]:=⟨_,rfl⟩
  rw [←hx] at hv hmem hsucc
  have h1:=U3 hmem
  have h3:=P1 h.Lines
  have ho:=F0 h.Lines 43
  have hn:=F0 h.Lines 45
  have hr1:=Z2 h.Old (H9 h)
  have hr2:=Z2 h.New (M3 h)
  unfold szH at h1
  obtain ⟨base,hbase⟩:∃base,base=W5 p++((p.Hunks.take k).map R3).flatten:=⟨_,rfl⟩
  have hbl:base.length≤2+szP p.Hunks:=by rw [hbase,G07];omega
  rw [←hbase]
  have hho:-4611686018427387904≤h.Old∧h.Old≤4611686018427387904:=(hrange h hmem).1
  have hhn:-4611686018427387904≤h.New∧h.New≤4611686018427387904:=(hrange h hmem).2
  refine k5 (k1 (k2 (k3 (k2 ?_))))
  refine A3 (A2 (A7 Z) Z (A2 (A9 Z Z Z) Z (A2 (A4 Z Z) Z (A2 (B1 Z (.pure _ _ _ _) Z (by omega) hv) Z (A2 (D3 Z Z) Z (C4 (F7 5 Z) Z (F3 (B8 TySz.out Z Z Z Z Z Z) (A6 ?_))))))))
  refine k1 (k2 ?_)
  refine D7 (by kernel_rfl) (by kernel_rfl) (B0 (A4 Z Z) Z Z (B0 (A7 Z) Z Z (B0 (A9 Z Z Z) Z Z (B0 (C1 Z Z Z) Z Z (B0 (E9 (P9 h 43 (by omega)) Z Z) Z Z (B0 (E1 Z (.pure _ _ _ _)) Z Z (B0 (E9 (D20 h.Old _ hho (by omega)) Z Z) Z Z (B0 (F2 Z Z (by (simp only [G10,G11];unfold H9 at hr1;omega))) Z Z (B0 (F2 Z Z (by (simp only [G07,G10,G11];unfold H9 at hr1;omega))) Z Z (B0 (A7 Z) Z Z (B0 (A9 Z Z Z) Z Z (B0 (C1 Z Z Z) Z Z (B0 (E9 (P9 h 45 (by omega)) Z Z) Z Z (B0 (E1 Z (.pure _ _ _ _)) Z Z (B0 (E9 (D20 h.New _ hhn (by omega)) Z Z) Z Z (B0 (F2 Z Z (by (simp only [G07,G10,G11];unfold H9 at hr1;unfold M3 at hr2;omega))) Z Z (B0 (F2 Z Z (by (simp only [G07,G10,G11];unfold H9 at hr1;unfold M3 at hr2;omega))) Z Z (B0 (E3 (c:=H0) (ys:=[R9 h]) (E6 Z Z Z Z I9) Z Z Z) Z Z (T7 (F4 Z Z Z (.pure _ _ _ _) (by (simp only [G10,G11];omega)) Z) Z Z (B0 (A5 Z Z) Z Z (H5 ?_)))))))))))))))))))))
  refine k1 (k2 ?_)
  refine A3 (A2 (A5 Z Z) Z (A6 ?_))
  refine k1 (k3 ?_)
  refine D8 (X:=Nat) (fun n=>([(1,.s (.one (.ref 1 0))),(3,.s (.one (.buf 3 Str 1 H0 (base++(R9 h::((h.Lines.take n).map P0).flatten))))),(4,D2 k),(5,.s (.one (.ref 5 0))),(6,D2 n)],[(1,.box (pPatch p).s1.cells),(3,.spare (base++(R9 h::((h.Lines.take n).map P0).flatten)).length 1 9),(5,.box (pPhunk h).s1.cells)])) (fun n=>n≤h.Lines.length) (fun n=>h.Lines.length - n) 0 (Nat.zero_le _) (F77 ⟨le1 rfl,le1 rfl,le1 rfl,le1 rfl,le1 rfl,trivial⟩ ⟨rfl,rfl,rfl,trivial⟩) ?_
  intro n hn1
  dsimp only at hn1 ⊢
  have hll:=B97 (h.Lines.take n)
  have hlt3:(h.Lines.take n).length≤h.Lines.length:=by rw [G17];omega
  refine k2 (k2 ?_)
  refine A3 (A2 (A4 Z Z) Z (A2 (A7 Z) Z (A2 (A9 Z Z Z) Z (A2 (E1 Z (.pure _ _ _ _)) Z (A2 (E5 Z Z) Z (A6 ?_))))))
  refine k1 ?_
  refine B4 rfl (fun ht=>?_) (fun ht=>?_)
  ·have hlt2:n < h.Lines.length:=by have:=A0 ht;omega
   have hv2:h.Lines[n]?=some h.Lines[n]:=by simp [hlt2]
   have hmem2:=x8 (G22 hlt2)
   have hsucc2:=B99 h.Lines n hlt2
   obtain ⟨x,hx2⟩:∃x,x=h.Lines[n]:=⟨_,rfl⟩
   rw [←hx2] at hv2 hmem2 hsucc2
   refine k5 (k1 (k2 (k3 (k2 ?_))))
   refine D7 (by kernel_rfl) (by kernel_rfl) (B0 (A4 Z Z) Z Z (B0 (A7 Z) Z Z (B0 (A9 Z Z Z) Z Z (B0 (A4 Z Z) Z Z (B0 (B1 Z (.pure _ _ _ _) Z (by omega) hv2) Z Z (B0 (B7 Z) Z Z (B0 (B3 Z Z) Z Z (B0 (E3 (c:=u8C) (ys:=[x.Kind]) (E6 Z Z Z Z I9) Z Z Z) Z Z (B0 (s7 TyStr.out Z (.pure _ _ _ _)) Z Z (B0 (A7 Z) Z Z (B0 (A9 Z Z Z) Z Z (B0 (A4 Z Z) Z Z (B0 (B1 Z (.pure _ _ _ _) Z (by omega) hv2) Z Z (B0 (B7 Z) Z Z (B0 (B3 Z Z) Z Z (B0 (F2 Z Z (by (simp only [G10,G11];omega))) Z Z (B0 (E3 (c:=H0) (ys:=[_]) (E6 Z Z Z Z I9) Z Z Z) Z Z (T7 (F4 Z Z Z (.pure _ _ _ _) (by (simp only [G07,G10,G11];omega)) Z) Z Z (B0 (A5 Z Z) Z Z (H5 ?_))))))))))))))))))))
   have hcons:∀a b:List Str,base++R9 h::(a++b)=base++R9 h::a++b:=fun a b=>by simp
   refine k1 (k2 ?_)
   refine A3 (A2 (A7 Z) Z (A2 (A9 Z Z Z) Z (A2 (A4 Z Z) Z (A2 (B1 Z (.pure _ _ _ _) Z (by omega) hv2) Z (A2 (B7 Z) Z (A2 (B3 Z Z) Z (C2 (C49 x.Text (by omega)) Z Z Z ?_)))))));rintro _ rfl;refine A2 (L2 Z) Z (A6 ?_)
   refine k1 ?_
   refine B4 rfl (fun ht=>?_) (fun ht=>?_)
   ·have h2:ended x.Text=false:=by simpa using ht
    have e:P0 x=[[x.Kind]++x.Text]++[markS]:=by rw [P0,h2];rfl
    skip
    refine A3 (A2 (A4 Z Z) Z (A2 (E3 (c:=H0) (ys:=[markS]) (E6 Z Z Z Z I9) Z Z Z) Z (C4 (F4 Z Z Z (.pure _ _ _ _) (by (simp only [G07,G10,G11];omega)) Z) Z (A2 (A5 Z Z) Z (A6 ?_)))))
    refine k4 (k1 ?_)
    refine A3 (A2 (A4 Z Z) Z (A2 (C3 Z Z (by omega)) Z (A2 (A5 Z Z) Z (A6 ?_))))
    refine k1 ?_
    refine ⟨n+1,by omega,by omega,?_⟩
    rw [hsucc2,e,←G28,hcons,hcons]
    exact F77 ⟨le1 rfl,le1 rfl,le1 rfl,le1 rfl,le1 rfl,trivial⟩ ⟨rfl,rfl,rfl,trivial⟩
   ·have h2:ended x.Text=true:=by simpa using ht
    have e:P0 x=[[x.Kind]++x.Text]:=by rw [P0,h2];rfl
    refine k5 (k4 (k1 ?_))
    refine A3 (A2 (A4 Z Z) Z (A2 (C3 Z Z (by omega)) Z (A2 (A5 Z Z) Z (A6 ?_))))
    refine k1 ?_
    refine ⟨n+1,by omega,by omega,?_⟩
    rw [hsucc2,e,hcons]
    exact F77 ⟨le1 rfl,le1 rfl,le1 rfl,le1 rfl,le1 rfl,trivial⟩ ⟨rfl,rfl,rfl,trivial⟩
  ·have hn':n=h.Lines.length:=by have:=A1 ht;omega
   subst hn'
   rw [G23]
   refine k6 (k7 (k7 (k8 Z (k4 (k1 ?_)))))
   refine A3 (A2 (A4 Z Z) Z (A2 (C3 Z Z (by omega)) Z (A2 (A5 Z Z) Z (A6 ?_))))
   refine k1 ?_
   refine ⟨k+1,by omega,by omega,?_⟩
   rw [hsucc,←G28,←hbase]
   exact F77 ⟨le1 rfl,le1 rfl,le1 rfl,trivial⟩ ⟨rfl,rfl,trivial⟩
 ·have hk':k=p.Hunks.length:=by have:=A1 ht;omega
  subst hk'
  have hff:=W2 p.Hunks
  rw [G23] at hlb ⊢
  have hall:(W5 p++(p.Hunks.map R3).flatten).flatten.length≤536870912:=by simp only [G20,G07];omega
  refine k6 (k2 ?_)
  refine A3 (A2 (A4 Z Z) Z (C2 (all_ok _ hall) Z Z Z ?_));rintro _ rfl;refine A2 (A5 Z Z) Z (A6 ?_)
  refine k1 (k10 ?_)
  exact B5 (F5 rfl rfl rfl) rfl
theorem x4 (p:Patch) (hp:szP p.Hunks≤268435456):FnOk Tryz.prog 34 [pPatch p] (fun rs=>rs=[I8 (D9 p)]):=by
 refine FnOk.intro Tryz.func34 (by decide) Z Z Z Z ?_
 refine k2 ?_
 refine A3 (C4 (U9 1 Z Z Z) Z (A2 (A5 Z Z) Z (A6 ?_)))
 refine k1 (k2 (k3 (k2 ?_)))
 refine A3 (A2 (A7 Z) Z (A2 (A9 Z Z Z) Z (C2 (A05 p.OldName) Z Z Z ?_)));rintro _ rfl;refine A2 (L2 Z) Z (A2 (A4 Z Z) Z (A8 Z Z Z Z (fun hg=>by rw [hg];exact A7 Z) ?_));refine A8 Z Z Z Z (fun hg=>by rw [hg];exact A9 Z Z Z) ?_;refine A8 Z Z Z Z (fun hg=>by have hq:=hg;(try simp at hq);rw [hg];exact E9 (A05 p.NewName) Z Z) ?_;refine A8 Z Z Z Z (fun hg=>by rw [hg];exact L2 Z) ?_;refine A2 (B2 Z (fun h=>by first | rfl | (rw [h];rfl)) (fun h=>by first | rfl | (rw [h];rfl))) Z ?_;refine A2 (A5 Z Z) Z (A6 ?_)
 refine k1 ?_
 refine B4 rfl (fun ht=>?_) (fun ht=>?_)
 ·simp only [B42,or_pick] at ht
  have h:=A0 ht
  refine k2 ?_
  refine A3 (A2 (A5 Z Z) Z (A6 ?_))
  refine k1 (k10 (k12 (k11 ?_)))
  exact B5 (F5 rfl rfl rfl) (by rw [D9,if_pos h])
 ·simp only [B42,or_pick] at ht
  have h:=A1 ht
  refine k2 ?_
  refine A3 (A2 (C1 Z Z Z) Z (C2 (F63 p hp) Z Z Z ?_));rintro _ rfl;refine A2 (L2 Z) Z (A2 (A5 Z Z) Z (A6 ?_))
  refine k1 ?_
  refine B4 rfl (fun ht=>?_) (fun ht=>?_)
  ·have h2:M5 p.Hunks=false:=by simpa using ht
   refine k2 ?_
   refine A3 (A2 (A5 Z Z) Z (A6 ?_))
   refine k1 (k10 (k12 (k11 ?_)))
   exact B5 (F5 rfl rfl rfl) (by rw [D9,if_neg h,if_pos h2])
  ·have h2:M5 p.Hunks=true:=by simpa using ht
   have hr:=W3 h2
   have hn1:J0 p.OldName=true:=by by_cases hh:J0 p.OldName=true;exact hh;exact absurd (.inl (by simpa using hh)) h
   have hn2:J0 p.NewName=true:=by by_cases hh:J0 p.NewName=true;exact hh;exact absurd (.inr (by simpa using hh)) h
   have hn3:=A0 hn1
   have hn4:=A0 hn2
   have hpf:PFit p:=⟨by omega,by omega,hp⟩
   refine k2 ?_
   refine A3 (A2 (C1 Z Z Z) Z (C2 (F34 p hpf (fun x hx=>by have:=hr x hx;omega)) Z Z Z ?_));rintro _ rfl;refine A2 (H7 Z) Z (A2 (L1 Z Z) Z (A2 (A5 Z Z) Z (A6 ?_)))
   refine k1 ?_
   refine B4 rfl (fun ht=>?_) (fun ht=>?_)
   ·have h3:=A0 ht
    refine k2 ?_
    refine A3 (A2 (A5 Z Z) Z (A6 ?_))
    refine k1 (k10 (k12 (k11 ?_)))
    exact B5 (F5 rfl rfl rfl) (by rw [D9,if_neg h,if_neg (by rw [h2];decide),if_pos (by omega)])
   ·have h3:=A1 ht
    refine k5 (k2 ?_)
    refine A3 (A2 (A5 Z Z) Z (A6 ?_))
    refine k1 (k10 ?_)
    exact B5 (F5 rfl rfl rfl) (by rw [D9,if_neg h,if_neg (by rw [h2];decide),if_neg (by omega)])
theorem B43 {gf:Fr} {ob:Obs} (l:List PatchLine) (k:UInt8) (ts:List Str) (hk:C8 ob 701=some (.spare l.length 2 36)) (hlen:l.length+ts.length≤1073741824) :
  AL.Met Tryz.prog 123 [.one (.buf 701 PatchLine 2 plineC l),.one (.p (.v (.int .u8 k.toNat))),.one (.p (.list Str 1 H0 ts))] gf ob [701]
   (fun rs ob'=>rs=[.one (.buf 701 PatchLine 2 plineC (l++J3 k ts))]∧ob'=(701,.spare (l++J3 k ts).length 2 36)::Obs.forget 701 ob):=by
 refine AL.Met.introH Tryz.func123 (by decide) rfl rfl rfl (fun hH=>?_)
 refine k2 ?_
 refine A3 (A2 (A5 Z Z) Z (A6 ?_))
 refine k1 (k2 (k2 ?_))
 refine A3 (A2 (A5 Z Z) Z (A6 ?_))
 refine k1 (k3 ?_)
 refine D8 (X:=Nat) (fun i=>([(0,.s (.one (.buf 701 PatchLine 2 plineC (l++J3 k (ts.take i))))),(1,.s (pByte k).s1),(2,D5 Str 1 H0 ts),(7,D2 i)]++Fr.forget 701 gf,(701,.spare (l++J3 k (ts.take i)).length 2 36)::Obs.forget 701 ob)) (fun i=>i≤ts.length) (fun i=>ts.length - i) 0 (Nat.zero_le _) ?_ ?_
 ·have e:l++J3 k (ts.take 0)=l:=by simp [J3]
  rw [e]
  exact F92 701 ⟨le1 rfl,le1 rfl,le1 rfl,le1 rfl,trivial⟩ hH (by repeat (first | exact I4 | refine I5 rfl ?_)) hk
 intro i hi
 dsimp only at hi ⊢
 have hpl:=Z4 k (ts.take i)
 rw [G17] at hpl
 refine k2 (k2 ?_)
 refine A3 (A2 (A4 Z Z) Z (A2 (A4 Z Z) Z (A2 (E1 Z (.pure _ _ _ _)) Z (A2 (E5 Z Z) Z (A6 ?_)))))
 refine k1 ?_
 refine B4 rfl (fun ht=>?_) (fun ht=>?_)
 ·have hlt:i < ts.length:=by have:=A0 ht;omega
  have hv:ts[i]?=some ts[i]:=by simp [hlt]
  have hsucc:=C65 k ts i hlt
  refine k5 (k1 (k2 (k3 ?_)))
  refine A3 (A2 (A4 Z Z) Z (A2 (A4 Z Z) Z (A2 (A4 Z Z) Z (A2 (A4 Z Z) Z (A2 (B1 Z (.pure _ _ _ _) Z (by omega) hv) Z (A2 (B3 Z Z) Z (A2 (J2 Z) Z (A2 (E3 (c:=plineC) (ys:=[⟨k,ts[i]⟩]) (E6 Z Z Z Z I9) Z Z Z) Z (C4 (F4 Z Z Z (.pure _ _ _ _) (by (simp only [G07,G10,G11];omega)) Z) Z (A2 (A5 Z Z) Z (A6 ?_)))))))))))
  refine k4 (k1 ?_)
  refine A3 (A2 (A4 Z Z) Z (A2 (C3 Z Z (by omega)) Z (A2 (A5 Z Z) Z (A6 ?_))))
  refine k1 ?_
  refine ⟨i+1,hlt,by omega,?_⟩
  rw [hsucc,←G28]
  exact F80 ⟨le1 rfl,le1 rfl,le1 rfl,le1 rfl,trivial⟩ (B83 hH) (by repeat (first | exact I4 | refine I5 rfl ?_ | refine V9 _ ?_)) D98
 ·have hi':i=ts.length:=by have:=A1 ht;omega
  subst hi'
  rw [G23]
  refine k6 (k2 ?_)
  refine A3 (A2 (A4 Z Z) Z (A2 (A5 Z Z) Z (A6 ?_)))
  refine k1 (k10 ?_)
  exact X4 (B32 rfl rfl) (by repeat (first | exact I4 | refine I5 rfl ?_ | refine K6 _ ?_)) (fun _ _ h=>h) ⟨rfl,rfl⟩
theorem A81 {gf:Fr} {ob:Obs} (l:List PatchLine) (k:UInt8) (ts:List Str) (hk:C8 ob 701=some (.grow 36 PatchLine 2 plineC l)) (hlen:l.length+ts.length≤1073741824) :
  AL.Met Tryz.prog 123 [.one (.mut 701),.one (.p (.v (.int .u8 k.toNat))),.one (.p (.list Str 1 H0 ts))] gf ob [701]
   (fun rs ob'=>rs=[.one (.mut 701)]∧ob'=(701,.grow 36 PatchLine 2 plineC (l++J3 k ts))::Obs.forget 701 ob):=by
 refine AL.Met.introH Tryz.func123 (by decide) rfl rfl rfl (fun hH=>?_)
 refine k2 ?_
 refine A3 (A2 (A5 Z Z) Z (A6 ?_))
 refine k1 (k2 (k2 ?_))
 refine A3 (A2 (A5 Z Z) Z (A6 ?_))
 refine k1 (k3 ?_)
 refine D8 (X:=Nat) (fun i=>([(0,.s (.one (.mut 701))),(1,.s (pByte k).s1),(2,D5 Str 1 H0 ts),(7,D2 i)]++Fr.forget 701 gf,(701,.grow 36 PatchLine 2 plineC (l++J3 k (ts.take i)))::Obs.forget 701 ob)) (fun i=>i≤ts.length) (fun i=>ts.length - i) 0 (Nat.zero_le _) ?_ ?_
 ·have e:l++J3 k (ts.take 0)=l:=by simp [J3]
  rw [e]
  exact F92 701 ⟨le1 rfl,le1 rfl,le1 rfl,le1 rfl,trivial⟩ hH (by repeat (first | exact I4 | refine I5 rfl ?_)) hk
 intro i hi
 dsimp only at hi ⊢
 have hpl:=Z4 k (ts.take i)
 rw [G17] at hpl
 refine k2 (k2 ?_)
 refine A3 (A2 (A4 Z Z) Z (A2 (A4 Z Z) Z (A2 (E1 Z (.pure _ _ _ _)) Z (A2 (E5 Z Z) Z (A6 ?_)))))
 refine k1 ?_
 refine B4 rfl (fun ht=>?_) (fun ht=>?_)
 ·have hlt:i < ts.length:=by have:=A0 ht;omega
  have hv:ts[i]?=some ts[i]:=by simp [hlt]
  have hsucc:=C65 k ts i hlt
  refine k5 (k1 (k2 (k3 ?_)))
  refine A3 (A2 (A4 Z Z) Z (A2 (A4 Z Z) Z (A2 (A4 Z Z) Z (A2 (A4 Z Z) Z (A2 (B1 Z (.pure _ _ _ _) Z (by omega) hv) Z (A2 (B3 Z Z) Z (A2 (J2 Z) Z (A2 (E3 (c:=plineC) (ys:=[⟨k,ts[i]⟩]) (E6 Z Z Z Z I9) Z Z Z) Z (C4 (Q4 Z Z Z (.pure _ _ _ _) (by (simp only [G07,G10,G11];omega)) Z) Z (A2 (A5 Z Z) Z (A6 ?_)))))))))))
  refine k4 (k1 ?_)
  refine A3 (A2 (A4 Z Z) Z (A2 (C3 Z Z (by omega)) Z (A2 (A5 Z Z) Z (A6 ?_))))
  refine k1 ?_
  refine ⟨i+1,hlt,by omega,?_⟩
  rw [hsucc,←G28]
  exact F80 ⟨le1 rfl,le1 rfl,le1 rfl,le1 rfl,trivial⟩ (B83 hH) (by repeat (first | exact I4 | refine I5 rfl ?_ | refine V9 _ ?_)) D98
 ·have hi':i=ts.length:=by have:=A1 ht;omega
  subst hi'
  rw [G23]
  refine k6 (k2 ?_)
  refine A3 (A2 (A4 Z Z) Z (A2 (A5 Z Z) Z (A6 ?_)))
  refine k1 (k10 ?_)
  exact X4 (B32 rfl rfl) (by repeat (first | exact I4 | refine I5 rfl ?_ | refine K6 _ ?_)) (fun _ _ h=>h) ⟨rfl,rfl⟩
set_option maxHeartbeats 1000000
theorem C52 (on nn a b:Str) (ctx:Int) (ha:a.length≤536870912) (hb:b.length≤536870912) (hsz:szP (G6 (D4 a).1 (D4 b).1 ctx)≤268435456) :
  FnOk Tryz.prog 63 [I1 on,I1 nn,I1 a,I1 b,I8 ctx,O8 false] (fun rs=>rs=[pPatch (A33 on nn a b ctx).1,I8 (A33 on nn a b ctx).2]):=by
 obtain ⟨x,hx⟩:∃x,x=(D4 a).1:=⟨_,rfl⟩
 obtain ⟨y,hy⟩:∃y,y=(D4 b).1:=⟨_,rfl⟩
 have hxl:x.length≤4096:=by rw [hx];exact x6 a
 have hyl:y.length≤4096:=by rw [hy];exact x6 b
 have hmk:A33 on nn a b ctx=if J0 on=false∨J0 nn=false then (O1,120)
   else if (D4 a).2≠0 then (O1,(D4 a).2)
   else if (D4 b).2≠0 then (O1,(D4 b).2)
   else if (K7 (E7 x y) x.length y.length ctx).2≠0 then (O1,(K7 (E7 x y) x.length y.length ctx).2)
   else if D9 ⟨on,nn,G6 x y ctx⟩≠0 then (O1,D9 ⟨on,nn,G6 x y ctx⟩)
   else (⟨on,nn,G6 x y ctx⟩,0):=by rw [hx,hy];rfl
 rw [←hx,←hy] at hsz
 refine FnOk.intro Tryz.func63 (by decide) Z Z Z Z ?_
 refine k2 ?_
 refine A3 (C4 (F7 12 Z) Z (A2 (A5 Z Z) Z (A6 ?_)))
 refine k1 (k2 (k2 ?_))
 refine A3 (A2 (A4 Z Z) Z (C2 (A05 on) Z Z Z ?_));rintro _ rfl;refine A2 (L2 Z) Z (A2 (A4 Z Z) Z (A8 Z Z Z Z (fun hg=>by rw [hg];exact A4 Z Z) ?_));refine A8 Z Z Z Z (fun hg=>by have hq:=hg;(try simp at hq);rw [hg];exact E9 (A05 nn) Z Z) ?_;refine A8 Z Z Z Z (fun hg=>by rw [hg];exact L2 Z) ?_;refine A2 (B2 Z (fun h=>by first | rfl | (rw [h];rfl)) (fun h=>by first | rfl | (rw [h];rfl))) Z ?_;refine A6 ?_
 refine k1 ?_
 refine B4 rfl (fun ht=>?_) (fun ht=>?_)
 ·simp only [B42,or_pick] at ht
  have h:=A0 ht
  refine k2 ?_
  refine A3 (A2 (J2 Z) Z (F3 (B8 TySz.out Z Z Z Z Z Z) (A2 (A5 Z Z) Z (A6 ?_))))
  refine k1 ?_
  refine K3 (F82 PatchHunk 3 phunkC 12 2 Z Z) ?_
  refine k10 (k11 ?_)
  exact B5 (rs:=[pPatch O1,I8 120]) (A94 rfl rfl rfl rfl rfl rfl rfl) (by rw [hmk,if_pos h])
 simp only [B42,or_pick] at ht
 have h:=A1 ht
 rw [if_neg h] at hmk
 refine k5 (k1 (k2 ?_))
 refine A3 (A2 (A4 Z Z) Z (C2 (A04 a ha) Z Z Z ?_));rintro _ rfl;refine A2 (A4 Z Z) Z (A2 (C5 Z Z) Z (A2 (C5 Z Z) Z (A2 (A5 Z Z) Z (A2 (A5 Z Z) Z (A6 ?_)))))
 rw [←hx]
 refine k1 (k2 (k2 ?_))
 refine A3 (A2 (A4 Z Z) Z (A2 (H8 Z Z) Z (A6 ?_)))
 refine k1 ?_
 refine B4 rfl (fun ht=>?_) (fun ht=>?_)
 ·have h1:(D4 a).2≠0:=A0 ht
  refine k2 ?_
  refine A3 (A2 (J2 Z) Z (A2 (A4 Z Z) Z (F3 (B8 TySz.out Z Z Z Z Z Z) (A2 (A5 Z Z) Z (A6 ?_)))))
  refine k1 ?_
  refine K3 (F82 PatchHunk 3 phunkC 12 2 Z Z) ?_
  refine k10 (k11 ?_)
  exact B5 (rs:=[pPatch O1,I8 (D4 a).2]) (A94 rfl rfl rfl rfl rfl rfl rfl) (by rw [hmk,if_pos h1])
 have h1:¬(D4 a).2≠0:=A1 ht
 rw [if_neg h1] at hmk
 refine k5 (k1 (k2 ?_))
 refine A3 (A2 (A4 Z Z) Z (C2 (A04 b hb) Z Z Z ?_));rintro _ rfl;refine A2 (A4 Z Z) Z (A2 (C5 Z Z) Z (A2 (C5 Z Z) Z (A2 (A5 Z Z) Z (A2 (A5 Z Z) Z (A6 ?_)))))
 rw [←hy]
 refine k1 (k2 (k2 ?_))
 refine A3 (A2 (A4 Z Z) Z (A2 (H8 Z Z) Z (A6 ?_)))
 refine k1 ?_
 refine B4 rfl (fun ht=>?_) (fun ht=>?_)
 ·have h2:(D4 b).2≠0:=A0 ht
  refine k2 ?_
  refine A3 (A2 (J2 Z) Z (A2 (A4 Z Z) Z (F3 (B8 TySz.out Z Z Z Z Z Z) (A2 (A5 Z Z) Z (A6 ?_)))))
  refine k1 ?_
  refine K3 (F82 PatchHunk 3 phunkC 12 2 Z Z) ?_
  refine k10 (k11 ?_)
  exact B5 (rs:=[pPatch O1,I8 (D4 b).2]) (A94 rfl rfl rfl rfl rfl rfl rfl) (by rw [hmk,if_pos h2])
 have h2:¬(D4 b).2≠0:=A1 ht
 rw [if_neg h2] at hmk
 have hscl:=o8 x y
 refine k5 (k1 (k2 ?_))
 refine A3 (A2 (A4 Z Z) Z (A2 (A4 Z Z) Z (C2 (C51 x y hxl hyl) Z Z Z ?_)));rintro _ rfl;refine A2 (A5 Z Z) Z (A6 ?_)
 rw [show A24 (H3 (D6 [x,y]) x) (H3 (D6 [x,y]) y)=E7 x y from rfl]
 obtain ⟨l,hl⟩:∃l,l=E7 x y:=⟨_,rfl⟩
 rw [←hl] at hmk hscl ⊢
 refine k1 (k2 (k2 ?_))
 refine A3 (A2 (A4 Z Z) Z (A6 ?_))
 refine k1 ?_
 refine B4 rfl (fun ht=>?_) (fun ht=>?_)
 ·cases ht
 refine k5 (k1 (k2 ?_))
 refine A3 (A2 (A4 Z Z) Z (A2 (A4 Z Z) Z (A2 (E1 Z (.pure _ _ _ _)) Z (A2 (A4 Z Z) Z (A2 (E1 Z (.pure _ _ _ _)) Z (A2 (A4 Z Z) Z (C2 (C50 l x.length y.length ctx (by omega)) Z Z Z ?_)))))));rintro _ rfl;refine A2 (A4 Z Z) Z (A2 (C5 Z Z) Z (A2 (C5 Z Z) Z (A2 (A5 Z Z) Z (A2 (A5 Z Z) Z (A6 ?_)))))
 obtain ⟨g,hg⟩:∃g,g=K7 l x.length y.length ctx:=⟨_,rfl⟩
 rw [←hg] at hmk ⊢
 refine k1 (k2 (k2 ?_))
 refine A3 (A2 (A4 Z Z) Z (A2 (H8 Z Z) Z (A6 ?_)))
 refine k1 ?_
 refine B4 rfl (fun ht=>?_) (fun ht=>?_)
 ·have h3:g.2≠0:=A0 ht
  refine k2 ?_
  refine A3 (A2 (J2 Z) Z (A2 (A4 Z Z) Z (F3 (B8 TySz.out Z Z Z Z Z Z) (A2 (A5 Z Z) Z (A6 ?_)))))
  refine k1 ?_
  refine K3 (F82 PatchHunk 3 phunkC 12 2 Z Z) ?_
  refine k10 (k11 ?_)
  exact B5 (rs:=[pPatch O1,I8 g.2]) (A94 rfl rfl rfl rfl rfl rfl rfl) (by rw [hmk,if_pos h3])
 have h3:¬g.2≠0:=A1 ht
 rw [if_neg h3] at hmk
 have hmh:G6 x y ctx=g.1.map (F6 l x y):=by rw [G6,←hl,←hg]
 have hgok:ScOk 0 0 l x.length y.length∧∀q∈g.1,E83 l x.length l.length q:=by
  rw [hg,K7] at h3
  by_cases c1:ctx < 0∨1048576 < ctx
  ·rw [if_pos c1] at h3;exact absurd (by decide) h3
  rw [if_neg c1] at h3
  by_cases c2:Y0 l x.length y.length≠0
  ·rw [if_pos c2] at h3;exact absurd c2 h3
  obtain ⟨_,_,c3⟩:=B74 (Decidable.not_not.1 c2)
  refine ⟨c3,?_⟩
  rw [hg,K7,if_neg c1,if_neg c2]
  exact A30 c3 (by omega) l.length (Nat.le_refl _)
 obtain ⟨hsc,hgs⟩:=hgok
 refine A51 [(0,P8 on),(1,P8 nn),(12,.s (.one (.ref 12 0))),(14,D5 Str 1 H0 x),(16,D5 Str 1 H0 y),(17,D5 Change 4 changeC l),(19,D5 Hunk 6 hunkC g.1)] [(12,.box [.p (.v (.string ⟨#[]⟩)),.p (.v (.string ⟨#[]⟩)),.p (.v (.slice none 0 0))])] (F77 ⟨le1 rfl,le1 rfl,le1 rfl,le1 rfl,le1 rfl,le1 rfl,le1 rfl,trivial⟩ ⟨rfl,trivial⟩) ?_
 refine k5 (k1 (k2 ?_))
 refine A3 (A2 (A4 Z Z) Z (A2 (A4 Z Z) Z (A2 (J2 Z) Z (C4 (F7 20 Z) Z (F3 (B8 TySz.out Z Z Z Z Z Z) (A6 ?_))))))
 refine k1 (k2 (k2 ?_))
 refine K3 (F83 702 PatchHunk 3 phunkC 29 (kb:=20) (o:=2) Z Z Z) ?_
 skip
 refine A3 (A2 (A5 Z Z) Z (A6 ?_))
 refine k1 (k3 ?_)
 refine D8 (X:=Nat) (fun k=>([(12,.s (.one (.ref 12 0))),(14,D5 Str 1 H0 x),(16,D5 Str 1 H0 y),(17,D5 Change 4 changeC l),(19,D5 Hunk 6 hunkC g.1),(20,.s (.one (.ref 20 0))),(21,D2 k)],[(12,.box [.p (.v (.string ⟨#[]⟩)),.p (.v (.string ⟨#[]⟩)),.p (.v (.slice none 0 0))]),(20,.box [.p (.v (.string ⟨on.toArray⟩)),.p (.v (.string ⟨nn.toArray⟩)),.buf 702 PatchHunk 3 phunkC ((g.1.take k).map (F6 l x y))]),(702,.spare (((g.1.take k).map (F6 l x y))).length 3 29)])) (fun k=>k≤g.1.length) (fun k=>g.1.length - k) 0 (Nat.zero_le _) (F77 ⟨le1 rfl,le1 rfl,le1 rfl,le1 rfl,le1 rfl,le1 rfl,le1 rfl,trivial⟩ ⟨rfl,rfl,rfl,trivial⟩) ?_
 intro k hk
 dsimp only at hk ⊢
 refine k2 (k2 ?_)
 refine A3 (A2 (A4 Z Z) Z (A2 (A4 Z Z) Z (A2 (E1 Z (.pure _ _ _ _)) Z (A2 (E5 Z Z) Z (A6 ?_)))))
 refine k1 ?_
 refine B4 rfl (fun ht=>?_) (fun ht=>?_)
 ·have hlt:k < g.1.length:=by have:=A0 ht;omega
  have hv:g.1[k]?=some g.1[k]:=by simp [hlt]
  have hq:=hgs _ (G22 hlt)
  have htk:(g.1.take (k+1)).map (F6 l x y)=(g.1.take k).map (F6 l x y)++[F6 l x y g.1[k]]:=by rw [G14 hlt,G27];rfl
  obtain ⟨q,hqe⟩:∃q,q=g.1[k]:=⟨_,rfl⟩
  rw [←hqe] at hv hq htk
  obtain ⟨hs,hhs⟩:∃hs,hs=(g.1.take k).map (F6 l x y):=⟨_,rfl⟩
  have hhl:hs.length=k:=by rw [hhs,G35,G17];omega
  rw [←hhs] at htk ⊢
  obtain ⟨a,b,q1,q2,q3,q4,q5,q6,q7,q8,q9,q10⟩:=hq
  have hgb:=hsc.get b q4
  refine k5 (k1 (k2 (k3 (k2 ?_))))
  refine A56 13 22 (by kernel_rfl) (by kernel_rfl) Z Z Z (R6 (A4 Z Z) Z (A4 Z Z) (R6 (A4 Z Z) Z (A4 Z Z) (R6 (B1 Z (.pure _ _ _ _) Z (by omega) hv) Z (B1 Z (.pure _ _ _ _) Z (by omega) hv) (R6 (B7 Z) Z (B7 Z) (R6 (B7 Z) Z (B7 Z) (R6 (B3 Z Z) Z (B3 Z Z) (R6 (A4 Z Z) Z (A4 Z Z) (R6 (A4 Z Z) Z (A4 Z Z) (R6 (B1 Z (.pure _ _ _ _) Z (by omega) hv) Z (B1 Z (.pure _ _ _ _) Z (by omega) hv) (R6 (B7 Z) Z (B7 Z) (R6 (B7 Z) Z (B7 Z) (R6 (B3 Z Z) Z (B3 Z Z) (R6 (J2 Z) Z (J2 Z) (b_nil Z (v6 (B8 TySz.out Z Z Z Z Z Z) Z (H5 ?_))))))))))))))))
  refine k1 (k2 ?_)
  refine K3 (F83 701 PatchLine 2 plineC 36 (kb:=22) (o:=2) Z Z Z) ?_
  refine A3 (A2 (A7 Z) Z (A2 (A9 Z Z Z) Z (A2 (A5 Z Z) Z (A6 ?_))))
  refine k1 (k2 (k2 ?_))
  refine A3 (A2 (A4 Z Z) Z (A2 (A4 Z Z) Z (A2 (B1 Z (.pure _ _ _ _) Z (by omega) hv) Z (A2 (B7 Z) Z (A2 (B3 Z Z) Z (A2 (A5 Z Z) Z (A6 ?_)))))))
  refine k1 (k3 ?_)
  refine D8 (X:=Nat) (fun t=>([(12,.s (.one (.ref 12 0))),(14,D5 Str 1 H0 x),(16,D5 Str 1 H0 y),(17,D5 Change 4 changeC l),(19,D5 Hunk 6 hunkC g.1),(20,.s (.one (.ref 20 0))),(21,D2 k),(22,.s (.one (.ref 22 0))),(23,D2 (P4 l q.Old.From a t)),(24,D2 ((a+t:Nat):Int))],[(12,.box [.p (.v (.string ⟨#[]⟩)),.p (.v (.string ⟨#[]⟩)),.p (.v (.slice none 0 0))]),(20,.box [.p (.v (.string ⟨on.toArray⟩)),.p (.v (.string ⟨nn.toArray⟩)),.buf 702 PatchHunk 3 phunkC hs]),(702,.spare (hs).length 3 29),(22,.box [.p (.v (.int .i64 q.Old.From)),.p (.v (.int .i64 q.New.From)),.buf 701 PatchLine 2 plineC (L6 l x y q.Old.From a t)]),(701,.spare (L6 l x y q.Old.From a t).length 2 36)])) (fun t=>a+t≤b+1) (fun t=>b+1 - (a+t)) 0 (by omega) ?_ ?_
  ·have e1:P4 l q.Old.From a 0=q.Old.From:=if_pos rfl
   rw [e1,show ((a+0:Nat):Int)=q.First by rw [q1];simp]
   exact F77 ⟨le1 rfl,le1 rfl,le1 rfl,le1 rfl,le1 rfl,le1 rfl,le1 rfl,le1 rfl,le1 rfl,le1 rfl,trivial⟩ ⟨rfl,rfl,rfl,rfl,rfl,trivial⟩
  intro t hat
  dsimp only at hat ⊢
  have hml:=B18 l x y q.Old.From a t
  have hml2:(L6 l x y q.Old.From a t).length≤4097*12288:=Nat.le_trans hml (Nat.mul_le_mul (by omega) (by omega))
  refine k2 (k2 ?_)
  refine A3 (A2 (A4 Z Z) Z (A2 (A4 Z Z) Z (A2 (A4 Z Z) Z (A2 (B1 Z (.pure _ _ _ _) Z (by omega) hv) Z (A2 (B7 Z) Z (A2 (B3 Z Z) Z (A2 (E5 Z Z) Z (A6 ?_))))))))
  refine k1 ?_
  refine B4 rfl (fun ht=>?_) (fun ht=>?_)
  ·have hlt2:a+t≤b:=by have:((a+t:Nat):Int) < q.Last:=A0 ht;omega
   obtain ⟨c,hc⟩:∃c,c=cAt l (a+t):=⟨_,rfl⟩
   have hcv:l[((a+t:Nat):Int).toNat]?=some c:=by rw [hc];exact C13 (by omega)
   have hgc:=hsc.get (a+t) (by omega)
   rw [←hc] at hgc
   obtain ⟨⟨g1,g2⟩,⟨g3,g4⟩,⟨g5,g6⟩,⟨g7,g8⟩,g9,g10⟩:=hgc
   obtain ⟨i0,hi0⟩:∃i0,i0=P4 l q.Old.From a t:=⟨_,rfl⟩
   have hpos:0≤i0∧i0≤c.Old:=by
    rw [hi0,hc];unfold P4 T8
    split
    ·rename_i h0;subst h0;exact ⟨q5,q6⟩
    ·have h4:=hsc.next (a+t - 1) (by omega)
     have h5:=hsc.get (a+t - 1) (by omega)
     rw [show a+t - 1+1=a+t by omega] at h4
     unfold G9 at h5;omega
   obtain ⟨ls,hls⟩:∃ls,ls=L6 l x y q.Old.From a t:=⟨_,rfl⟩
   obtain ⟨p1,hp1⟩:∃p1,p1=J3 32 (sub x i0 c.Old):=⟨_,rfl⟩
   obtain ⟨p2,hp2⟩:∃p2,p2=J3 45 (sub x c.Old (T8 c)):=⟨_,rfl⟩
   obtain ⟨p3,hp3⟩:∃p3,p3=J3 43 (sub y c.New (c.New+c.NewLen)):=⟨_,rfl⟩
   have hsucc:L6 l x y q.Old.From a (t+1)=ls++p1++p2++p3:=by rw [hls,hp1,hp2,hp3,hi0,hc];rfl
   have hps:P4 l q.Old.From a (t+1)=T8 c:=by rw [B17,hc]
   have l1:=U5 x i0 c.Old
   have l2:=U5 x c.Old (T8 c)
   have l3:=U5 y c.New (c.New+c.NewLen)
   have m1:p1.length=(sub x i0 c.Old).length:=by rw [hp1,Z4]
   have m2:p2.length=(sub x c.Old (T8 c)).length:=by rw [hp2,Z4]
   have hend:T8 c=c.Old+c.OldLen:=rfl
   rw [←hls] at hml2 ⊢
   rw [←hi0]
   refine k5 (k1 (k2 (k3 (k2 ?_))))
   refine K8 10 (by kernel_rfl) (by kernel_rfl) Z (B0 (A7 Z) Z Z (B0 (A9 Z Z Z) Z Z (B0 (A4 Z Z) Z Z (B0 (A4 Z Z) Z Z (B0 (A4 Z Z) Z Z (B0 (A4 Z Z) Z Z (B0 (B1 Z (.pure _ _ _ _) Z (by omega) hcv) Z Z (B0 (B7 Z) Z Z (B0 (B3 Z Z) Z Z (B0 (O7 Z (.pure _ _ _ _) Z Z (by omega) (by omega) (by omega)) Z Z (H5 (a6 (B43 ls 32 (sub x i0 c.Old) Z (by omega)) Z Z Z ?_))))))))))));rintro _ _ ⟨rfl,rfl⟩;refine ⟨_,rfl,?_⟩;refine B0 (A7 Z) Z Z (v6 (B8 TySz.out Z Z Z Z Z Z) Z (H5 ?_))
   rw [←hp1]
   refine k1 (k2 ?_)
   refine D7 (by kernel_rfl) (by kernel_rfl) (B0 (A4 Z Z) Z Z (B0 (A4 Z Z) Z Z (B0 (B1 Z (.pure _ _ _ _) Z (by omega) hcv) Z Z (B0 (B7 Z) Z Z (B0 (B3 Z Z) Z Z (B0 (A4 Z Z) Z Z (B0 (A4 Z Z) Z Z (B0 (B1 Z (.pure _ _ _ _) Z (by omega) hcv) Z Z (B0 (B7 Z) Z Z (B0 (B3 Z Z) Z Z (B0 (C3 Z Z (by omega)) Z Z (B0 (A5 Z Z) Z Z (H5 ?_)))))))))))))
   rw [show c.Old+c.OldLen=T8 c from rfl]
   refine k1 (k2 ?_)
   refine K8 10 (by kernel_rfl) (by kernel_rfl) Z (B0 (A7 Z) Z Z (B0 (A9 Z Z Z) Z Z (B0 (A4 Z Z) Z Z (B0 (A4 Z Z) Z Z (B0 (A4 Z Z) Z Z (B0 (B1 Z (.pure _ _ _ _) Z (by omega) hcv) Z Z (B0 (B7 Z) Z Z (B0 (B3 Z Z) Z Z (B0 (A4 Z Z) Z Z (B0 (O7 Z (.pure _ _ _ _) Z Z (by omega) (by omega) (by omega)) Z Z (H5 (a6 (B43 (ls++p1) 45 (sub x c.Old (T8 c)) Z (by simp only [G07];omega)) Z Z Z ?_))))))))))));rintro _ _ ⟨rfl,rfl⟩;refine ⟨_,rfl,?_⟩;refine B0 (A7 Z) Z Z (v6 (B8 TySz.out Z Z Z Z Z Z) Z (H5 ?_))
   rw [←hp2]
   refine k1 ?_
   refine K8 20 (by kernel_rfl) (by kernel_rfl) Z (B0 (A7 Z) Z Z (B0 (A9 Z Z Z) Z Z (B0 (A4 Z Z) Z Z (B0 (A4 Z Z) Z Z (B0 (A4 Z Z) Z Z (B0 (B1 Z (.pure _ _ _ _) Z (by omega) hcv) Z Z (B0 (B7 Z) Z Z (B0 (B3 Z Z) Z Z (B0 (A4 Z Z) Z Z (B0 (A4 Z Z) Z Z (B0 (B1 Z (.pure _ _ _ _) Z (by omega) hcv) Z Z (B0 (B7 Z) Z Z (B0 (B3 Z Z) Z Z (B0 (A4 Z Z) Z Z (B0 (A4 Z Z) Z Z (B0 (B1 Z (.pure _ _ _ _) Z (by omega) hcv) Z Z (B0 (B7 Z) Z Z (B0 (B3 Z Z) Z Z (B0 (C3 Z Z (by omega)) Z Z (B0 (O7 Z (.pure _ _ _ _) Z Z (by omega) (by omega) (by omega)) Z Z (H5 (a6 (B43 (ls++p1++p2) 43 (sub y c.New (c.New+c.NewLen)) Z (by simp only [G07];omega)) Z Z Z ?_))))))))))))))))))))));rintro _ _ ⟨rfl,rfl⟩;refine ⟨_,rfl,?_⟩;refine B0 (A7 Z) Z Z (v6 (B8 TySz.out Z Z Z Z Z Z) Z (H5 ?_))
   rw [←hp3]
   refine k4 (k1 ?_)
   refine A3 (A2 (A4 Z Z) Z (A2 (C3 Z Z (by omega)) Z (A2 (A5 Z Z) Z (A6 ?_))))
   refine k1 ?_
   refine ⟨t+1,by omega,by omega,?_⟩
   rw [hsucc,hps,show ((a+(t+1):Nat):Int)=((a+t:Nat):Int)+1 by omega]
   exact F77 ⟨le1 rfl,le1 rfl,le1 rfl,le1 rfl,le1 rfl,le1 rfl,le1 rfl,le1 rfl,le1 rfl,le1 rfl,trivial⟩ ⟨rfl,rfl,rfl,rfl,rfl,trivial⟩
  ·have htb:a+t=b+1:=by
    have h0:¬((a+t:Nat):Int) < q.Last:=A1 ht
    omega
   obtain ⟨i0,hi0⟩:∃i0,i0=P4 l q.Old.From a t:=⟨_,rfl⟩
   have hib:i0=(cAt l b).Old+(cAt l b).OldLen:=by
    rw [hi0];unfold P4 T8
    rw [if_neg (by omega),show a+t - 1=b by omega]
   unfold G9 at hgb
   obtain ⟨ls,hls⟩:∃ls,ls=L6 l x y q.Old.From a t:=⟨_,rfl⟩
   have hG:F6 l x y q=⟨q.Old.From,q.New.From,ls++J3 32 (sub x i0 q.Old.To)⟩:=by
    rw [F6,q1,q2,show ((a:Nat):Int).toNat=a by omega,show ((b:Int)+1).toNat - a=t by omega,←hls,←hi0]
   have l1:=U5 x i0 q.Old.To
   have hgn:g.1.length≤l.length:=by
    rw [hg,K7]
    split
    ·simp
    ·split
     ·simp
     ·exact (V3 l x.length ctx l.length).1
   rw [←hls] at hml2 ⊢
   rw [←hi0]
   refine k6 (k2 ?_)
   refine K8 11 (by kernel_rfl) (by kernel_rfl) Z (B0 (A7 Z) Z Z (B0 (A9 Z Z Z) Z Z (B0 (A4 Z Z) Z Z (B0 (A4 Z Z) Z Z (B0 (A4 Z Z) Z Z (B0 (A4 Z Z) Z Z (B0 (B1 Z (.pure _ _ _ _) Z (by omega) hv) Z Z (B0 (B7 Z) Z Z (B0 (B7 Z) Z Z (B0 (B3 Z Z) Z Z (B0 (O7 Z (.pure _ _ _ _) Z Z (by omega) (by omega) (by omega)) Z Z (H5 (a6 (B43 ls 32 (sub x i0 q.Old.To) Z (by omega)) Z Z Z ?_)))))))))))));rintro _ _ ⟨rfl,rfl⟩;refine ⟨_,rfl,?_⟩;refine B0 (A7 Z) Z Z (v6 (B8 TySz.out Z Z Z Z Z Z) Z (H5 ?_))
   refine k1 ?_
   refine A3 (A2 (A7 Z) Z (A2 (A9 Z Z Z) Z (A2 (C1 Z Z Z) Z (A2 (E3 (c:=phunkC) (ys:=[⟨q.Old.From,q.New.From,ls++J3 32 (sub x i0 q.Old.To)⟩]) (E6 Z Z Z Z I9) Z Z Z) Z (C4 (F4 Z Z Z (.pure _ _ _ _) (by (simp only [G10,G11];omega)) Z) Z (A2 (A7 Z) Z (F3 (B8 TySz.out Z Z Z Z Z Z) (A6 ?_))))))))
   rw [←hG,←htk]
   refine k4 (k1 ?_)
   refine A3 (A2 (A4 Z Z) Z (A2 (C3 Z Z (by omega)) Z (A2 (A5 Z Z) Z (A6 ?_))))
   refine k1 ?_
   exact ⟨k+1,by omega,by omega,F77 ⟨le1 rfl,le1 rfl,le1 rfl,le1 rfl,le1 rfl,le1 rfl,le1 rfl,trivial⟩ ⟨rfl,rfl,rfl,trivial⟩⟩
 ·have hk':k=g.1.length:=by have:=A1 ht;omega
  subst hk'
  rw [G23,←hmh]
  refine k6 (k2 (k2 ?_))
  refine A3 (A2 (C1 Z Z Z) Z (C2 (x4 ⟨on,nn,G6 x y ctx⟩ hsz) Z Z Z ?_));rintro _ rfl;refine A2 (A5 Z Z) Z (A6 ?_)
  refine k1 (k2 ?_)
  refine A3 (A2 (A4 Z Z) Z (A2 (H8 Z Z) Z (A6 ?_)))
  refine k1 ?_
  refine B4 rfl (fun ht=>?_) (fun ht=>?_)
  ·have h4:D9 ⟨on,nn,G6 x y ctx⟩≠0:=A0 ht
   refine k2 ?_
   refine A3 (A2 (J2 Z) Z (A2 (A4 Z Z) Z (F3 (B8 TySz.out Z Z Z Z Z Z) (A2 (A5 Z Z) Z (A6 ?_)))))
   refine k1 ?_
   refine K3 (F82 PatchHunk 3 phunkC 12 2 Z Z) ?_
   refine k10 (k11 ?_)
   exact B5 (rs:=[pPatch O1,I8 (D9 ⟨on,nn,G6 x y ctx⟩)]) (A94 rfl rfl rfl rfl rfl rfl rfl) (by rw [hmk,if_pos h4])
  ·have h4:¬D9 ⟨on,nn,G6 x y ctx⟩≠0:=A1 ht
   rw [if_neg h4] at hmk
   refine k5 (k1 (k2 ?_))
   refine A3 (A2 (C1 Z Z Z) Z (F3 (B8 TySz.out Z Z Z Z Z Z) (A2 (A5 Z Z) Z (A6 ?_))))
   refine k1 (k10 ?_)
   exact B5 (rs:=[pPatch ⟨on,nn,G6 x y ctx⟩,I8 0]) (A94 rfl rfl rfl rfl rfl rfl rfl) (by rw [hmk])
theorem E17 (h:PatchHunk) (x:List Str) (hl:h.Lines.length≤268435456) (ho:0≤h.Old∧h.Old≤4096) (hx:x.length≤1073741824):FnOk Tryz.prog 127 [pPhunk h,T9 x] (fun rs=>rs=[O8 (V4 h x)]):=by
 have hnl:=F0 h.Lines 43
 obtain ⟨old,hold⟩:∃old,old=B9 h.Lines 43:=⟨_,rfl⟩
 refine FnOk.intro Tryz.func127 (by decide) Z Z Z Z ?_
 refine k2 ?_
 refine A3 (C4 (U9 2 Z Z Z) Z (A2 (A5 Z Z) Z (A6 ?_)))
 refine k1 (k2 ?_)
 refine A3 (A2 (C1 Z Z Z) Z (C2 (P9 h 43 hl) Z Z Z ?_));rintro _ rfl;refine A2 (A5 Z Z) Z (A6 ?_)
 rw [←hold] at hnl ⊢
 refine k1 (k2 (k2 ?_))
 refine A3 (A2 (A7 Z) Z (A2 (A9 Z Z Z) Z (A2 (A4 Z Z) Z (A2 (E1 Z (.pure _ _ _ _)) Z (A2 (C3 Z Z (by omega)) Z (A2 (A4 Z Z) Z (A2 (E1 Z (.pure _ _ _ _)) Z (A2 (L1 Z Z) Z (A6 ?_)))))))))
 refine k1 ?_
 refine B4 rfl (fun ht=>?_) (fun ht=>?_)
 ·have h1:=A0 ht
  refine k2 ?_
  refine A3 (A2 (A5 Z Z) Z (A6 ?_))
  refine k1 (k10 (k11 ?_))
  exact B5 (F5 rfl rfl rfl) (by rw [V4,if_pos (by unfold H9;rw [←hold];omega)])
 have h1:=A1 ht
 have hf:V4 h x=decide ((x.drop (h.Old.toNat+0)).take (old.length - 0)=old.drop 0):=by
  rw [V4,if_neg (by unfold H9;rw [←hold];omega),←hold];simp
 obtain ⟨o,ho2⟩:∃o:Nat,h.Old=o:=⟨h.Old.toNat,by omega⟩
 rw [ho2,G46] at hf
 have hox:o+old.length≤x.length:=by omega
 refine k5 (k1 (k2 (k2 ?_)))
 refine A3 (A2 (A5 Z Z) Z (A6 ?_))
 refine k1 (k3 ?_)
 refine D8 (X:=Nat) (fun i=>([(1,D5 Str 1 H0 x),(2,.s (.one (.ref 2 0))),(5,D5 Str 1 H0 old),(6,D2 i)],[(2,.box (pPhunk h).s1.cells)])) (fun i=>i≤old.length∧V4 h x=decide ((x.drop (o+i)).take (old.length - i)=old.drop i)) (fun i=>old.length - i) 0 ⟨Nat.zero_le _,hf⟩ (F77 ⟨le1 rfl,le1 rfl,le1 rfl,le1 rfl,trivial⟩ ⟨rfl,trivial⟩) ?_
 rintro i ⟨hi,hp⟩
 dsimp only at hi hp ⊢
 refine k2 (k2 ?_)
 refine A3 (A2 (A4 Z Z) Z (A2 (A4 Z Z) Z (A2 (E1 Z (.pure _ _ _ _)) Z (A2 (E5 Z Z) Z (A6 ?_)))))
 refine k1 ?_
 refine B4 rfl (fun ht=>?_) (fun ht=>?_)
 ·have hlt:i < old.length:=by have:=A0 ht;omega
  have hv:old[i]?=some old[i]:=by simp [hlt]
  have hv2:x[(h.Old+(i:Int)).toNat]?=some (x[o+i]'(by omega)):=by rw [ho2,show ((o:Int)+(i:Int)).toNat=o+i by omega];simp
  rw [decide_eq_decide.2 (eqAt x old o i hlt hox)] at hp
  refine k5 (k1 (k2 (k3 (k2 ?_))))
  refine D7 (by kernel_rfl) (by kernel_rfl) (B0 (A4 Z Z) Z Z (B0 (A7 Z) Z Z (B0 (A9 Z Z Z) Z Z (B0 (A4 Z Z) Z Z (B0 (C3 Z Z (by omega)) Z Z (B0 (B1 Z (.pure _ _ _ _) Z (by omega) hv2) Z Z (B0 (B3 Z Z) Z Z (B0 (A4 Z Z) Z Z (B0 (A4 Z Z) Z Z (B0 (B1 Z (.pure _ _ _ _) Z (by omega) hv) Z Z (B0 (B3 Z Z) Z Z (B0 (i6 Z Z) Z Z (H5 ?_)))))))))))))
  refine k1 ?_
  refine B4 rfl (fun ht=>?_) (fun ht=>?_)
  ·have h2:x[o+i]'(by omega)≠old[i]:=A0 ht
   refine k2 ?_
   refine A3 (A2 (A5 Z Z) Z (A6 ?_))
   refine k1 (k10 (k12 (k11 (k11 (k12 (k11 ?_))))))
   exact B5 (F5 rfl rfl rfl) (by rw [hp,decide_eq_false (fun hh=>h2 hh.1)])
  ·have h2:x[o+i]'(by omega)=old[i]:=Decidable.not_not.1 (A1 ht)
   refine k5 (k4 (k1 ?_))
   refine A3 (A2 (A4 Z Z) Z (A2 (C3 Z Z (by omega)) Z (A2 (A5 Z Z) Z (A6 ?_))))
   refine k1 ?_
   exact ⟨i+1,⟨hlt,by rw [hp];exact decide_eq_decide.2 ⟨fun hh=>hh.2,fun hh=>⟨h2,hh⟩⟩⟩,by omega,F77 ⟨le1 rfl,le1 rfl,le1 rfl,le1 rfl,trivial⟩ ⟨rfl,trivial⟩⟩
 ·have hi':i=old.length:=by have:=A1 ht;omega
  subst hi'
  refine k6 (k2 ?_)
  refine A3 (A2 (A5 Z Z) Z (A6 ?_))
  refine k1 (k10 ?_)
  exact B5 (F5 rfl rfl rfl) (by rw [hp];simp)
theorem E70 (p:Patch) (blob:Str) (hp:szP p.Hunks≤268435456) (hb:blob.length≤536870912):FnOk Tryz.prog 69 [pPatch p,I1 blob] (fun rs=>rs=[I8 (W6 p blob).1,I8 (W6 p blob).2]):=by
 have hsl:=U4 p.Hunks
 refine FnOk.intro Tryz.func69 (by decide) Z Z Z Z ?_
 refine k2 ?_
 refine A3 (C4 (U9 2 Z Z Z) Z (A2 (A5 Z Z) Z (A2 (A5 Z Z) Z (A6 ?_))))
 refine k1 (k2 (k2 ?_))
 refine A3 (A2 (C1 Z Z Z) Z (C2 (x4 p hp) Z Z Z ?_));rintro _ rfl;refine A2 (A5 Z Z) Z (A6 ?_)
 refine k1 (k2 ?_)
 refine A3 (A2 (A4 Z Z) Z (A2 (H8 Z Z) Z (A6 ?_)))
 refine k1 ?_
 refine B4 rfl (fun ht=>?_) (fun ht=>?_)
 ·have h1:D9 p≠0:=A0 ht
  refine k2 ?_
  refine A3 (A2 (A4 Z Z) Z (A2 (A5 Z Z) Z (A2 (A5 Z Z) Z (A6 ?_))))
  refine k1 (k10 (k11 ?_))
  exact B5 (Z9 rfl rfl rfl rfl rfl) (by rw [W6,if_pos h1])
 have h1:¬D9 p≠0:=A1 ht
 have hg:M5 p.Hunks=true:=by
  by_cases hg:M5 p.Hunks=true
  ·exact hg
  ·exfalso;apply h1;unfold D9;split
   ·decide
   ·rw [if_pos (by simpa using hg)];decide
 have hr:=W3 hg
 have hxl:=x6 blob
 obtain ⟨x,hx⟩:∃x,x=(D4 blob).1:=⟨_,rfl⟩
 refine k5 (k1 (k2 ?_))
 refine A3 (A2 (A4 Z Z) Z (C2 (A04 blob hb) Z Z Z ?_));rintro _ rfl;refine A2 (A4 Z Z) Z (A2 (C5 Z Z) Z (A2 (C5 Z Z) Z (A2 (A5 Z Z) Z (A2 (A5 Z Z) Z (A6 ?_)))))
 rw [←hx] at hxl ⊢
 refine k1 (k2 (k2 ?_))
 refine A3 (A2 (A4 Z Z) Z (A2 (H8 Z Z) Z (A6 ?_)))
 refine k1 ?_
 refine B4 rfl (fun ht=>?_) (fun ht=>?_)
 ·have h2:(D4 blob).2≠0:=A0 ht
  refine k2 ?_
  refine A3 (A2 (A4 Z Z) Z (A2 (A5 Z Z) Z (A2 (A5 Z Z) Z (A6 ?_))))
  refine k1 (k10 (k11 ?_))
  exact B5 (Z9 rfl rfl rfl rfl rfl) (by rw [W6,if_neg h1,if_pos h2])
 have h2:¬(D4 blob).2≠0:=A1 ht
 refine k5 (k1 (k2 ?_))
 refine A3 (A2 (A5 Z Z) Z (A6 ?_))
 refine k1 (k2 (k3 ?_))
 refine D8 (X:=Nat) (fun n=>([(2,.s (.one (.ref 2 0))),(7,D5 Str 1 H0 x),(9,D2 n)],[(2,.box (pPatch p).s1.cells)])) (fun n=>n≤p.Hunks.length∧A34 p.Hunks x=n+A34 (p.Hunks.drop n) x) (fun n=>p.Hunks.length - n) 0 ⟨Nat.zero_le _,by simp⟩ (F77 ⟨le1 rfl,le1 rfl,le1 rfl,trivial⟩ ⟨rfl,trivial⟩) ?_
 rintro n ⟨hn,hf⟩
 dsimp only at hn hf ⊢
 rcases Nat.lt_or_ge n p.Hunks.length with hlt | hge
 ·have hv:p.Hunks[n]?=some p.Hunks[n]:=by simp [hlt]
  have hmem:p.Hunks[n]∈p.Hunks:=G22 hlt
  rw [G12 hlt,A34] at hf
  obtain ⟨h,hh⟩:∃h,h=p.Hunks[n]:=⟨_,rfl⟩
  rw [←hh] at hv hmem hf
  have h3:=U3 hmem
  have h4:=P1 h.Lines
  unfold szH at h3
  have hr1:=hr h hmem
  refine k2 (k2 ?_)
  refine A3 (A2 (A4 Z Z) Z (A2 (A7 Z) Z (A2 (A9 Z Z Z) Z (A2 (E1 Z (.pure _ _ _ _)) Z (A2 (E5 Z Z) Z (A2 (A4 Z Z) Z (A8 Z Z Z Z (fun hg=>by rw [hg];exact A7 Z) ?_)))))));refine A8 Z Z Z Z (fun hg=>by rw [hg];exact A9 Z Z Z) ?_;refine A8 Z Z Z Z (fun hg=>by rw [hg];exact A4 Z Z) ?_;refine A8 Z Z Z Z (fun hg=>by have hq:=hg;(try simp at hq);rw [hg];exact B1 Z (.pure _ _ _ _) Z (by omega) hv) ?_;refine A8 Z Z Z Z (fun hg=>by rw [hg];exact D3 Z Z) ?_;refine A8 Z Z Z Z (fun hg=>by rw [hg];exact A4 Z Z) ?_;refine A8 Z Z Z Z (fun hg=>by have hq:=hg;(try simp at hq);rw [hg];exact E9 (E17 h x (by omega) hr1.1 (by omega)) Z Z) ?_;refine A2 (B2 Z (fun h=>by first | rfl | (rw [h];rfl)) (fun h=>by first | rfl | (rw [h];rfl))) Z ?_;refine A6 ?_
  refine k1 ?_
  rw [decide_eq_true (show (n:Int) < p.Hunks.length by omega)]
  refine B4 rfl (fun ht=>?_) (fun ht=>?_)
  ·have h5:V4 h x=true:=ht
   rw [if_pos h5] at hf
   refine k5 (k1 (k3 ?_))
   refine A3 (A2 (A4 Z Z) Z (A2 (C3 Z Z (by omega)) Z (A2 (A5 Z Z) Z (A6 ?_))))
   refine k4 (k1 ?_)
   exact ⟨n+1,⟨hlt,by rw [hf];omega⟩,by omega,F77 ⟨le1 rfl,le1 rfl,le1 rfl,trivial⟩ ⟨rfl,trivial⟩⟩
  ·have h5:V4 h x=false:=ht
   rw [if_neg (by rw [h5];decide)] at hf
   refine k6 (k2 ?_)
   refine A3 (A2 (A4 Z Z) Z (A2 (A5 Z Z) Z (A2 (A5 Z Z) Z (A6 ?_))))
   refine k1 (k10 ?_)
   exact B5 (Z9 rfl rfl rfl rfl rfl) (by rw [W6,if_neg h1,if_neg h2,←hx,hf];rfl)
 ·have hn':n=p.Hunks.length:=by omega
  rw [G18 hge,A34] at hf
  refine k2 (k2 ?_)
  refine A3 (A2 (A4 Z Z) Z (A2 (A7 Z) Z (A2 (A9 Z Z Z) Z (A2 (E1 Z (.pure _ _ _ _)) Z (A2 (E5 Z Z) Z (A2 (A4 Z Z) Z (A8 Z Z Z Z (fun hg=>by rw [hg];exact A7 Z) ?_)))))));refine A8 Z Z Z Z (fun hg=>by rw [hg];exact A9 Z Z Z) ?_;refine A8 Z Z Z Z (fun hg=>by rw [hg];exact A4 Z Z) ?_;refine A8 Z Z Z Z (fun hg=>by have hq:=hg;(try simp at hq);rw [hg];exact B1 Z (.pure _ _ _ _) Z (by omega) (show p.Hunks[((n:Nat):Int).toNat]?=some ⟨0,0,[]⟩ from absurd hq (by omega))) ?_;refine A8 Z Z Z Z (fun hg=>by rw [hg];exact D3 Z Z) ?_;refine A8 Z Z Z Z (fun hg=>by rw [hg];exact A4 Z Z) ?_;refine A8 Z Z Z Z (fun hg=>by have hq:=hg;(try simp at hq);rw [hg];exact E9 (E17 ⟨0,0,[]⟩ x (by simp) (by decide) (by omega)) Z Z) ?_;refine A2 (B2 Z (fun h=>by first | rfl | (rw [h];rfl)) (fun h=>by first | rfl | (rw [h];rfl))) Z ?_;refine A6 ?_
  refine k1 ?_
  rw [decide_eq_false (show ¬(n:Int) < p.Hunks.length by omega)]
  refine B4 rfl (fun ht=>?_) (fun ht=>?_)
  ·cases ht
  ·refine k6 (k2 ?_)
   refine A3 (A2 (A4 Z Z) Z (A2 (A5 Z Z) Z (A2 (A5 Z Z) Z (A6 ?_))))
   refine k1 (k10 ?_)
   exact B5 (Z9 rfl rfl rfl rfl rfl) (by rw [W6,if_neg h1,if_neg h2,←hx,hf];rfl)
theorem B86 (p:Patch) (blob:Str) (hp:szP p.Hunks≤134217728) (hb:blob.length≤134217728):FnOk Tryz.prog 20 [pPatch p,I1 blob] (fun rs=>rs=[I1 (S9 p blob).1,I8 (S9 p blob).2]):=by
 have hsl:=U4 p.Hunks
 refine FnOk.intro Tryz.func20 (by decide) Z Z Z Z ?_
 refine k2 ?_
 refine A3 (C4 (U9 2 Z Z Z) Z (A2 (A5 Z Z) Z (A2 (A5 Z Z) Z (A6 ?_))))
 refine k1 (k2 ?_)
 refine A3 (A2 (C1 Z Z Z) Z (A2 (A4 Z Z) Z (C2 (E70 p blob (by omega) (by omega)) Z Z Z ?_)));rintro _ rfl;refine A2 (A4 Z Z) Z (A2 (C5 Z Z) Z (A2 (C5 Z Z) Z (A2 (A5 Z Z) Z (A2 (A5 Z Z) Z (A6 ?_)))))
 refine k1 (k2 (k2 ?_))
 refine A3 (A2 (A4 Z Z) Z (A2 (H8 Z Z) Z (A6 ?_)))
 refine k1 ?_
 refine B4 rfl (fun ht=>?_) (fun ht=>?_)
 ·have h1:(W6 p blob).2≠0:=A0 ht
  refine k2 ?_
  refine A3 (A2 (A4 Z Z) Z (A2 (A5 Z Z) Z (A2 (A5 Z Z) Z (A6 ?_))))
  refine k1 (k10 (k11 ?_))
  exact B5 (Z9 rfl rfl rfl rfl rfl) (by rw [S9,if_pos h1])
 have h1:¬(W6 p blob).2≠0:=A1 ht
 refine k5 (k1 (k2 (k2 ?_)))
 refine A3 (A2 (A4 Z Z) Z (A2 (A7 Z) Z (A2 (A9 Z Z Z) Z (A2 (E1 Z (.pure _ _ _ _)) Z (A2 (E5 Z Z) Z (A6 ?_))))))
 refine k1 ?_
 refine B4 rfl (fun ht=>?_) (fun ht=>?_)
 ·have h2:=A0 ht
  refine k2 ?_
  refine A3 (A2 (A5 Z Z) Z (A2 (A5 Z Z) Z (A6 ?_)))
  refine k1 (k10 (k11 ?_))
  exact B5 (Z9 rfl rfl rfl rfl rfl) (by rw [S9,if_neg h1,if_pos h2])
 have h2:=A1 ht
 obtain ⟨x,hx⟩:∃x,x=B6 blob:=⟨_,rfl⟩
 have hxl:x.length≤blob.length:=by rw [hx];exact O9 blob
 have hxf:x.flatten.length=blob.length:=by rw [hx,X5]
 have hall:(W6 p blob).1=(p.Hunks.length:Int)∧∀k,k < p.Hunks.length→0≤M6 p.Hunks k∧M6 p.Hunks k≤(hAt p.Hunks k).Old∧(hAt p.Hunks k).Old+H9 (hAt p.Hunks k)≤x.length:=by
  unfold W6 at h1 h2 ⊢
  by_cases c1:D9 p≠0
  ·rw [if_pos c1] at h1;exact absurd c1 h1
  rw [if_neg c1] at h1 h2 ⊢
  by_cases c2:(D4 blob).2≠0
  ·rw [if_pos c2] at h1;exact absurd c2 h1
  rw [if_neg c2] at h2 ⊢
  have hxs:(D4 blob).1=x:=by
   rw [hx];unfold D4 at c2 ⊢
   split
   ·rename_i c3;rw [if_pos c3] at c2;exact absurd (by decide) c2
   ·rfl
  rw [hxs] at h2 ⊢
  have hle:=fitN_le p.Hunks x
  have hfn:A34 p.Hunks x=p.Hunks.length:=by
   have h2:¬((A34 p.Hunks x:Int) < p.Hunks.length):=h2
   omega
  have hg:M5 p.Hunks=true:=by
   by_cases hg:M5 p.Hunks=true
   ·exact hg
   ·exfalso;apply c1;unfold D9;split
    ·decide
    ·rw [if_pos (by simpa using hg)];decide
  have hr:=W3 hg
  unfold M5 at hg
  rw [G08] at hg
  have hord:=o9 p.Hunks 0 0 hg.1
  refine ⟨by rw [hfn],fun k hk=>⟨?_,hord k hk,A84 (E44 p.Hunks x hfn _ (B48 hk))⟩⟩
  unfold M6
  split
  ·omega
  ·have:=hr _ (B48 (hs:=p.Hunks) (k:=k - 1) (by omega))
   have:=p6 (hAt p.Hunks (k - 1))
   omega
 obtain ⟨hn,hord⟩:=hall
 have hlens:=D40 hord
 refine k5 (k1 (k2 ?_))
 refine A3 (A2 (A4 Z Z) Z (C2 (B41 blob (by omega)) Z Z Z ?_));rintro _ rfl;refine A2 (A5 Z Z) Z (A6 ?_)
 rw [←hx]
 refine k1 (k2 ?_)
 refine A3 (C4 (X3 9 _ H0 Z) Z (A6 ?_))
 refine k1 (k2 ?_)
 refine A3 (A2 (A5 Z Z) Z (A6 ?_))
 refine k1 (k2 (k2 ?_))
 refine A3 (A2 (A5 Z Z) Z (A6 ?_))
 refine k1 (k3 ?_)
 rw [hn]
 refine D8 (X:=Nat) (fun k=>([(2,.s (.one (.ref 2 0))),(6,D2 p.Hunks.length),(8,D5 Str 1 H0 x),(9,.s (.one (.buf 9 Str 1 H0 (S0 p.Hunks x k)))),(10,D2 (M6 p.Hunks k)),(11,D2 k)],[(2,.box (pPatch p).s1.cells),(9,.spare (S0 p.Hunks x k).length 1 9)])) (fun k=>k≤p.Hunks.length) (fun k=>p.Hunks.length - k) 0 (Nat.zero_le _) (F77 ⟨le1 rfl,le1 rfl,le1 rfl,le1 rfl,le1 rfl,le1 rfl,trivial⟩ ⟨rfl,rfl,trivial⟩) ?_
 intro k hk
 dsimp only at hk ⊢
 have hlk:=hlens k hk
 have hst:=A09 p.Hunks k
 refine k2 (k2 ?_)
 refine A3 (A2 (A4 Z Z) Z (A2 (A4 Z Z) Z (A2 (E5 Z Z) Z (A6 ?_))))
 refine k1 ?_
 refine B4 rfl (fun ht=>?_) (fun ht=>?_)
 ·have hlt:k < p.Hunks.length:=by have:=A0 ht;omega
  have hv:p.Hunks[k]?=some (hAt p.Hunks k):=C14 hlt
  have hmem:=B48 hlt
  obtain ⟨o1,o2,o3⟩:=hord k hlt
  obtain ⟨h,hh⟩:∃h,h=hAt p.Hunks k:=⟨_,rfl⟩
  rw [←hh] at hv hmem o2 o3
  have h3:=U3 hmem
  have h4:=P1 h.Lines
  have h5:=F0 h.Lines 45
  have h6:=F0 h.Lines 43
  have h7:=p6 h
  have h8:=U5 x (M6 p.Hunks k) h.Old
  unfold szH at h3
  refine k5 (k1 (k2 (k3 (k2 ?_))))
  refine A3 (A2 (A7 Z) Z (A2 (A9 Z Z Z) Z (A2 (A4 Z Z) Z (A2 (B1 Z (.pure _ _ _ _) Z (by omega) hv) Z (A2 (D3 Z Z) Z (C4 (F7 12 Z) Z (F3 (B8 TySz.out Z Z Z Z Z Z) (A6 ?_))))))))
  refine M8 ?_
  refine s9 [(2,.s (.one (.ref 2 0))),(6,D2 p.Hunks.length),(8,D5 Str 1 H0 x),(9,.s (.one (.buf 9 Str 1 H0 (S0 p.Hunks x k++sub x (M6 p.Hunks k) h.Old++B9 h.Lines 45)))),(10,D2 (M6 p.Hunks k)),(11,D2 k),(12,.s (.one (.ref 12 0)))] [(2,.box (pPatch p).s1.cells),(9,.spare (S0 p.Hunks x k++sub x (M6 p.Hunks k) h.Old++B9 h.Lines 45).length 1 9),(12,.box (pPhunk h).s1.cells)] ?_ ?_
  ·skip
   refine C86 6 (by kernel_rfl) (by kernel_rfl) Z Z (B0 (A4 Z Z) Z Z (B0 (A4 Z Z) Z Z (B0 (A4 Z Z) Z Z (B0 (A7 Z) Z Z (B0 (A9 Z Z Z) Z Z (B0 (O7 Z (.pure _ _ _ _) Z Z (by omega) (by omega) (by omega)) Z Z (H5 ?_)))))));refine E62 (by first | exact F4 rfl rfl rfl (.pure _ _ _ _) (by (first | omega | (unfold sub at h8;omega))) rfl | exact F4 rfl rfl rfl (.buf _ _ _ _ _) (by (first | omega | (unfold sub at h8;omega))) rfl | exact Q4 rfl rfl rfl (.pure _ _ _ _) (by (first | omega | (unfold sub at h8;omega))) rfl | exact Q4 rfl rfl rfl (.buf _ _ _ _ _) (by (first | omega | (unfold sub at h8;omega))) rfl | exact R8 rfl rfl rfl (.pure _ _ _ _) (by (first | omega | (unfold sub at h8;omega))) rfl | exact R8 rfl rfl rfl (.buf _ _ _ _ _) (by (first | omega | (unfold sub at h8;omega))) rfl | exact W0 rfl rfl rfl rfl (by (first | omega | (unfold sub at h8;omega))) rfl) rfl (by first | exact C1 rfl rfl rfl | exact D3 rfl rfl | exact B27 rfl rfl (G09 (by omega)) rfl | exact D17 rfl rfl (G09 (by omega)) rfl | exact C48 rfl rfl rfl rfl) rfl (by first | exact C1 rfl rfl rfl | exact D3 rfl rfl | exact B27 rfl rfl (G09 (by omega)) rfl | exact D17 rfl rfl (G09 (by omega)) rfl | exact C48 rfl rfl rfl rfl) (by first | exact F4 rfl rfl rfl (.pure _ _ _ _) (by (first | omega | (unfold sub at h8;omega))) rfl | exact F4 rfl rfl rfl (.buf _ _ _ _ _) (by (first | omega | (unfold sub at h8;omega))) rfl | exact Q4 rfl rfl rfl (.pure _ _ _ _) (by (first | omega | (unfold sub at h8;omega))) rfl | exact Q4 rfl rfl rfl (.buf _ _ _ _ _) (by (first | omega | (unfold sub at h8;omega))) rfl | exact R8 rfl rfl rfl (.pure _ _ _ _) (by (first | omega | (unfold sub at h8;omega))) rfl | exact R8 rfl rfl rfl (.buf _ _ _ _ _) (by (first | omega | (unfold sub at h8;omega))) rfl | exact W0 rfl rfl rfl rfl (by (first | omega | (unfold sub at h8;omega))) rfl) ?_ ?_
   ·refine B0 (E9 (P9 h 45 (by omega)) Z Z) Z Z ?_;(first | (refine T7 (F4 rfl rfl rfl (.pure _ _ _ _) (by (simp only [G07];unfold sub at h8;omega)) rfl) rfl rfl ?_) | (refine T7 (F4 rfl rfl rfl (.buf _ _ _ _ _) (by (simp only [G07];unfold sub at h8;omega)) rfl) rfl rfl ?_) | (refine T7 (Q4 rfl rfl rfl (.pure _ _ _ _) (by (simp only [G07];unfold sub at h8;omega)) rfl) rfl rfl ?_) | (refine T7 (Q4 rfl rfl rfl (.buf _ _ _ _ _) (by (simp only [G07];unfold sub at h8;omega)) rfl) rfl rfl ?_) | (refine T7 (R8 rfl rfl rfl (.pure _ _ _ _) (by (simp only [G07];unfold sub at h8;omega)) rfl) rfl rfl ?_) | (refine T7 (R8 rfl rfl rfl (.buf _ _ _ _ _) (by (simp only [G07];unfold sub at h8;omega)) rfl) rfl rfl ?_) | (refine T7 (W0 rfl rfl rfl rfl (by (simp only [G07];unfold sub at h8;omega)) rfl) rfl rfl ?_));refine B0 (A5 Z Z) Z Z (H5 ?_);exact F77 ⟨(by first | exact le1 rfl | exact leE rfl (by first | (simp;done) | (simp;omega)) | exact leL rfl | exact leN rfl | exact leA rfl),(by first | exact le1 rfl | exact leE rfl (by first | (simp;done) | (simp;omega)) | exact leL rfl | exact leN rfl | exact leA rfl),(by first | exact le1 rfl | exact leE rfl (by first | (simp;done) | (simp;omega)) | exact leL rfl | exact leN rfl | exact leA rfl),(by first | exact le1 rfl | exact leE rfl (by first | (simp;done) | (simp;omega)) | exact leL rfl | exact leN rfl | exact leA rfl),(by first | exact le1 rfl | exact leE rfl (by first | (simp;done) | (simp;omega)) | exact leL rfl | exact leN rfl | exact leA rfl),(by first | exact le1 rfl | exact leE rfl (by first | (simp;done) | (simp;omega)) | exact leL rfl | exact leN rfl | exact leA rfl),(by first | exact le1 rfl | exact leE rfl (by first | (simp;done) | (simp;omega)) | exact leL rfl | exact leN rfl | exact leA rfl),trivial⟩ ⟨rfl,rfl,rfl,trivial⟩
   ·refine B0 (E9 (P9 h 45 (by omega)) Z Z) Z Z ?_;(first | (refine T7 (F4 rfl rfl rfl (.pure _ _ _ _) (by (simp only [G07];unfold sub at h8;omega)) rfl) rfl rfl ?_) | (refine T7 (F4 rfl rfl rfl (.buf _ _ _ _ _) (by (simp only [G07];unfold sub at h8;omega)) rfl) rfl rfl ?_) | (refine T7 (Q4 rfl rfl rfl (.pure _ _ _ _) (by (simp only [G07];unfold sub at h8;omega)) rfl) rfl rfl ?_) | (refine T7 (Q4 rfl rfl rfl (.buf _ _ _ _ _) (by (simp only [G07];unfold sub at h8;omega)) rfl) rfl rfl ?_) | (refine T7 (R8 rfl rfl rfl (.pure _ _ _ _) (by (simp only [G07];unfold sub at h8;omega)) rfl) rfl rfl ?_) | (refine T7 (R8 rfl rfl rfl (.buf _ _ _ _ _) (by (simp only [G07];unfold sub at h8;omega)) rfl) rfl rfl ?_) | (refine T7 (W0 rfl rfl rfl rfl (by (simp only [G07];unfold sub at h8;omega)) rfl) rfl rfl ?_));refine B0 (A5 Z Z) Z Z (H5 ?_);exact F77 ⟨(by first | exact le1 rfl | exact leE rfl (by first | (simp;done) | (simp;omega)) | exact leL rfl | exact leN rfl | exact leA rfl),(by first | exact le1 rfl | exact leE rfl (by first | (simp;done) | (simp;omega)) | exact leL rfl | exact leN rfl | exact leA rfl),(by first | exact le1 rfl | exact leE rfl (by first | (simp;done) | (simp;omega)) | exact leL rfl | exact leN rfl | exact leA rfl),(by first | exact le1 rfl | exact leE rfl (by first | (simp;done) | (simp;omega)) | exact leL rfl | exact leN rfl | exact leA rfl),(by first | exact le1 rfl | exact leE rfl (by first | (simp;done) | (simp;omega)) | exact leL rfl | exact leN rfl | exact leA rfl),(by first | exact le1 rfl | exact leE rfl (by first | (simp;done) | (simp;omega)) | exact leL rfl | exact leN rfl | exact leA rfl),(by first | exact le1 rfl | exact leE rfl (by first | (simp;done) | (simp;omega)) | exact leL rfl | exact leN rfl | exact leA rfl),trivial⟩ ⟨rfl,rfl,rfl,trivial⟩
  skip
  refine D7 (by kernel_rfl) (by kernel_rfl) (B0 (A7 Z) Z Z (B0 (A9 Z Z Z) Z Z (B0 (C1 Z Z Z) Z Z (B0 (E9 (P9 h 43 (by omega)) Z Z) Z Z (B0 (E1 Z (.pure _ _ _ _)) Z Z (B0 (C3 Z Z (by omega)) Z Z (B0 (A5 Z Z) Z Z (H5 ?_))))))))
  refine k4 (k1 ?_)
  refine A3 (A2 (A4 Z Z) Z (A2 (C3 Z Z (by omega)) Z (A2 (A5 Z Z) Z (A6 ?_))))
  refine k1 ?_
  have e:S0 p.Hunks x (k+1)=S0 p.Hunks x k++sub x (M6 p.Hunks k) h.Old++B9 h.Lines 45:=by rw [hh];rfl
  have e2:M6 p.Hunks (k+1)=h.Old+((B9 h.Lines 43).length:Int):=by rw [hh];unfold M6;rw [if_neg (by omega)];rfl
  refine ⟨k+1,by omega,by omega,?_⟩
  rw [e,e2]
  exact F77 ⟨le1 rfl,le1 rfl,le1 rfl,le1 rfl,le1 rfl,le1 rfl,trivial⟩ ⟨rfl,rfl,trivial⟩
 ·have hk':k=p.Hunks.length:=by have:=A1 ht;omega
  subst hk'
  have hat:0≤M6 p.Hunks p.Hunks.length∧M6 p.Hunks p.Hunks.length≤x.length:=by
   unfold M6
   split
   ·omega
   ·obtain ⟨o1,o2,o3⟩:=hord (p.Hunks.length - 1) (by omega)
    have:=p6 (hAt p.Hunks (p.Hunks.length - 1))
    omega
  obtain ⟨out,hout⟩:∃out,out=S0 p.Hunks x p.Hunks.length++x.drop (M6 p.Hunks p.Hunks.length).toNat:=⟨_,rfl⟩
  have hfl:out.flatten.length≤268435456:=by
   have h9:(x.take (M6 p.Hunks p.Hunks.length).toNat).flatten.length+(x.drop (M6 p.Hunks p.Hunks.length).toNat).flatten.length=x.flatten.length:=by
    rw [←G07,←G20,G40]
   rw [hout,G20,G07];omega
  have hmem:∀s∈out,s.length≤1099511627776:=fun s hs=>by
   have:=(List.sublist_flatten_of_mem hs).length_le;omega
  refine k6 (k2 ?_)
  refine A3 (A2 (A4 Z Z) Z (A2 (A4 Z Z) Z (A2 (A4 Z Z) Z (A2 (D06 Z (.pure _ _ _ _) Z (by omega) (by omega)) Z (C4 (F4 Z Z Z (.pure _ _ _ _) (by (simp only [G25];omega)) Z) Z (A2 (A5 Z Z) Z (A6 ?_)))))))
  rw [←hout]
  refine k1 (k2 (k2 ?_))
  refine A3 (A2 (A4 Z Z) Z (C2 (F12 out hmem) Z Z Z ?_));rintro _ rfl;refine A2 (L2 Z) Z (A6 ?_)
  refine k1 ?_
  refine B4 rfl (fun ht=>?_) (fun ht=>?_)
  ·have h9:P5 out=false:=by simpa using ht
   refine k2 ?_
   refine A3 (A2 (A5 Z Z) Z (A2 (A5 Z Z) Z (A6 ?_)))
   refine k1 (k10 (k11 ?_))
   exact B5 (Z9 rfl rfl rfl rfl rfl) (by rw [S9,if_neg h1,if_neg h2,←hx,B49,←hout,if_pos h9])
  ·have h9:¬P5 out=false:=by simpa using ht
   refine k5 (k1 (k2 ?_))
   refine A3 (A2 (A4 Z Z) Z (C2 (join_ok out (by omega)) Z Z Z ?_));rintro _ rfl;refine A2 (C5 Z Z) Z (A2 (C5 Z Z) Z (A2 (A5 Z Z) Z (A2 (A5 Z Z) Z (A6 ?_))))
   refine k1 (k10 ?_)
   exact B5 (Z9 rfl rfl rfl rfl rfl) (by rw [S9,if_neg h1,if_neg h2,←hx,B49,←hout,if_neg h9])
theorem D25 (s:Str):FnOk Tryz.prog 79 [I1 s] (fun rs=>rs=[O8 (J0 s)]):=by
 refine FnOk.intro Tryz.func79 (by decide) Z Z Z Z ?_
 refine k2 ?_
 refine A3 (A2 (A5 Z Z) Z (A6 ?_))
 refine k1 (k2 ?_)
 refine A3 (A2 (A4 Z Z) Z (A2 (H7 Z) Z (A2 (B80 Z Z) Z (A2 (A4 Z Z) Z (A8 Z Z Z Z (fun hg=>by rw [hg];exact A4 Z Z) ?_)))));refine A8 Z Z Z Z (fun hg=>by rw [hg];exact H7 Z) ?_;refine A8 Z Z Z Z (fun hg=>by rw [hg];exact A93 Z Z) ?_;refine A2 (B2 Z (fun h=>by first | rfl | (rw [h];rfl)) (fun h=>by first | rfl | (rw [h];rfl))) Z ?_;refine A2 (A5 Z Z) Z (A6 ?_)
 refine k1 (k10 ?_)
 refine B5 (F5 Z Z Z) ?_
 simp only [J6]
 congr 4
 unfold J0
 congr 1
 apply propext
 omega
theorem E71 (s:Str) (hs:s.length≤1099511627776):FnOk Tryz.prog 202 [I1 s] (fun rs=>rs=[O8 (I2 s)]):=by
 refine FnOk.intro Tryz.func202 (by decide) Z Z Z Z ?_
 refine k2 ?_
 refine A3 (A2 (A5 Z Z) Z (A6 ?_))
 refine k1 (k2 ?_)
 refine A3 (A2 (A4 Z Z) Z (A2 (i6 Z Z) Z (A2 (A4 Z Z) Z (A8 Z Z Z Z (fun hg=>by rw [hg];exact A4 Z Z) ?_))));refine A8 Z Z Z Z (fun hg=>by have hq:=hg;(try simp at hq);rw [hg];exact E9 (F61 s hs) Z Z) ?_;refine A8 Z Z Z Z (fun hg=>by have hq:=hg;(try simp at hq);rw [hg];exact E9 (D63 (A63 s) 10) Z Z) ?_;refine A8 Z Z Z Z (fun hg=>by rw [hg];exact L2 Z) ?_;refine A2 (B2 Z (fun h=>by first | rfl | (rw [h];rfl)) (fun h=>by first | rfl | (rw [h];rfl))) Z ?_;refine A2 (A5 Z Z) Z (A6 ?_)
 refine k1 (k10 ?_)
 exact B5 (F5 rfl rfl rfl) (by rw [F42])
theorem D26 (h:PatchHunk) (hl:h.Lines.length≤268435456):FnOk Tryz.prog 199 [pPhunk h] (fun rs=>rs=[I8 (H9 h),I8 (M3 h)]):=by
 refine FnOk.intro Tryz.func199 (by decide) Z Z Z Z ?_
 refine k2 ?_
 refine A3 (C4 (U9 1 Z Z Z) Z (A2 (A5 Z Z) Z (A2 (A5 Z Z) Z (A6 ?_))))
 refine k1 (k2 ?_)
 refine A3 (A2 (A5 Z Z) Z (A2 (A5 Z Z) Z (A6 ?_)))
 refine k1 (k2 (k2 ?_))
 refine A3 (A2 (A7 Z) Z (A2 (A9 Z Z Z) Z (A2 (E1 Z (.pure _ _ _ _)) Z (A2 (A4 Z Z) Z (A6 ?_)))))
 refine k1 (k3 ?_)
 refine D8 (X:=Nat) (fun i=>([(4,D2 (B9 (h.Lines.take i) 43).length),(5,D2 (B9 (h.Lines.take i) 45).length),(9,D5 PatchLine 2 plineC h.Lines),(10,D2 h.Lines.length),(11,D2 i)],[])) (fun i=>i≤h.Lines.length) (fun i=>h.Lines.length - i) 0 (Nat.zero_le _) (F77 ⟨le1 rfl,le1 rfl,le1 rfl,le1 rfl,le1 rfl,trivial⟩ trivial) ?_
 intro i hi
 dsimp only at hi ⊢
 have h1:=F0 (h.Lines.take i) 43
 have h2:=F0 (h.Lines.take i) 45
 rw [G17] at h1 h2
 refine k2 ?_
 refine A3 (A2 (E5 Z Z) Z (A6 ?_))
 refine k1 (k2 ?_)
 refine B4 rfl (fun ht=>?_) (fun ht=>?_)
 ·have hlt:i < h.Lines.length:=by have:=A0 ht;omega
  have hv:h.Lines[i]?=some h.Lines[i]:=by simp [hlt]
  have s1:=X0 h.Lines 43 i hlt
  have s2:=X0 h.Lines 45 i hlt
  obtain ⟨x,hx⟩:∃x,x=h.Lines[i]:=⟨_,rfl⟩
  rw [←hx] at hv s1 s2
  refine k5 (k1 (k2 (k3 (k2 ?_))))
  refine A3 (A2 (B1 Z (.pure _ _ _ _) Z (by omega) hv) Z (A2 (D3 Z Z) Z (C4 (F7 7 Z) Z (F3 (B8 TySz.out Z Z Z Z Z Z) (A6 ?_)))))
  refine M8 ?_
  refine s9 [(4,D2 (B9 (h.Lines.take (i+1)) 43).length),(5,D2 (B9 (h.Lines.take i) 45).length),(7,.s (.one (.ref 7 0))),(9,D5 PatchLine 2 plineC h.Lines),(10,D2 h.Lines.length),(11,D2 i)] [(7,.box [.p (.v (.int .u8 x.Kind.toNat)),.p (.v (.string ⟨x.Text.toArray⟩))])] ?_ ?_
  ·refine k2 ?_
   refine A3 (A2 (A7 Z) Z (A2 (A9 Z Z Z) Z (A2 (H8 Z Z) Z (A6 ?_))))
   refine k1 ?_
   refine B4 rfl (fun ht=>?_) (fun ht=>?_)
   ·rw [kn43] at ht
    have h3:x.Kind≠43:=A0 ht
    rw [if_pos h3] at s1
    skip
    refine A3 (A2 (A4 Z Z) Z (A2 (C3 Z Z (by omega)) Z (A2 (A5 Z Z) Z (A6 ?_))))
    refine k1 ?_
    rw [s1,G07,Int.natCast_add]
    exact F77 ⟨le1 rfl,le1 rfl,le1 rfl,le1 rfl,le1 rfl,le1 rfl,trivial⟩ ⟨rfl,trivial⟩
   ·rw [kn43] at ht
    have h3:¬x.Kind≠43:=A1 ht
    rw [if_neg h3] at s1
    refine k5 (k1 ?_)
    rw [s1]
    exact F77 ⟨le1 rfl,le1 rfl,le1 rfl,le1 rfl,le1 rfl,le1 rfl,trivial⟩ ⟨rfl,trivial⟩
  ·refine k2 ?_
   refine A3 (A2 (A7 Z) Z (A2 (A9 Z Z Z) Z (A2 (H8 Z Z) Z (A6 ?_))))
   refine k1 ?_
   refine B4 rfl (fun ht=>?_) (fun ht=>?_)
   ·rw [kn45] at ht
    have h3:x.Kind≠45:=A0 ht
    rw [if_pos h3] at s2
    skip
    refine A3 (A2 (A4 Z Z) Z (A2 (C3 Z Z (by omega)) Z (A2 (A5 Z Z) Z (A6 ?_))))
    refine k4 (k1 ?_)
    refine A3 (A2 (C3 Z Z (by omega)) Z (A2 (A4 Z Z) Z (A6 ?_)))
    refine k1 ?_
    refine ⟨i+1,by omega,by omega,?_⟩
    rw [s2,G07,Int.natCast_add]
    exact F77 ⟨le1 rfl,le1 rfl,le1 rfl,le1 rfl,le1 rfl,trivial⟩ trivial
   ·rw [kn45] at ht
    have h3:¬x.Kind≠45:=A1 ht
    rw [if_neg h3] at s2
    refine k5 (k4 (k1 ?_))
    refine A3 (A2 (C3 Z Z (by omega)) Z (A2 (A4 Z Z) Z (A6 ?_)))
    refine k1 ?_
    refine ⟨i+1,by omega,by omega,?_⟩
    rw [s2]
    exact F77 ⟨le1 rfl,le1 rfl,le1 rfl,le1 rfl,le1 rfl,trivial⟩ trivial
 ·have hi':i=h.Lines.length:=by have:=A1 ht;omega
  subst hi'
  rw [G23]
  refine k6 (k2 ?_)
  refine A3 (A2 (A4 Z Z) Z (A2 (A4 Z Z) Z (A2 (A5 Z Z) Z (A2 (A5 Z Z) Z (A6 ?_)))))
  refine k1 (k10 ?_)
  exact B5 (Z9 rfl rfl rfl rfl rfl) rfl
theorem C53 (h:PatchHunk) (hl:h.Lines.length≤268435456) (ho:-4611686018427387904≤h.Old∧h.Old≤4611686018427387904) (hn:-4611686018427387904≤h.New∧h.New≤4611686018427387904):FnOk Tryz.prog 135 [pPhunk h] (fun rs=>rs=[I1 (R9 h)]):=by
 have h1:=F0 h.Lines 43
 have h2:=F0 h.Lines 45
 have h3:0≤H9 h∧H9 h≤268435456:=by unfold H9;omega
 have h4:0≤M3 h∧M3 h≤268435456:=by unfold M3;omega
 have h5:=Z2 h.Old (H9 h)
 have h6:=Z2 h.New (M3 h)
 refine FnOk.intro Tryz.func135 (by decide) Z Z Z Z ?_
 refine k2 ?_
 refine A3 (C4 (U9 1 Z Z Z) Z (A2 (A5 Z Z) Z (A6 ?_)))
 refine k1 (k2 ?_)
 refine A3 (A2 (C1 Z Z Z) Z (C2 (D26 h hl) Z Z Z ?_));rintro _ rfl;refine A2 (A4 Z Z) Z (A2 (C5 Z Z) Z (A2 (C5 Z Z) Z (A2 (A5 Z Z) Z (A2 (A5 Z Z) Z (A6 ?_)))))
 refine k1 (k2 ?_)
 refine D7 (by kernel_rfl) (by kernel_rfl) (B0 (A7 Z) Z Z (B0 (A9 Z Z Z) Z Z (B0 (A4 Z Z) Z Z (B0 (E9 (D22 h.Old (H9 h) ho (by omega)) Z Z) Z Z (B0 (F2 Z Z (by (simp only [G10,G11];omega))) Z Z (B0 (F2 Z Z (by (simp only [G07,G10,G11];omega))) Z Z (B0 (A7 Z) Z Z (B0 (A9 Z Z Z) Z Z (B0 (A4 Z Z) Z Z (B0 (E9 (D22 h.New (M3 h) hn (by omega)) Z Z) Z Z (B0 (F2 Z Z (by (simp only [G07,G10,G11];omega))) Z Z (B0 (F2 Z Z (by (simp only [G07,G10,G11];omega))) Z Z (B0 (A5 Z Z) Z Z (H5 ?_))))))))))))))
 refine k1 (k10 ?_)
 exact B5 (F5 rfl rfl rfl) rfl
theorem C54 (h:PatchHunk) (hl:(h.Lines.map szL).sum≤1099511627776):FnOk Tryz.prog 140 [pPhunk h] (fun rs=>rs=[O8 (h.Lines.all S7&&Q6 h.Lines)]):=by
 have h3:=P1 h.Lines
 refine FnOk.intro Tryz.func140 (by decide) Z Z Z Z ?_
 refine k2 ?_
 refine A3 (C4 (U9 1 Z Z Z) Z (A2 (A5 Z Z) Z (A6 ?_)))
 refine k1 (k2 ?_)
 refine A3 (A2 (A5 Z Z) Z (A6 ?_))
 refine k1 (k2 (k2 ?_))
 refine A3 (A2 (A7 Z) Z (A2 (A9 Z Z Z) Z (A2 (E1 Z (.pure _ _ _ _)) Z (A2 (A4 Z Z) Z (A6 ?_)))))
 refine k1 (k3 ?_)
 refine D8 (X:=Nat) (fun n=>([(3,J4 (.bool (Q6 (h.Lines.take n)))),(7,D5 PatchLine 2 plineC h.Lines),(8,D2 h.Lines.length),(9,D2 n)],[])) (fun n=>n≤h.Lines.length∧h.Lines.all S7=(h.Lines.drop n).all S7) (fun n=>h.Lines.length - n) 0 ⟨Nat.zero_le _,rfl⟩ (F77 ⟨le1 rfl,le1 rfl,le1 rfl,le1 rfl,trivial⟩ trivial) ?_
 rintro n ⟨hn1,hn2⟩
 dsimp only at hn1 hn2 ⊢
 refine k2 ?_
 refine A3 (A2 (E5 Z Z) Z (A6 ?_))
 refine k1 (k2 ?_)
 refine B4 rfl (fun ht=>?_) (fun ht=>?_)
 ·have hlt2:n < h.Lines.length:=by have:=A0 ht;omega
  have hv2:h.Lines[n]?=some h.Lines[n]:=by simp [hlt2]
  have hmem2:=x8 (G22 hlt2)
  have hsucc:=B85 h.Lines n hlt2
  rw [G12 hlt2,List.all_cons] at hn2
  obtain ⟨x,hx2⟩:∃x,x=h.Lines[n]:=⟨_,rfl⟩
  rw [←hx2] at hv2 hmem2 hsucc hn2
  refine k5 (k1 (k2 (k3 (k2 ?_))))
  refine A3 (A2 (B1 Z (.pure _ _ _ _) Z (by omega) hv2) Z (A2 (D3 Z Z) Z (C4 (F7 5 Z) Z (F3 (B8 TySz.out Z Z Z Z Z Z) (A6 ?_)))))
  refine k1 (k2 (k2 ?_))
  refine A3 (A2 (A7 Z) Z (A2 (A9 Z Z Z) Z (A2 (H8 Z Z) Z (A2 (A4 Z Z) Z (A8 Z Z Z Z (fun hg=>by rw [hg];exact A7 Z) ?_)))));refine A8 Z Z Z Z (fun hg=>by rw [hg];exact A9 Z Z Z) ?_;refine A8 Z Z Z Z (fun hg=>by rw [hg];exact H8 Z Z) ?_;refine A2 (B2 Z (fun h=>by first | rfl | (rw [h];rfl)) (fun h=>by first | rfl | (rw [h];rfl))) Z ?_;refine A2 (A4 Z Z) Z (A8 Z Z Z Z (fun hg=>by rw [hg];exact A7 Z) ?_);refine A8 Z Z Z Z (fun hg=>by rw [hg];exact A9 Z Z Z) ?_;refine A8 Z Z Z Z (fun hg=>by rw [hg];exact H8 Z Z) ?_;refine A2 (B2 Z (fun h=>by first | rfl | (rw [h];rfl)) (fun h=>by first | rfl | (rw [h];rfl))) Z ?_;refine A2 (A4 Z Z) Z (A8 Z Z Z Z (fun hg=>by rw [hg];exact A7 Z) ?_);refine A8 Z Z Z Z (fun hg=>by rw [hg];exact A9 Z Z Z) ?_;refine A8 Z Z Z Z (fun hg=>by have hq:=hg;(try simp at hq);rw [hg];exact E9 (E71 x.Text (by omega)) Z Z) ?_;refine A8 Z Z Z Z (fun hg=>by rw [hg];exact L2 Z) ?_;refine A2 (B2 Z (fun h=>by first | rfl | (rw [h];rfl)) (fun h=>by first | rfl | (rw [h];rfl))) Z ?_;refine A6 ?_
  refine k1 ?_
  refine B4 rfl (fun ht=>?_) (fun ht=>?_)
  ·simp only [kn32,kn45,kn43,J6,B42,or_pick] at ht
   have hb:C63 x:=A0 ht
   refine k2 ?_
   refine A3 (A2 (A5 Z Z) Z (A6 ?_))
   refine k1 (k10 (k11 (k12 (k11 (k11 (k12 (k11 ?_)))))))
   refine B5 (F5 Z Z Z) ?_
   have:S7 x=false:=decide_eq_false (fun hh=>hh hb)
   rw [hn2,this];rfl
  ·simp only [kn32,kn45,kn43,J6,B42,or_pick] at ht
   have hb:¬C63 x:=A1 ht
   have hgl:S7 x=true:=decide_eq_true hb
   rw [hgl,Bool.true_and] at hn2
   refine k5 (k1 ?_)
   refine A3 (A2 (A4 Z Z) Z (A2 (A4 Z Z) Z (A8 Z Z Z Z (fun hg=>by rw [hg];exact A7 Z) ?_)));refine A8 Z Z Z Z (fun hg=>by rw [hg];exact A9 Z Z Z) ?_;refine A8 Z Z Z Z (fun hg=>by rw [hg];exact H8 Z Z) ?_;refine A2 (B2 Z (fun h=>by first | rfl | (rw [h];rfl)) (fun h=>by first | rfl | (rw [h];rfl))) Z ?_;refine A2 (A5 Z Z) Z (A6 ?_)
   refine k4 (k1 ?_)
   refine A3 (A2 (C3 Z Z (by omega)) Z (A2 (A4 Z Z) Z (A6 ?_)))
   refine k1 ?_
   refine ⟨n+1,⟨by omega,hn2⟩,by omega,?_⟩
   rw [kn32,←hsucc]
   exact F77 ⟨le1 rfl,le1 rfl,le1 rfl,le1 rfl,trivial⟩ trivial
 ·have hn':n=h.Lines.length:=by have:=A1 ht;omega
  subst hn'
  rw [G23]
  rw [G18 (Nat.le_refl _)] at hn2
  refine k6 (k2 ?_)
  refine A3 (A2 (A4 Z Z) Z (A2 (A5 Z Z) Z (A6 ?_)))
  refine k1 (k10 ?_)
  exact B5 (F5 rfl rfl rfl) (by rw [hn2];rfl)
theorem A06 {gf:Fr} {ob:Obs} {k:Nat} {e:Int} {o:Bool} {t:Str} (hk:C8 ob k=some (.box [.p (.v (.int .i64 e)),.p (.v (.bool o))])) (hs:t.length≤1099511627776) :
  AL.Met Tryz.prog 203 [.one (.ref k 0),.one (.p (.v (.string ⟨t.toArray⟩)))] gf ob [] (fun rs ob'=>rs=[.one (.p (.v (.bool (!o))))]∧ob'=(k,.box [.p (.v (.int .i64 e)),.p (.v (.bool (!ended t)))])::ob):=by
 refine AL.Met.intro Tryz.func203 (by decide) Z Z Z ?_
 refine k2 ?_
 refine A3 (A2 (A5 Z Z) Z (A6 ?_))
 refine k1 (k2 ?_)
 refine A3 (A2 (A4 Z Z) Z (A2 (G5 Z) Z (A2 (A7 Z) Z (A2 (A9 Z hk Z) Z (A2 (L2 Z) Z (A2 (A5 Z Z) Z (A6 ?_)))))))
 refine k1 (k2 ?_)
 refine A3 (A2 (A4 Z Z) Z (A2 (A4 Z Z) Z (C2 (A80 t hs) Z Z Z ?_)));rintro _ rfl;refine A2 (L2 Z) Z (A2 (G5 Z) Z (A2 (A7 Z) Z (F3 (B8 TySz.out Z hk Z Z Z Z) (A6 ?_))))
 refine k1 (k2 ?_)
 refine A3 (A2 (A4 Z Z) Z (A2 (A5 Z Z) Z (A6 ?_)))
 refine k1 (k10 ?_)
 exact X4 (B32 rfl rfl) (by repeat (first | exact I4 | refine I5 rfl ?_ | refine K6 _ ?_)) (fun _ _ h=>h) ⟨rfl,rfl⟩
theorem F35 (a b:List Str) (i:Nat) (ha:i < a.length) (hb:i < b.length):(a.drop i=b.drop i)↔(a[i]=b[i]∧a.drop (i+1)=b.drop (i+1)):=by
 rw [G12 ha,G12 hb,List.cons.injEq]
theorem F64 (a b:List Str):FnOk Tryz.prog 124 [T9 a,T9 b] (fun rs=>rs=[O8 (decide (a=b))]):=by
 refine FnOk.intro Tryz.func124 (by decide) Z Z Z Z ?_
 refine A12 (t:=0) rfl (.pure _ _ _ _) fun hal=>?_
 refine k2 ?_
 refine A3 (A2 (A5 Z Z) Z (A6 ?_))
 refine k1 (k2 (k2 ?_))
 refine A3 (A2 (A4 Z Z) Z (A2 (E1 Z (.pure _ _ _ _)) Z (A2 (A4 Z Z) Z (A2 (E1 Z (.pure _ _ _ _)) Z (A2 (H8 Z Z) Z (A6 ?_))))))
 refine k1 ?_
 refine B4 rfl (fun ht=>?_) (fun ht=>?_)
 ·have h:=A0 ht
  refine k2 ?_
  refine A3 (A2 (A5 Z Z) Z (A6 ?_))
  refine k1 (k10 (k11 ?_))
  exact B5 (F5 rfl rfl rfl) (by rw [decide_eq_false (fun hh=>h (by rw [hh]))])
 have h:=A1 ht
 have hl:a.length=b.length:=by omega
 refine k5 (k1 (k2 (k2 ?_)))
 refine A3 (A2 (A4 Z Z) Z (A2 (E1 Z (.pure _ _ _ _)) Z (A2 (A4 Z Z) Z (A6 ?_))))
 refine k1 (k3 ?_)
 refine D8 (X:=Nat) (fun i=>([(0,D5 Str 1 H0 a),(1,D5 Str 1 H0 b),(12,D2 a.length),(13,D2 i)],[])) (fun i=>i≤a.length∧decide (a=b)=decide (a.drop i=b.drop i)) (fun i=>a.length - i) 0 ⟨Nat.zero_le _,rfl⟩ (F77 ⟨le1 rfl,le1 rfl,le1 rfl,le1 rfl,trivial⟩ trivial) ?_
 rintro i ⟨hi,hp⟩
 dsimp only at hi hp ⊢
 refine k2 ?_
 refine A3 (A2 (E5 Z Z) Z (A6 ?_))
 refine k1 (k2 ?_)
 refine B4 rfl (fun ht=>?_) (fun ht=>?_)
 ·have hlt:i < a.length:=by have:=A0 ht;omega
  have hv:a[i]?=some a[i]:=by simp [hlt]
  have hv2:b[i]?=some (b[i]'(by omega)):=by simp
  rw [decide_eq_decide.2 (F35 a b i hlt (by omega))] at hp
  refine k5 (k1 (k2 (k3 (k2 ?_))))
  refine A3 (A2 (A4 Z Z) Z (A2 (A5 Z Z) Z (A6 ?_)))
  refine k1 (k2 ?_)
  refine D7 (by kernel_rfl) (by kernel_rfl) (B0 (A4 Z Z) Z Z (B0 (A4 Z Z) Z Z (B0 (B1 Z (.pure _ _ _ _) Z (by omega) hv) Z Z (B0 (B3 Z Z) Z Z (B0 (A4 Z Z) Z Z (B0 (A4 Z Z) Z Z (B0 (B1 Z (.pure _ _ _ _) Z (by omega) hv2) Z Z (B0 (B3 Z Z) Z Z (B0 (i6 Z Z) Z Z (H5 ?_))))))))))
  refine k1 ?_
  refine B4 rfl (fun ht=>?_) (fun ht=>?_)
  ·have h2:a[i]≠b[i]'(by omega):=A0 ht
   refine k2 ?_
   refine A3 (A2 (A5 Z Z) Z (A6 ?_))
   refine k1 (k10 (k12 (k11 (k11 (k12 (k11 ?_))))))
   exact B5 (F5 rfl rfl rfl) (by rw [hp,decide_eq_false (fun hh=>h2 hh.1)])
  ·have h2:a[i]=b[i]'(by omega):=Decidable.not_not.1 (A1 ht)
   refine k5 (k4 (k1 ?_))
   refine A3 (A2 (C3 Z Z (by omega)) Z (A2 (A4 Z Z) Z (A6 ?_)))
   refine k1 ?_
   exact ⟨i+1,⟨hlt,by rw [hp];exact decide_eq_decide.2 ⟨fun hh=>hh.2,fun hh=>⟨h2,hh⟩⟩⟩,by omega,F77 ⟨le1 rfl,le1 rfl,le1 rfl,le1 rfl,trivial⟩ trivial⟩
 ·have hi':i=a.length:=by have:=A1 ht;omega
  subst hi'
  refine k6 (k2 ?_)
  refine A3 (A2 (A5 Z Z) Z (A6 ?_))
  refine k1 (k10 ?_)
  refine B5 (F5 Z Z Z) ?_
  rw [hp,G18 (Nat.le_refl _),G18 (by omega)];rfl
theorem E72 (h:PatchHunk) (x:List Str) (ho:0≤h.Old):(if (if decide (h.Old≤(x.length:Int))=true then decide (((B9 h.Lines 43).length:Int)≤(x.length:Int) - h.Old) else false)=true then decide (sub x h.Old (h.Old+((B9 h.Lines 43).length:Int))=B9 h.Lines 43) else false)=V4 h x:=by
 have hn:0≤H9 h:=by unfold H9;omega
 unfold V4
 by_cases c:(x.length:Int) < h.Old+H9 h
 ·rw [if_pos c]
  unfold H9 at c
  simp only [J6]
  exact decide_eq_false (fun hh=>by omega)
 ·rw [if_neg c]
  unfold H9 at c
  simp only [J6]
  have e:sub x h.Old (h.Old+((B9 h.Lines 43).length:Int))=(x.drop h.Old.toNat).take (B9 h.Lines 43).length:=by
   unfold sub;congr 1;omega
  rw [e]
  exact decide_eq_decide.2 ⟨fun hh=>hh.2,fun hh=>⟨by omega,hh⟩⟩
theorem F36 (h:PatchHunk) (x:List Str) (hl:h.Lines.length≤268435456) (ho:0≤h.Old∧h.Old≤4096) (hx:x.length≤1073741824):FnOk Tryz.prog 67 [T9 x,I8 h.Old,T9 (B9 h.Lines 43)] (fun rs=>rs=[O8 (V4 h x)]):=by
 have hnl:=F0 h.Lines 43
 refine FnOk.intro Tryz.func67 (by decide) Z Z Z Z ?_
 refine k2 ?_
 refine A3 (A2 (A5 Z Z) Z (A6 ?_))
 refine k1 (k2 ?_)
 refine A3 (A2 (A4 Z Z) Z (A2 (A4 Z Z) Z (A2 (E1 Z (.pure _ _ _ _)) Z (A2 (A93 Z Z) Z (A2 (A4 Z Z) Z (A8 Z Z Z Z (fun hg=>by rw [hg];exact A4 Z Z) ?_))))));refine A8 Z Z Z Z (fun hg=>by rw [hg];exact E1 Z (.pure _ _ _ _)) ?_;refine A8 Z Z Z Z (fun hg=>by rw [hg];exact A4 Z Z) ?_;refine A8 Z Z Z Z (fun hg=>by rw [hg];exact E1 Z (.pure _ _ _ _)) ?_;refine A8 Z Z Z Z (fun hg=>by rw [hg];exact A4 Z Z) ?_;refine A8 Z Z Z Z (fun hg=>by have hq:=hg;(try simp at hq);rw [hg];exact N6 Z Z (by omega)) ?_;refine A8 Z Z Z Z (fun hg=>by rw [hg];exact A93 Z Z) ?_;refine A2 (B2 Z (fun h=>by first | rfl | (rw [h];rfl)) (fun h=>by first | rfl | (rw [h];rfl))) Z ?_;refine A2 (A4 Z Z) Z (A8 Z Z Z Z (fun hg=>by rw [hg];exact A4 Z Z) ?_);refine A8 Z Z Z Z (fun hg=>by rw [hg];exact A4 Z Z) ?_;refine A8 Z Z Z Z (fun hg=>by rw [hg];exact A4 Z Z) ?_;refine A8 Z Z Z Z (fun hg=>by rw [hg];exact A4 Z Z) ?_;refine A8 Z Z Z Z (fun hg=>by rw [hg];exact E1 Z (.pure _ _ _ _)) ?_;refine A8 Z Z Z Z (fun hg=>by have hq:=hg;(try simp at hq);rw [hg];exact C3 Z Z (by omega)) ?_;refine A8 Z Z Z Z (fun hg=>by have hq:=hg;(try simp at hq);rw [hg];exact O7 Z (.pure _ _ _ _) Z Z (by omega) (by omega) (by omega)) ?_;refine A8 Z Z Z Z (fun hg=>by rw [hg];exact A4 Z Z) ?_;refine A8 Z Z Z Z (fun hg=>by have hq:=hg;(try simp at hq);rw [hg];exact E9 (F64 (sub x h.Old (h.Old+((B9 h.Lines 43).length:Int))) (B9 h.Lines 43)) Z Z) ?_;refine A2 (B2 Z (fun h=>by first | rfl | (rw [h];rfl)) (fun h=>by first | rfl | (rw [h];rfl))) Z ?_;refine A2 (A5 Z Z) Z (A6 ?_)
 refine k1 (k10 ?_)
 exact B5 (F5 rfl rfl rfl) (by rw [E72 h x ho.1])
theorem F37 (h:PatchHunk) (hl:h.Lines.length≤268435456):FnOk Tryz.prog 66 [pPhunk h] (fun rs=>rs=[T9 (B9 h.Lines 43),T9 (B9 h.Lines 45)]):=by
 refine FnOk.intro Tryz.func66 (by decide) Z Z Z Z ?_
 refine k2 ?_
 refine A3 (C4 (U9 1 Z Z Z) Z (C4 (X3 2 _ H0 Z) Z (C4 (X3 3 _ H0 Z) Z (A6 ?_))))
 refine k1 (k2 (k2 ?_))
 refine A3 (A2 (A7 Z) Z (A2 (A9 Z Z Z) Z (A2 (E1 Z (.pure _ _ _ _)) Z (A2 (A4 Z Z) Z (A6 ?_)))))
 refine k1 (k3 ?_)
 refine D8 (X:=Nat) (fun i=>([(2,.s (.one (.buf 2 Str 1 H0 (B9 (h.Lines.take i) 43)))),(3,.s (.one (.buf 3 Str 1 H0 (B9 (h.Lines.take i) 45)))),(7,D5 PatchLine 2 plineC h.Lines),(8,D2 h.Lines.length),(9,D2 i)],[(2,.spare (B9 (h.Lines.take i) 43).length 1 9),(3,.spare (B9 (h.Lines.take i) 45).length 1 9)])) (fun i=>i≤h.Lines.length) (fun i=>h.Lines.length - i) 0 (Nat.zero_le _) (F77 ⟨le1 rfl,le1 rfl,le1 rfl,le1 rfl,le1 rfl,trivial⟩ ⟨rfl,rfl,trivial⟩) ?_
 intro i hi
 dsimp only at hi ⊢
 have h1:=F0 (h.Lines.take i) 43
 have h2:=F0 (h.Lines.take i) 45
 rw [G17] at h1 h2
 refine k2 ?_
 refine A3 (A2 (E5 Z Z) Z (A6 ?_))
 refine k1 (k2 ?_)
 refine B4 rfl (fun ht=>?_) (fun ht=>?_)
 ·have hlt:i < h.Lines.length:=by have:=A0 ht;omega
  have hv:h.Lines[i]?=some h.Lines[i]:=by simp [hlt]
  have s1:=X0 h.Lines 43 i hlt
  have s2:=X0 h.Lines 45 i hlt
  obtain ⟨x,hx⟩:∃x,x=h.Lines[i]:=⟨_,rfl⟩
  rw [←hx] at hv s1 s2
  refine k5 (k1 (k2 (k3 (k2 ?_))))
  refine A3 (A2 (B1 Z (.pure _ _ _ _) Z (by omega) hv) Z (A2 (D3 Z Z) Z (C4 (F7 5 Z) Z (F3 (B8 TySz.out Z Z Z Z Z Z) (A6 ?_)))))
  refine M8 ?_
  refine s9 [(2,.s (.one (.buf 2 Str 1 H0 (B9 (h.Lines.take (i+1)) 43)))),(3,.s (.one (.buf 3 Str 1 H0 (B9 (h.Lines.take i) 45)))),(5,.s (.one (.ref 5 0))),(7,D5 PatchLine 2 plineC h.Lines),(8,D2 h.Lines.length),(9,D2 i)] [(2,.spare (B9 (h.Lines.take (i+1)) 43).length 1 9),(3,.spare (B9 (h.Lines.take i) 45).length 1 9),(5,.box [.p (.v (.int .u8 x.Kind.toNat)),.p (.v (.string ⟨x.Text.toArray⟩))])] ?_ ?_
  ·refine k2 ?_
   refine A3 (A2 (A7 Z) Z (A2 (A9 Z Z Z) Z (A2 (H8 Z Z) Z (A6 ?_))))
   refine k1 ?_
   refine B4 rfl (fun ht=>?_) (fun ht=>?_)
   ·rw [kn43] at ht
    have h3:x.Kind≠43:=A0 ht
    rw [if_pos h3] at s1
    skip
    refine A3 (A2 (A4 Z Z) Z (A2 (A7 Z) Z (A2 (A9 Z Z Z) Z (A2 (E3 (c:=H0) (ys:=[x.Text]) (E6 Z Z Z Z I9) Z Z Z) Z (C4 (F4 Z Z Z (.pure _ _ _ _) (by (simp only [G10,G11];omega)) Z) Z (A2 (A5 Z Z) Z (A6 ?_)))))))
    refine k1 ?_
    rw [s1]
    exact F77 ⟨le1 rfl,le1 rfl,le1 rfl,le1 rfl,le1 rfl,le1 rfl,trivial⟩ ⟨rfl,rfl,rfl,trivial⟩
   ·rw [kn43] at ht
    have h3:¬x.Kind≠43:=A1 ht
    rw [if_neg h3] at s1
    refine k5 (k1 ?_)
    rw [s1]
    exact F77 ⟨le1 rfl,le1 rfl,le1 rfl,le1 rfl,le1 rfl,le1 rfl,trivial⟩ ⟨rfl,rfl,rfl,trivial⟩
  ·refine k2 ?_
   refine A3 (A2 (A7 Z) Z (A2 (A9 Z Z Z) Z (A2 (H8 Z Z) Z (A6 ?_))))
   refine k1 ?_
   refine B4 rfl (fun ht=>?_) (fun ht=>?_)
   ·rw [kn45] at ht
    have h3:x.Kind≠45:=A0 ht
    rw [if_pos h3] at s2
    skip
    refine A3 (A2 (A4 Z Z) Z (A2 (A7 Z) Z (A2 (A9 Z Z Z) Z (A2 (E3 (c:=H0) (ys:=[x.Text]) (E6 Z Z Z Z I9) Z Z Z) Z (C4 (F4 Z Z Z (.pure _ _ _ _) (by (simp only [G10,G11];omega)) Z) Z (A2 (A5 Z Z) Z (A6 ?_)))))))
    refine k4 (k1 ?_)
    refine A3 (A2 (C3 Z Z (by omega)) Z (A2 (A4 Z Z) Z (A6 ?_)))
    refine k1 ?_
    refine ⟨i+1,by omega,by omega,?_⟩
    rw [s2]
    exact F77 ⟨le1 rfl,le1 rfl,le1 rfl,le1 rfl,le1 rfl,trivial⟩ ⟨rfl,rfl,trivial⟩
   ·rw [kn45] at ht
    have h3:¬x.Kind≠45:=A1 ht
    rw [if_neg h3] at s2
    refine k5 (k4 (k1 ?_))
    refine A3 (A2 (C3 Z Z (by omega)) Z (A2 (A4 Z Z) Z (A6 ?_)))
    refine k1 ?_
    refine ⟨i+1,by omega,by omega,?_⟩
    rw [s2]
    exact F77 ⟨le1 rfl,le1 rfl,le1 rfl,le1 rfl,le1 rfl,trivial⟩ ⟨rfl,rfl,trivial⟩
 ·have hi':i=h.Lines.length:=by have:=A1 ht;omega
  subst hi'
  rw [G23]
  refine k6 (k2 ?_)
  refine A3 (A2 (A4 Z Z) Z (A2 (A4 Z Z) Z (A2 (A5 Z Z) Z (A2 (A5 Z Z) Z (A6 ?_)))))
  refine k1 (k10 ?_)
  exact B5 (Z9 rfl rfl rfl rfl rfl) rfl
end Go.Proofs.YtbiadkkamhpdnaaGreatDoor
