/- Walks of the program's functions. -/
import Derived.Test.YtbiadkkamhpdnaaGreatDoorFa
import Derived.Test.YtbiadkkamhpdnaaGreatDoorFs
import Derived.Lib.AppendIntMem
set_option linter.unusedSimpArgs false
namespace Go.Proofs.YtbiadkkamhpdnaaGreatDoor
open Go Go.AL
set_option maxRecDepth 100000
theorem I48 (c:UInt8):FnOk Tryz.prog 201 [pByte c] (fun rs=>rs=[I8 (B40 c)]):=by
 refine FnOk.intro Tryz.func201 (by decide) Z Z Z Z ?_
 refine k2 (A2 (A7 Z Z (A4 ?_)));refine k1 (k2 (A2 (A3 Z Z (A6 (i8 Z Z) Z (A3 Z Z (B0 Z Z Z Z (fun hg=>by rw [hg];exact B5 Z Z) ?_))))));refine B0 Z Z Z Z (fun hg=>by rw [hg];exact t8 Z Z) ?_;refine F2 Z Z ?_;refine A3 Z Z (B0 Z Z Z Z (fun hg=>by rw [hg];exact B5 Z Z) ?_);refine B0 Z Z Z Z (fun hg=>by rw [hg];exact H9 Z Z) ?_;refine F2 Z Z ?_;refine A3 Z Z (B0 Z Z Z Z (fun hg=>by rw [hg];exact B5 Z Z) ?_);refine B0 Z Z Z Z (fun hg=>by rw [hg];exact H9 Z Z) ?_;refine F2 Z Z ?_;refine A7 Z Z (A4 ?_);refine k1 (k10 (B4 (F3 Z Z Z) ?_))
 simp only [L5]
 congr 4
 unfold B40
 congr 1
 simp;omega
theorem I49 (c:UInt8):FnOk Tryz.prog 197 [pByte c] (fun rs=>rs=[I8 (B40 c)]):=by
 refine FnOk.intro Tryz.func197 (by decide) Z Z Z Z ?_
 refine k2 (A2 (A7 Z Z (A4 ?_)));refine k1 (k2 (A2 (A3 Z Z (A6 (i8 Z Z) Z (A3 Z Z (B0 Z Z Z Z (fun hg=>by rw [hg];exact B5 Z Z) ?_))))));refine B0 Z Z Z Z (fun hg=>by rw [hg];exact t8 Z Z) ?_;refine F2 Z Z ?_;refine A3 Z Z (B0 Z Z Z Z (fun hg=>by rw [hg];exact B5 Z Z) ?_);refine B0 Z Z Z Z (fun hg=>by rw [hg];exact H9 Z Z) ?_;refine F2 Z Z ?_;refine A3 Z Z (B0 Z Z Z Z (fun hg=>by rw [hg];exact B5 Z Z) ?_);refine B0 Z Z Z Z (fun hg=>by rw [hg];exact H9 Z Z) ?_;refine F2 Z Z ?_;refine A7 Z Z (A4 ?_);refine k1 (k10 (B4 (F3 Z Z Z) ?_))
 simp only [L5]
 congr 4
 unfold B40
 congr 1
 simp;omega
theorem A70 (n:Int):FnOk Tryz.prog 152 [E5 n] (fun rs=>rs=[L6 (p5 n)]):=by
 obtain ⟨k,hk⟩:∃k:Nat,n.toNat=k:=⟨_,rfl⟩
 induction k using Nat.strongRecOn generalizing n with
 | _ k ih =>
 refine FnOk.intro Tryz.func152 (by decide) Z Z Z Z ?_
 refine k2 (A2 (A7 Z Z (A4 ?_)));refine k1 (k2 (k2 (A2 (A3 Z Z (E1 Z Z Z (A3 Z Z (B0 Z Z Z Z (fun hg=>by rw [hg];exact B5 Z Z) ?_)))))));refine B0 Z Z Z Z (fun hg=>by rw [hg];exact K9 Z Z) ?_;refine F2 Z Z ?_;refine A4 ?_;refine k1 ?_;refine B3 rfl (fun ht=>?_) (fun ht=>?_)
 ·have h:=A0 (or_pick.symm.trans ht)
  refine k2 (A2 (A7 Z Z (A4 ?_)));refine k1 (k10 (k11 ?_))
  exact B4 (F3 rfl rfl rfl) (by rw [p5,if_pos (by omega)])
 ·have h:=A1 (or_pick.symm.trans ht)
  refine k5 (k1 (k2 (k2 (A2 (A3 Z Z (E1 Z Z Z (A4 ?_)))))));refine k1 ?_;refine B3 rfl (fun ht=>?_) (fun ht=>?_)
  ·have h2:=A0 ht
   refine k2 (A2 (A3 Z Z (A3 Z Z (C7 Z Z Z (A6 (A22 Z Z Z (by (first | omega | (simp;omega))) (by (first | omega | (simp;omega))) (by (first | omega | (simp;omega)))) Z (A7 Z Z (A4 ?_)))))));refine k1 (k10 (k11 (B4 (F3 Z Z Z) ?_)))
   rw [I96 n (by omega) h2]
   have e:(n+1).toNat - n.toNat=1:=by omega
   rw [e];rfl
  ·have h2:=A1 ht
   have hl:=Y1 (n / 10)
   have hq:IntKind.i64.wrap (n.tdiv 10)=n / 10:=by
    rw [D63]<;>rw [Int.tdiv_eq_ediv_of_nonneg (by omega)];omega
   have hr:n.tmod 10=n % 10:=Int.tmod_eq_emod_of_nonneg (by omega)
   have ihq:FnOk Tryz.prog 152 [E5 (IntKind.i64.wrap (n.tdiv 10))] (fun rs=>rs=[L6 (p5 (n / 10))]):=by
    rw [hq];exact ih (n / 10).toNat (by omega) (n / 10) rfl
   refine k5 (k1 (k2 (C5 (by kernel_rfl) (by kernel_rfl) (C3 Z Z (A9 (C87 Z Z (by omega)) Z Z (A9 (E3 (ihq) Z Z) Z Z (C3 Z Z (A9 (B69 Z Z (by omega)) Z Z (C3 Z Z (A9 (B69 Z Z (by omega)) Z Z (A9 (L4 Z Z (by omega)) Z Z (A9 (A22 Z Z Z (by (first | omega | (simp;omega))) (by (first | omega | (simp;omega))) (by (first | omega | (simp;omega)))) Z Z (A9 (E9 Z Z (by (simp;omega))) Z Z (A9 (E0 Z Z) Z Z (G5 ?_)))))))))))))));refine k1 (k10 (B4 (F3 Z Z Z) ?_))
   rw [fmt_big n (by omega) (by omega)]
   rw [hr]
   have e:(n % 10+1).toNat - (n % 10).toNat=1:=by omega
   rw [e];rfl
theorem D47 (a n:Int) (ha:-4611686018427387904≤a∧a≤4611686018427387904) (hn:-4611686018427387904≤n∧n≤4611686018427387904):FnOk Tryz.prog 139 [E5 a,E5 n] (fun rs=>rs=[L6 (P5 a n)]):=by
 refine FnOk.intro Tryz.func139 (by decide) Z Z Z Z ?_
 refine k2 (A2 (A7 Z Z (A4 ?_)));refine k1 (k2 (k2 (A2 (A3 Z Z (E1 Z Z Z (A3 Z Z (B0 Z Z Z Z (fun hg=>by rw [hg];exact B5 Z Z) ?_)))))));refine B0 Z Z Z Z (fun hg=>by rw [hg];exact Y4 Z Z) ?_;refine F2 Z Z ?_;refine A3 Z Z (B0 Z Z Z Z (fun hg=>by rw [hg];exact B5 Z Z) ?_);refine B0 Z Z Z Z (fun hg=>by rw [hg];exact K9 Z Z) ?_;refine F2 Z Z ?_;refine A3 Z Z (B0 Z Z Z Z (fun hg=>by rw [hg];exact B5 Z Z) ?_);refine B0 Z Z Z Z (fun hg=>by rw [hg];exact B5 Z Z) ?_;refine B0 Z Z Z Z (fun hg=>by rw [hg];exact I5 Z Z (by (first | omega | (simp at hq;omega)))) ?_;refine B0 Z Z Z Z (fun hg=>by rw [hg];exact K9 Z Z) ?_;refine F2 Z Z ?_;refine A4 ?_;refine k1 ?_
 have l1:=Y1 a
 have l2:=Y1 (a+1)
 have l3:=Y1 n
 refine B3 rfl (fun ht=>?_) (fun ht=>?_)
 ·have h:=A0 ((by simp only [or_pick] at ht;exact ht):decide _=true)
  refine k2 (A2 (A7 Z Z (A4 ?_)));refine k1 (k10 (k11 ?_))
  exact B4 (F3 rfl rfl rfl) (by rw [P5,if_pos (by omega)])
 ·have h:=A1 ((by simp only [or_pick] at ht;exact ht):decide _=false)
  refine k5 (k1 (k2 (k2 (A2 (A3 Z Z (A4 ?_))))));refine k1 (k3 (k2 (A2 (A6 (J7 Z Z) Z (A7 Z Z (A4 ?_))))));refine k1 ?_;refine B3 rfl (fun ht=>?_) (fun ht=>?_)
  ·have h0:=A0 ht
   refine k2 (A2 (A3 Z Z (C2 (A70 a) Z Z Z ?_)));rintro _ rfl;refine A6 (E9 Z Z (by simp;omega)) Z (A7 Z Z (A4 ?_));refine k1 (k10 (k12 (k11 ?_)))
   exact B4 (F3 rfl rfl rfl) (by rw [P5,if_neg (by omega),if_pos h0])
  ·have h0:=A1 ht
   refine k2 (A2 (A6 (J7 Z Z) Z (A7 Z Z (A4 ?_))));refine k1 ?_;refine B3 rfl (fun ht=>?_) (fun ht=>?_)
   ·have h1:=A0 ht
    refine k2 (A2 (A3 Z Z (C7 Z Z Z (C2 (A70 (a+1)) Z Z Z ?_))));rintro _ rfl;refine A7 Z Z (A4 ?_);refine k1 (k10 (k12 (k11 ?_)))
    exact B4 (F3 rfl rfl rfl) (by rw [P5,if_neg (by omega),if_neg h0,if_pos h1])
   ·have h1:=A1 ht
    refine k5 (k2 (A2 (A3 Z Z (C7 Z Z Z (C2 (A70 (a+1)) Z Z Z ?_)))));rintro _ rfl;refine A6 (E9 Z Z (by simp;omega)) Z (A3 Z Z (C2 (A70 n) Z Z Z ?_));rintro _ rfl;refine A6 (E9 Z Z (by simp;omega)) Z (A7 Z Z (A4 ?_));refine k1 (k10 ?_)
    exact B4 (F3 rfl rfl rfl) (by rw [P5,if_neg (by omega),if_neg h0,if_neg h1])
theorem n6:([48,49,50,51,52,53,54,55]:Str).length=8:=rfl
theorem u8q (c:UInt8) (k:Nat):IntKind.u8.wrap ((c.toNat:Int).tdiv (k:Int))=((c.toNat / k:Nat):Int):=by
 have hc:=c.toNat_lt
 have h1:(c.toNat:Int).tdiv (k:Int)=((c.toNat / k:Nat):Int):=by rw [Int.tdiv_eq_ediv_of_nonneg (by omega)];simp
 have h2:c.toNat / k≤c.toNat:=Nat.div_le_self _ _
 rw [h1]
 generalize c.toNat / k=q at *
 rw [IntWalk.u8_in _ (by omega)]
theorem u8r (n k:Nat):(n:Int).tmod (k:Int)=((n % k:Nat):Int):=by
 rw [Int.tmod_eq_emod_of_nonneg (by omega)];simp
theorem u8s (n:Nat) (h:n < 255):IntKind.u8.wrap ((n:Int)+1)=((n+1:Nat):Int):=by
 rw [IntWalk.u8_in _ (by omega)];simp
set_option maxHeartbeats 1000000 in
theorem D48 (s:Str) (hs:s.length≤16777216):FnOk Tryz.prog 138 [L6 s] (fun rs=>rs=[L6 (Z3 s)]):=by
 refine FnOk.intro Tryz.func138 (by decide) Z Z Z Z ?_
 refine k2 (A2 (A7 Z Z (A4 ?_)));refine k1 (k2 (A2 (A3 Z Z (A6 (A80 Z Z) Z (A7 Z Z (A4 ?_))))));refine k1 (k2 (A2 (A7 Z Z (A4 ?_))));refine k1 (k2 (k2 (A2 (A7 Z Z (A4 ?_)))));refine k1 (k3 ?_);refine D1 (X:=Nat) (fun i=>([(0,U3 s),(3,K4 (.bool (plains s i))),(4,U3 (34::escs s i)),(5,B8 i)],[])) (fun i=>i≤s.length) (fun i=>s.length - i) 0 (Nat.zero_le _) ?_ ?_
 ·rw [D88,I97]
  first | exact J58 ⟨le1 rfl,le1 rfl,le1 rfl,le1 rfl,trivial⟩ trivial | trace_state
 intro i hi
 dsimp only at hi ⊢
 have hel:=H10 s i hi
 refine k2 (k2 (A2 (A3 Z Z (A3 Z Z (A6 (K6 Z) Z (E1 Z Z Z (A4 ?_)))))));refine k1 ?_;refine B3 rfl (fun ht=>?_) (fun ht=>?_)
 ·have hlt:i < s.length:=by have:=A0 ht;omega
  have hv:s[i]?=some s[i]:=by simp [hlt]
  obtain ⟨c,hc⟩:∃c,c=s[i]:=⟨_,rfl⟩
  have h1:=F80 s i hlt
  have h2:=D89 s i hlt
  rw [←hc] at hv h1 h2
  have h3:=c.toNat_lt
  refine k5 (k1 (k2 (k3 (k2 (A2 (A3 Z Z (A3 Z Z (A6 (u0 Z Z (by omega) hv) Z (A7 Z Z (A4 ?_))))))))));refine k1 (k2 (A2 (A3 Z Z (A3 Z Z (B0 Z Z Z Z (fun hg=>by rw [hg];exact B5 Z Z) ?_)))));refine B0 Z Z Z Z (fun hg=>by have hq:=hg;(try simp at hq);rw [hg];exact E3 (I48 c) Z Z) ?_;refine F2 Z Z ?_;refine A7 Z Z (A4 ?_)
  rw [show (if plains s i=true then B40 c else false)=plains s (i+1) from by rw [h2];cases plains s i<;>rfl]
  have hsub:(s.drop i).take 1=[c]:=by rw [J92 hlt,←hc];rfl
  have hone:(i:Int).toNat=i∧((i:Int)+1).toNat - i=1:=by omega
  refine k1 (k3 (k2 (A2 (A3 Z Z (A6 (J7 Z Z) Z (A3 Z Z (B0 Z Z Z Z (fun hg=>by rw [hg];exact B5 Z Z) ?_)))))));refine B0 Z Z Z Z (fun hg=>by rw [hg];exact J7 Z Z) ?_;refine F2 Z Z ?_;refine A7 Z Z (A4 ?_);refine k1 ?_;refine B3 rfl (fun ht=>?_) (fun ht=>?_)
  ·have h:=A0 (or_pick.symm.trans ht)
   skip
   refine A2 (A3 Z Z (A6 (E9 Z Z (by (simp;omega))) Z (A3 Z Z (A3 Z Z (A3 Z Z (C7 Z Z Z (A6 (A22 Z Z Z (by omega) (by omega) (by omega)) Z (A6 (E9 Z Z (by (simp;omega))) Z (A7 Z Z (A4 ?_))))))))));refine k4 (k4 (k1 (A2 (A3 Z Z (C7 Z Z Z (A7 Z Z (A4 ?_)))))));refine k1 ?_;refine ⟨i+1,hlt,by omega,?_⟩
   rw [h1,show l7 c=_ from by rw [l7,if_pos (by omega)]]
   rw [hone.1,hone.2,hsub,K01]
   exact J58 ⟨le1 rfl,le1 rfl,le1 rfl,le1 rfl,trivial⟩ trivial
  ·have h:=A1 (or_pick.symm.trans ht)
   refine k2 (A2 (A3 Z Z (A6 (J7 Z Z) Z (A7 Z Z (A4 ?_)))));refine k1 ?_;refine B3 rfl (fun ht=>?_) (fun ht=>?_)
   ·have h4:=A0 ht
    skip
    refine A2 (A3 Z Z (A6 (E9 Z Z (by simp;omega)) Z (A7 Z Z (A4 ?_))));refine k4 (k4 (k1 (A2 (A3 Z Z (C7 Z Z Z (A7 Z Z (A4 ?_)))))));refine k1 ?_;refine ⟨i+1,hlt,by omega,?_⟩
    rw [h1,show l7 c=_ from by rw [l7,if_neg (by omega),if_pos (by omega)]]
    exact J58 ⟨le1 rfl,le1 rfl,le1 rfl,le1 rfl,trivial⟩ trivial
   ·have h4:=A1 ht
    refine k2 (A2 (A3 Z Z (A6 (J7 Z Z) Z (A7 Z Z (A4 ?_)))));refine k1 ?_;refine B3 rfl (fun ht=>?_) (fun ht=>?_)
    ·have h5:=A0 ht
     skip
     refine A2 (A3 Z Z (A6 (E9 Z Z (by simp;omega)) Z (A7 Z Z (A4 ?_))));refine k4 (k4 (k1 (A2 (A3 Z Z (C7 Z Z Z (A7 Z Z (A4 ?_)))))));refine k1 ?_;refine ⟨i+1,hlt,by omega,?_⟩
     rw [h1,show l7 c=_ from by rw [l7,if_neg (by omega),if_neg (by omega),if_pos (by omega)]]
     exact J58 ⟨le1 rfl,le1 rfl,le1 rfl,le1 rfl,trivial⟩ trivial
    ·have h5:=A1 ht
     refine k2 (A2 (A3 Z Z (E1 Z Z Z (A3 Z Z (B0 Z Z Z Z (fun hg=>by rw [hg];exact B5 Z Z) ?_)))));refine B0 Z Z Z Z (fun hg=>by rw [hg];exact K9 Z Z) ?_;refine F2 Z Z ?_;refine A7 Z Z (A4 ?_);refine k1 ?_;refine B3 rfl (fun ht=>?_) (fun ht=>?_)
     ·have h6:=A0 (or_pick.symm.trans ht)
      have e1:IntKind.u8.wrap ((c.toNat:Int).tdiv 64)=((c.toNat / 64:Nat):Int):=u8q c 64
      have e2:IntKind.u8.wrap ((c.toNat:Int).tdiv 8)=((c.toNat / 8:Nat):Int):=u8q c 8
      have e3:(IntKind.u8.wrap ((c.toNat:Int).tdiv 8)).tmod 8=((c.toNat / 8 % 8:Nat):Int):=by rw [e2];exact u8r _ 8
      have e4:(c.toNat:Int).tmod 8=((c.toNat % 8:Nat):Int):=u8r _ 8
      have e5:IntKind.u8.wrap (IntKind.u8.wrap ((c.toNat:Int).tdiv 64)+1)=((c.toNat / 64+1:Nat):Int):=by rw [e1];exact u8s _ (by omega)
      have e6:IntKind.u8.wrap ((IntKind.u8.wrap ((c.toNat:Int).tdiv 8)).tmod 8+1)=((c.toNat / 8 % 8+1:Nat):Int):=by rw [e3];exact u8s _ (by omega)
      have e7:IntKind.u8.wrap ((c.toNat:Int).tmod 8+1)=((c.toNat % 8+1:Nat):Int):=by rw [e4];exact u8s _ (by omega)
      have hol:=F78 c
      have hob:l7 c=92::D87 c:=by rw [l7,if_neg (by omega),if_neg (by omega),if_neg (by omega),if_pos (by omega)]
      have g1:c.toNat / 64 < 8:=by omega
      skip
      refine C5 (by kernel_rfl) (by kernel_rfl) (C3 Z Z (A9 (E9 Z Z (by (simp;omega))) Z Z (C3 Z Z (A9 (C87 Z Z (by omega)) Z Z (C3 Z Z (A9 (C87 Z Z (by omega)) Z Z (A9 (A79 Z Z) Z Z (A9 (A22 Z Z Z (by (first | omega | (simp only [n6];omega))) (by (first | omega | (simp only [n6];omega))) (by (first | omega | (simp only [n6];omega)))) Z Z (A9 (E9 Z Z (by (simp only [J86,J87,J89,K03,K08];omega))) Z Z (C3 Z Z (A9 (C87 Z Z (by omega)) Z Z (A9 (B69 Z Z (by omega)) Z Z (C3 Z Z (A9 (C87 Z Z (by omega)) Z Z (A9 (B69 Z Z (by omega)) Z Z (A9 (A79 Z Z) Z Z (A9 (A22 Z Z Z (by (first | omega | (simp only [n6];omega))) (by (first | omega | (simp only [n6];omega))) (by (first | omega | (simp only [n6];omega)))) Z Z (A9 (E9 Z Z (by (simp only [J86,J87,J89,K03,K08];omega))) Z Z (C3 Z Z (A9 (B69 Z Z (by omega)) Z Z (C3 Z Z (A9 (B69 Z Z (by omega)) Z Z (A9 (A79 Z Z) Z Z ?_)))))))))))))))))))))));refine A9 (A22 Z Z Z (by (first | omega | (simp only [n6];omega))) (by (first | omega | (simp only [n6];omega))) (by (first | omega | (simp only [n6];omega)))) Z Z (A9 (E9 Z Z (by (simp only [J86,J87,J89,K03,K08];omega))) Z Z (A9 (E0 Z Z) Z Z (G5 ?_)))
      have k1:∀q:Nat,((q+1:Nat):Int).toNat - ((q:Nat):Int).toNat=1:=fun q=>by omega
      refine k4 (k4 (A2 (A3 Z Z (C7 Z Z Z (A7 Z Z (A4 ?_))))))
      skip
      refine ⟨i+1,hlt,by omega,?_⟩
      rw [e5,e6,e7,e1,e3,e4,k1 (c.toNat / 64),k1 (c.toNat / 8 % 8),k1 (c.toNat % 8),h1,hob,show 34::(escs s i++(92::D87 c))=34::escs s i++[92]++(digs8.drop (c.toNat / 64)).take 1++(digs8.drop (c.toNat / 8 % 8)).take 1++(digs8.drop (c.toNat % 8)).take 1 from by unfold D87;simp only [K19,K01,K16]]
      exact J58 ⟨le1 rfl,le1 rfl,le1 rfl,le1 rfl,trivial⟩ trivial
     ·have h6:=A1 (or_pick.symm.trans ht)
      skip
      refine A2 (A3 Z Z (A3 Z Z (A3 Z Z (A3 Z Z (C7 Z Z Z (A6 (A22 Z Z Z (by omega) (by omega) (by omega)) Z (A6 (E9 Z Z (by simp;omega)) Z (A7 Z Z (A4 ?_)))))))));refine k4 (k4 (k1 (A2 (A3 Z Z (C7 Z Z Z (A7 Z Z (A4 ?_)))))));refine k1 ?_;refine ⟨i+1,hlt,by omega,?_⟩
      rw [h1,show l7 c=_ from by rw [l7,if_neg (by omega),if_neg (by omega),if_neg (by omega),if_neg (by omega)]]
      rw [hone.1,hone.2,hsub]
      exact J58 ⟨le1 rfl,le1 rfl,le1 rfl,le1 rfl,trivial⟩ trivial
 ·have hi':i=s.length:=by have:=A1 ht;omega
  subst hi'
  refine k6 (k2 (k2 (A2 (A3 Z Z (A4 ?_)))));refine k1 ?_;refine B3 rfl (fun ht=>?_) (fun ht=>?_)
  ·have h:plains s s.length=true:=ht
   refine k2 (A2 (A3 Z Z (A7 Z Z (A4 ?_))));refine k1 (k10 (k11 ?_))
   exact B4 (F3 rfl rfl rfl) (by rw [B41,if_pos h])
  ·have h:plains s s.length=false:=ht
   refine k5 (k1 (k2 (A2 (A3 Z Z (A6 (E9 Z Z (by simp;omega)) Z (A7 Z Z (A4 ?_)))))));refine k1 (k10 ?_)
   exact B4 (F3 rfl rfl rfl) (by rw [B41,h];rfl)
end Go.Proofs.YtbiadkkamhpdnaaGreatDoor
namespace Go.Proofs.YtbiadkkamhpdnaaGreatDoor
open Go Go.AL Go.RowKit
set_option maxRecDepth 100000
theorem u8dig (q:Nat) (h:q < 8):IntKind.u8.wrap (48+(q:Int))=((UInt8.ofNat (48+q)).toNat:Int):=by
 rw [IntWalk.u8_in _ (by omega)]
 have:(UInt8.ofNat (48+q)).toNat=48+q:=by rw [UInt8.toNat_ofNat'];omega
 rw [this];simp
theorem I20 (x:Nat) (h:x < 256):IntKind.u8.wrap ((BitVec.ofInt IntKind.u8.bits (x:Int) &&& BitVec.ofInt IntKind.u8.bits 7).toNat:Int)=((x % 8:Nat):Int):=by
 have h1:(BitVec.ofInt IntKind.u8.bits (x:Int) &&& BitVec.ofInt IntKind.u8.bits 7).toNat=x % 8:=by
  rw [BitVec.toNat_and,BitVec.toNat_ofInt,BitVec.toNat_ofInt]
  have e1:((x:Int) % ((2 ^ IntKind.u8.bits:Nat):Int)).toNat=x:=by
   rw [show ((2 ^ IntKind.u8.bits:Nat):Int)=256 by rfl];omega
  have e2:((7:Int) % ((2 ^ IntKind.u8.bits:Nat):Int)).toNat=2 ^ 3 - 1:=by rfl
  rw [e1,e2,Nat.and_two_pow_sub_one_eq_mod]
 rw [h1,IntWalk.u8_in _ (by omega)]
theorem shr_u8 (x:Nat) (c:Nat) (h:c≤8):(x:Int).fdiv (2 ^ min (Int.toNat (c:Int)) IntKind.u8.bits)=((x / 2 ^ c:Nat):Int):=by
 rw [shr_eq _ _ IntKind.u8.bits ⟨by omega,by show (c:Int)≤8;omega⟩]
 simp
theorem H52 (c:UInt8):FnOk Tryz.prog 198 [pByte c] (fun rs=>rs=[L6 (l7 c)]):=by
 have hc:=c.toNat_lt
 refine FnOk.intro Tryz.func198 (by decide) Z Z Z Z ?_
 refine k2 (A2 (A7 Z Z (A4 ?_)));refine k1 (k2 (k3 (k2 (A2 (A3 Z Z (A6 (J7 Z Z) Z (A3 Z Z (B0 Z Z Z Z (fun hg=>by rw [hg];exact B5 Z Z) ?_))))))));refine B0 Z Z Z Z (fun hg=>by rw [hg];exact J7 Z Z) ?_;refine F2 Z Z ?_;refine A7 Z Z (A4 ?_);refine k1 ?_;refine B3 rfl (fun ht=>?_) (fun ht=>?_)
 ·have h:=A0 (or_pick.symm.trans ht)
  refine k2 (A2 (A3 Z Z (A6 (C34 Z (by omega)) Z (A6 (E9 Z Z (by simp)) Z (A7 Z Z (A4 ?_))))));refine k1 (k10 (k12 (k11 ?_)))
  exact B4 (F3 rfl rfl rfl) (by rw [l7,if_pos (by omega)];rfl)
 ·have h:=A1 (or_pick.symm.trans ht)
  refine k2 (A2 (A3 Z Z (A6 (J7 Z Z) Z (A7 Z Z (A4 ?_)))));refine k1 ?_;refine B3 rfl (fun ht=>?_) (fun ht=>?_)
  ·have h1:=A0 ht
   refine k2 (A2 (A7 Z Z (A4 ?_)));refine k1 (k10 (k12 (k11 ?_)))
   exact B4 (F3 rfl rfl rfl) (by rw [l7,if_neg (by omega),if_pos (by omega)])
  ·have h1:=A1 ht
   refine k2 (A2 (A3 Z Z (A6 (J7 Z Z) Z (A7 Z Z (A4 ?_)))));refine k1 ?_;refine B3 rfl (fun ht=>?_) (fun ht=>?_)
   ·have h2:=A0 ht
    refine k2 (A2 (A7 Z Z (A4 ?_)));refine k1 (k10 (k12 (k11 ?_)))
    exact B4 (F3 rfl rfl rfl) (by rw [l7,if_neg (by omega),if_neg (by omega),if_pos (by omega)])
   ·have h2:=A1 ht
    refine k2 (A2 (A3 Z Z (E1 Z Z Z (A3 Z Z (B0 Z Z Z Z (fun hg=>by rw [hg];exact B5 Z Z) ?_)))));refine B0 Z Z Z Z (fun hg=>by rw [hg];exact K9 Z Z) ?_;refine F2 Z Z ?_;refine A7 Z Z (A4 ?_);refine k1 ?_;refine B3 rfl (fun ht=>?_) (fun ht=>?_)
    ·have h3:=A0 (or_pick.symm.trans ht)
     refine k2 ?_
     have f6:(c.toNat:Int).fdiv (2 ^ min (Int.toNat 6) IntKind.u8.bits)=((c.toNat / 64:Nat):Int):=shr_u8 c.toNat 6 (by omega)
     have f3:(c.toNat:Int).fdiv (2 ^ min (Int.toNat 3) IntKind.u8.bits)=((c.toNat / 8:Nat):Int):=shr_u8 c.toNat 3 (by omega)
     have e1:=u8dig (c.toNat / 64) (by omega)
     have e2:=u8dig (c.toNat / 8 % 8) (by omega)
     have e3:=u8dig (c.toNat % 8) (by omega)
     have hol:=H09 c
     refine A2 (A3 Z Z (A6 (B59 Z Z (by omega)) Z (A6 (A79 Z Z) Z (A3 Z Z (A6 (B59 Z Z (by omega)) Z (A6 (r9 Z Z Z (fun _=>rfl)) Z (A6 (A79 Z Z) Z (A3 Z Z (A6 (r9 Z Z Z (fun _=>rfl)) Z (A6 (A79 Z Z) Z ?_))))))))));rw [f6,f3,I20 (c.toNat / 8) (by omega),I20 c.toNat (by omega),e1,e2,e3];refine A6 (C9 (c:=u8C) (ys:=[UInt8.ofNat (48+c.toNat / 64),UInt8.ofNat (48+c.toNat / 8 % 8),UInt8.ofNat (48+c.toNat % 8)]) (D8 Z Z Z Z (D8 Z Z Z Z (D8 Z Z Z Z F1))) Z Z Z) Z (A6 (w7 TyStr.out Z (.pure _ _ _ _)) Z (A6 (E9 Z Z (by simp)) Z (A7 Z Z (A4 ?_))));refine k1 (k10 (k12 (k11 ?_)))
     exact B4 (F3 rfl rfl rfl) (by rw [l7,if_neg (by omega),if_neg (by omega),if_neg (by omega),if_pos (by omega),hol];rfl)
    ·have h3:=A1 (or_pick.symm.trans ht)
     refine k5 (k2 (A2 (A3 Z Z (A6 (C34 Z (by omega)) Z (A7 Z Z (A4 ?_))))));refine k1 (k10 ?_)
     exact B4 (F3 rfl rfl rfl) (by rw [l7,if_neg (by omega),if_neg (by omega),if_neg (by omega),if_neg (by omega)])
theorem itoa_ok (n:Int) (h:0≤n∧n≤2147483647):FnOk Tryz.prog 205 [E5 n] (fun rs=>rs=[L6 (Lib.itoa n)]) :=
 J72 (xs:=[.int .i64 n]) (r:=.string ⟨(Lib.itoa n).toArray⟩) ⟨_,rfl,rfl,rfl⟩ rfl fun w hw =>
  (Tryz.strconv_Itoa n (by omega) (by omega) w (hw.pow10 rfl)).mono fun e w' ⟨he,k,os,hw'⟩=>⟨he,by subst hw';exact Lib.below_grow _ _ (Nat.le_refl _) _ _⟩
theorem A09 (n:Int):FnOk Tryz.prog 148 [E5 n] (fun rs=>rs=[L6 (p5 n)]):=by
 refine FnOk.intro Tryz.func148 (by decide) Z Z Z Z ?_
 refine k2 (A2 (A7 Z Z (A4 ?_)));refine k1 (k2 (k2 (A2 (A3 Z Z (E1 Z Z Z (A3 Z Z (B0 Z Z Z Z (fun hg=>by rw [hg];exact B5 Z Z) ?_)))))));refine B0 Z Z Z Z (fun hg=>by rw [hg];exact K9 Z Z) ?_;refine F2 Z Z ?_;refine A4 ?_;refine k1 ?_;refine B3 rfl (fun ht=>?_) (fun ht=>?_)
 ·have h:=A0 (or_pick.symm.trans ht)
  refine k2 (A2 (A7 Z Z (A4 ?_)));refine k1 (k10 (k11 ?_))
  exact B4 (F3 rfl rfl rfl) (by rw [p5,if_pos (by omega)])
 ·have h:=A1 (or_pick.symm.trans ht)
  refine k5 (k1 (k2 (A2 (A3 Z Z (C2 (itoa_ok n (by omega)) Z Z Z ?_)))));rintro _ rfl;refine A7 Z Z (A4 ?_);refine k1 (k10 ?_)
  exact B4 (F3 rfl rfl rfl) (by rw [p5,if_neg (by omega)])
theorem C15 (a n:Int) (ha:-4611686018427387904≤a∧a≤4611686018427387904) (hn:-4611686018427387904≤n∧n≤4611686018427387904):FnOk Tryz.prog 151 [E5 a,E5 n] (fun rs=>rs=[L6 (P5 a n)]):=by
 refine FnOk.intro Tryz.func151 (by decide) Z Z Z Z ?_
 refine k2 (A2 (A7 Z Z (A4 ?_)));refine k1 (k2 (k2 (A2 (A3 Z Z (E1 Z Z Z (A3 Z Z (B0 Z Z Z Z (fun hg=>by rw [hg];exact B5 Z Z) ?_)))))));refine B0 Z Z Z Z (fun hg=>by rw [hg];exact Y4 Z Z) ?_;refine F2 Z Z ?_;refine A3 Z Z (B0 Z Z Z Z (fun hg=>by rw [hg];exact B5 Z Z) ?_);refine B0 Z Z Z Z (fun hg=>by rw [hg];exact K9 Z Z) ?_;refine F2 Z Z ?_;refine A3 Z Z (B0 Z Z Z Z (fun hg=>by rw [hg];exact B5 Z Z) ?_);refine B0 Z Z Z Z (fun hg=>by rw [hg];exact B5 Z Z) ?_;refine B0 Z Z Z Z (fun hg=>by rw [hg];exact I5 Z Z (by (first | omega | (simp at hq;omega)))) ?_;refine B0 Z Z Z Z (fun hg=>by rw [hg];exact K9 Z Z) ?_;refine F2 Z Z ?_;refine A4 ?_;refine k1 ?_
 have l1:=Y1 a
 have l2:=Y1 (a+1)
 have l3:=Y1 n
 refine B3 rfl (fun ht=>?_) (fun ht=>?_)
 ·have h:=A0 ((by simp only [or_pick] at ht;exact ht):decide _=true)
  refine k2 (A2 (A7 Z Z (A4 ?_)));refine k1 (k10 (k11 ?_))
  exact B4 (F3 rfl rfl rfl) (by rw [P5,if_pos (by omega)])
 ·have h:=A1 ((by simp only [or_pick] at ht;exact ht):decide _=false)
  refine k5 (k1 (k2 (k2 (A2 (A3 Z Z (A4 ?_))))));refine k1 (k3 (k2 (A2 (A6 (J7 Z Z) Z (A7 Z Z (A4 ?_))))));refine k1 ?_;refine B3 rfl (fun ht=>?_) (fun ht=>?_)
  ·have h0:=A0 ht
   refine k2 (A2 (A3 Z Z (C2 (A09 a) Z Z Z ?_)));rintro _ rfl;refine A6 (E9 Z Z (by simp;omega)) Z (A7 Z Z (A4 ?_));refine k1 (k10 (k12 (k11 ?_)))
   exact B4 (F3 rfl rfl rfl) (by rw [P5,if_neg (by omega),if_pos h0])
  ·have h0:=A1 ht
   refine k2 (A2 (A6 (J7 Z Z) Z (A7 Z Z (A4 ?_))));refine k1 ?_;refine B3 rfl (fun ht=>?_) (fun ht=>?_)
   ·have h1:=A0 ht
    refine k2 (A2 (A3 Z Z (C7 Z Z Z (C2 (A09 (a+1)) Z Z Z ?_))));rintro _ rfl;refine A7 Z Z (A4 ?_);refine k1 (k10 (k12 (k11 ?_)))
    exact B4 (F3 rfl rfl rfl) (by rw [P5,if_neg (by omega),if_neg h0,if_pos h1])
   ·have h1:=A1 ht
    refine k5 (k2 (A2 (A3 Z Z (C7 Z Z Z (C2 (A09 (a+1)) Z Z Z ?_)))));rintro _ rfl;refine A6 (E9 Z Z (by simp;omega)) Z (A3 Z Z (C2 (A09 n) Z Z Z ?_));rintro _ rfl;refine A6 (E9 Z Z (by simp;omega)) Z (A7 Z Z (A4 ?_));refine k1 (k10 ?_)
    exact B4 (F3 rfl rfl rfl) (by rw [P5,if_neg (by omega),if_neg h0,if_neg h1])
theorem A99 (B b:Nat) (l:List UInt8) (w:World) (h:Lib.IsBuilder 124 5 B b (Lib.byteCells l) w) (hBw:B≤w.heap.size) :
  Calls Tryz.prog 89 #[.pointer (some ⟨b,0,none⟩)] w fun e w'=>e=.returned (.string ⟨l.toArray⟩)∧Below B w w':=Tryz.Builder_String_any B b l w h hBw
theorem C16 (s:Str) (hs:s.length≤16777216):FnOk Tryz.prog 134 [L6 s] (fun rs=>rs=[L6 (Z3 s)]):=by
 refine FnOk.intro Tryz.func134 (by decide) Z Z Z Z ?_
 refine k2 (A2 (A7 Z Z (A4 ?_)));refine k1 (k2 (A2 (A3 Z Z (A6 (A80 Z Z) Z (A7 Z Z (A4 ?_))))));refine k1 (k2 (k2 (A2 (A3 Z Z (A6 (K6 Z) Z (A3 Z Z (A4 ?_)))))));refine k1 (k3 ?_);refine D1 (X:=Nat) (fun i=>([(0,U3 s),(3,K4 (.bool (plains s i))),(10,B8 s.length),(11,B8 i)],[])) (fun i=>i≤s.length) (fun i=>s.length - i) 0 (Nat.zero_le _) ?_ ?_
 ·rw [D88]
  exact J58 ⟨le1 rfl,le1 rfl,le1 rfl,le1 rfl,trivial⟩ trivial
 intro i hi
 dsimp only at hi ⊢
 refine k2 (A2 (E1 Z Z Z (A4 ?_)));refine k1 (k2 ?_);refine B3 rfl (fun ht=>?_) (fun ht=>?_)
 ·have hlt:i < s.length:=by have:=A0 ht;omega
  have hv:s[i]?=some s[i]:=by simp [hlt]
  obtain ⟨c,hc⟩:∃c,c=s[i]:=⟨_,rfl⟩
  have h2:=D89 s i hlt
  rw [←hc] at hv h2
  refine k5 (k1 (k2 (k3 (k2 (A2 (A3 Z Z (A7 Z Z (A4 ?_))))))));refine k1 (A2 (A3 Z Z (A3 Z Z (B0 Z Z Z Z (fun hg=>by rw [hg];exact B5 Z Z) ?_))));refine B0 Z Z Z Z (fun hg=>by rw [hg];exact B5 Z Z) ?_;refine B0 Z Z Z Z (fun hg=>by have hq:=hg;(try simp at hq);rw [hg];exact u0 Z Z (by omega) hv) ?_;refine B0 Z Z Z Z (fun hg=>by have hq:=hg;(try simp at hq);rw [hg];exact E3 (I49 c) Z Z) ?_;refine F2 Z Z ?_;refine A7 Z Z (A4 ?_);refine k4 (k1 (A2 (C7 Z Z Z (A3 Z Z (A4 ?_)))));refine k1 ?_;refine ⟨i+1,hlt,by omega,?_⟩
  rw [show (if plains s i=true then B40 c else false)=plains s (i+1) from by rw [h2];cases plains s i<;>rfl]
  exact J58 ⟨le1 rfl,le1 rfl,le1 rfl,le1 rfl,trivial⟩ trivial
 have hi':i=s.length:=by have:=A1 ht;omega
 subst hi'
 refine k6 (k2 (k2 (A2 (A3 Z Z (A4 ?_)))));refine k1 ?_;refine B3 rfl (fun ht=>?_) (fun ht=>?_)
 ·have h:plains s s.length=true:=ht
  refine k2 (A2 (A3 Z Z (A7 Z Z (A4 ?_))));refine k1 (k10 (k11 ?_))
  exact B4 (F3 rfl rfl rfl) (by rw [B41,if_pos h])
 have h:plains s s.length=false:=ht
 have hq:Z3 s=(34::escs s s.length)++[34]:=by rw [B41,h];rfl
 refine k5 (k1 (k2 (A2 (C0 (E37 700 Z) Z (A4 ?_)))));refine k1 (k2 (G4 (J71 701 UInt8 1 u8C 5 (kb:=700) (o:=1) Z Z Z) ?_))
 refine A2 (A47 (A98 (xs:=[]) (c:=34) ⟨⟨_,.inl rfl,rfl⟩,rfl⟩ (by simp)) Z Z Z ?_);rintro _ _ ⟨rfl,rfl⟩;refine A4 ?_;refine k1 (k2 (k2 (A2 (A3 Z Z (A6 (K6 Z) Z (A3 Z Z (A4 ?_)))))));refine k1 (k3 (D1 (X:=Nat) (fun i=>([(0,U3 s),(5,.s (.one (.ref 700 0))),(26,B8 s.length),(27,B8 i)],[(700,.tbx 124 [.ref 700 0,.buf 701 UInt8 1 u8C (34::escs s i)]),(701,.spare (34::escs s i).length 1 5)])) (fun i=>i≤s.length) (fun i=>s.length - i) 0 (Nat.zero_le _) (J58 ⟨le1 rfl,le1 rfl,le1 rfl,le1 rfl,trivial⟩ ⟨rfl,rfl,trivial⟩) ?_))
 intro i hi
 dsimp only at hi ⊢
 have hel:=H10 s i hi
 refine k2 (A2 (E1 Z Z Z (A4 ?_)));refine k1 (k2 ?_);refine B3 rfl (fun ht=>?_) (fun ht=>?_)
 ·have hlt:i < s.length:=by have:=A0 ht;omega
  have hv:s[i]?=some s[i]:=by simp [hlt]
  obtain ⟨c,hc⟩:∃c,c=s[i]:=⟨_,rfl⟩
  have h1:=F80 s i hlt
  have h2:=F79 c
  rw [←hc] at hv h1
  refine k5 (k1 (k2 (k3 (k2 (A2 (A3 Z Z (A7 Z Z (A4 ?_))))))));refine k1 (A2 (A3 Z Z (A3 Z Z (A6 (u0 Z Z (by omega) hv) Z (C2 (H52 c) Z Z Z ?_)))));rintro _ rfl;refine A47 (Q3 (xs:=34::escs s i) (s:=l7 c) ⟨⟨_,.inr rfl,rfl⟩,rfl⟩ (by simp only [J87];omega)) Z Z Z ?_;rintro _ _ ⟨rfl,rfl⟩;refine A4 ?_;refine k4 (k1 (A2 (C7 Z Z Z (A3 Z Z (A4 ?_)))));refine k1 ?_;refine ⟨i+1,hlt,by omega,?_⟩
  rw [h1]
  exact J58 ⟨le1 rfl,le1 rfl,le1 rfl,le1 rfl,trivial⟩ ⟨rfl,rfl,trivial⟩
 have hi':i=s.length:=by have:=A1 ht;omega
 subst hi'
 refine k6 (k2 (A2 (A47 (A98 (xs:=34::escs s s.length) (c:=34) ⟨⟨_,.inr rfl,rfl⟩,rfl⟩ (by simp only [J87];omega)) Z Z Z ?_)));rintro _ _ ⟨rfl,rfl⟩;refine A4 ?_;refine k1 (k2 (A2 (D42 (k:=700) (k':=701) ⟨_,rfl,rfl,rfl⟩ A99 Z Z Z Z Z (.inr Z) Z (A7 Z Z (A4 ?_)))));refine k1 (k10 ?_)
 exact B4 (F3 rfl rfl rfl) (by rw [hq])
theorem F63 (s:Str) (c:UInt8):FnOk Tryz.prog 216 [L6 s,L6 [c]] (fun rs=>rs=[E5 (s.count c)]) :=
 J65 (xs:=[.string ⟨s.toArray⟩,.string ⟨#[c]⟩]) ⟨_,rfl,rfl,rfl⟩ rfl fun w=>by simpa [Lib.countByte] using Tryz.strings_Count_one ⟨s.toArray⟩ c w
theorem I50 (s:Str) (c:UInt8):FnOk Tryz.prog 246 [L6 s,L6 [c]] (fun rs=>rs=[E5 (Lib.indexByte s c)]) :=
 J65 (xs:=[.string ⟨s.toArray⟩,.string ⟨#[c]⟩]) ⟨_,rfl,rfl,rfl⟩ rfl fun w=>by simpa using Tryz.strings_Index_one ⟨s.toArray⟩ c w
theorem G73 (s:Str) (hs:s.length≤536870912):FnOk Tryz.prog 217 [L6 s,L6 [10],E5 1,E5 (-1)] (fun rs=>rs=[Z9 (U5 s)]):=by
 have hP:=l9 s []
 have hc:s.count 10≤s.length:=List.count_le_length
 have h10:([10]:Str).length=1:=rfl
 obtain ⟨P,hPe⟩:∃P,P=U5 s:=⟨_,rfl⟩
 have hPl:P.length=s.count 10+1:=by rw [hPe];exact hP
 refine FnOk.intro Tryz.func217 (by decide) Z Z Z Z ?_
 refine k2 (A2 (A7 Z Z (A4 ?_)));refine k1 (k2 (k2 (A2 (A3 Z Z (A6 (J7 Z Z) Z (A4 ?_))))));refine k1 ?_;refine B3 rfl (fun ht=>?_) (fun ht=>?_)
 ·exact absurd (A0 ht) (by omega)
 refine k5 (k1 (k2 (k2 (A2 (A3 Z Z (A6 (B20 Z Z) Z (A4 ?_)))))));refine k1 ?_;refine B3 rfl (fun ht=>?_) (fun ht=>?_)
 ·exact absurd (A0 ht) (by simp)
 refine k5 (k1 (k2 (k2 (A2 (A3 Z Z (E1 Z Z Z (A4 ?_)))))));refine k1 ?_;refine B3 rfl (fun ht=>?_) (fun ht=>?_)
 rotate_left
 ·exact absurd (A1 ht) (by omega)
 skip
 refine A2 (A3 Z Z (A3 Z Z (C2 (F63 s 10) Z Z Z ?_)));rintro _ rfl;refine C7 Z Z Z (A7 Z Z (A4 ?_));refine k1 (k2 (A2 (A3 Z Z (A3 Z Z (A6 (K6 Z) Z (C7 Z Z Z (A6 (D64 Z Z) Z (A7 Z Z (A4 ?_)))))))));refine k1 (k2 ?_)
 rw [show (if (s.length:Int)+1 < (s.count 10:Int)+1 then (s.length:Int)+1 else (s.count 10:Int)+1)=(P.length:Int) from by split<;>omega]
 refine A2 (A3 Z Z (C0 (p7 9 Str I0 [] Z Z (by omega) (by omega) (fun _=>by first | exact ⟨⟨rfl,rfl⟩,trivial⟩ | exact ⟨Q5 _ _ _,trivial⟩) (by first | rfl | (simp [I1,J8,Ob.free,SV.free,S1.free,TC.free]<;>rfl))) Z ?_));refine A7 Z Z (A4 ?_);refine k1 (k2 (A2 (A3 Z Z (A6 (I5 Z Z (by omega)) Z (A7 Z Z (A4 ?_))))));refine k1 (k2 (A2 (A7 Z Z (A4 ?_))));refine k1 (k2 (k3 (D1 (X:=Nat × Str) (fun x=>([(0,U3 x.2),(1,U3 [10]),(2,B8 1),(3,B8 ((P.length:Int) - 1)),(9,.s (.one (.mut 9))),(10,B8 x.1)],[(9,.arr Str 1 I0 (P.take x.1++List.replicate (P.length - x.1) []))])) (fun x=>x.1+1≤P.length∧P.drop x.1=U5 x.2∧x.2.length≤s.length) (fun x=>P.length - x.1) (0,s) ⟨by dsimp only;omega,hPe,Nat.le_refl _⟩ (J58 ⟨le1 rfl,le1 rfl,le1 rfl,le1 rfl,le1 rfl,le1 rfl,trivial⟩ ⟨rfl,trivial⟩) ?_)))
 rintro ⟨i,r⟩ ⟨hi,hp,hr⟩
 dsimp only at hi hp hr ⊢
 refine k2 (k2 (A2 (A3 Z Z (A3 Z Z (E1 Z Z Z (A4 ?_))))));refine k1 ?_;refine B3 rfl (fun ht=>?_) (fun ht=>?_)
 ·have hlt:i+1 < P.length:=by have:=A0 ht;omega
  have hin:(10:UInt8)∈r:=by
   have h1:=l9 r []
   have h2:(P.drop i).length=r.count 10+1:=by rw [hp];exact h1
   rw [K08] at h2
   exact List.count_pos_iff.1 (by omega)
  rcases p9 10 r with ⟨h1,_⟩ | ⟨a,b,h1,h2,h3⟩
  ·exact absurd hin h1
  obtain ⟨h4,h5⟩:=H76 hp h1 h2
  have hl:r.length=a.length+1+b.length:=by rw [h1];simp;omega
  refine k5 (k1 (k3 (k2 (A2 (A3 Z Z (A3 Z Z (C2 (I50 r 10) Z Z Z ?_)))))));rintro _ rfl;refine A7 Z Z (A4 ?_);refine k1 (k2 (k2 (A2 (A3 Z Z (E1 Z Z Z (A4 ?_))))));refine k1 ?_
  rw [h3]
  refine B3 rfl (fun ht=>?_) (fun ht=>?_)
  ·exact absurd (A0 ht) (by omega)
  refine k5 (k1 (k2 (A2 (A3 Z Z (A3 Z Z (A3 Z Z (A3 Z Z (A3 Z Z (C7 Z Z Z (A6 (I07 Z Z (by omega) (by omega)) Z (A6 (F7 Z Z Z (by omega) (by (simp;omega))) Z (E2 (I9 TySz.out Z Z (by simp;omega) Z Z) (A4 ?_)))))))))))));refine k1 (k2 (A2 (A3 Z Z (A3 Z Z (A3 Z Z (A6 (K6 Z) Z (C7 Z Z Z (A6 (n_sub_l Z Z (by omega) (by omega)) Z (A7 Z Z (A4 ?_))))))))));refine k1 (A2 (A3 Z Z (C7 Z Z Z (A7 Z Z (A4 ?_)))));refine k4 (k1 ?_)
  have e1:r.take (((a.length:Int)+1).toNat)=a++[10]:=by rw [h1,show ((a.length:Int)+1).toNat=a.length+1 by omega,show a++10::b=(a++[10])++b by simp,List.take_left' (by simp)]
  have e2:r.drop (((a.length:Int)+(([10]:Str).length:Int)).toNat)=b:=by rw [h1,h10,show ((a.length:Int)+((1:Nat):Int)).toNat=a.length+1 by omega,show a++10::b=(a++[10])++b by simp,List.drop_left' (by simp)]
  refine ⟨(i+1,b),⟨by dsimp only;omega,h5,by dsimp only;omega⟩,by dsimp only;omega,?_⟩
  rw [e1,e2]
  dsimp only
  rw [←F81 P [] _ i h4]
  exact J58 ⟨le1 rfl,le1 rfl,le1 rfl,le1 rfl,le1 rfl,le1 rfl,trivial⟩ ⟨rfl,trivial⟩
 ·have hge:i+1=P.length:=by have:=A1 ht;omega
  have h1:=l9 r []
  have h2:(P.drop i).length=r.count 10+1:=by rw [hp];exact h1
  rw [K08] at h2
  have h3:(10:UInt8)∉r:=List.count_eq_zero.1 (by omega)
  have h4:P[i]?=some r:=by rw [←List.head?_drop,hp];unfold U5;rw [F37 _ _ h3];rfl
  refine k6 (k2 (A2 (A3 Z Z (A3 Z Z (A3 Z Z (A6 (F7 Z Z Z (by omega) (by (simp;omega))) Z (E2 (I9 TySz.out Z Z (by simp;omega) Z Z) (A4 ?_))))))));refine k1 (k2 ?_)
  have e:(P.take i++List.replicate (P.length - i) ([]:Str)).set (i:Int).toNat r=P:=by rw [J97,F81 P [] r i h4,hge];simp
  rw [e]
  refine G4 (Sees.freeze (k:=9) Z) ?_
  refine A2 (A3 Z Z (A3 Z Z (C7 Z Z Z (A6 (D36 Z (.pure _ _ _ _) Z (by omega) (by omega)) Z (A7 Z Z (A4 ?_))))));refine k1 (k10 ?_)
  exact B4 (F3 rfl rfl rfl) (by rw [show ((i:Int)+1).toNat=P.length by omega,J98,hPe])
theorem F24 (s:Str) (hs:s.length≤536870912):FnOk Tryz.prog 174 [L6 s,L6 [10]] (fun rs=>rs=[Z9 (U5 s)]):=by
 refine FnOk.intro Tryz.func174 (by decide) Z Z Z Z ?_
 refine k2 (A2 (A7 Z Z (A4 ?_)));refine k1 (k2 (A2 (A3 Z Z (A3 Z Z (A3 Z Z (A6 (K6 Z) Z (C2 (G73 s hs) Z Z Z ?_)))))));rintro _ rfl;refine A7 Z Z (A4 ?_);refine k1 (k10 ?_)
 exact B4 (F3 rfl rfl rfl) rfl
theorem I51 (s:Str) (hs:s.length≤536870912):FnOk Tryz.prog 173 [L6 s] (fun rs=>rs=[E5 (W7 s)]):=by
 have hl:=F38 s
 have hc:s.count 10≤s.length:=List.count_le_length
 refine FnOk.intro Tryz.func173 (by decide) Z Z Z Z ?_
 refine k2 (A2 (A7 Z Z (A4 ?_)));refine k1 (k2 (A2 (A3 Z Z (C2 (F63 s 10) Z Z Z ?_))));rintro _ rfl;refine A7 Z Z (A4 ?_);refine J3 ?_
 refine n9 [(0,U3 s),(3,B8 (D5 s).length)] [] ?_ ?_
 ·refine k2 (A2 (A3 Z Z (A6 (A80 Z Z) Z (A3 Z Z (B0 Z Z Z Z (fun hg=>by rw [hg];exact B5 Z Z) ?_)))));refine B0 Z Z Z Z (fun hg=>by have hq:=hg;(try simp at hq);rw [hg];exact E3 (B13 s (by omega)) Z Z) ?_;refine B0 Z Z Z Z (fun hg=>by rw [hg];exact Y0 Z) ?_;refine F2 Z Z ?_;refine A4 ?_;refine k1 ?_;refine B3 rfl (fun ht=>?_) (fun ht=>?_)
  ·have h:s≠[]∧ended s=false:=by
    by_cases h1:s=[]
    ·simp [h1] at ht
    ·refine ⟨h1,?_⟩;simpa [h1] using ht
   rw [if_pos h] at hl
   skip
   refine A2 (A3 Z Z (C7 Z Z Z (A7 Z Z (A4 ?_))));refine k1 ?_
   rw [hl,Int.natCast_add]
   exact J58 ⟨le1 rfl,le1 rfl,trivial⟩ trivial
  ·have h:¬(s≠[]∧ended s=false):=by
    rintro ⟨h1,h2⟩
    simp [h1,h2] at ht
   rw [if_neg h] at hl
   refine k5 (k1 ?_)
   rw [hl]
   exact J58 ⟨le1 rfl,le1 rfl,trivial⟩ trivial
 ·refine k2 (k2 (A2 (A3 Z Z (A6 (K6 Z) Z (A6 (K9 Z Z) Z (A3 Z Z (B0 Z Z Z Z (fun hg=>by rw [hg];exact B5 Z Z) ?_)))))));refine B0 Z Z Z Z (fun hg=>by rw [hg];exact K9 Z Z) ?_;refine F2 Z Z ?_;refine A4 ?_;refine k1 ?_;refine B3 rfl (fun ht=>?_) (fun ht=>?_)
  ·have h:=A0 (or_pick.symm.trans ht)
   refine k2 (A2 (A7 Z Z (A4 ?_)));refine k1 (k10 (k11 ?_))
   exact B4 (F3 rfl rfl rfl) (by rw [W7,if_pos (by omega)])
  ·have h:=A1 (or_pick.symm.trans ht)
   refine k5 (k1 (k2 (A2 (A7 Z Z (A4 ?_)))));refine k1 (k10 ?_)
   exact B4 (F3 rfl rfl rfl) (by rw [W7,if_neg (by omega)])
theorem F64 (s:Str) (hs:s.length≤536870912):FnOk Tryz.prog 107 [L6 s] (fun rs=>rs=[Z9 (A21 s).1,E5 (A21 s).2]):=by
 have hp:D5 s=if (U5 s).getLastD []=[] then (U5 s).dropLast else U5 s:=H11 s []
 have hc:(U5 s).length=s.count 10+1:=l9 s []
 have hcl:s.count 10≤s.length:=List.count_le_length
 refine FnOk.intro Tryz.func107 (by decide) Z Z Z Z ?_
 refine k2 (A2 (A7 Z Z (A7 Z Z (A4 ?_))));refine k1 (k2 (k2 (A2 (A3 Z Z (C2 (I51 s hs) Z Z Z ?_)))));rintro _ rfl;refine A7 Z Z (A4 ?_);refine k1 (k2 (A2 (A3 Z Z (A6 (H9 Z Z) Z (A4 ?_)))));refine k1 ?_;refine B3 rfl (fun ht=>?_) (fun ht=>?_)
 ·have h:W7 s≠0:=by simpa using ht
  have h1:s.length > 1048576∨(D5 s).length > 4096:=by
   by_cases h1:s.length > 1048576∨(D5 s).length > 4096
   ·exact h1
   ·exact absurd (by rw [W7,if_neg h1]) h
  refine k2 (A2 (A3 Z Z (A6 (K5 _ 1 I0) Z (A7 Z Z (A4 ?_)))));refine k1 (k10 (k11 ?_))
  exact B4 (U7 rfl rfl rfl rfl rfl) (by rw [A21,if_pos h1,W7,if_pos h1])
 ·have h:W7 s=0:=by simpa using ht
  have h1:¬(s.length > 1048576∨(D5 s).length > 4096):=fun h1=>by rw [W7,if_pos h1] at h;omega
  have hv:(U5 s)[(U5 s).length - 1]?=some ((U5 s).getLastD []):=by
   rw [←List.getLast?_eq_getElem?,List.getLast?_eq_some_getLast (fun e=>by rw [e] at hc;simp at hc)]
   rw [List.getLastD_eq_getLast?,List.getLast?_eq_some_getLast (fun e=>by rw [e] at hc;simp at hc)];rfl
  have hi:(((U5 s).length:Int) - 1).toNat=(U5 s).length - 1:=by omega
  refine k5 (k1 (k2 (A2 (A3 Z Z (C2 (F24 s hs) Z Z Z ?_)))));rintro _ rfl;refine A7 Z Z (A4 ?_);refine J3 ?_
  refine n9 [(5,C4 Str 1 I0 (D5 s))] [] ?_ ?_
  ·refine k2 (A2 (A3 Z Z (A3 Z Z (D9 Z Z (A6 (I5 Z Z (by omega)) Z (A6 (A8 Z (.pure _ _ _ _) Z (by omega) (by rw [hi];exact hv)) Z ?_))))));refine A6 (B1 Z Z) Z (A6 (B20 Z Z) Z (A4 ?_));refine k1 ?_;refine B3 rfl (fun ht=>?_) (fun ht=>?_)
   ·have h2:=A0 ht
    skip
    refine A2 (A3 Z Z (A3 Z Z (D9 Z Z (A6 (I5 Z Z (by omega)) Z (A6 (D36 Z (.pure _ _ _ _) Z (by omega) (by omega)) Z (A7 Z Z (A4 ?_)))))));refine k1 ?_
    rw [hp,if_pos h2,List.dropLast_eq_take,←hi]
    exact J58 ⟨le1 rfl,trivial⟩ trivial
   ·have h2:=A1 ht
    refine k5 (k1 ?_)
    rw [hp,if_neg h2]
    exact J58 ⟨le1 rfl,trivial⟩ trivial
  ·refine k2 (A2 (A3 Z Z (A7 Z Z (A7 Z Z (A4 ?_)))));refine k1 (k10 ?_)
   exact B4 (U7 rfl rfl rfl rfl rfl) (by rw [A21,if_neg h1])
theorem F65 (s:Str) (hs:s.length≤536870912):FnOk Tryz.prog 119 [L6 s] (fun rs=>rs=[Z9 (A21 s).1,E5 (A21 s).2]):=by
 refine FnOk.intro Tryz.func119 (by decide) Z Z Z Z ?_
 refine k2 (A2 (A7 Z Z (A7 Z Z (A4 ?_))));refine k1 (k2 (k2 (A2 (A3 Z Z (C2 (E60 s (by omega)) Z Z Z ?_)))));rintro _ rfl;refine A6 (H9 Z Z) Z (A4 ?_);refine k1 ?_;refine B3 rfl (fun ht=>?_) (fun ht=>?_)
 ·have h:W7 s≠0:=by simpa using ht
  have h1:s.length > 1048576∨(D5 s).length > 4096:=by
   by_cases h1:s.length > 1048576∨(D5 s).length > 4096
   ·exact h1
   ·exact absurd (by rw [W7,if_neg h1]) h
  refine k2 (A2 (A6 (K5 _ 1 I0) Z (A7 Z Z (A4 ?_))));refine k1 (k10 (k11 ?_))
  exact B4 (U7 rfl rfl rfl rfl rfl) (by rw [A21,if_pos h1])
 ·have h:W7 s=0:=by simpa using ht
  have h1:¬(s.length > 1048576∨(D5 s).length > 4096):=fun h1=>by rw [W7,if_pos h1] at h;omega
  refine k5 (k1 (k2 (A2 (A3 Z Z (C2 (B86 s (by omega)) Z Z Z ?_)))));rintro _ rfl;refine A7 Z Z (A7 Z Z (A4 ?_));refine k1 (k10 ?_)
  exact B4 (U7 rfl rfl rfl rfl rfl) (by rw [A21,if_neg h1])
theorem D49 (n:Int):FnOk Tryz.prog 229 [E5 n] (fun rs=>rs=[I8 (decide (H7 n))]):=by
 refine FnOk.intro Tryz.func229 (by decide) Z Z Z Z ?_
 refine k2 (A2 (A7 Z Z (A4 ?_)));refine k1 (k2 (A2 (A3 Z Z (A6 (i8 Z Z) Z (A3 Z Z (B0 Z Z Z Z (fun hg=>by rw [hg];exact B5 Z Z) ?_))))));refine B0 Z Z Z Z (fun hg=>by rw [hg];exact t8 Z Z) ?_;refine F2 Z Z ?_;refine A7 Z Z (A4 ?_);refine k1 (k10 (B4 (F3 Z Z Z) ?_))
 simp only [L5]
 rfl
theorem D71 (l:List Change) (m n:Int) (hl:l.length≤1073741824):FnOk Tryz.prog 185 [pChanges l,E5 m,E5 n] (fun rs=>rs=[E5 (T9 l m n)]):=by
 refine FnOk.intro Tryz.func185 (by decide) Z Z Z Z ?_
 refine k2 (A2 (A7 Z Z (A4 ?_)));refine k1 (k2 (k2 (A2 (A3 Z Z (C2 (D49 m) Z Z Z ?_)))));rintro _ rfl;refine L7 Z Z (A3 Z Z (B0 Z Z Z Z (fun hg=>by rw [hg];exact B5 Z Z) ?_));refine B0 Z Z Z Z (fun hg=>by have hq:=hg;(try simp at hq);rw [hg];exact E3 (D49 n) Z Z) ?_;refine B0 Z Z Z Z (fun hg=>by rw [hg];exact Y0 Z) ?_;refine F2 Z Z ?_;refine A4 ?_;refine k1 ?_;refine B3 rfl (fun ht=>?_) (fun ht=>?_)
 ·simp only [←decide_not,or_pick] at ht
  have h:¬H7 m∨¬H7 n:=A0 ht
  refine k2 (A2 (A7 Z Z (A4 ?_)));refine k1 (k10 (k11 ?_))
  exact B4 (F3 rfl rfl rfl) (by rw [T9,if_pos h])
 simp only [←decide_not,or_pick] at ht
 have h:¬(¬H7 m∨¬H7 n):=A1 ht
 have hm:0≤m∧m≤4096:=by by_cases hm:H7 m;exact hm;exact absurd (.inl hm) h
 have hn:0≤n∧n≤4096:=by by_cases hn:H7 n;exact hn;exact absurd (.inr hn) h
 refine k5 (k1 (k2 (A2 (A7 Z Z (A7 Z Z (A4 ?_))))));refine k1 (k2 (k2 (A2 (A7 Z Z (A4 ?_)))));refine k1 (k3 (D1 (X:=Nat × Int × Int) (fun x=>([(0,C4 Change 4 changeC l),(1,B8 m),(2,B8 n),(7,B8 x.2.1),(8,B8 x.2.2),(9,B8 x.1)],[])) (fun x=>x.1≤l.length∧K0 0 0 0 l m n=K0 x.1 x.2.1 x.2.2 (l.drop x.1) m n∧0≤x.2.1∧x.2.1≤8192∧0≤x.2.2∧x.2.2≤8192) (fun x=>l.length - x.1) (0,0,0) ⟨Nat.zero_le _,rfl,by decide,by decide,by decide,by decide⟩ (J58 ⟨le1 rfl,le1 rfl,le1 rfl,le1 rfl,le1 rfl,le1 rfl,trivial⟩ trivial) ?_))
 rintro ⟨k,i,j⟩ ⟨hk,hp,hi,hi2,hj,hj2⟩
 dsimp only at hk hp hi hi2 hj hj2 ⊢
 refine k2 (k2 (A2 (A3 Z Z (A3 Z Z (D9 Z Z (E1 Z Z Z (A4 ?_)))))));refine k1 ?_;refine B3 rfl (fun ht=>?_) (fun ht=>?_)
 ·have hlt:k < l.length:=by have:=A0 ht;omega
  have hv:l[k]?=some l[k]:=by simp [hlt]
  obtain ⟨c,hc⟩:∃c,c=l[k]:=⟨_,rfl⟩
  rw [J92 hlt,K0] at hp
  rw [←hc] at hv hp
  refine k5 (k1 (k2 (k3 (k2 (A2 (A3 Z Z (A3 Z Z (A6 (A8 Z (.pure _ _ _ _) Z (by omega) hv) Z (A6 (C8 Z Z) Z (C0 (F4 10 Z) Z (E2 (B6 TySz.out Z Z Z Z Z Z) (A4 ?_))))))))))));refine k1 (k2 (k2 (A2 (A6 (A5 Z) Z (D3 Z Z Z Z (C2 (D49 c.Old) Z Z Z ?_))))));rintro _ rfl;refine L7 Z Z (A3 Z Z (B0 Z Z Z Z (fun hg=>by rw [hg];exact A5 Z) ?_));refine B0 Z Z Z Z (fun hg=>by rw [hg];exact B2 Z Z Z) ?_;refine B0 Z Z Z Z (fun hg=>by have hq:=hg;(try simp at hq);rw [hg];exact E3 (D49 c.OldLen) Z Z) ?_;refine B0 Z Z Z Z (fun hg=>by rw [hg];exact Y0 Z) ?_;refine F2 Z Z ?_;refine A3 Z Z (B0 Z Z Z Z (fun hg=>by rw [hg];exact A5 Z) ?_);refine B0 Z Z Z Z (fun hg=>by rw [hg];exact B2 Z Z Z) ?_;refine B0 Z Z Z Z (fun hg=>by have hq:=hg;(try simp at hq);rw [hg];exact E3 (D49 c.New) Z Z) ?_;refine B0 Z Z Z Z (fun hg=>by rw [hg];exact Y0 Z) ?_;refine F2 Z Z ?_;refine A3 Z Z (B0 Z Z Z Z (fun hg=>by rw [hg];exact A5 Z) ?_);refine B0 Z Z Z Z (fun hg=>by rw [hg];exact B2 Z Z Z) ?_;refine B0 Z Z Z Z (fun hg=>by have hq:=hg;(try simp at hq);rw [hg];exact E3 (D49 c.NewLen) Z Z) ?_;refine B0 Z Z Z Z (fun hg=>by rw [hg];exact Y0 Z) ?_;refine F2 Z Z ?_;refine A3 Z Z (B0 Z Z Z Z (fun hg=>by rw [hg];exact A5 Z) ?_);refine B0 Z Z Z Z (fun hg=>by rw [hg];exact B2 Z Z Z) ?_;refine B0 Z Z Z Z (fun hg=>by rw [hg];exact A5 Z) ?_;refine B0 Z Z Z Z (fun hg=>by rw [hg];exact B2 Z Z Z) ?_;refine B0 Z Z Z Z (fun hg=>by have hq:=hg;(try simp at hq);simp [H7] at hq;rw [hg];exact L4 Z Z (by omega)) ?_;refine B0 Z Z Z Z (fun hg=>by rw [hg];exact J7 Z Z) ?_;refine F2 Z Z ?_;refine A3 Z Z (B0 Z Z Z Z (fun hg=>by rw [hg];exact A5 Z) ?_);refine B0 Z Z Z Z (fun hg=>by rw [hg];exact B2 Z Z Z) ?_;refine B0 Z Z Z Z (fun hg=>by rw [hg];exact B5 Z Z) ?_;refine B0 Z Z Z Z (fun hg=>by have hq:=hg;(try simp at hq);simp [H7] at hq;rw [hg];exact I5 Z Z (by omega)) ?_;refine B0 Z Z Z Z (fun hg=>by rw [hg];exact A5 Z) ?_
  refine B0 Z Z Z Z (fun hg=>by rw [hg];exact B2 Z Z Z) ?_;refine B0 Z Z Z Z (fun hg=>by rw [hg];exact B5 Z Z) ?_;refine B0 Z Z Z Z (fun hg=>by have hq:=hg;(try simp at hq);simp [H7] at hq;rw [hg];exact I5 Z Z (by omega)) ?_;refine B0 Z Z Z Z (fun hg=>by rw [hg];exact H9 Z Z) ?_;refine F2 Z Z ?_;refine A3 Z Z (B0 Z Z Z Z (fun hg=>by rw [hg];exact A5 Z) ?_);refine B0 Z Z Z Z (fun hg=>by rw [hg];exact B2 Z Z Z) ?_;refine B0 Z Z Z Z (fun hg=>by rw [hg];exact B5 Z Z) ?_;refine B0 Z Z Z Z (fun hg=>by rw [hg];exact Y4 Z Z) ?_;refine F2 Z Z ?_;refine A3 Z Z (B0 Z Z Z Z (fun hg=>by rw [hg];exact B5 Z Z) ?_);refine B0 Z Z Z Z (fun hg=>by rw [hg];exact K9 Z Z) ?_;refine B0 Z Z Z Z (fun hg=>by rw [hg];exact B5 Z Z) ?_;refine G2 Z Z Z (.gd (.val _)) Z (fun hg=>by obtain ⟨hg1,hg2⟩:=L2 hg;(try rw [hg1]);(try rw [hg2]);exact A5 Z) ?_;refine G2 Z Z Z (.gd (.val _)) Z (fun hg=>by obtain ⟨hg1,hg2⟩:=L2 hg;(try rw [hg1]);(try rw [hg2]);exact B2 Z Z Z) ?_;refine G2 Z Z Z (.gd (.val _)) Z (fun hg=>by obtain ⟨hg1,hg2⟩:=L2 hg;(try rw [hg1]);(try rw [hg2]);exact B5 Z Z) ?_;refine G2 Z Z Z (.gd (.val _)) Z (fun hg=>by obtain ⟨hg1,hg2⟩:=L2 hg;(try rw [hg1]);(try rw [hg2]);exact J7 Z Z) ?_;refine B0 Z Z Z Z (fun hg=>by rw [hg];exact G7 Z (fun h=>by first | rfl | (rw [h];rfl)) (fun h=>by first | rfl | (rw [h];rfl))) ?_;refine F2 Z Z ?_;refine A4 ?_;refine k1 ?_;refine B3 rfl (fun ht=>?_) (fun ht=>?_)
  ·simp only [←decide_not,or_pick,L5] at ht
   have h:D15 k i j c:=A0 ht
   refine k2 (A2 (A7 Z Z (A4 ?_)));refine k1 (k10 (k11 (k12 (k11 (k11 (k12 (k11 ?_)))))))
   exact B4 (F3 rfl rfl rfl) (by rw [T9,if_neg ‹¬(¬H7 m∨¬H7 n)›,hp,decide_eq_false (fun hh=>hh h)];rfl)
  ·simp only [←decide_not,or_pick,L5] at ht
   have h:¬D15 k i j c:=A1 ht
   have hr:(0≤c.Old∧c.Old≤4096)∧(0≤c.OldLen∧c.OldLen≤4096)∧(0≤c.New∧c.New≤4096)∧(0≤c.NewLen∧c.NewLen≤4096):=by
    unfold D15 at h
    by_cases a1:H7 c.Old<;>by_cases a2:H7 c.OldLen<;>by_cases a3:H7 c.New<;>by_cases a4:H7 c.NewLen<;>simp [a1,a2,a3,a4] at h
    exact ⟨a1,a2,a3,a4⟩
   rw [decide_eq_true h,Bool.true_and] at hp
   refine k5 (k1 (C5 (by kernel_rfl) (by kernel_rfl) (A9 (A5 Z) Z Z (A9 (B2 Z Z Z) Z Z (A9 (A5 Z) Z Z (A9 (B2 Z Z Z) Z Z (A9 (L4 Z Z (by omega)) Z Z (A9 (A5 Z) Z Z (A9 (B2 Z Z Z) Z Z (A9 (A5 Z) Z Z (A9 (B2 Z Z Z) Z Z (A9 (L4 Z Z (by omega)) Z Z (A9 (E0 Z Z) Z Z (A9 (E0 Z Z) Z Z (G5 ?_)))))))))))))));refine k4 (k1 (A2 (A3 Z Z (C7 Z Z Z (A7 Z Z (A4 ?_))))));refine k1 ?_
   exact ⟨(k+1,c.Old+c.OldLen,c.New+c.NewLen),⟨by dsimp only;omega,hp,by dsimp only;omega,by dsimp only;omega,by dsimp only;omega,by dsimp only;omega⟩,by dsimp only;omega,J58 ⟨le1 rfl,le1 rfl,le1 rfl,le1 rfl,le1 rfl,le1 rfl,trivial⟩ trivial⟩
 ·have hk':k=l.length:=by have:=A1 ht;omega
  rw [hk',J94 (Nat.le_refl _),K0] at hp
  refine k6 (k2 (k2 (A2 (A3 Z Z (A3 Z Z (A6 (I5 Z Z (by omega)) Z (A3 Z Z (A3 Z Z (A6 (I5 Z Z (by omega)) Z (A6 (H9 Z Z) Z (A3 Z Z (B0 Z Z Z Z (fun hg=>by rw [hg];exact B5 Z Z) ?_))))))))))));refine B0 Z Z Z Z (fun hg=>by rw [hg];exact B5 Z Z) ?_;refine B0 Z Z Z Z (fun hg=>by rw [hg];exact Y4 Z Z) ?_;refine F2 Z Z ?_;refine A4 ?_;refine k1 ?_;refine B3 rfl (fun ht=>?_) (fun ht=>?_)
  ·have h2:=A0 (or_pick.symm.trans ht)
   refine k2 (A2 (A7 Z Z (A4 ?_)));refine k1 (k10 (k11 ?_))
   exact B4 (F3 rfl rfl rfl) (by rw [T9,if_neg h,hp,decide_eq_false (fun hh=>hh h2)];rfl)
  ·have h2:=A1 (or_pick.symm.trans ht)
   refine k5 (k1 (k2 (A2 (A7 Z Z (A4 ?_)))));refine k1 (k10 ?_)
   exact B4 (F3 rfl rfl rfl) (by rw [T9,if_neg h,hp,decide_eq_true h2];rfl)
theorem H53 (l:List Change) (m n ctx:Int) (hl:l.length≤1073741824):FnOk Tryz.prog 122 [pChanges l,E5 m,E5 n,E5 ctx] (fun rs=>rs=[pHunks (r8 l m n ctx).1,E5 (r8 l m n ctx).2]):=by
 refine FnOk.intro Tryz.func122 (by decide) Z Z Z Z ?_
 refine k2 (A2 (A7 Z Z (A7 Z Z (A4 ?_))));refine k1 (k2 (k2 (A2 (A3 Z Z (E1 Z Z Z (A3 Z Z (B0 Z Z Z Z (fun hg=>by rw [hg];exact B5 Z Z) ?_)))))));refine B0 Z Z Z Z (fun hg=>by rw [hg];exact K9 Z Z) ?_;refine F2 Z Z ?_;refine A4 ?_;refine k1 ?_;refine B3 rfl (fun ht=>?_) (fun ht=>?_)
 ·have h:=A0 (or_pick.symm.trans ht)
  refine k2 (A2 (A6 (K5 _ 6 hunkC) Z (A7 Z Z (A4 ?_))));refine k1 (k10 (k11 ?_))
  exact B4 (U7 rfl rfl rfl rfl rfl) (by rw [r8,if_pos (by omega)])
 have h:=A1 (or_pick.symm.trans ht)
 refine k5 (k1 (k2 (k2 (A2 (A3 Z Z (A3 Z Z (A3 Z Z (C2 (D71 l m n hl) Z Z Z ?_))))))));rintro _ rfl;refine A7 Z Z (A4 ?_);refine k1 (k2 (A2 (A3 Z Z (A6 (H9 Z Z) Z (A4 ?_)))));refine k1 ?_;refine B3 rfl (fun ht=>?_) (fun ht=>?_)
 ·have h1:T9 l m n≠0:=A0 ht
  refine k2 (A2 (A3 Z Z (A6 (K5 _ 6 hunkC) Z (A7 Z Z (A4 ?_)))));refine k1 (k10 (k11 ?_))
  exact B4 (U7 rfl rfl rfl rfl rfl) (by rw [r8,if_neg (by omega),if_pos h1])
 have h1:T9 l m n=0:=by simpa using ht
 obtain ⟨hm,hn,hs⟩:=B16 h1
 unfold H7 at hm hn
 refine k5 (k1 (k2 (O9 [(0,C4 Change 4 changeC l),(1,B8 m),(2,B8 n),(3,B8 ctx)] [] (J58 ⟨le1 rfl,le1 rfl,le1 rfl,le1 rfl,trivial⟩ trivial) ?_)))
 refine A2 (C0 (G52 11 _ hunkC Z) Z (A4 ?_));refine k1 (k2 (k2 (A2 (A7 Z Z (A4 ?_)))));refine k1 (k3 (D1 (X:=Nat) (fun k=>([(0,C4 Change 4 changeC l),(1,B8 m),(3,B8 ctx),(11,.s (.one (.mut 11))),(12,B8 k)],[(11,.grow 175 Hunk 6 hunkC (H5 l m ctx k))])) (fun k=>k≤l.length) (fun k=>l.length - k) 0 (Nat.zero_le _) (J58 ⟨le1 rfl,le1 rfl,le1 rfl,le1 rfl,le1 rfl,trivial⟩ ⟨rfl,trivial⟩) ?_))
 intro k hk
 dsimp only at hk ⊢
 have hgl:=m6 l m ctx k
 refine k2 (k2 (A2 (A3 Z Z (A3 Z Z (D9 Z Z (E1 Z Z Z (A4 ?_)))))));refine k1 ?_;refine B3 rfl (fun ht=>?_) (fun ht=>?_)
 ·have hlt:k < l.length:=by have:=A0 ht;omega
  have hv:l[k]?=some (cAt l k):=X9 hlt
  obtain ⟨⟨g1,g2⟩,⟨g3,g4⟩,⟨g5,g6⟩,⟨g7,g8⟩,g9,g10⟩:=hs.get k hlt
  refine E24 ?_
  refine J3 ?_
  refine c_seq ?_
  refine I03 ?_
  refine n9 [(0,C4 Change 4 changeC l),(1,B8 m),(3,B8 ctx),(11,.s (.one (.mut 11))),(12,B8 k)] [(11,.grow 175 Hunk 6 hunkC (T3 l ctx k (H5 l m ctx k)))] ?_ ?_
  ·refine k2 ?_
   have hp1:k≠0→l[((k:Int) - 1).toNat]?=some (cAt l (k - 1))∧(0≤(cAt l (k - 1)).Old∧(cAt l (k - 1)).Old≤4096)∧0≤(cAt l (k - 1)).OldLen∧(cAt l (k - 1)).OldLen≤4096:=fun hk0=>by
    have:=hs.get (k - 1) (by omega)
    refine ⟨?_,this.1,this.2.1⟩
    rw [show ((k:Int) - 1).toNat=k - 1 by omega];exact X9 (by omega)
   refine C5 (by kernel_rfl) (by kernel_rfl) (C3 Z Z (A9 (J7 Z Z) Z Z (C3 Z Z (B9 Z Z (fun hg=>by rw [hg];exact B5 Z Z) Z Z ?_))));refine B9 Z Z (fun hg=>by rw [hg];exact B5 Z Z) Z Z ?_;refine B9 Z Z (fun hg=>by have hq:=hg;(try simp at hq);rw [hg];exact A8 Z (.pure _ _ _ _) Z (by omega) hv) Z Z ?_;refine B9 Z Z (fun hg=>by rw [hg];exact C1 Z) Z Z ?_;refine B9 Z Z (fun hg=>by rw [hg];exact B1 Z Z) Z Z ?_;refine B9 Z Z (fun hg=>by rw [hg];exact B5 Z Z) Z Z ?_;refine B9 Z Z (fun hg=>by rw [hg];exact B5 Z Z) Z Z ?_;refine B9 Z Z (fun hg=>by have hq:=hg;(try simp at hq);rw [hg];exact I5 Z Z (by omega)) Z Z ?_;refine B9 Z Z (fun hg=>by have hq:=hg;(try simp at hq);rw [hg];exact A8 Z (.pure _ _ _ _) Z (by omega) (hp1 (by simpa using hq)).1) Z Z ?_;refine B9 Z Z (fun hg=>by rw [hg];exact C1 Z) Z Z ?_;refine B9 Z Z (fun hg=>by rw [hg];exact B1 Z Z) Z Z ?_;refine B9 Z Z (fun hg=>by have hq:=hg;(try simp at hq);have hp2:=hp1 (by simpa using hq);rw [hg];exact I5 Z Z (by omega)) Z Z ?_;refine B9 Z Z (fun hg=>by rw [hg];exact B5 Z Z) Z Z ?_;refine B9 Z Z (fun hg=>by rw [hg];exact B5 Z Z) Z Z ?_;refine B9 Z Z (fun hg=>by have hq:=hg;(try simp at hq);rw [hg];exact I5 Z Z (by omega)) Z Z ?_;refine B9 Z Z (fun hg=>by have hq:=hg;(try simp at hq);rw [hg];exact A8 Z (.pure _ _ _ _) Z (by omega) (hp1 (by simpa using hq)).1) Z Z ?_;refine B9 Z Z (fun hg=>by rw [hg];exact C1 Z) Z Z ?_;refine B9 Z Z (fun hg=>by rw [hg];exact B1 Z Z) Z Z ?_;refine B9 Z Z (fun hg=>by have hq:=hg;(try simp at hq);have hp2:=hp1 (by simpa using hq);rw [hg];exact I5 Z Z (by omega)) Z Z ?_;refine B9 Z Z (fun hg=>by rw [hg];exact B5 Z Z) Z Z ?_;refine B9 Z Z (fun hg=>by have hq:=hg;(try simp at hq);rw [hg];exact B68 Z Z (by omega)) Z Z ?_;refine B9 Z Z (fun hg=>by rw [hg];exact K9 Z Z) Z Z ?_;refine A9 (G7 Z (fun h=>by first | rfl | (rw [h];rfl)) (fun h=>by first | rfl | (rw [h];rfl))) Z Z ?_;refine G5 ?_;refine k1 ?_;refine B3 rfl (fun ht=>?_) (fun ht=>?_)
   ·have h2:=A0 (or_pick.symm.trans ht)
    have ho:opens l ctx k:=by unfold opens;omega
    have hmin:0≤X8 ctx (cAt l k).Old∧X8 ctx (cAt l k).Old≤(cAt l k).Old:=by unfold X8;split<;>omega
    refine k2 (A2 (A3 Z Z (A3 Z Z (A3 Z Z (A6 (A8 Z (.pure _ _ _ _) Z (by omega) hv) Z (A6 (C1 Z) Z (A6 (B1 Z Z) Z (A6 (D64 Z Z) Z (A7 Z Z (A4 ?_))))))))))
    rw [show (if (cAt l k).Old < ctx then (cAt l k).Old else ctx)=X8 ctx (cAt l k).Old from rfl]
    refine k1 (C5 (by kernel_rfl) (by kernel_rfl) (C3 Z Z (C3 Z Z (C3 Z Z (C3 Z Z (A9 (A8 Z (.pure _ _ _ _) Z (by omega) hv) Z Z (A9 (C1 Z) Z Z (A9 (B1 Z Z) Z Z (C3 Z Z (A9 (I5 Z Z (by omega)) Z Z (A9 (E6 Z) Z Z (C3 Z Z (C3 Z Z (A9 (A8 Z (.pure _ _ _ _) Z (by omega) hv) Z Z (A9 (C1 Z) Z Z (A9 (B1 Z Z) Z Z (C3 Z Z (A9 (I5 Z Z (by omega)) Z Z (A9 (E6 Z) Z Z (A9 (E6 Z) Z Z (A9 (C9 (c:=hunkC) (ys:=[V2 l ctx k]) (D8 Z Z Z Z F1) Z Z Z) Z Z (A96 (A65 Z Z Z (.pure _ _ _ _) (by simp;omega) Z) Z Z (A9 (E0 Z Z) Z Z ?_)))))))))))))))))))))));refine G5 ?_;refine k1 ?_
    rw [T3,if_pos ho]
    exact J58 ⟨le1 rfl,le1 rfl,le1 rfl,le1 rfl,le1 rfl,trivial⟩ ⟨rfl,trivial⟩
   ·have h2:=A1 (or_pick.symm.trans ht)
    have ho:¬opens l ctx k:=by unfold opens;omega
    refine k5 (k1 ?_)
    rw [T3,if_neg ho]
    exact J58 ⟨le1 rfl,le1 rfl,le1 rfl,le1 rfl,le1 rfl,trivial⟩ ⟨rfl,trivial⟩
  ·obtain ⟨out,hout⟩:∃out,out=T3 l ctx k (H5 l m ctx k):=⟨_,rfl⟩
   have hsucc:H5 l m ctx (k+1)=out.set (out.length - 1) (A52 l m ctx k (out.getD (out.length - 1) D16)):=by rw [hout];rfl
   have hol:0 < out.length∧out.length≤k+1:=by
    rw [hout,T3]
    split
    ·simp only [J86,J87,J89];omega
    ·rename_i ho
     have:k≠0:=fun e=>ho (.inl e)
     omega
   rw [←hout]
   obtain ⟨h0,hh0⟩:∃h0,h0=out.getD (out.length - 1) D16:=⟨_,rfl⟩
   have hvo:out[out.length - 1]?=some h0:=by rw [hh0,J91,J88 (by omega)];rfl
   rw [←hh0] at hsucc
   have hi:((out.length:Int) - 1).toNat=out.length - 1:=by omega
   have hmin:0≤X8 ctx (m - ((cAt l k).Old+(cAt l k).OldLen))∧X8 ctx (m - ((cAt l k).Old+(cAt l k).OldLen))≤m - ((cAt l k).Old+(cAt l k).OldLen):=by unfold X8;split<;>omega
   refine k2 (A2 (A3 Z Z (A6 (C95 Z Z) Z (A6 (I5 Z Z (by omega)) Z (A7 Z Z (A4 ?_))))));refine k1 (k2 (C5 (by kernel_rfl) (by kernel_rfl) (C3 Z Z (C3 Z Z (A9 (A8 Z (.pure _ _ _ _) Z (by omega) hv) Z Z (A9 (C1 Z) Z Z (A9 (B1 Z Z) Z Z (C3 Z Z (C3 Z Z (A9 (A8 Z (.pure _ _ _ _) Z (by omega) hv) Z Z (A9 (C1 Z) Z Z (A9 (B1 Z Z) Z Z (A9 (L4 Z Z (by omega)) Z Z (C3 Z Z (C3 Z Z (A9 (A8 Z (.pure _ _ _ _) Z (by omega) hv) Z Z (A9 (C1 Z) Z Z (A9 (B1 Z Z) Z Z (C3 Z Z (C3 Z Z (A9 (A8 Z (.pure _ _ _ _) Z (by omega) hv) Z Z (A9 (C1 Z) Z Z (A9 (B1 Z Z) Z Z ?_)))))))))))))))))))))));refine A9 (L4 Z Z (by omega)) Z Z (A9 (E0 Z Z) Z Z (A9 (E0 Z Z) Z Z (G5 ?_)));refine k1 (k2 (A2 (A3 Z Z (A3 Z Z (A3 Z Z (A6 (I5 Z Z (by omega)) Z (A6 (D64 Z Z) Z (A7 Z Z (A4 ?_)))))))));refine k1 (k2 ?_)
   rw [show (if m - ((cAt l k).Old+(cAt l k).OldLen) < ctx then m - ((cAt l k).Old+(cAt l k).OldLen) else ctx)=X8 ctx (m - ((cAt l k).Old+(cAt l k).OldLen)) from rfl]
   refine A2 (A3 Z Z (A3 Z Z (A3 Z Z (C7 Z Z Z (A6 (I3 Z Z Z (by omega) (by omega)) Z (A6 (I7 Z) Z (E2 (d5 (({ h0 with Last:=(k:Int)+1 }:Hunk)) TySz.out Z Z (by rw [hi];exact hvo) Z Z Z Z (fun _ _ _ h=>l4 h) (by intro j h1 h2;rcases j with _ | _ | _ | _ | _ | _ | _ | j<;>first | rfl | omega)) ?_)))))));refine A4 ?_
   rw [hi]
   refine k1 (k2 ?_)
   have hv2:(out.set (out.length - 1) { h0 with Last:=(k:Int)+1 })[out.length - 1]?=some { h0 with Last:=(k:Int)+1 }:=K29 (by omega)
   obtain ⟨h2,hh2⟩:∃h2:Hunk,h2={ h0 with Last:=(k:Int)+1 }:=⟨_,rfl⟩
   rw [←hh2] at hv2 ⊢
   obtain ⟨out2,ho2⟩:∃out2,out2=out.set (out.length - 1) h2:=⟨_,rfl⟩
   have hol2:out2.length=out.length:=by rw [ho2];simp
   rw [←ho2] at hv2 ⊢
   refine A2 (A3 Z Z (A3 Z Z (A3 Z Z (A3 Z Z (C7 Z Z Z (A6 (I3 Z Z Z (by omega) (by (simp only [hol2];omega))) Z (A6 (I7 Z) Z (A6 (I7 Z) Z (E2 (d5 (({ h2 with Old:=⟨h2.Old.From,(cAt l k).Old+(cAt l k).OldLen+X8 ctx (m - ((cAt l k).Old+(cAt l k).OldLen))⟩ }:Hunk)) TySz.out Z Z (by rw [hi];exact hv2) Z Z Z Z (fun _ _ _ h=>l4 h) (by intro j h1 h2;rcases j with _ | _ | _ | _ | _ | _ | _ | j<;>first | rfl | omega)) ?_)))))))));refine A4 ?_
   rw [hi]
   refine k1 ?_
   obtain ⟨h3,hh3⟩:∃h3:Hunk,h3={ h2 with Old:=⟨h2.Old.From,(cAt l k).Old+(cAt l k).OldLen+X8 ctx (m - ((cAt l k).Old+(cAt l k).OldLen))⟩ }:=⟨_,rfl⟩
   have hv3:(out2.set (out.length - 1) h3)[out.length - 1]?=some h3:=K29 (by omega)
   rw [←hh3]
   obtain ⟨out3,ho3⟩:∃out3,out3=out2.set (out.length - 1) h3:=⟨_,rfl⟩
   have hol3:out3.length=out.length:=by rw [ho3];simp [hol2]
   rw [←ho3] at hv3 ⊢
   refine A2 (A3 Z Z (A3 Z Z (A3 Z Z (A3 Z Z (C7 Z Z Z (A6 (I3 Z Z Z (by omega) (by (simp only [hol3];omega))) Z (A6 (I7 Z) Z (A6 (I7 Z) Z (E2 (d5 (({ h3 with New:=⟨h3.New.From,(cAt l k).New+(cAt l k).NewLen+X8 ctx (m - ((cAt l k).Old+(cAt l k).OldLen))⟩ }:Hunk)) TySz.out Z Z (by rw [hi];exact hv3) Z Z Z Z (fun _ _ _ h=>l4 h) (by intro j h1 h2;rcases j with _ | _ | _ | _ | _ | _ | _ | j<;>first | rfl | omega)) ?_)))))))));refine A4 ?_
   rw [hi]
   have hfin:out3.set (out.length - 1) { h3 with New:=⟨h3.New.From,(cAt l k).New+(cAt l k).NewLen+X8 ctx (m - ((cAt l k).Old+(cAt l k).OldLen))⟩ }=H5 l m ctx (k+1):=by
    rw [hsucc,ho3,ho2,List.set_set,List.set_set,hh3,hh2];rfl
   rw [hfin]
   refine k4 (k1 (A2 (A3 Z Z (C7 Z Z Z (A7 Z Z (A4 ?_))))));refine k1 ?_
   exact ⟨k+1,by omega,by omega,J58 ⟨le1 rfl,le1 rfl,le1 rfl,le1 rfl,le1 rfl,trivial⟩ ⟨rfl,trivial⟩⟩
 ·have hk':k=l.length:=by have:=A1 ht;omega
  subst hk'
  refine k6 (k2 (G4 (J69 (t:=11) (k:=11) Z Z Z) ?_))
  refine A2 (A3 Z Z (A7 Z Z (A7 Z Z (A4 ?_))));refine k1 (k10 ?_)
  exact B4 (U7 rfl rfl rfl rfl rfl) (by rw [r8,if_neg (by omega),if_neg (by rw [h1];decide)])
theorem H54 (a b:List Str) (ha:a.length≤4096) (hb:b.length≤4096):FnOk Tryz.prog 120 [Z9 a,Z9 b] (fun rs=>rs=[pChanges (V7 (F0 (D2 [a,b]) a) (F0 (D2 [a,b]) b))]):=by
 have h1:(F0 (D2 [a,b]) a).length=a.length:=by simp [F0]
 have h2:(F0 (D2 [a,b]) b).length=b.length:=by simp [F0]
 refine FnOk.intro Tryz.func120 (by decide) Z Z Z Z ?_
 refine k2 (A2 (A7 Z Z (A4 ?_)));refine k1 (k2 (A2 (A3 Z Z (A3 Z Z (A6 (C9 (c:=strsC) (ys:=[a,b]) (D8 Z Z Z Z (D8 Z Z Z Z F1)) Z Z Z) Z (C2 (H51 [a,b] (by simp;omega) (by simp)) Z Z Z ?_))))));rintro _ rfl;refine A7 Z Z (A4 ?_);refine k1 (k2 (C5 (by kernel_rfl) (by kernel_rfl) (C3 Z Z (A9 (A8 Z (.pure _ _ _ _) Z (by omega) Z) Z Z (A9 (B1 Z Z) Z Z (C3 Z Z (A9 (A8 Z (.pure _ _ _ _) Z (by omega) Z) Z Z (A9 (B1 Z Z) Z Z (A9 (E3 (G05 _ _ (by omega) (by omega)) Z Z) Z Z (A9 (E0 Z Z) Z Z (G5 ?_)))))))))));refine k1 (k10 ?_)
 exact B4 (F3 rfl rfl rfl) rfl
theorem D03 (a b:UInt8):decide ((a.toNat:Int)≠(b.toNat:Int))=decide (a≠b):=by
 by_cases h:a=b
 ·subst h;simp
 ·have:(a.toNat:Int)≠(b.toNat:Int):=fun e=>h (UInt8.toNat_inj.1 (by omega))
  rw [decide_eq_true this,decide_eq_true h]
theorem A31 (s:Str):FnOk Tryz.prog 82 [L6 s] (fun rs=>rs=[I8 (J1 s)]):=by
 refine FnOk.intro Tryz.func82 (by decide) Z Z Z Z ?_
 refine k2 (A2 (A7 Z Z (A4 ?_)));refine k1 (k2 (A2 (A3 Z Z (A6 (K6 Z) Z (A6 (i8 Z Z) Z (A3 Z Z (B0 Z Z Z Z (fun hg=>by rw [hg];exact B5 Z Z) ?_)))))));refine B0 Z Z Z Z (fun hg=>by rw [hg];exact K6 Z) ?_;refine B0 Z Z Z Z (fun hg=>by rw [hg];exact t8 Z Z) ?_;refine F2 Z Z ?_;refine A7 Z Z (A4 ?_);refine k1 (k10 (B4 (F3 Z Z Z) ?_))
 simp only [L5]
 congr 4
 unfold J1
 congr 1
 apply propext
 omega
theorem A32 (h:PatchHunk) (k:UInt8) (hl:h.Lines.length≤268435456):FnOk Tryz.prog 71 [pPhunk h,pByte k] (fun rs=>rs=[Z9 (F6 h.Lines k)]):=by
 obtain ⟨ls,hls⟩:∃ls,ls=h.Lines:=⟨_,rfl⟩
 refine FnOk.intro Tryz.func71 (by decide) Z Z Z Z ?_
 refine k2 (A2 (C0 (M2 2 Z Z Z) Z (A7 Z Z (A4 ?_))));refine k1 (k2 (A2 (C0 (R7 5 _ I0 Z) Z (A4 ?_))));refine k1 (k2 (k2 (A2 (A7 Z Z (A4 ?_)))));refine k1 (k3 (D1 (X:=Nat) (fun i=>([(1,.s (pByte k).s1),(2,.s (.one (.ref 2 0))),(5,.s (.one (.buf 5 Str 1 I0 (F6 (h.Lines.take i) k)))),(6,B8 i)],[(2,.box (pPhunk h).s1.cells),(5,.spare (F6 (h.Lines.take i) k).length 1 9)])) (fun i=>i≤h.Lines.length) (fun i=>h.Lines.length - i) 0 (Nat.zero_le _) (J58 ⟨le1 rfl,le1 rfl,le1 rfl,le1 rfl,trivial⟩ ⟨rfl,rfl,trivial⟩) ?_))
 intro i hi
 dsimp only at hi ⊢
 have hlen:=P7 (h.Lines.take i) k
 rw [K03] at hlen
 refine k2 (k2 (A2 (A3 Z Z (A6 (A5 Z) Z (D3 Z Z Z Z (D9 Z Z (E1 Z Z Z (A4 ?_))))))));refine k1 ?_;refine B3 rfl (fun ht=>?_) (fun ht=>?_)
 ·have hlt:i < h.Lines.length:=by have:=A0 ht;omega
  have hv:h.Lines[i]?=some h.Lines[i]:=by simp [hlt]
  have hsucc:=B02 h.Lines k i hlt
  obtain ⟨x,hx⟩:∃x,x=h.Lines[i]:=⟨_,rfl⟩
  rw [←hx] at hv hsucc
  refine k5 (k1 (k2 (k3 (k2 (A2 (A6 (A5 Z) Z (D3 Z Z Z Z (A3 Z Z (A6 (A8 Z (.pure _ _ _ _) Z (by omega) hv) Z (A6 (C1 Z) Z (A6 (B1 Z Z) Z (A3 Z Z (A6 (H9 Z Z) Z (A4 ?_))))))))))))));refine k1 ?_;refine B3 rfl (fun ht=>?_) (fun ht=>?_)
  ·have h1:x.Kind≠k:=A0 ((D03 _ _).symm.trans ht)
   rw [if_pos h1] at hsucc
   skip
   refine A2 (A3 Z Z (A6 (A5 Z) Z (D3 Z Z Z Z (A3 Z Z (A6 (A8 Z (.pure _ _ _ _) Z (by omega) hv) Z (A6 (C1 Z) Z (A6 (B1 Z Z) Z (A6 (C9 (c:=I0) (ys:=[_]) (D8 Z Z Z Z F1) Z Z Z) Z (C0 (F8 Z Z Z (.pure _ _ _ _) (by simp;omega) Z) Z (A7 Z Z (A4 ?_)))))))))));refine k4 (k1 (A2 (A3 Z Z (C7 Z Z Z (A7 Z Z (A4 ?_))))));refine k1 ?_;refine ⟨i+1,by omega,by omega,?_⟩
   rw [hsucc]
   exact J58 ⟨le1 rfl,le1 rfl,le1 rfl,le1 rfl,trivial⟩ ⟨rfl,rfl,trivial⟩
  ·have h1:¬x.Kind≠k:=A1 ((D03 _ _).symm.trans ht)
   rw [if_neg h1] at hsucc
   refine k5 (k4 (k1 (A2 (A3 Z Z (C7 Z Z Z (A7 Z Z (A4 ?_)))))));refine k1 ?_;refine ⟨i+1,by omega,by omega,?_⟩
   rw [hsucc]
   exact J58 ⟨le1 rfl,le1 rfl,le1 rfl,le1 rfl,trivial⟩ ⟨rfl,rfl,trivial⟩
 ·have hi':i=h.Lines.length:=by have:=A1 ht;omega
  subst hi'
  refine k6 (k2 (A2 (A3 Z Z (A7 Z Z (A4 ?_)))));refine k1 (k10 ?_)
  exact B4 (F3 rfl rfl rfl) (by rw [J98])
theorem G74 (p:Patch) (k:UInt8) (hp:szP p.Hunks≤268435456):FnOk Tryz.prog 143 [pPatch p,pByte k] (fun rs=>rs=[I8 (D55 p.Hunks k)]):=by
 have hsl:=C22 p.Hunks
 refine FnOk.intro Tryz.func143 (by decide) Z Z Z Z ?_
 refine k2 (A2 (C0 (M2 2 Z Z Z) Z (A7 Z Z (A4 ?_))));refine k1 (k2 (A2 (C0 (R7 5 _ I0 Z) Z (A4 ?_))));refine k1 (k2 (k2 (A2 (A7 Z Z (A4 ?_)))));refine k1 (k3 (D1 (X:=Nat) (fun i=>([(1,.s (pByte k).s1),(2,.s (.one (.ref 2 0))),(5,.s (.one (.buf 5 Str 1 I0 (J0 (p.Hunks.take i) k)))),(6,B8 i)],[(2,.box (pPatch p).s1.cells),(5,.spare (J0 (p.Hunks.take i) k).length 1 9)])) (fun i=>i≤p.Hunks.length) (fun i=>p.Hunks.length - i) 0 (Nat.zero_le _) (J58 ⟨le1 rfl,le1 rfl,le1 rfl,le1 rfl,trivial⟩ ⟨rfl,rfl,trivial⟩) ?_))
 intro i hi
 dsimp only at hi ⊢
 have hlen:=F39 (p.Hunks.take i) k
 have hle:=D19 p.Hunks i
 refine k2 (k2 (A2 (A3 Z Z (A6 (A5 Z) Z (D3 Z Z Z Z (D9 Z Z (E1 Z Z Z (A4 ?_))))))));refine k1 ?_;refine B3 rfl (fun ht=>?_) (fun ht=>?_)
 ·have hlt:i < p.Hunks.length:=by have:=A0 ht;omega
  have hv:p.Hunks[i]?=some p.Hunks[i]:=by simp [hlt]
  have hsucc:=E82 p.Hunks k i hlt
  have hmem:p.Hunks[i]∈p.Hunks:=J96 hlt
  obtain ⟨h,hx⟩:∃x,x=p.Hunks[i]:=⟨_,rfl⟩
  rw [←hx] at hv hsucc hmem
  have h1:=B42 hmem
  have h2:=P7 h.Lines k
  have h3:=A53 h.Lines
  unfold szH at h1
  refine k5 (k1 (k2 (k3 (A2 (A3 Z Z (A6 (A5 Z) Z (D3 Z Z Z Z (A3 Z Z (A6 (A8 Z (.pure _ _ _ _) Z (by omega) hv) Z (A6 (C8 Z Z) Z (A3 Z Z (C2 (A32 h k (by omega)) Z Z Z ?_))))))))))));rintro _ rfl;refine C0 (F8 Z Z Z (.pure _ _ _ _) (by omega) Z) Z (A7 Z Z (A4 ?_));refine k4 (k1 (A2 (A3 Z Z (C7 Z Z Z (A7 Z Z (A4 ?_))))));refine k1 ?_;refine ⟨i+1,by omega,by omega,?_⟩
  rw [hsucc]
  exact J58 ⟨le1 rfl,le1 rfl,le1 rfl,le1 rfl,trivial⟩ ⟨rfl,rfl,trivial⟩
 ·have hi':i=p.Hunks.length:=by have:=A1 ht;omega
  subst hi'
  rw [J98] at hlen ⊢
  obtain ⟨all,hall⟩:∃all,all=J0 p.Hunks k:=⟨_,rfl⟩
  have hmem:∀s∈all,s.length≤szP p.Hunks:=fun s hs=>F40 (k:=k) (by rw [←hall];exact hs)
  rw [D55,←hall]
  rw [←hall] at hlen
  refine k6 (k2 (k2 (A2 (A7 Z Z (A4 ?_)))));refine k1 (k3 (D1 (X:=Nat) (fun i=>([(5,C4 Str 1 I0 all),(7,B8 i)],[])) (fun i=>i≤all.length+1∧S3 all=S3 (all.drop i)) (fun i=>all.length+1 - i) 0 ⟨Nat.zero_le _,rfl⟩ (J58 ⟨leL rfl,le1 rfl,trivial⟩ trivial) ?_))
  rintro i ⟨hi,he⟩
  dsimp only at hi he ⊢
  refine k2 (k2 (A2 (A3 Z Z (C7 Z Z Z (A3 Z Z (D9 Z Z (E1 Z Z Z (A4 ?_))))))));refine k1 ?_;refine B3 rfl (fun ht=>?_) (fun ht=>?_)
  ·have hlt:i+1 < all.length:=by have:=A0 ht;omega
   have hv:all[i]?=some all[i]:=by simp
   have h1:=hmem all[i] (J96 _)
   rw [F41 all i hlt] at he
   refine k5 (k1 (k2 (k3 (k2 (A2 (A3 Z Z (A3 Z Z (A6 (A8 Z (.pure _ _ _ _) Z (by omega) hv) Z (A6 (B1 Z Z) Z (C2 (D01 all[i] (by omega)) Z Z Z ?_))))))))));rintro _ rfl;refine L7 Z Z (A4 ?_);refine k1 ?_;refine B3 rfl (fun ht=>?_) (fun ht=>?_)
   ·have h2:ended all[i]=false:=by simpa using ht
    rw [h2] at he
    refine k2 (A2 (A7 Z Z (A4 ?_)));refine k1 (k10 (k12 (k11 (k11 (k12 (k11 ?_))))))
    exact B4 (F3 rfl rfl rfl) (by rw [he];rfl)
   ·have h2:ended all[i]=true:=by simpa using ht
    rw [h2,Bool.true_and] at he
    refine k5 (k4 (k1 (A2 (A3 Z Z (C7 Z Z Z (A7 Z Z (A4 ?_)))))));refine k1 ?_
    exact ⟨i+1,⟨by omega,he⟩,by omega,J58 ⟨le1 rfl,le1 rfl,trivial⟩ trivial⟩
  ·have hge:all.length≤i+1:=by have:=A1 ht;omega
   rw [F42 all i hge] at he
   refine k6 (k2 (A2 (A7 Z Z (A4 ?_))));refine k1 (k10 ?_)
   exact B4 (F3 rfl rfl rfl) (by rw [he])
theorem kn32 (c:UInt8):decide ((c.toNat:Int)≠32)=decide (c≠32):=D03 c 32
theorem kn45 (c:UInt8):decide ((c.toNat:Int)≠45)=decide (c≠45):=D03 c 45
theorem kn43 (c:UInt8):decide ((c.toNat:Int)≠43)=decide (c≠43):=D03 c 43
theorem F25 (b:Bool):(!b)=decide (b=false):=by cases b<;>rfl
theorem G75 (ls:List PatchLine) (n:Nat) (h:n < ls.length):o4 (ls.take (n+1))=(if o4 (ls.take n)=true then true else decide (ls[n].Kind≠32)):=by
 unfold o4
 rw [J93 h,List.any_append]
 cases (ls.take n).any _<;>simp
theorem J27 (p:Patch) (hp:szP p.Hunks≤268435456):FnOk Tryz.prog 83 [pPatch p] (fun rs=>rs=[I8 (s8 p.Hunks)]):=by
 have hsl:=C22 p.Hunks
 refine FnOk.intro Tryz.func83 (by decide) Z Z Z Z ?_
 refine k2 (A2 (C0 (M2 1 Z Z Z) Z (A7 Z Z (A4 ?_))));refine k1 (k2 (A2 (A7 Z Z (A7 Z Z (A4 ?_)))));refine k1 (k2 (k2 (A2 (A7 Z Z (A4 ?_)))));refine k1 (k3 (D1 (X:=Nat × Int × Int) (fun x=>([(1,.s (.one (.ref 1 0))),(3,B8 x.2.1),(4,B8 x.2.2),(5,B8 x.1)],[(1,.box (pPatch p).s1.cells)])) (fun x=>x.1≤p.Hunks.length∧A43 0 0 p.Hunks=A43 x.2.1 x.2.2 (p.Hunks.drop x.1)∧0≤x.2.1∧x.2.1≤4096∧0≤x.2.2∧x.2.2≤4096) (fun x=>p.Hunks.length - x.1) (0,0,0) ⟨Nat.zero_le _,rfl,by decide,by decide,by decide,by decide⟩ (J58 ⟨le1 rfl,le1 rfl,le1 rfl,le1 rfl,trivial⟩ ⟨rfl,trivial⟩) ?_))
 rintro ⟨k,i,j⟩ ⟨hk,hg,hi,hi2,hj,hj2⟩
 dsimp only at hk hg hi hi2 hj hj2 ⊢
 refine k2 (k2 (A2 (A3 Z Z (A6 (A5 Z) Z (D3 Z Z Z Z (D9 Z Z (E1 Z Z Z (A4 ?_))))))));refine k1 ?_;refine B3 rfl (fun ht=>?_) (fun ht=>?_)
 ·have hlt:k < p.Hunks.length:=by have:=A0 ht;omega
  have hv:p.Hunks[k]?=some p.Hunks[k]:=by simp [hlt]
  have hmem:p.Hunks[k]∈p.Hunks:=J96 hlt
  rw [J92 hlt,A43] at hg
  obtain ⟨h,hx⟩:∃x,x=p.Hunks[k]:=⟨_,rfl⟩
  rw [←hx] at hv hmem hg
  have h1:=B42 hmem
  have h3:=A53 h.Lines
  have ho:=P7 h.Lines 43
  have hn:=P7 h.Lines 45
  unfold szH at h1
  refine k5 (k1 (k2 (k3 (k2 (A2 (A6 (A5 Z) Z (D3 Z Z Z Z (A3 Z Z (A6 (A8 Z (.pure _ _ _ _) Z (by omega) hv) Z (A6 (C8 Z Z) Z (C0 (F4 6 Z) Z (E2 (B6 TySz.out Z Z Z Z Z Z) (A4 ?_)))))))))))));refine k1 (k2 (A2 (A7 Z Z (A4 ?_))));refine k1 (k2 (k2 (A2 (A7 Z Z (A4 ?_)))));refine k1 (k3 (D1 (X:=Nat) (fun n=>([(1,.s (.one (.ref 1 0))),(3,B8 i),(4,B8 j),(5,B8 k),(6,.s (.one (.ref 6 0))),(7,K4 (.bool (o4 (h.Lines.take n)))),(8,B8 n)],[(1,.box (pPatch p).s1.cells),(6,.box (pPhunk h).s1.cells)])) (fun n=>n≤h.Lines.length∧h.Lines.all A73=(h.Lines.drop n).all A73) (fun n=>h.Lines.length - n) 0 ⟨Nat.zero_le _,rfl⟩ (J58 ⟨le1 rfl,le1 rfl,le1 rfl,le1 rfl,le1 rfl,le1 rfl,le1 rfl,trivial⟩ ⟨rfl,rfl,trivial⟩) ?_))
  rintro n ⟨hn1,hn2⟩
  dsimp only at hn1 hn2 ⊢
  refine k2 (k2 (A2 (A3 Z Z (A6 (A5 Z) Z (D3 Z Z Z Z (D9 Z Z (E1 Z Z Z (A4 ?_))))))));refine k1 ?_;refine B3 rfl (fun ht=>?_) (fun ht=>?_)
  ·have hlt2:n < h.Lines.length:=by have:=A0 ht;omega
   have hv2:h.Lines[n]?=some h.Lines[n]:=by simp [hlt2]
   have hmem2:=D18 (J96 hlt2)
   have hsucc:=G75 h.Lines n hlt2
   rw [J92 hlt2,List.all_cons] at hn2
   obtain ⟨x,hx2⟩:∃x,x=h.Lines[n]:=⟨_,rfl⟩
   rw [←hx2] at hv2 hmem2 hsucc hn2
   refine k5 (k1 (k2 (k3 (k2 (A2 (A6 (A5 Z) Z (D3 Z Z Z Z (A3 Z Z (A6 (A8 Z (.pure _ _ _ _) Z (by omega) hv2) Z (A6 (C1 Z) Z (A6 (B1 Z Z) Z (A7 Z Z (A4 ?_)))))))))))));refine k1 (k2 (k2 (A2 (A3 Z Z (A6 (H9 Z Z) Z (A3 Z Z (B0 Z Z Z Z (fun hg=>by rw [hg];exact B5 Z Z) ?_)))))));refine B0 Z Z Z Z (fun hg=>by rw [hg];exact H9 Z Z) ?_;refine F2 Z Z ?_;refine A3 Z Z (B0 Z Z Z Z (fun hg=>by rw [hg];exact B5 Z Z) ?_);refine B0 Z Z Z Z (fun hg=>by rw [hg];exact H9 Z Z) ?_;refine F2 Z Z ?_;refine A3 Z Z (B0 Z Z Z Z (fun hg=>by rw [hg];exact A5 Z) ?_);refine B0 Z Z Z Z (fun hg=>by rw [hg];exact B2 Z Z Z) ?_;refine B0 Z Z Z Z (fun hg=>by rw [hg];exact B5 Z Z) ?_;refine B0 Z Z Z Z (fun hg=>by have hq:=hg;(try simp at hq);rw [hg];exact A8 Z (.pure _ _ _ _) Z (by omega) hv2) ?_;refine B0 Z Z Z Z (fun hg=>by rw [hg];exact C1 Z) ?_;refine B0 Z Z Z Z (fun hg=>by rw [hg];exact B1 Z Z) ?_;refine B0 Z Z Z Z (fun hg=>by have hq:=hg;(try simp at hq);rw [hg];exact E3 (I16 x.Text (by omega)) Z Z) ?_;refine B0 Z Z Z Z (fun hg=>by rw [hg];exact Y0 Z) ?_;refine F2 Z Z ?_;refine A4 ?_;refine k1 ?_;refine B3 rfl (fun ht=>?_) (fun ht=>?_)
   ·simp only [kn32,kn45,kn43,L5,F25,or_pick] at ht
    have hb:H12 x:=A0 ht
    refine k2 (A2 (A7 Z Z (A4 ?_)));refine k1 (k10 (k11 (k12 (k11 (k11 (k12 (k11 (k12 (k11 (k11 (k12 (k11 (B4 (F3 Z Z Z) ?_)))))))))))))
    have:A73 x=false:=decide_eq_false (fun hh=>hh hb)
    rw [s8,hg,hn2,this];rfl
   ·simp only [kn32,kn45,kn43,L5,F25,or_pick] at ht
    have hb:¬H12 x:=A1 ht
    have hgl:A73 x=true:=decide_eq_true hb
    rw [hgl,Bool.true_and] at hn2
    refine k5 (k1 (A2 (A3 Z Z (A3 Z Z (B0 Z Z Z Z (fun hg=>by rw [hg];exact B5 Z Z) ?_)))));refine B0 Z Z Z Z (fun hg=>by rw [hg];exact H9 Z Z) ?_;refine F2 Z Z ?_;refine A7 Z Z (A4 ?_);refine k4 (k1 (A2 (A3 Z Z (C7 Z Z Z (A7 Z Z (A4 ?_))))));refine k1 ?_;refine ⟨n+1,⟨by omega,hn2⟩,by omega,?_⟩
    rw [kn32,←hsucc]
    exact J58 ⟨le1 rfl,le1 rfl,le1 rfl,le1 rfl,le1 rfl,le1 rfl,le1 rfl,trivial⟩ ⟨rfl,rfl,trivial⟩
  ·have hn':n=h.Lines.length:=by have:=A1 ht;omega
   subst hn'
   rw [J98]
   rw [J94 (Nat.le_refl _)] at hn2
   rw [hn2,List.all_nil,Bool.true_and] at hg
   refine k6 (k2 (k2 (A2 (A3 Z Z (L7 Z Z (A3 Z Z (B0 Z Z Z Z (fun hg=>by rw [hg];exact A5 Z) ?_)))))));refine B0 Z Z Z Z (fun hg=>by rw [hg];exact B2 Z Z Z) ?_;refine B0 Z Z Z Z (fun hg=>by rw [hg];exact B5 Z Z) ?_;refine B0 Z Z Z Z (fun hg=>by rw [hg];exact Y4 Z Z) ?_;refine F2 Z Z ?_;refine A3 Z Z (B0 Z Z Z Z (fun hg=>by rw [hg];exact A5 Z) ?_);refine B0 Z Z Z Z (fun hg=>by rw [hg];exact B2 Z Z Z) ?_;refine B0 Z Z Z Z (fun hg=>by rw [hg];exact B5 Z Z) ?_;refine B0 Z Z Z Z (fun hg=>by rw [hg];exact Y4 Z Z) ?_;refine F2 Z Z ?_;refine A3 Z Z (B0 Z Z Z Z (fun hg=>by rw [hg];exact A5 Z) ?_);refine B0 Z Z Z Z (fun hg=>by rw [hg];exact B2 Z Z Z) ?_;refine B0 Z Z Z Z (fun hg=>by rw [hg];exact K9 Z Z) ?_;refine F2 Z Z ?_;refine A3 Z Z (B0 Z Z Z Z (fun hg=>by rw [hg];exact A5 Z) ?_);refine B0 Z Z Z Z (fun hg=>by rw [hg];exact B2 Z Z Z) ?_;refine B0 Z Z Z Z (fun hg=>by rw [hg];exact K9 Z Z) ?_;refine F2 Z Z ?_;refine A3 Z Z (B0 Z Z Z Z (fun hg=>by rw [hg];exact A5 Z) ?_);refine B0 Z Z Z Z (fun hg=>by rw [hg];exact B2 Z Z Z) ?_;refine B0 Z Z Z Z (fun hg=>by rw [hg];exact B5 Z Z) ?_;refine B0 Z Z Z Z (fun hg=>by have hq:=hg;(try simp at hq);rw [hg];exact I5 Z Z (by omega)) ?_;refine B0 Z Z Z Z (fun hg=>by rw [hg];exact A5 Z) ?_;refine B0 Z Z Z Z (fun hg=>by rw [hg];exact B2 Z Z Z) ?_;refine B0 Z Z Z Z (fun hg=>by rw [hg];exact B5 Z Z) ?_;refine B0 Z Z Z Z (fun hg=>by have hq:=hg;(try simp at hq);rw [hg];exact I5 Z Z (by omega)) ?_;refine B0 Z Z Z Z (fun hg=>by rw [hg];exact H9 Z Z) ?_;refine F2 Z Z ?_;refine A4 ?_;refine k1 ?_;refine B3 rfl (fun ht=>?_) (fun ht=>?_)
   ·simp only [F25,or_pick] at ht
    have hb:A35 (o4 h.Lines) i j h:=A0 ht
    refine k2 (A2 (A7 Z Z (A4 ?_)));refine k1 (k10 (k11 (k12 (k11 (k11 (k12 (k11 ?_)))))))
    exact B4 (F3 rfl rfl rfl) (by rw [s8,hg,decide_eq_false (fun hh=>hh hb)];rfl)
   ·simp only [F25,or_pick] at ht
    have hb:¬A35 (o4 h.Lines) i j h:=A1 ht
    rw [decide_eq_true hb,Bool.true_and] at hg
    have hb2:i≤h.Old∧j≤h.New∧h.Old≤4096∧h.New≤4096:=by unfold A35 at hb;omega
    refine k5 (k1 (k2 (C5 (by kernel_rfl) (by kernel_rfl) (A9 (A5 Z) Z Z (A9 (B2 Z Z Z) Z Z (A9 (C6 Z Z Z) Z Z (A9 (E3 (A32 h 43 (by omega)) Z Z) Z Z (A9 (O8 Z (.pure _ _ _ _)) Z Z (A9 (L4 Z Z (by omega)) Z Z (A9 (A5 Z) Z Z (A9 (B2 Z Z Z) Z Z (A9 (C6 Z Z Z) Z Z (A9 (E3 (A32 h 45 (by omega)) Z Z) Z Z (A9 (O8 Z (.pure _ _ _ _)) Z Z (A9 (L4 Z Z (by omega)) Z Z (A9 (E0 Z Z) Z Z (A9 (E0 Z Z) Z Z (G5 ?_))))))))))))))))));refine k1 (k2 (A2 (A3 Z Z (A6 (K9 Z Z) Z (A3 Z Z (B0 Z Z Z Z (fun hg=>by rw [hg];exact B5 Z Z) ?_))))));refine B0 Z Z Z Z (fun hg=>by rw [hg];exact K9 Z Z) ?_;refine F2 Z Z ?_;refine A4 ?_;refine k1 ?_;refine B3 rfl (fun ht=>?_) (fun ht=>?_)
    ·have hb3:=A0 (or_pick.symm.trans ht)
     refine k2 (A2 (A7 Z Z (A4 ?_)));refine k1 (k10 (k12 (k11 (k11 (k12 (k11 ?_))))))
     exact B4 (F3 rfl rfl rfl) (by rw [s8,hg,decide_eq_false (fun hh=>hh hb3)];rfl)
    ·have hb3:=A1 (or_pick.symm.trans ht)
     rw [decide_eq_true (p:=¬(4096 < h.Old+c8 h∨4096 < h.New+j4 h)) hb3,Bool.true_and] at hg
     refine k5 (k4 (k1 (A2 (A3 Z Z (C7 Z Z Z (A7 Z Z (A4 ?_)))))));refine k1 ?_
     exact ⟨(k+1,h.Old+c8 h,h.New+j4 h),⟨by dsimp only;omega,hg,by unfold c8;dsimp only;omega,by unfold c8;dsimp only;omega,by unfold j4;dsimp only;omega,by unfold j4;dsimp only;omega⟩,by dsimp only;omega,J58 ⟨le1 rfl,le1 rfl,le1 rfl,le1 rfl,trivial⟩ ⟨rfl,trivial⟩⟩
 ·have hk':k=p.Hunks.length:=by have:=A1 ht;omega
  rw [hk',J94 (Nat.le_refl _),A43] at hg
  refine k6 (k2 (A2 (A6 (C6 Z Z Z) Z (C2 (G74 p 43 hp) Z Z Z ?_))));rintro _ rfl;refine A3 Z Z (B0 Z Z Z Z (fun hg=>by rw [hg];exact C6 Z Z Z) ?_);refine B0 Z Z Z Z (fun hg=>by have hq:=hg;(try simp at hq);rw [hg];exact E3 (G74 p 45 hp) Z Z) ?_;refine F2 Z Z ?_;refine A7 Z Z (A4 ?_);refine k1 (k10 (B4 (F3 Z Z Z) ?_))
  rw [s8,hg]
  cases D55 p.Hunks 43<;>rfl
theorem I52 (p:Patch) (hp:PFit p) (hrange:∀h∈p.Hunks,(-4611686018427387904≤h.Old∧h.Old≤4611686018427387904)∧(-4611686018427387904≤h.New∧h.New≤4611686018427387904)):FnOk Tryz.prog 78 [pPatch p] (fun rs=>rs=[L6 (j1 p)]):=by
 have hsl:=C22 p.Hunks
 have hpl:=hp.hunks
 have hpo:=hp.old
 have hpn:=hp.new
 have hq1:=l8 p.OldName
 have hq2:=l8 p.NewName
 have hnf:=A89 p
 have hnl:(y5 p).length=2:=rfl
 refine FnOk.intro Tryz.func78 (by decide) Z Z Z Z ?_
 refine k2 (A2 (C0 (M2 1 Z Z Z) Z (A7 Z Z (A4 ?_))));refine k1 (k2 (M3 10 (by kernel_rfl) (by kernel_rfl) Z (A9 (A5 Z) Z Z (A9 (B2 Z Z Z) Z Z (A9 (E3 (D48 p.OldName (by omega)) Z Z) Z Z (A9 (E9 Z Z (by (simp only [J87,J89];omega))) Z Z (A9 (E9 Z Z (by (simp only [J86,J87,J89];omega))) Z Z (A9 (A5 Z) Z Z (A9 (B2 Z Z Z) Z Z (A9 (E3 (D48 p.NewName (by omega)) Z Z) Z Z (A9 (E9 Z Z (by (simp only [J87,J89];omega))) Z Z (A9 (E9 Z Z (by (simp only [J86,J87,J89];omega))) Z Z (G5 ?_)))))))))))));refine d_turn (s5 3 (c:=I0) (ys:=(y5 p)) (D8 Z Z Z Z (D8 Z Z Z Z F1)) Z Z Z (by first | rfl | (simp [I1,J8,Ob.free,SV.free,S1.free,TC.free]<;>rfl))) Z ?_;refine A9 (E0 Z Z) Z Z (G5 ?_);refine k1 (k2 (k2 (A2 (A7 Z Z (A4 ?_)))));refine k1 (k3 (D1 (X:=Nat) (fun k=>([(1,.s (.one (.ref 1 0))),(3,.s (.one (.buf 3 Str 1 I0 (y5 p++((p.Hunks.take k).map Z4).flatten)))),(4,B8 k)],[(1,.box (pPatch p).s1.cells),(3,.spare (y5 p++((p.Hunks.take k).map Z4).flatten).length 1 9)])) (fun k=>k≤p.Hunks.length) (fun k=>p.Hunks.length - k) 0 (Nat.zero_le _) (J58 ⟨le1 rfl,le1 rfl,le1 rfl,trivial⟩ ⟨rfl,rfl,trivial⟩) ?_))
 intro k hk
 dsimp only at hk ⊢
 have hle:=D19 p.Hunks k
 have hlb:=H16 (p.Hunks.take k)
 refine k2 (k2 (A2 (A3 Z Z (A6 (A5 Z) Z (D3 Z Z Z Z (D9 Z Z (E1 Z Z Z (A4 ?_))))))));refine k1 ?_;refine B3 rfl (fun ht=>?_) (fun ht=>?_)
 ·have hlt:k < p.Hunks.length:=by have:=A0 ht;omega
  have hv:p.Hunks[k]?=some p.Hunks[k]:=by simp [hlt]
  have hmem:p.Hunks[k]∈p.Hunks:=J96 hlt
  have hsucc:=D91 p.Hunks k hlt
  obtain ⟨h,hx⟩:∃x,x=p.Hunks[k]:=⟨_,rfl⟩
  rw [←hx] at hv hmem hsucc
  have h1:=B42 hmem
  have h3:=A53 h.Lines
  have ho:=P7 h.Lines 43
  have hn:=P7 h.Lines 45
  have hr1:=U6 h.Old (c8 h)
  have hr2:=U6 h.New (j4 h)
  unfold szH at h1
  obtain ⟨base,hbase⟩:∃base,base=y5 p++((p.Hunks.take k).map Z4).flatten:=⟨_,rfl⟩
  have hbl:base.length≤2+szP p.Hunks:=by rw [hbase,J86];omega
  rw [←hbase]
  have hho:-4611686018427387904≤h.Old∧h.Old≤4611686018427387904:=(hrange h hmem).1
  have hhn:-4611686018427387904≤h.New∧h.New≤4611686018427387904:=(hrange h hmem).2
  refine k5 (k1 (k2 (k3 (k2 (A2 (A6 (A5 Z) Z (D3 Z Z Z Z (A3 Z Z (A6 (A8 Z (.pure _ _ _ _) Z (by omega) hv) Z (A6 (C8 Z Z) Z (C0 (F4 5 Z) Z (E2 (B6 TySz.out Z Z Z Z Z Z) (A4 ?_)))))))))))));refine k1 (k2 (C5 (by kernel_rfl) (by kernel_rfl) (C3 Z Z (A9 (A5 Z) Z Z (A9 (B2 Z Z Z) Z Z (A9 (C6 Z Z Z) Z Z (A9 (E3 (A32 h 43 (by omega)) Z Z) Z Z (A9 (O8 Z (.pure _ _ _ _)) Z Z (A9 (E3 (D47 h.Old _ hho (by omega)) Z Z) Z Z (A9 (E9 Z Z (by (simp only [J87,J89];unfold c8 at hr1;omega))) Z Z (A9 (E9 Z Z (by (simp only [J86,J87,J89];unfold c8 at hr1;omega))) Z Z (A9 (A5 Z) Z Z (A9 (B2 Z Z Z) Z Z (A9 (C6 Z Z Z) Z Z (A9 (E3 (A32 h 45 (by omega)) Z Z) Z Z (A9 (O8 Z (.pure _ _ _ _)) Z Z (A9 (E3 (D47 h.New _ hhn (by omega)) Z Z) Z Z (A9 (E9 Z Z (by (simp only [J86,J87,J89];unfold c8 at hr1;unfold j4 at hr2;omega))) Z Z (A9 (E9 Z Z (by (simp only [J86,J87,J89];unfold c8 at hr1;unfold j4 at hr2;omega))) Z Z (A9 (C9 (c:=I0) (ys:=[Y7 h]) (D8 Z Z Z Z F1) Z Z Z) Z Z (A96 (F8 Z Z Z (.pure _ _ _ _) (by (simp only [J87,J89];omega)) Z) Z Z (A9 (E0 Z Z) Z Z (G5 ?_)))))))))))))))))))))));refine k1 (k2 (A2 (A7 Z Z (A4 ?_))));refine k1 (k3 (D1 (X:=Nat) (fun n=>([(1,.s (.one (.ref 1 0))),(3,.s (.one (.buf 3 Str 1 I0 (base++(Y7 h::((h.Lines.take n).map V3).flatten))))),(4,B8 k),(5,.s (.one (.ref 5 0))),(6,B8 n)],[(1,.box (pPatch p).s1.cells),(3,.spare (base++(Y7 h::((h.Lines.take n).map V3).flatten)).length 1 9),(5,.box (pPhunk h).s1.cells)])) (fun n=>n≤h.Lines.length) (fun n=>h.Lines.length - n) 0 (Nat.zero_le _) (J58 ⟨le1 rfl,le1 rfl,le1 rfl,le1 rfl,le1 rfl,trivial⟩ ⟨rfl,rfl,rfl,trivial⟩) ?_))
  intro n hn1
  dsimp only at hn1 ⊢
  have hll:=D90 (h.Lines.take n)
  have hlt3:(h.Lines.take n).length≤h.Lines.length:=by rw [K03];omega
  refine k2 (k2 (A2 (A3 Z Z (A6 (A5 Z) Z (D3 Z Z Z Z (D9 Z Z (E1 Z Z Z (A4 ?_))))))));refine k1 ?_;refine B3 rfl (fun ht=>?_) (fun ht=>?_)
  ·have hlt2:n < h.Lines.length:=by have:=A0 ht;omega
   have hv2:h.Lines[n]?=some h.Lines[n]:=by simp [hlt2]
   have hmem2:=D18 (J96 hlt2)
   have hsucc2:=D92 h.Lines n hlt2
   obtain ⟨x,hx2⟩:∃x,x=h.Lines[n]:=⟨_,rfl⟩
   rw [←hx2] at hv2 hmem2 hsucc2
   refine k5 (k1 (k2 (k3 (k2 (C5 (by kernel_rfl) (by kernel_rfl) (C3 Z Z (A9 (A5 Z) Z Z (A9 (B2 Z Z Z) Z Z (C3 Z Z (A9 (A8 Z (.pure _ _ _ _) Z (by omega) hv2) Z Z (A9 (C1 Z) Z Z (A9 (B1 Z Z) Z Z (A9 (C9 (c:=u8C) (ys:=[x.Kind]) (D8 Z Z Z Z F1) Z Z Z) Z Z (A9 (w7 TyStr.out Z (.pure _ _ _ _)) Z Z (A9 (A5 Z) Z Z (A9 (B2 Z Z Z) Z Z (C3 Z Z (A9 (A8 Z (.pure _ _ _ _) Z (by omega) hv2) Z Z (A9 (C1 Z) Z Z (A9 (B1 Z Z) Z Z (A9 (E9 Z Z (by (simp only [J87,J89];omega))) Z Z (A9 (C9 (c:=I0) (ys:=[_]) (D8 Z Z Z Z F1) Z Z Z) Z Z (A96 (F8 Z Z Z (.pure _ _ _ _) (by (simp only [J86,J87,J89];omega)) Z) Z Z ?_)))))))))))))))))))))));refine A9 (E0 Z Z) Z Z (G5 ?_)
   have hcons:∀a b:List Str,base++Y7 h::(a++b)=base++Y7 h::a++b:=fun a b=>by simp
   refine k1 (k2 (A2 (A6 (A5 Z) Z (D3 Z Z Z Z (A3 Z Z (A6 (A8 Z (.pure _ _ _ _) Z (by omega) hv2) Z (A6 (C1 Z) Z (A6 (B1 Z Z) Z (C2 (D01 x.Text (by omega)) Z Z Z ?_)))))))));rintro _ rfl;refine L7 Z Z (A4 ?_);refine k1 ?_;refine B3 rfl (fun ht=>?_) (fun ht=>?_)
   ·have h2:ended x.Text=false:=by simpa using ht
    have e:V3 x=[[x.Kind]++x.Text]++[markS]:=by rw [V3,h2];rfl
    skip
    refine A2 (A3 Z Z (A6 (C9 (c:=I0) (ys:=[markS]) (D8 Z Z Z Z F1) Z Z Z) Z (C0 (F8 Z Z Z (.pure _ _ _ _) (by (simp only [J86,J87,J89];omega)) Z) Z (A7 Z Z (A4 ?_)))));refine k4 (k1 (A2 (A3 Z Z (C7 Z Z Z (A7 Z Z (A4 ?_))))));refine k1 ?_;refine ⟨n+1,by omega,by omega,?_⟩
    rw [hsucc2,e,←K01,hcons,hcons]
    exact J58 ⟨le1 rfl,le1 rfl,le1 rfl,le1 rfl,le1 rfl,trivial⟩ ⟨rfl,rfl,rfl,trivial⟩
   ·have h2:ended x.Text=true:=by simpa using ht
    have e:V3 x=[[x.Kind]++x.Text]:=by rw [V3,h2];rfl
    refine k5 (k4 (k1 (A2 (A3 Z Z (C7 Z Z Z (A7 Z Z (A4 ?_)))))));refine k1 ?_;refine ⟨n+1,by omega,by omega,?_⟩
    rw [hsucc2,e,hcons]
    exact J58 ⟨le1 rfl,le1 rfl,le1 rfl,le1 rfl,le1 rfl,trivial⟩ ⟨rfl,rfl,rfl,trivial⟩
  ·have hn':n=h.Lines.length:=by have:=A1 ht;omega
   subst hn'
   rw [J98]
   refine k6 (k7 (k7 (k8 Z (k4 (k1 (A2 (A3 Z Z (C7 Z Z Z (A7 Z Z (A4 ?_))))))))));refine k1 ?_;refine ⟨k+1,by omega,by omega,?_⟩
   rw [hsucc,←K01,←hbase]
   exact J58 ⟨le1 rfl,le1 rfl,le1 rfl,trivial⟩ ⟨rfl,rfl,trivial⟩
 ·have hk':k=p.Hunks.length:=by have:=A1 ht;omega
  subst hk'
  have hff:=A54 p.Hunks
  rw [J98] at hlb ⊢
  have hall:(y5 p++(p.Hunks.map Z4).flatten).flatten.length≤536870912:=by simp only [K04,J86];omega
  refine k6 (k2 (A2 (A3 Z Z (C2 (H50 _ hall) Z Z Z ?_))));rintro _ rfl;refine A7 Z Z (A4 ?_);refine k1 (k10 ?_)
  exact B4 (F3 rfl rfl rfl) rfl
theorem G76 (p:Patch) (hp:szP p.Hunks≤268435456):FnOk Tryz.prog 34 [pPatch p] (fun rs=>rs=[E5 (y6 p)]):=by
 refine FnOk.intro Tryz.func34 (by decide) Z Z Z Z ?_
 refine k2 (A2 (C0 (M2 1 Z Z Z) Z (A7 Z Z (A4 ?_))));refine k1 (k2 (k3 (k2 (A2 (A6 (A5 Z) Z (D3 Z Z Z Z (C2 (A31 p.OldName) Z Z Z ?_)))))));rintro _ rfl;refine L7 Z Z (A3 Z Z (B0 Z Z Z Z (fun hg=>by rw [hg];exact A5 Z) ?_));refine B0 Z Z Z Z (fun hg=>by rw [hg];exact B2 Z Z Z) ?_;refine B0 Z Z Z Z (fun hg=>by have hq:=hg;(try simp at hq);rw [hg];exact E3 (A31 p.NewName) Z Z) ?_;refine B0 Z Z Z Z (fun hg=>by rw [hg];exact Y0 Z) ?_;refine F2 Z Z ?_;refine A7 Z Z (A4 ?_);refine k1 ?_;refine B3 rfl (fun ht=>?_) (fun ht=>?_)
 ·simp only [F25,or_pick] at ht
  have h:=A0 ht
  refine k2 (A2 (A7 Z Z (A4 ?_)));refine k1 (k10 (k12 (k11 ?_)))
  exact B4 (F3 rfl rfl rfl) (by rw [y6,if_pos h])
 ·simp only [F25,or_pick] at ht
  have h:=A1 ht
  refine k2 (A2 (A6 (C6 Z Z Z) Z (C2 (J27 p hp) Z Z Z ?_)));rintro _ rfl;refine L7 Z Z (A7 Z Z (A4 ?_));refine k1 ?_;refine B3 rfl (fun ht=>?_) (fun ht=>?_)
  ·have h2:s8 p.Hunks=false:=by simpa using ht
   refine k2 (A2 (A7 Z Z (A4 ?_)));refine k1 (k10 (k12 (k11 ?_)))
   exact B4 (F3 rfl rfl rfl) (by rw [y6,if_neg h,if_pos h2])
  ·have h2:s8 p.Hunks=true:=by simpa using ht
   have hr:=G30 h2
   have hn1:J1 p.OldName=true:=by by_cases hh:J1 p.OldName=true;exact hh;exact absurd (.inl (by simpa using hh)) h
   have hn2:J1 p.NewName=true:=by by_cases hh:J1 p.NewName=true;exact hh;exact absurd (.inr (by simpa using hh)) h
   have hn3:=A0 hn1
   have hn4:=A0 hn2
   have hpf:PFit p:=⟨by omega,by omega,hp⟩
   refine k2 (A2 (A6 (C6 Z Z Z) Z (C2 (I52 p hpf (fun x hx=>by have:=hr x hx;omega)) Z Z Z ?_)));rintro _ rfl;refine A6 (K6 Z) Z (A6 (K9 Z Z) Z (A7 Z Z (A4 ?_)));refine k1 ?_;refine B3 rfl (fun ht=>?_) (fun ht=>?_)
   ·have h3:=A0 ht
    refine k2 (A2 (A7 Z Z (A4 ?_)));refine k1 (k10 (k12 (k11 ?_)))
    exact B4 (F3 rfl rfl rfl) (by rw [y6,if_neg h,if_neg (by rw [h2];decide),if_pos (by omega)])
   ·have h3:=A1 ht
    refine k5 (k2 (A2 (A7 Z Z (A4 ?_))));refine k1 (k10 ?_)
    exact B4 (F3 rfl rfl rfl) (by rw [y6,if_neg h,if_neg (by rw [h2];decide),if_neg (by omega)])
theorem D04 {gf:Fr} {ob:Obs} (l:List PatchLine) (k:UInt8) (ts:List Str) (hk:D4 ob 701=some (.spare l.length 2 36)) (hlen:l.length+ts.length≤1073741824) :
  AL.Met Tryz.prog 123 [.one (.buf 701 PatchLine 2 plineC l),.one (.p (.v (.int .u8 k.toNat))),.one (.p (.list Str 1 I0 ts))] gf ob [701]
   (fun rs ob'=>rs=[.one (.buf 701 PatchLine 2 plineC (l++P0 k ts))]∧ob'=(701,.spare (l++P0 k ts).length 2 36)::Obs.forget 701 ob):=by
 refine AL.Met.introH Tryz.func123 (by decide) rfl rfl rfl (fun hH=>?_)
 refine k2 (A2 (A7 Z Z (A4 ?_)));refine k1 (k2 (k2 (A2 (A7 Z Z (A4 ?_)))));refine k1 (k3 ?_);refine D1 (X:=Nat) (fun i=>([(0,.s (.one (.buf 701 PatchLine 2 plineC (l++P0 k (ts.take i))))),(1,.s (pByte k).s1),(2,C4 Str 1 I0 ts),(7,B8 i)]++Fr.forget 701 gf,(701,.spare (l++P0 k (ts.take i)).length 2 36)::Obs.forget 701 ob)) (fun i=>i≤ts.length) (fun i=>ts.length - i) 0 (Nat.zero_le _) ?_ ?_
 ·have e:l++P0 k (ts.take 0)=l:=by simp [P0]
  rw [e]
  exact J77 701 ⟨le1 rfl,le1 rfl,le1 rfl,le1 rfl,trivial⟩ hH (by repeat (first | exact H2 | refine G8 rfl ?_)) hk
 intro i hi
 dsimp only at hi ⊢
 have hpl:=A14 k (ts.take i)
 rw [K03] at hpl
 refine k2 (k2 (A2 (A3 Z Z (A3 Z Z (D9 Z Z (E1 Z Z Z (A4 ?_)))))));refine k1 ?_;refine B3 rfl (fun ht=>?_) (fun ht=>?_)
 ·have hlt:i < ts.length:=by have:=A0 ht;omega
  have hv:ts[i]?=some ts[i]:=by simp [hlt]
  have hsucc:=E83 k ts i hlt
  refine k5 (k1 (k2 (k3 (A2 (A3 Z Z (A3 Z Z (A3 Z Z (A3 Z Z (A6 (A8 Z (.pure _ _ _ _) Z (by omega) hv) Z (A6 (B1 Z Z) Z (A6 (E6 Z) Z (A6 (C9 (c:=plineC) (ys:=[⟨k,ts[i]⟩]) (D8 Z Z Z Z F1) Z Z Z) Z (C0 (F8 Z Z Z (.pure _ _ _ _) (by (simp only [J86,J87,J89];omega)) Z) Z (A7 Z Z (A4 ?_)))))))))))))));refine k4 (k1 (A2 (A3 Z Z (C7 Z Z Z (A7 Z Z (A4 ?_))))));refine k1 ?_;refine ⟨i+1,hlt,by omega,?_⟩
  rw [hsucc,←K01]
  exact J63 ⟨le1 rfl,le1 rfl,le1 rfl,le1 rfl,trivial⟩ (W6 hH) (by repeat (first | exact H2 | refine G8 rfl ?_ | refine R9 _ ?_)) G54
 ·have hi':i=ts.length:=by have:=A1 ht;omega
  subst hi'
  rw [J98]
  refine k6 (k2 (A2 (A3 Z Z (A7 Z Z (A4 ?_)))));refine k1 (k10 ?_)
  exact S7 (A64 rfl rfl) (by repeat (first | exact H2 | refine G8 rfl ?_ | refine J4 _ ?_)) (fun _ _ h=>h) ⟨rfl,rfl⟩
set_option maxHeartbeats 1000000
end Go.Proofs.YtbiadkkamhpdnaaGreatDoor
namespace Go.Proofs.YtbiadkkamhpdnaaGreatDoor
open Go Go.AL
set_option maxRecDepth 100000
theorem F66 (s:Str):FnOk Tryz.prog 79 [L6 s] (fun rs=>rs=[I8 (J1 s)]):=by
 refine FnOk.intro Tryz.func79 (by decide) Z Z Z Z ?_
 refine k2 (A2 (A7 Z Z (A4 ?_)));refine k1 (k2 (A2 (A3 Z Z (A6 (K6 Z) Z (A6 (i8 Z Z) Z (A3 Z Z (B0 Z Z Z Z (fun hg=>by rw [hg];exact B5 Z Z) ?_)))))));refine B0 Z Z Z Z (fun hg=>by rw [hg];exact K6 Z) ?_;refine B0 Z Z Z Z (fun hg=>by rw [hg];exact t8 Z Z) ?_;refine F2 Z Z ?_;refine A7 Z Z (A4 ?_);refine k1 (k10 (B4 (F3 Z Z Z) ?_))
 simp only [L5]
 congr 4
 unfold J1
 congr 1
 apply propext
 omega
theorem I53 (h:PatchHunk) (hl:h.Lines.length≤268435456):FnOk Tryz.prog 199 [pPhunk h] (fun rs=>rs=[E5 (c8 h),E5 (j4 h)]):=by
 refine FnOk.intro Tryz.func199 (by decide) Z Z Z Z ?_
 refine k2 (A2 (C0 (M2 1 Z Z Z) Z (A7 Z Z (A7 Z Z (A4 ?_)))));refine k1 (k2 (A2 (A7 Z Z (A7 Z Z (A4 ?_)))));refine k1 (k2 (k2 (A2 (A6 (A5 Z) Z (D3 Z Z Z Z (D9 Z Z (A3 Z Z (A4 ?_))))))));refine k1 (k3 (D1 (X:=Nat) (fun i=>([(4,B8 (F6 (h.Lines.take i) 43).length),(5,B8 (F6 (h.Lines.take i) 45).length),(9,C4 PatchLine 2 plineC h.Lines),(10,B8 h.Lines.length),(11,B8 i)],[])) (fun i=>i≤h.Lines.length) (fun i=>h.Lines.length - i) 0 (Nat.zero_le _) (J58 ⟨le1 rfl,le1 rfl,le1 rfl,le1 rfl,le1 rfl,trivial⟩ trivial) ?_))
 intro i hi
 dsimp only at hi ⊢
 have h1:=P7 (h.Lines.take i) 43
 have h2:=P7 (h.Lines.take i) 45
 rw [K03] at h1 h2
 refine k2 (A2 (E1 Z Z Z (A4 ?_)));refine k1 (k2 ?_);refine B3 rfl (fun ht=>?_) (fun ht=>?_)
 ·have hlt:i < h.Lines.length:=by have:=A0 ht;omega
  have hv:h.Lines[i]?=some h.Lines[i]:=by simp [hlt]
  have s1:=B02 h.Lines 43 i hlt
  have s2:=B02 h.Lines 45 i hlt
  obtain ⟨x,hx⟩:∃x,x=h.Lines[i]:=⟨_,rfl⟩
  rw [←hx] at hv s1 s2
  refine k5 (k1 (k2 (k3 (k2 (A2 (A6 (A8 Z (.pure _ _ _ _) Z (by omega) hv) Z (A6 (C8 Z Z) Z (C0 (F4 7 Z) Z (E2 (B6 TySz.out Z Z Z Z Z Z) (A4 ?_))))))))));refine J3 ?_
  refine n9 [(4,B8 (F6 (h.Lines.take (i+1)) 43).length),(5,B8 (F6 (h.Lines.take i) 45).length),(7,.s (.one (.ref 7 0))),(9,C4 PatchLine 2 plineC h.Lines),(10,B8 h.Lines.length),(11,B8 i)] [(7,.box [.p (.v (.int .u8 x.Kind.toNat)),.p (.v (.string ⟨x.Text.toArray⟩))])] ?_ ?_
  ·refine k2 (A2 (A6 (A5 Z) Z (D3 Z Z Z Z (A6 (H9 Z Z) Z (A4 ?_)))));refine k1 ?_;refine B3 rfl (fun ht=>?_) (fun ht=>?_)
   ·rw [kn43] at ht
    have h3:x.Kind≠43:=A0 ht
    rw [if_pos h3] at s1
    skip
    refine A2 (A3 Z Z (C7 Z Z Z (A7 Z Z (A4 ?_))));refine k1 ?_
    rw [s1,J86,Int.natCast_add]
    exact J58 ⟨le1 rfl,le1 rfl,le1 rfl,le1 rfl,le1 rfl,le1 rfl,trivial⟩ ⟨rfl,trivial⟩
   ·rw [kn43] at ht
    have h3:¬x.Kind≠43:=A1 ht
    rw [if_neg h3] at s1
    refine k5 (k1 ?_)
    rw [s1]
    exact J58 ⟨le1 rfl,le1 rfl,le1 rfl,le1 rfl,le1 rfl,le1 rfl,trivial⟩ ⟨rfl,trivial⟩
  ·refine k2 (A2 (A6 (A5 Z) Z (D3 Z Z Z Z (A6 (H9 Z Z) Z (A4 ?_)))));refine k1 ?_;refine B3 rfl (fun ht=>?_) (fun ht=>?_)
   ·rw [kn45] at ht
    have h3:x.Kind≠45:=A0 ht
    rw [if_pos h3] at s2
    skip
    refine A2 (A3 Z Z (C7 Z Z Z (A7 Z Z (A4 ?_))));refine k4 (k1 (A2 (C7 Z Z Z (A3 Z Z (A4 ?_)))));refine k1 ?_;refine ⟨i+1,by omega,by omega,?_⟩
    rw [s2,J86,Int.natCast_add]
    exact J58 ⟨le1 rfl,le1 rfl,le1 rfl,le1 rfl,le1 rfl,trivial⟩ trivial
   ·rw [kn45] at ht
    have h3:¬x.Kind≠45:=A1 ht
    rw [if_neg h3] at s2
    refine k5 (k4 (k1 (A2 (C7 Z Z Z (A3 Z Z (A4 ?_))))));refine k1 ?_;refine ⟨i+1,by omega,by omega,?_⟩
    rw [s2]
    exact J58 ⟨le1 rfl,le1 rfl,le1 rfl,le1 rfl,le1 rfl,trivial⟩ trivial
 ·have hi':i=h.Lines.length:=by have:=A1 ht;omega
  subst hi'
  rw [J98]
  refine k6 (k2 (A2 (A3 Z Z (A3 Z Z (A7 Z Z (A7 Z Z (A4 ?_)))))));refine k1 (k10 ?_)
  exact B4 (U7 rfl rfl rfl rfl rfl) rfl
theorem E66 (h:PatchHunk) (hl:h.Lines.length≤268435456) (ho:-4611686018427387904≤h.Old∧h.Old≤4611686018427387904) (hn:-4611686018427387904≤h.New∧h.New≤4611686018427387904):FnOk Tryz.prog 135 [pPhunk h] (fun rs=>rs=[L6 (Y7 h)]):=by
 have h1:=P7 h.Lines 43
 have h2:=P7 h.Lines 45
 have h3:0≤c8 h∧c8 h≤268435456:=by unfold c8;omega
 have h4:0≤j4 h∧j4 h≤268435456:=by unfold j4;omega
 have h5:=U6 h.Old (c8 h)
 have h6:=U6 h.New (j4 h)
 refine FnOk.intro Tryz.func135 (by decide) Z Z Z Z ?_
 refine k2 (A2 (C0 (M2 1 Z Z Z) Z (A7 Z Z (A4 ?_))));refine k1 (k2 (A2 (A6 (C6 Z Z Z) Z (C2 (I53 h hl) Z Z Z ?_))));rintro _ rfl;refine A3 Z Z (F5 Z Z Z (F5 Z Z Z (A7 Z Z (A7 Z Z (A4 ?_)))));refine k1 (k2 (C5 (by kernel_rfl) (by kernel_rfl) (A9 (A5 Z) Z Z (A9 (B2 Z Z Z) Z Z (C3 Z Z (A9 (E3 (C15 h.Old (c8 h) ho (by omega)) Z Z) Z Z (A9 (E9 Z Z (by (simp only [J87,J89];omega))) Z Z (A9 (E9 Z Z (by (simp only [J86,J87,J89];omega))) Z Z (A9 (A5 Z) Z Z (A9 (B2 Z Z Z) Z Z (C3 Z Z (A9 (E3 (C15 h.New (j4 h) hn (by omega)) Z Z) Z Z (A9 (E9 Z Z (by (simp only [J86,J87,J89];omega))) Z Z (A9 (E9 Z Z (by (simp only [J86,J87,J89];omega))) Z Z (A9 (E0 Z Z) Z Z (G5 ?_))))))))))))))));refine k1 (k10 ?_)
 exact B4 (F3 rfl rfl rfl) rfl
end Go.Proofs.YtbiadkkamhpdnaaGreatDoor
namespace Go.Proofs.YtbiadkkamhpdnaaGreatDoor
open Go Go.AL
set_option maxRecDepth 100000
end Go.Proofs.YtbiadkkamhpdnaaGreatDoor
