/- Walks of the program's functions. -/
import Derived.Test.YtbiadkkamhpdnaaGreatDoorFa
import Derived.Test.YtbiadkkamhpdnaaGreatDoorFs
import Derived.Lib.AppendIntMem
set_option linter.unusedSimpArgs false
namespace Go.Proofs.YtbiadkkamhpdnaaGreatDoor
open Go Go.AL
set_option maxRecDepth 100000
theorem I72 (c:UInt8):FnOk Tryz.prog 201 [pByte c] (fun rs=>rs=[M3 (B35 c)]):=by
 refine FnOk.intro Tryz.func201 (by decide) Z Z Z Z ?_
 refine k2 (A3 (A7 Z Z (A5 ?_)));refine k1 (k2 (A3 (A4 Z Z (A6 (A58 Z Z) Z (A4 Z Z (B2 Z Z Z Z (fun hg=>by rw [hg];exact B7 Z Z) ?_))))));refine B2 Z Z Z Z (fun hg=>by rw [hg];exact j6 Z Z) ?_;refine J4 Z Z ?_;refine A4 Z Z (B2 Z Z Z Z (fun hg=>by rw [hg];exact B7 Z Z) ?_);refine B2 Z Z Z Z (fun hg=>by rw [hg];exact O9 Z Z) ?_;refine J4 Z Z ?_;refine A4 Z Z (B2 Z Z Z Z (fun hg=>by rw [hg];exact B7 Z Z) ?_);refine B2 Z Z Z Z (fun hg=>by rw [hg];exact O9 Z Z) ?_;refine J4 Z Z ?_;refine A7 Z Z (A5 ?_);refine k1 (k10 (B6 (G6 Z Z Z) ?_))
 simp only [R7]
 congr 4
 unfold B35
 congr 1
 simp;omega
theorem I73 (c:UInt8):FnOk Tryz.prog 197 [pByte c] (fun rs=>rs=[M3 (B35 c)]):=by
 refine FnOk.intro Tryz.func197 (by decide) Z Z Z Z ?_
 refine k2 (A3 (A7 Z Z (A5 ?_)));refine k1 (k2 (A3 (A4 Z Z (A6 (A58 Z Z) Z (A4 Z Z (B2 Z Z Z Z (fun hg=>by rw [hg];exact B7 Z Z) ?_))))));refine B2 Z Z Z Z (fun hg=>by rw [hg];exact j6 Z Z) ?_;refine J4 Z Z ?_;refine A4 Z Z (B2 Z Z Z Z (fun hg=>by rw [hg];exact B7 Z Z) ?_);refine B2 Z Z Z Z (fun hg=>by rw [hg];exact O9 Z Z) ?_;refine J4 Z Z ?_;refine A4 Z Z (B2 Z Z Z Z (fun hg=>by rw [hg];exact B7 Z Z) ?_);refine B2 Z Z Z Z (fun hg=>by rw [hg];exact O9 Z Z) ?_;refine J4 Z Z ?_;refine A7 Z Z (A5 ?_);refine k1 (k10 (B6 (G6 Z Z Z) ?_))
 simp only [R7]
 congr 4
 unfold B35
 congr 1
 simp;omega
theorem A45 (n:Int):FnOk Tryz.prog 152 [H3 n] (fun rs=>rs=[N2 (l5 n)]):=by
 obtain ⟨k,hk⟩:∃k:Nat,n.toNat=k:=⟨_,rfl⟩
 induction k using Nat.strongRecOn generalizing n with
 | _ k ih =>
 refine FnOk.intro Tryz.func152 (by decide) Z Z Z Z ?_
 refine k2 (A3 (A7 Z Z (A5 ?_)));refine k1 (k2 (k2 (A3 (A4 Z Z (E4 Z Z Z (A4 Z Z (B2 Z Z Z Z (fun hg=>by rw [hg];exact B7 Z Z) ?_)))))));refine B2 Z Z Z Z (fun hg=>by rw [hg];exact N5 Z Z) ?_;refine J4 Z Z ?_;refine A5 ?_;refine k1 ?_;refine B3 rfl (fun ht=>?_) (fun ht=>?_)
 ·have h:=A0 (or_pick.symm.trans ht)
  refine k2 (A3 (A7 Z Z (A5 ?_)));refine k1 (k10 (k11 ?_))
  exact B6 (G6 rfl rfl rfl) (by rw [l5,if_pos (by omega)])
 ·have h:=A1 (or_pick.symm.trans ht)
  refine k5 (k1 (k2 (k2 (A3 (A4 Z Z (E4 Z Z Z (A5 ?_)))))));refine k1 ?_;refine B3 rfl (fun ht=>?_) (fun ht=>?_)
  ·have h2:=A0 ht
   refine k2 (A3 (A4 Z Z (A4 Z Z (C6 Z Z Z (A6 (A06 Z Z Z (by (first | omega | (simp;omega))) (by (first | omega | (simp;omega))) (by (first | omega | (simp;omega)))) Z (A7 Z Z (A5 ?_)))))));refine k1 (k10 (k11 (B6 (G6 Z Z Z) ?_)))
   rw [J10 n (by omega) h2]
   have e:(n+1).toNat - n.toNat=1:=by omega
   rw [e];rfl
  ·have h2:=A1 ht
   have hl:=X4 (n / 10)
   have hq:IntKind.i64.wrap (n.tdiv 10)=n / 10:=by
    rw [D55]<;>rw [Int.tdiv_eq_ediv_of_nonneg (by omega)];omega
   have hr:n.tmod 10=n % 10:=Int.tmod_eq_emod_of_nonneg (by omega)
   have ihq:FnOk Tryz.prog 152 [H3 (IntKind.i64.wrap (n.tdiv 10))] (fun rs=>rs=[N2 (l5 (n / 10))]):=by
    rw [hq];exact ih (n / 10).toNat (by omega) (n / 10) rfl
   refine k5 (k1 (k2 (C9 (by kernel_rfl) (by kernel_rfl) (C8 Z Z (A9 (C71 Z Z (by omega)) Z Z (A9 (H2 (ihq) Z Z) Z Z (C8 Z Z (A9 (B70 Z Z (by omega)) Z Z (C8 Z Z (A9 (B70 Z Z (by omega)) Z Z (A9 (V2 Z Z (by omega)) Z Z (A9 (A06 Z Z Z (by (first | omega | (simp;omega))) (by (first | omega | (simp;omega))) (by (first | omega | (simp;omega)))) Z Z (A9 (G7 Z Z (by (simp;omega))) Z Z (A9 (J6 Z Z) Z Z (L6 ?_)))))))))))))));refine k1 (k10 (B6 (G6 Z Z Z) ?_))
   rw [fmt_big n (by omega) (by omega)]
   rw [hr]
   have e:(n % 10+1).toNat - (n % 10).toNat=1:=by omega
   rw [e];rfl
theorem I74 (a n:Int) (ha:-4611686018427387904≤a∧a≤4611686018427387904) (hn:-4611686018427387904≤n∧n≤4611686018427387904):FnOk Tryz.prog 139 [H3 a,H3 n] (fun rs=>rs=[N2 (O5 a n)]):=by
 refine FnOk.intro Tryz.func139 (by decide) Z Z Z Z ?_
 refine k2 (A3 (A7 Z Z (A5 ?_)));refine k1 (k2 (k2 (A3 (A4 Z Z (E4 Z Z Z (A4 Z Z (B2 Z Z Z Z (fun hg=>by rw [hg];exact B7 Z Z) ?_)))))));refine B2 Z Z Z Z (fun hg=>by rw [hg];exact A05 Z Z) ?_;refine J4 Z Z ?_;refine A4 Z Z (B2 Z Z Z Z (fun hg=>by rw [hg];exact B7 Z Z) ?_);refine B2 Z Z Z Z (fun hg=>by rw [hg];exact N5 Z Z) ?_;refine J4 Z Z ?_;refine A4 Z Z (B2 Z Z Z Z (fun hg=>by rw [hg];exact B7 Z Z) ?_);refine B2 Z Z Z Z (fun hg=>by rw [hg];exact B7 Z Z) ?_;refine B2 Z Z Z Z (fun hg=>by rw [hg];exact U0 Z Z (by (first | omega | (simp at hq;omega)))) ?_;refine B2 Z Z Z Z (fun hg=>by rw [hg];exact N5 Z Z) ?_;refine J4 Z Z ?_;refine A5 ?_;refine k1 ?_
 have l1:=X4 a
 have l2:=X4 (a+1)
 have l3:=X4 n
 refine B3 rfl (fun ht=>?_) (fun ht=>?_)
 ·have h:=A0 ((by simp only [or_pick] at ht;exact ht):decide _=true)
  refine k2 (A3 (A7 Z Z (A5 ?_)));refine k1 (k10 (k11 ?_))
  exact B6 (G6 rfl rfl rfl) (by rw [O5,if_pos (by omega)])
 ·have h:=A1 ((by simp only [or_pick] at ht;exact ht):decide _=false)
  refine k5 (k1 (k2 (k2 (A3 (A4 Z Z (A5 ?_))))));refine k1 (k3 (k2 (A3 (A6 (K0 Z Z) Z (A7 Z Z (A5 ?_))))));refine k1 ?_;refine B3 rfl (fun ht=>?_) (fun ht=>?_)
  ·have h0:=A0 ht
   refine k2 (A3 (A4 Z Z (C4 (A45 a) Z Z Z ?_)));rintro _ rfl;refine A6 (G7 Z Z (by simp;omega)) Z (A7 Z Z (A5 ?_));refine k1 (k10 (k12 (k11 ?_)))
   exact B6 (G6 rfl rfl rfl) (by rw [O5,if_neg (by omega),if_pos h0])
  ·have h0:=A1 ht
   refine k2 (A3 (A6 (K0 Z Z) Z (A7 Z Z (A5 ?_))));refine k1 ?_;refine B3 rfl (fun ht=>?_) (fun ht=>?_)
   ·have h1:=A0 ht
    refine k2 (A3 (A4 Z Z (C6 Z Z Z (C4 (A45 (a+1)) Z Z Z ?_))));rintro _ rfl;refine A7 Z Z (A5 ?_);refine k1 (k10 (k12 (k11 ?_)))
    exact B6 (G6 rfl rfl rfl) (by rw [O5,if_neg (by omega),if_neg h0,if_pos h1])
   ·have h1:=A1 ht
    refine k5 (k2 (A3 (A4 Z Z (C6 Z Z Z (C4 (A45 (a+1)) Z Z Z ?_)))));rintro _ rfl;refine A6 (G7 Z Z (by simp;omega)) Z (A4 Z Z (C4 (A45 n) Z Z Z ?_));rintro _ rfl;refine A6 (G7 Z Z (by simp;omega)) Z (A7 Z Z (A5 ?_));refine k1 (k10 ?_)
    exact B6 (G6 rfl rfl rfl) (by rw [O5,if_neg (by omega),if_neg h0,if_neg h1])
theorem c9:([48,49,50,51,52,53,54,55]:Str).length=8:=rfl
theorem u8q (c:UInt8) (k:Nat):IntKind.u8.wrap ((c.toNat:Int).tdiv (k:Int))=((c.toNat / k:Nat):Int):=by
 have hc:=c.toNat_lt
 have h1:(c.toNat:Int).tdiv (k:Int)=((c.toNat / k:Nat):Int):=by rw [Int.tdiv_eq_ediv_of_nonneg (by omega)];simp
 have h2:c.toNat / k≤c.toNat:=Nat.div_le_self _ _
 rw [h1]
 generalize c.toNat / k=q at *
 rw [IntWalk.u8_in _ (by omega)]
theorem u8r (n k:Nat):(n:Int).tmod (k:Int)=((n % k:Nat):Int):=by
 rw [Int.tmod_eq_emod_of_nonneg (by omega)];simp
theorem u8s (n:Nat) (h:n < 255):IntKind.u8.wrap ((n:Int)+1)=((n+1:Nat):Int):=by
 rw [IntWalk.u8_in _ (by omega)];simp
set_option maxHeartbeats 1000000 in
theorem I75 (s:Str) (hs:s.length≤16777216):FnOk Tryz.prog 138 [N2 s] (fun rs=>rs=[N2 (d9 s)]):=by
 refine FnOk.intro Tryz.func138 (by decide) Z Z Z Z ?_
 refine k2 (A3 (A7 Z Z (A5 ?_)));refine k1 (k2 (A3 (A4 Z Z (A6 (C11 Z Z) Z (A7 Z Z (A5 ?_))))));refine k1 (k2 (A3 (A7 Z Z (A5 ?_))));refine k1 (k2 (k2 (A3 (A7 Z Z (A5 ?_)))));refine k1 (k3 ?_);refine D6 (X:=Nat) (fun i=>([(0,X6 s),(3,K3 (.bool (plains s i))),(4,X6 (34::escs s i)),(5,B9 i)],[])) (fun i=>i≤s.length) (fun i=>s.length - i) 0 (Nat.zero_le _) ?_ ?_
 ·rw [D77,J11]
  first | exact J69 ⟨le1 rfl,le1 rfl,le1 rfl,le1 rfl,trivial⟩ trivial | trace_state
 intro i hi
 dsimp only at hi ⊢
 have hel:=H19 s i hi
 refine k2 (k2 (A3 (A4 Z Z (A4 Z Z (A6 (N3 Z) Z (E4 Z Z Z (A5 ?_)))))));refine k1 ?_;refine B3 rfl (fun ht=>?_) (fun ht=>?_)
 ·have hlt:i < s.length:=by have:=A0 ht;omega
  have hv:s[i]?=some s[i]:=by simp [hlt]
  obtain ⟨c,hc⟩:∃c,c=s[i]:=⟨_,rfl⟩
  have h1:=F80 s i hlt
  have h2:=D78 s i hlt
  rw [←hc] at hv h1 h2
  have h3:=c.toNat_lt
  refine k5 (k1 (k2 (k3 (k2 (A3 (A4 Z Z (A4 Z Z (A6 (p6 Z Z (by omega) hv) Z (A7 Z Z (A5 ?_))))))))));refine k1 (k2 (A3 (A4 Z Z (A4 Z Z (B2 Z Z Z Z (fun hg=>by rw [hg];exact B7 Z Z) ?_)))));refine B2 Z Z Z Z (fun hg=>by have hq:=hg;(try simp at hq);rw [hg];exact H2 (I72 c) Z Z) ?_;refine J4 Z Z ?_;refine A7 Z Z (A5 ?_)
  rw [show (if plains s i=true then B35 c else false)=plains s (i+1) from by rw [h2];cases plains s i<;>rfl]
  have hsub:(s.drop i).take 1=[c]:=by rw [K13 hlt,←hc];rfl
  have hone:(i:Int).toNat=i∧((i:Int)+1).toNat - i=1:=by omega
  refine k1 (k3 (k2 (A3 (A4 Z Z (A6 (K0 Z Z) Z (A4 Z Z (B2 Z Z Z Z (fun hg=>by rw [hg];exact B7 Z Z) ?_)))))));refine B2 Z Z Z Z (fun hg=>by rw [hg];exact K0 Z Z) ?_;refine J4 Z Z ?_;refine A7 Z Z (A5 ?_);refine k1 ?_;refine B3 rfl (fun ht=>?_) (fun ht=>?_)
  ·have h:=A0 (or_pick.symm.trans ht)
   skip
   refine A3 (A4 Z Z (A6 (G7 Z Z (by (simp;omega))) Z (A4 Z Z (A4 Z Z (A4 Z Z (C6 Z Z Z (A6 (A06 Z Z Z (by omega) (by omega) (by omega)) Z (A6 (G7 Z Z (by (simp;omega))) Z (A7 Z Z (A5 ?_))))))))));refine k4 (k4 (k1 (A3 (A4 Z Z (C6 Z Z Z (A7 Z Z (A5 ?_)))))));refine k1 ?_;refine ⟨i+1,hlt,by omega,?_⟩
   rw [h1,show b8 c=_ from by rw [b8,if_pos (by omega)]]
   rw [hone.1,hone.2,hsub,K18]
   exact J69 ⟨le1 rfl,le1 rfl,le1 rfl,le1 rfl,trivial⟩ trivial
  ·have h:=A1 (or_pick.symm.trans ht)
   refine k2 (A3 (A4 Z Z (A6 (K0 Z Z) Z (A7 Z Z (A5 ?_)))));refine k1 ?_;refine B3 rfl (fun ht=>?_) (fun ht=>?_)
   ·have h4:=A0 ht
    skip
    refine A3 (A4 Z Z (A6 (G7 Z Z (by simp;omega)) Z (A7 Z Z (A5 ?_))));refine k4 (k4 (k1 (A3 (A4 Z Z (C6 Z Z Z (A7 Z Z (A5 ?_)))))));refine k1 ?_;refine ⟨i+1,hlt,by omega,?_⟩
    rw [h1,show b8 c=_ from by rw [b8,if_neg (by omega),if_pos (by omega)]]
    exact J69 ⟨le1 rfl,le1 rfl,le1 rfl,le1 rfl,trivial⟩ trivial
   ·have h4:=A1 ht
    refine k2 (A3 (A4 Z Z (A6 (K0 Z Z) Z (A7 Z Z (A5 ?_)))));refine k1 ?_;refine B3 rfl (fun ht=>?_) (fun ht=>?_)
    ·have h5:=A0 ht
     skip
     refine A3 (A4 Z Z (A6 (G7 Z Z (by simp;omega)) Z (A7 Z Z (A5 ?_))));refine k4 (k4 (k1 (A3 (A4 Z Z (C6 Z Z Z (A7 Z Z (A5 ?_)))))));refine k1 ?_;refine ⟨i+1,hlt,by omega,?_⟩
     rw [h1,show b8 c=_ from by rw [b8,if_neg (by omega),if_neg (by omega),if_pos (by omega)]]
     exact J69 ⟨le1 rfl,le1 rfl,le1 rfl,le1 rfl,trivial⟩ trivial
    ·have h5:=A1 ht
     refine k2 (A3 (A4 Z Z (E4 Z Z Z (A4 Z Z (B2 Z Z Z Z (fun hg=>by rw [hg];exact B7 Z Z) ?_)))));refine B2 Z Z Z Z (fun hg=>by rw [hg];exact N5 Z Z) ?_;refine J4 Z Z ?_;refine A7 Z Z (A5 ?_);refine k1 ?_;refine B3 rfl (fun ht=>?_) (fun ht=>?_)
     ·have h6:=A0 (or_pick.symm.trans ht)
      have e1:IntKind.u8.wrap ((c.toNat:Int).tdiv 64)=((c.toNat / 64:Nat):Int):=u8q c 64
      have e2:IntKind.u8.wrap ((c.toNat:Int).tdiv 8)=((c.toNat / 8:Nat):Int):=u8q c 8
      have e3:(IntKind.u8.wrap ((c.toNat:Int).tdiv 8)).tmod 8=((c.toNat / 8 % 8:Nat):Int):=by rw [e2];exact u8r _ 8
      have e4:(c.toNat:Int).tmod 8=((c.toNat % 8:Nat):Int):=u8r _ 8
      have e5:IntKind.u8.wrap (IntKind.u8.wrap ((c.toNat:Int).tdiv 64)+1)=((c.toNat / 64+1:Nat):Int):=by rw [e1];exact u8s _ (by omega)
      have e6:IntKind.u8.wrap ((IntKind.u8.wrap ((c.toNat:Int).tdiv 8)).tmod 8+1)=((c.toNat / 8 % 8+1:Nat):Int):=by rw [e3];exact u8s _ (by omega)
      have e7:IntKind.u8.wrap ((c.toNat:Int).tmod 8+1)=((c.toNat % 8+1:Nat):Int):=by rw [e4];exact u8s _ (by omega)
      have hol:=F78 c
      have hob:b8 c=92::D76 c:=by rw [b8,if_neg (by omega),if_neg (by omega),if_neg (by omega),if_pos (by omega)]
      have g1:c.toNat / 64 < 8:=by omega
      skip
      refine C9 (by kernel_rfl) (by kernel_rfl) (C8 Z Z (A9 (G7 Z Z (by (simp;omega))) Z Z (C8 Z Z (A9 (C71 Z Z (by omega)) Z Z (C8 Z Z (A9 (C71 Z Z (by omega)) Z Z (A9 (A57 Z Z) Z Z (A9 (A06 Z Z Z (by (first | omega | (simp only [c9];omega))) (by (first | omega | (simp only [c9];omega))) (by (first | omega | (simp only [c9];omega)))) Z Z (A9 (G7 Z Z (by (simp only [K06,K08,K11,K19,K23];omega))) Z Z (C8 Z Z (A9 (C71 Z Z (by omega)) Z Z (A9 (B70 Z Z (by omega)) Z Z (C8 Z Z (A9 (C71 Z Z (by omega)) Z Z (A9 (B70 Z Z (by omega)) Z Z (A9 (A57 Z Z) Z Z (A9 (A06 Z Z Z (by (first | omega | (simp only [c9];omega))) (by (first | omega | (simp only [c9];omega))) (by (first | omega | (simp only [c9];omega)))) Z Z (A9 (G7 Z Z (by (simp only [K06,K08,K11,K19,K23];omega))) Z Z (C8 Z Z (A9 (B70 Z Z (by omega)) Z Z (C8 Z Z (A9 (B70 Z Z (by omega)) Z Z (A9 (A57 Z Z) Z Z ?_)))))))))))))))))))))));refine A9 (A06 Z Z Z (by (first | omega | (simp only [c9];omega))) (by (first | omega | (simp only [c9];omega))) (by (first | omega | (simp only [c9];omega)))) Z Z (A9 (G7 Z Z (by (simp only [K06,K08,K11,K19,K23];omega))) Z Z (A9 (J6 Z Z) Z Z (L6 ?_)))
      have k1:∀q:Nat,((q+1:Nat):Int).toNat - ((q:Nat):Int).toNat=1:=fun q=>by omega
      refine k4 (k4 (A3 (A4 Z Z (C6 Z Z Z (A7 Z Z (A5 ?_))))))
      skip
      refine ⟨i+1,hlt,by omega,?_⟩
      rw [e5,e6,e7,e1,e3,e4,k1 (c.toNat / 64),k1 (c.toNat / 8 % 8),k1 (c.toNat % 8),h1,hob,show 34::(escs s i++(92::D76 c))=34::escs s i++[92]++(digs8.drop (c.toNat / 64)).take 1++(digs8.drop (c.toNat / 8 % 8)).take 1++(digs8.drop (c.toNat % 8)).take 1 from by unfold D76;simp only [K45,K18,K39]]
      exact J69 ⟨le1 rfl,le1 rfl,le1 rfl,le1 rfl,trivial⟩ trivial
     ·have h6:=A1 (or_pick.symm.trans ht)
      skip
      refine A3 (A4 Z Z (A4 Z Z (A4 Z Z (A4 Z Z (C6 Z Z Z (A6 (A06 Z Z Z (by omega) (by omega) (by omega)) Z (A6 (G7 Z Z (by simp;omega)) Z (A7 Z Z (A5 ?_)))))))));refine k4 (k4 (k1 (A3 (A4 Z Z (C6 Z Z Z (A7 Z Z (A5 ?_)))))));refine k1 ?_;refine ⟨i+1,hlt,by omega,?_⟩
      rw [h1,show b8 c=_ from by rw [b8,if_neg (by omega),if_neg (by omega),if_neg (by omega),if_neg (by omega)]]
      rw [hone.1,hone.2,hsub]
      exact J69 ⟨le1 rfl,le1 rfl,le1 rfl,le1 rfl,trivial⟩ trivial
 ·have hi':i=s.length:=by have:=A1 ht;omega
  subst hi'
  refine k6 (k2 (k2 (A3 (A4 Z Z (A5 ?_)))));refine k1 ?_;refine B3 rfl (fun ht=>?_) (fun ht=>?_)
  ·have h:plains s s.length=true:=ht
   refine k2 (A3 (A4 Z Z (A7 Z Z (A5 ?_))));refine k1 (k10 (k11 ?_))
   exact B6 (G6 rfl rfl rfl) (by rw [B36,if_pos h])
  ·have h:plains s s.length=false:=ht
   refine k5 (k1 (k2 (A3 (A4 Z Z (A6 (G7 Z Z (by simp;omega)) Z (A7 Z Z (A5 ?_)))))));refine k1 (k10 ?_)
   exact B6 (G6 rfl rfl rfl) (by rw [B36,h];rfl)
end Go.Proofs.YtbiadkkamhpdnaaGreatDoor
namespace Go.Proofs.YtbiadkkamhpdnaaGreatDoor
open Go Go.AL Go.RowKit
set_option maxRecDepth 100000
theorem u8dig (q:Nat) (h:q < 8):IntKind.u8.wrap (48+(q:Int))=((UInt8.ofNat (48+q)).toNat:Int):=by
 rw [IntWalk.u8_in _ (by omega)]
 have:(UInt8.ofNat (48+q)).toNat=48+q:=by rw [UInt8.toNat_ofNat'];omega
 rw [this];simp
theorem I37 (x:Nat) (h:x < 256):IntKind.u8.wrap ((BitVec.ofInt IntKind.u8.bits (x:Int) &&& BitVec.ofInt IntKind.u8.bits 7).toNat:Int)=((x % 8:Nat):Int):=by
 have h1:(BitVec.ofInt IntKind.u8.bits (x:Int) &&& BitVec.ofInt IntKind.u8.bits 7).toNat=x % 8:=by
  rw [BitVec.toNat_and,BitVec.toNat_ofInt,BitVec.toNat_ofInt]
  have e1:((x:Int) % ((2 ^ IntKind.u8.bits:Nat):Int)).toNat=x:=by
   rw [show ((2 ^ IntKind.u8.bits:Nat):Int)=256 by rfl];omega
  have e2:((7:Int) % ((2 ^ IntKind.u8.bits:Nat):Int)).toNat=2 ^ 3 - 1:=by rfl
  rw [e1,e2,Nat.and_two_pow_sub_one_eq_mod]
 rw [h1,IntWalk.u8_in _ (by omega)]
theorem shr_u8 (x:Nat) (c:Nat) (h:c≤8):(x:Int).fdiv (2 ^ min (Int.toNat (c:Int)) IntKind.u8.bits)=((x / 2 ^ c:Nat):Int):=by
 rw [shr_eq _ _ IntKind.u8.bits ⟨by omega,by show (c:Int)≤8;omega⟩]
 simp
theorem H69 (c:UInt8):FnOk Tryz.prog 198 [pByte c] (fun rs=>rs=[N2 (b8 c)]):=by
 have hc:=c.toNat_lt
 refine FnOk.intro Tryz.func198 (by decide) Z Z Z Z ?_
 refine k2 (A3 (A7 Z Z (A5 ?_)));refine k1 (k2 (k3 (k2 (A3 (A4 Z Z (A6 (K0 Z Z) Z (A4 Z Z (B2 Z Z Z Z (fun hg=>by rw [hg];exact B7 Z Z) ?_))))))));refine B2 Z Z Z Z (fun hg=>by rw [hg];exact K0 Z Z) ?_;refine J4 Z Z ?_;refine A7 Z Z (A5 ?_);refine k1 ?_;refine B3 rfl (fun ht=>?_) (fun ht=>?_)
 ·have h:=A0 (or_pick.symm.trans ht)
  refine k2 (A3 (A4 Z Z (A6 (C35 Z (by omega)) Z (A6 (G7 Z Z (by simp)) Z (A7 Z Z (A5 ?_))))));refine k1 (k10 (k12 (k11 ?_)))
  exact B6 (G6 rfl rfl rfl) (by rw [b8,if_pos (by omega)];rfl)
 ·have h:=A1 (or_pick.symm.trans ht)
  refine k2 (A3 (A4 Z Z (A6 (K0 Z Z) Z (A7 Z Z (A5 ?_)))));refine k1 ?_;refine B3 rfl (fun ht=>?_) (fun ht=>?_)
  ·have h1:=A0 ht
   refine k2 (A3 (A7 Z Z (A5 ?_)));refine k1 (k10 (k12 (k11 ?_)))
   exact B6 (G6 rfl rfl rfl) (by rw [b8,if_neg (by omega),if_pos (by omega)])
  ·have h1:=A1 ht
   refine k2 (A3 (A4 Z Z (A6 (K0 Z Z) Z (A7 Z Z (A5 ?_)))));refine k1 ?_;refine B3 rfl (fun ht=>?_) (fun ht=>?_)
   ·have h2:=A0 ht
    refine k2 (A3 (A7 Z Z (A5 ?_)));refine k1 (k10 (k12 (k11 ?_)))
    exact B6 (G6 rfl rfl rfl) (by rw [b8,if_neg (by omega),if_neg (by omega),if_pos (by omega)])
   ·have h2:=A1 ht
    refine k2 (A3 (A4 Z Z (E4 Z Z Z (A4 Z Z (B2 Z Z Z Z (fun hg=>by rw [hg];exact B7 Z Z) ?_)))));refine B2 Z Z Z Z (fun hg=>by rw [hg];exact N5 Z Z) ?_;refine J4 Z Z ?_;refine A7 Z Z (A5 ?_);refine k1 ?_;refine B3 rfl (fun ht=>?_) (fun ht=>?_)
    ·have h3:=A0 (or_pick.symm.trans ht)
     refine k2 ?_
     have f6:(c.toNat:Int).fdiv (2 ^ min (Int.toNat 6) IntKind.u8.bits)=((c.toNat / 64:Nat):Int):=shr_u8 c.toNat 6 (by omega)
     have f3:(c.toNat:Int).fdiv (2 ^ min (Int.toNat 3) IntKind.u8.bits)=((c.toNat / 8:Nat):Int):=shr_u8 c.toNat 3 (by omega)
     have e1:=u8dig (c.toNat / 64) (by omega)
     have e2:=u8dig (c.toNat / 8 % 8) (by omega)
     have e3:=u8dig (c.toNat % 8) (by omega)
     have hol:=H18 c
     refine A3 (A4 Z Z (A6 (A89 Z Z (by omega)) Z (A6 (A57 Z Z) Z (A4 Z Z (A6 (A89 Z Z (by omega)) Z (A6 (X9 Z Z Z (fun _=>rfl)) Z (A6 (A57 Z Z) Z (A4 Z Z (A6 (X9 Z Z Z (fun _=>rfl)) Z (A6 (A57 Z Z) Z ?_))))))))));rw [f6,f3,I37 (c.toNat / 8) (by omega),I37 c.toNat (by omega),e1,e2,e3];refine A6 (D5 (c:=u8C) (ys:=[UInt8.ofNat (48+c.toNat / 64),UInt8.ofNat (48+c.toNat / 8 % 8),UInt8.ofNat (48+c.toNat % 8)]) (E0 Z Z Z Z (E0 Z Z Z Z (E0 Z Z Z Z F3))) Z Z Z) Z (A6 (a6 TyStr.out Z (.pure _ _ _ _)) Z (A6 (G7 Z Z (by simp)) Z (A7 Z Z (A5 ?_))));refine k1 (k10 (k12 (k11 ?_)))
     exact B6 (G6 rfl rfl rfl) (by rw [b8,if_neg (by omega),if_neg (by omega),if_neg (by omega),if_pos (by omega),hol];rfl)
    ·have h3:=A1 (or_pick.symm.trans ht)
     refine k5 (k2 (A3 (A4 Z Z (A6 (C35 Z (by omega)) Z (A7 Z Z (A5 ?_))))));refine k1 (k10 ?_)
     exact B6 (G6 rfl rfl rfl) (by rw [b8,if_neg (by omega),if_neg (by omega),if_neg (by omega),if_neg (by omega)])
theorem itoa_ok (n:Int) (h:0≤n∧n≤2147483647):FnOk Tryz.prog 205 [H3 n] (fun rs=>rs=[N2 (Lib.itoa n)]) :=
 J86 (xs:=[.int .i64 n]) (r:=.string ⟨(Lib.itoa n).toArray⟩) ⟨_,rfl,rfl,rfl⟩ rfl fun w hw =>
  (Tryz.strconv_Itoa n (by omega) (by omega) w (hw.pow10 rfl)).mono fun e w' ⟨he,k,os,hw'⟩=>⟨he,by subst hw';exact Lib.below_grow _ _ (Nat.le_refl _) _ _⟩
theorem y5 (n:Int):FnOk Tryz.prog 148 [H3 n] (fun rs=>rs=[N2 (l5 n)]):=by
 refine FnOk.intro Tryz.func148 (by decide) Z Z Z Z ?_
 refine k2 (A3 (A7 Z Z (A5 ?_)));refine k1 (k2 (k2 (A3 (A4 Z Z (E4 Z Z Z (A4 Z Z (B2 Z Z Z Z (fun hg=>by rw [hg];exact B7 Z Z) ?_)))))));refine B2 Z Z Z Z (fun hg=>by rw [hg];exact N5 Z Z) ?_;refine J4 Z Z ?_;refine A5 ?_;refine k1 ?_;refine B3 rfl (fun ht=>?_) (fun ht=>?_)
 ·have h:=A0 (or_pick.symm.trans ht)
  refine k2 (A3 (A7 Z Z (A5 ?_)));refine k1 (k10 (k11 ?_))
  exact B6 (G6 rfl rfl rfl) (by rw [l5,if_pos (by omega)])
 ·have h:=A1 (or_pick.symm.trans ht)
  refine k5 (k1 (k2 (A3 (A4 Z Z (C4 (itoa_ok n (by omega)) Z Z Z ?_)))));rintro _ rfl;refine A7 Z Z (A5 ?_);refine k1 (k10 ?_)
  exact B6 (G6 rfl rfl rfl) (by rw [l5,if_neg (by omega)])
theorem F66 (a n:Int) (ha:-4611686018427387904≤a∧a≤4611686018427387904) (hn:-4611686018427387904≤n∧n≤4611686018427387904):FnOk Tryz.prog 151 [H3 a,H3 n] (fun rs=>rs=[N2 (O5 a n)]):=by
 refine FnOk.intro Tryz.func151 (by decide) Z Z Z Z ?_
 refine k2 (A3 (A7 Z Z (A5 ?_)));refine k1 (k2 (k2 (A3 (A4 Z Z (E4 Z Z Z (A4 Z Z (B2 Z Z Z Z (fun hg=>by rw [hg];exact B7 Z Z) ?_)))))));refine B2 Z Z Z Z (fun hg=>by rw [hg];exact A05 Z Z) ?_;refine J4 Z Z ?_;refine A4 Z Z (B2 Z Z Z Z (fun hg=>by rw [hg];exact B7 Z Z) ?_);refine B2 Z Z Z Z (fun hg=>by rw [hg];exact N5 Z Z) ?_;refine J4 Z Z ?_;refine A4 Z Z (B2 Z Z Z Z (fun hg=>by rw [hg];exact B7 Z Z) ?_);refine B2 Z Z Z Z (fun hg=>by rw [hg];exact B7 Z Z) ?_;refine B2 Z Z Z Z (fun hg=>by rw [hg];exact U0 Z Z (by (first | omega | (simp at hq;omega)))) ?_;refine B2 Z Z Z Z (fun hg=>by rw [hg];exact N5 Z Z) ?_;refine J4 Z Z ?_;refine A5 ?_;refine k1 ?_
 have l1:=X4 a
 have l2:=X4 (a+1)
 have l3:=X4 n
 refine B3 rfl (fun ht=>?_) (fun ht=>?_)
 ·have h:=A0 ((by simp only [or_pick] at ht;exact ht):decide _=true)
  refine k2 (A3 (A7 Z Z (A5 ?_)));refine k1 (k10 (k11 ?_))
  exact B6 (G6 rfl rfl rfl) (by rw [O5,if_pos (by omega)])
 ·have h:=A1 ((by simp only [or_pick] at ht;exact ht):decide _=false)
  refine k5 (k1 (k2 (k2 (A3 (A4 Z Z (A5 ?_))))));refine k1 (k3 (k2 (A3 (A6 (K0 Z Z) Z (A7 Z Z (A5 ?_))))));refine k1 ?_;refine B3 rfl (fun ht=>?_) (fun ht=>?_)
  ·have h0:=A0 ht
   refine k2 (A3 (A4 Z Z (C4 (y5 a) Z Z Z ?_)));rintro _ rfl;refine A6 (G7 Z Z (by simp;omega)) Z (A7 Z Z (A5 ?_));refine k1 (k10 (k12 (k11 ?_)))
   exact B6 (G6 rfl rfl rfl) (by rw [O5,if_neg (by omega),if_pos h0])
  ·have h0:=A1 ht
   refine k2 (A3 (A6 (K0 Z Z) Z (A7 Z Z (A5 ?_))));refine k1 ?_;refine B3 rfl (fun ht=>?_) (fun ht=>?_)
   ·have h1:=A0 ht
    refine k2 (A3 (A4 Z Z (C6 Z Z Z (C4 (y5 (a+1)) Z Z Z ?_))));rintro _ rfl;refine A7 Z Z (A5 ?_);refine k1 (k10 (k12 (k11 ?_)))
    exact B6 (G6 rfl rfl rfl) (by rw [O5,if_neg (by omega),if_neg h0,if_pos h1])
   ·have h1:=A1 ht
    refine k5 (k2 (A3 (A4 Z Z (C6 Z Z Z (C4 (y5 (a+1)) Z Z Z ?_)))));rintro _ rfl;refine A6 (G7 Z Z (by simp;omega)) Z (A4 Z Z (C4 (y5 n) Z Z Z ?_));rintro _ rfl;refine A6 (G7 Z Z (by simp;omega)) Z (A7 Z Z (A5 ?_));refine k1 (k10 ?_)
    exact B6 (G6 rfl rfl rfl) (by rw [O5,if_neg (by omega),if_neg h0,if_neg h1])
theorem A85 (B b:Nat) (l:List UInt8) (w:World) (h:Lib.IsBuilder 124 5 B b (Lib.byteCells l) w) (hBw:B≤w.heap.size) :
  Calls Tryz.prog 89 #[.pointer (some ⟨b,0,none⟩)] w fun e w'=>e=.returned (.string ⟨l.toArray⟩)∧Below B w w':=Tryz.Builder_String_any B b l w h hBw
theorem F67 (s:Str) (hs:s.length≤16777216):FnOk Tryz.prog 134 [N2 s] (fun rs=>rs=[N2 (d9 s)]):=by
 refine FnOk.intro Tryz.func134 (by decide) Z Z Z Z ?_
 refine k2 (A3 (A7 Z Z (A5 ?_)));refine k1 (k2 (A3 (A4 Z Z (A6 (C11 Z Z) Z (A7 Z Z (A5 ?_))))));refine k1 (k2 (k2 (A3 (A4 Z Z (A6 (N3 Z) Z (A4 Z Z (A5 ?_)))))));refine k1 (k3 ?_);refine D6 (X:=Nat) (fun i=>([(0,X6 s),(3,K3 (.bool (plains s i))),(10,B9 s.length),(11,B9 i)],[])) (fun i=>i≤s.length) (fun i=>s.length - i) 0 (Nat.zero_le _) ?_ ?_
 ·rw [D77]
  exact J69 ⟨le1 rfl,le1 rfl,le1 rfl,le1 rfl,trivial⟩ trivial
 intro i hi
 dsimp only at hi ⊢
 refine k2 (A3 (E4 Z Z Z (A5 ?_)));refine k1 (k2 ?_);refine B3 rfl (fun ht=>?_) (fun ht=>?_)
 ·have hlt:i < s.length:=by have:=A0 ht;omega
  have hv:s[i]?=some s[i]:=by simp [hlt]
  obtain ⟨c,hc⟩:∃c,c=s[i]:=⟨_,rfl⟩
  have h2:=D78 s i hlt
  rw [←hc] at hv h2
  refine k5 (k1 (k2 (k3 (k2 (A3 (A4 Z Z (A7 Z Z (A5 ?_))))))));refine k1 (A3 (A4 Z Z (A4 Z Z (B2 Z Z Z Z (fun hg=>by rw [hg];exact B7 Z Z) ?_))));refine B2 Z Z Z Z (fun hg=>by rw [hg];exact B7 Z Z) ?_;refine B2 Z Z Z Z (fun hg=>by have hq:=hg;(try simp at hq);rw [hg];exact p6 Z Z (by omega) hv) ?_;refine B2 Z Z Z Z (fun hg=>by have hq:=hg;(try simp at hq);rw [hg];exact H2 (I73 c) Z Z) ?_;refine J4 Z Z ?_;refine A7 Z Z (A5 ?_);refine k4 (k1 (A3 (C6 Z Z Z (A4 Z Z (A5 ?_)))));refine k1 ?_;refine ⟨i+1,hlt,by omega,?_⟩
  rw [show (if plains s i=true then B35 c else false)=plains s (i+1) from by rw [h2];cases plains s i<;>rfl]
  exact J69 ⟨le1 rfl,le1 rfl,le1 rfl,le1 rfl,trivial⟩ trivial
 have hi':i=s.length:=by have:=A1 ht;omega
 subst hi'
 refine k6 (k2 (k2 (A3 (A4 Z Z (A5 ?_)))));refine k1 ?_;refine B3 rfl (fun ht=>?_) (fun ht=>?_)
 ·have h:plains s s.length=true:=ht
  refine k2 (A3 (A4 Z Z (A7 Z Z (A5 ?_))));refine k1 (k10 (k11 ?_))
  exact B6 (G6 rfl rfl rfl) (by rw [B36,if_pos h])
 have h:plains s s.length=false:=ht
 have hq:d9 s=(34::escs s s.length)++[34]:=by rw [B36,h];rfl
 refine k5 (k1 (k2 (A3 (C1 (E25 700 Z) Z (A5 ?_)))));refine k1 (k2 (G5 (J84 701 UInt8 1 u8C 5 (kb:=700) (o:=1) Z Z Z) ?_))
 refine A3 (B57 (C40 (xs:=[]) (c:=34) ⟨⟨_,.inl rfl,rfl⟩,rfl⟩ (by simp)) Z Z Z ?_);rintro _ _ ⟨rfl,rfl⟩;refine A5 ?_;refine k1 (k2 (k2 (A3 (A4 Z Z (A6 (N3 Z) Z (A4 Z Z (A5 ?_)))))));refine k1 (k3 (D6 (X:=Nat) (fun i=>([(0,X6 s),(5,.s (.one (.ref 700 0))),(26,B9 s.length),(27,B9 i)],[(700,.tbx 124 [.ref 700 0,.buf 701 UInt8 1 u8C (34::escs s i)]),(701,.spare (34::escs s i).length 1 5)])) (fun i=>i≤s.length) (fun i=>s.length - i) 0 (Nat.zero_le _) (J69 ⟨le1 rfl,le1 rfl,le1 rfl,le1 rfl,trivial⟩ ⟨rfl,rfl,trivial⟩) ?_))
 intro i hi
 dsimp only at hi ⊢
 have hel:=H19 s i hi
 refine k2 (A3 (E4 Z Z Z (A5 ?_)));refine k1 (k2 ?_);refine B3 rfl (fun ht=>?_) (fun ht=>?_)
 ·have hlt:i < s.length:=by have:=A0 ht;omega
  have hv:s[i]?=some s[i]:=by simp [hlt]
  obtain ⟨c,hc⟩:∃c,c=s[i]:=⟨_,rfl⟩
  have h1:=F80 s i hlt
  have h2:=F79 c
  rw [←hc] at hv h1
  refine k5 (k1 (k2 (k3 (k2 (A3 (A4 Z Z (A7 Z Z (A5 ?_))))))));refine k1 (A3 (A4 Z Z (A4 Z Z (A6 (p6 Z Z (by omega) hv) Z (C4 (H69 c) Z Z Z ?_)))));rintro _ rfl;refine B57 (T4 (xs:=34::escs s i) (s:=b8 c) ⟨⟨_,.inr rfl,rfl⟩,rfl⟩ (by simp only [K08];omega)) Z Z Z ?_;rintro _ _ ⟨rfl,rfl⟩;refine A5 ?_;refine k4 (k1 (A3 (C6 Z Z Z (A4 Z Z (A5 ?_)))));refine k1 ?_;refine ⟨i+1,hlt,by omega,?_⟩
  rw [h1]
  exact J69 ⟨le1 rfl,le1 rfl,le1 rfl,le1 rfl,trivial⟩ ⟨rfl,rfl,trivial⟩
 have hi':i=s.length:=by have:=A1 ht;omega
 subst hi'
 refine k6 (k2 (A3 (B57 (C40 (xs:=34::escs s s.length) (c:=34) ⟨⟨_,.inr rfl,rfl⟩,rfl⟩ (by simp only [K08];omega)) Z Z Z ?_)));rintro _ _ ⟨rfl,rfl⟩;refine A5 ?_;refine k1 (k2 (A3 (D31 (k:=700) (k':=701) ⟨_,rfl,rfl,rfl⟩ A85 Z Z Z Z Z (.inr Z) Z (A7 Z Z (A5 ?_)))));refine k1 (k10 ?_)
 exact B6 (G6 rfl rfl rfl) (by rw [hq])
theorem F68 (s:Str) (c:UInt8):FnOk Tryz.prog 216 [N2 s,N2 [c]] (fun rs=>rs=[H3 (s.count c)]) :=
 J77 (xs:=[.string ⟨s.toArray⟩,.string ⟨#[c]⟩]) ⟨_,rfl,rfl,rfl⟩ rfl fun w=>by simpa [Lib.countByte] using Tryz.strings_Count_one ⟨s.toArray⟩ c w
theorem I76 (s:Str) (c:UInt8):FnOk Tryz.prog 246 [N2 s,N2 [c]] (fun rs=>rs=[H3 (Lib.indexByte s c)]) :=
 J77 (xs:=[.string ⟨s.toArray⟩,.string ⟨#[c]⟩]) ⟨_,rfl,rfl,rfl⟩ rfl fun w=>by simpa using Tryz.strings_Index_one ⟨s.toArray⟩ c w
theorem G91 (s:Str) (hs:s.length≤536870912):FnOk Tryz.prog 217 [N2 s,N2 [10],H3 1,H3 (-1)] (fun rs=>rs=[x4 (T9 s)]):=by
 have hP:=b9 s []
 have hc:s.count 10≤s.length:=List.count_le_length
 have h10:([10]:Str).length=1:=rfl
 obtain ⟨P,hPe⟩:∃P,P=T9 s:=⟨_,rfl⟩
 have hPl:P.length=s.count 10+1:=by rw [hPe];exact hP
 refine FnOk.intro Tryz.func217 (by decide) Z Z Z Z ?_
 refine k2 (A3 (A7 Z Z (A5 ?_)));refine k1 (k2 (k2 (A3 (A4 Z Z (A6 (K0 Z Z) Z (A5 ?_))))));refine k1 ?_;refine B3 rfl (fun ht=>?_) (fun ht=>?_)
 ·exact absurd (A0 ht) (by omega)
 refine k5 (k1 (k2 (k2 (A3 (A4 Z Z (A6 (A30 Z Z) Z (A5 ?_)))))));refine k1 ?_;refine B3 rfl (fun ht=>?_) (fun ht=>?_)
 ·exact absurd (A0 ht) (by simp)
 refine k5 (k1 (k2 (k2 (A3 (A4 Z Z (E4 Z Z Z (A5 ?_)))))));refine k1 ?_;refine B3 rfl (fun ht=>?_) (fun ht=>?_)
 rotate_left
 ·exact absurd (A1 ht) (by omega)
 skip
 refine A3 (A4 Z Z (A4 Z Z (C4 (F68 s 10) Z Z Z ?_)));rintro _ rfl;refine C6 Z Z Z (A7 Z Z (A5 ?_));refine k1 (k2 (A3 (A4 Z Z (A4 Z Z (A6 (N3 Z) Z (C6 Z Z Z (A6 (n_min Z Z) Z (A7 Z Z (A5 ?_)))))))));refine k1 (k2 ?_)
 rw [show (if (s.length:Int)+1 < (s.count 10:Int)+1 then (s.length:Int)+1 else (s.count 10:Int)+1)=(P.length:Int) from by split<;>omega]
 refine A3 (A4 Z Z (C1 (Y0 9 Str M5 [] Z Z (by omega) (by omega) (fun _=>by first | exact ⟨⟨rfl,rfl⟩,trivial⟩ | exact ⟨P6 _ _ _,trivial⟩) (by first | rfl | (simp [I1,I7,Ob.free,SV.free,S1.free,TC.free]<;>rfl))) Z ?_));refine A7 Z Z (A5 ?_);refine k1 (k2 (A3 (A4 Z Z (A6 (U0 Z Z (by omega)) Z (A7 Z Z (A5 ?_))))));refine k1 (k2 (A3 (A7 Z Z (A5 ?_))));refine k1 (k2 (k3 (D6 (X:=Nat × Str) (fun x=>([(0,X6 x.2),(1,X6 [10]),(2,B9 1),(3,B9 ((P.length:Int) - 1)),(9,.s (.one (.mut 9))),(10,B9 x.1)],[(9,.arr Str 1 M5 (P.take x.1++List.replicate (P.length - x.1) []))])) (fun x=>x.1+1≤P.length∧P.drop x.1=T9 x.2∧x.2.length≤s.length) (fun x=>P.length - x.1) (0,s) ⟨by dsimp only;omega,hPe,Nat.le_refl _⟩ (J69 ⟨le1 rfl,le1 rfl,le1 rfl,le1 rfl,le1 rfl,le1 rfl,trivial⟩ ⟨rfl,trivial⟩) ?_)))
 rintro ⟨i,r⟩ ⟨hi,hp,hr⟩
 dsimp only at hi hp hr ⊢
 refine k2 (k2 (A3 (A4 Z Z (A4 Z Z (E4 Z Z Z (A5 ?_))))));refine k1 ?_;refine B3 rfl (fun ht=>?_) (fun ht=>?_)
 ·have hlt:i+1 < P.length:=by have:=A0 ht;omega
  have hin:(10:UInt8)∈r:=by
   have h1:=b9 r []
   have h2:(P.drop i).length=r.count 10+1:=by rw [hp];exact h1
   rw [K23] at h2
   exact List.count_pos_iff.1 (by omega)
  rcases A24 10 r with ⟨h1,_⟩ | ⟨a,b,h1,h2,h3⟩
  ·exact absurd hin h1
  obtain ⟨h4,h5⟩:=H96 hp h1 h2
  have hl:r.length=a.length+1+b.length:=by rw [h1];simp;omega
  refine k5 (k1 (k3 (k2 (A3 (A4 Z Z (A4 Z Z (C4 (I76 r 10) Z Z Z ?_)))))));rintro _ rfl;refine A7 Z Z (A5 ?_);refine k1 (k2 (k2 (A3 (A4 Z Z (E4 Z Z Z (A5 ?_))))));refine k1 ?_
  rw [h3]
  refine B3 rfl (fun ht=>?_) (fun ht=>?_)
  ·exact absurd (A0 ht) (by omega)
  refine k5 (k1 (k2 (A3 (A4 Z Z (A4 Z Z (A4 Z Z (A4 Z Z (A4 Z Z (C6 Z Z Z (A6 (G10 Z Z (by omega) (by omega)) Z (A6 (E3 Z Z Z (by omega) (by (simp;omega))) Z (F8 (I2 TySz.out Z Z (by simp;omega) Z Z) (A5 ?_)))))))))))));refine k1 (k2 (A3 (A4 Z Z (A4 Z Z (A4 Z Z (A6 (N3 Z) Z (C6 Z Z Z (A6 (n_sub_l Z Z (by omega) (by omega)) Z (A7 Z Z (A5 ?_))))))))));refine k1 (A3 (A4 Z Z (C6 Z Z Z (A7 Z Z (A5 ?_)))));refine k4 (k1 ?_)
  have e1:r.take (((a.length:Int)+1).toNat)=a++[10]:=by rw [h1,show ((a.length:Int)+1).toNat=a.length+1 by omega,show a++10::b=(a++[10])++b by simp,List.take_left' (by simp)]
  have e2:r.drop (((a.length:Int)+(([10]:Str).length:Int)).toNat)=b:=by rw [h1,h10,show ((a.length:Int)+((1:Nat):Int)).toNat=a.length+1 by omega,show a++10::b=(a++[10])++b by simp,List.drop_left' (by simp)]
  refine ⟨(i+1,b),⟨by dsimp only;omega,h5,by dsimp only;omega⟩,by dsimp only;omega,?_⟩
  rw [e1,e2]
  dsimp only
  rw [←F81 P [] _ i h4]
  exact J69 ⟨le1 rfl,le1 rfl,le1 rfl,le1 rfl,le1 rfl,le1 rfl,trivial⟩ ⟨rfl,trivial⟩
 ·have hge:i+1=P.length:=by have:=A1 ht;omega
  have h1:=b9 r []
  have h2:(P.drop i).length=r.count 10+1:=by rw [hp];exact h1
  rw [K23] at h2
  have h3:(10:UInt8)∉r:=List.count_eq_zero.1 (by omega)
  have h4:P[i]?=some r:=by rw [←List.head?_drop,hp];unfold T9;rw [F38 _ _ h3];rfl
  refine k6 (k2 (A3 (A4 Z Z (A4 Z Z (A4 Z Z (A6 (E3 Z Z Z (by omega) (by (simp;omega))) Z (F8 (I2 TySz.out Z Z (by simp;omega) Z Z) (A5 ?_))))))));refine k1 (k2 ?_)
  have e:(P.take i++List.replicate (P.length - i) ([]:Str)).set (i:Int).toNat r=P:=by rw [K12,F81 P [] r i h4,hge];simp
  rw [e]
  refine G5 (Sees.freeze (k:=9) Z) ?_
  refine A3 (A4 Z Z (A4 Z Z (C6 Z Z Z (A6 (C12 Z (.pure _ _ _ _) Z (by omega) (by omega)) Z (A7 Z Z (A5 ?_))))));refine k1 (k10 ?_)
  exact B6 (G6 rfl rfl rfl) (by rw [show ((i:Int)+1).toNat=P.length by omega,K28,hPe])
theorem F24 (s:Str) (hs:s.length≤536870912):FnOk Tryz.prog 174 [N2 s,N2 [10]] (fun rs=>rs=[x4 (T9 s)]):=by
 refine FnOk.intro Tryz.func174 (by decide) Z Z Z Z ?_
 refine k2 (A3 (A7 Z Z (A5 ?_)));refine k1 (k2 (A3 (A4 Z Z (A4 Z Z (A4 Z Z (A6 (N3 Z) Z (C4 (G91 s hs) Z Z Z ?_)))))));rintro _ rfl;refine A7 Z Z (A5 ?_);refine k1 (k10 ?_)
 exact B6 (G6 rfl rfl rfl) rfl
theorem I77 (s:Str) (hs:s.length≤536870912):FnOk Tryz.prog 173 [N2 s] (fun rs=>rs=[H3 (d7 s)]):=by
 have hl:=F39 s
 have hc:s.count 10≤s.length:=List.count_le_length
 refine FnOk.intro Tryz.func173 (by decide) Z Z Z Z ?_
 refine k2 (A3 (A7 Z Z (A5 ?_)));refine k1 (k2 (A3 (A4 Z Z (C4 (F68 s 10) Z Z Z ?_))));rintro _ rfl;refine A7 Z Z (A5 ?_);refine L0 ?_
 refine A21 [(0,X6 s),(3,B9 (C2 s).length)] [] ?_ ?_
 ·refine k2 (A3 (A4 Z Z (A6 (C11 Z Z) Z (A4 Z Z (B2 Z Z Z Z (fun hg=>by rw [hg];exact B7 Z Z) ?_)))));refine B2 Z Z Z Z (fun hg=>by have hq:=hg;(try simp at hq);rw [hg];exact H2 (C20 s (by omega)) Z Z) ?_;refine B2 Z Z Z Z (fun hg=>by rw [hg];exact B56 Z) ?_;refine J4 Z Z ?_;refine A5 ?_;refine k1 ?_;refine B3 rfl (fun ht=>?_) (fun ht=>?_)
  ·have h:s≠[]∧ended s=false:=by
    by_cases h1:s=[]
    ·simp [h1] at ht
    ·refine ⟨h1,?_⟩;simpa [h1] using ht
   rw [if_pos h] at hl
   skip
   refine A3 (A4 Z Z (C6 Z Z Z (A7 Z Z (A5 ?_))));refine k1 ?_
   rw [hl,Int.natCast_add]
   exact J69 ⟨le1 rfl,le1 rfl,trivial⟩ trivial
  ·have h:¬(s≠[]∧ended s=false):=by
    rintro ⟨h1,h2⟩
    simp [h1,h2] at ht
   rw [if_neg h] at hl
   refine k5 (k1 ?_)
   rw [hl]
   exact J69 ⟨le1 rfl,le1 rfl,trivial⟩ trivial
 ·refine k2 (k2 (A3 (A4 Z Z (A6 (N3 Z) Z (A6 (N5 Z Z) Z (A4 Z Z (B2 Z Z Z Z (fun hg=>by rw [hg];exact B7 Z Z) ?_)))))));refine B2 Z Z Z Z (fun hg=>by rw [hg];exact N5 Z Z) ?_;refine J4 Z Z ?_;refine A5 ?_;refine k1 ?_;refine B3 rfl (fun ht=>?_) (fun ht=>?_)
  ·have h:=A0 (or_pick.symm.trans ht)
   refine k2 (A3 (A7 Z Z (A5 ?_)));refine k1 (k10 (k11 ?_))
   exact B6 (G6 rfl rfl rfl) (by rw [d7,if_pos (by omega)])
  ·have h:=A1 (or_pick.symm.trans ht)
   refine k5 (k1 (k2 (A3 (A7 Z Z (A5 ?_)))));refine k1 (k10 ?_)
   exact B6 (G6 rfl rfl rfl) (by rw [d7,if_neg (by omega)])
theorem I78 (s:Str) (hs:s.length≤536870912):FnOk Tryz.prog 107 [N2 s] (fun rs=>rs=[x4 (C24 s).1,H3 (C24 s).2]):=by
 have hp:C2 s=if (T9 s).getLastD []=[] then (T9 s).dropLast else T9 s:=H20 s []
 have hc:(T9 s).length=s.count 10+1:=b9 s []
 have hcl:s.count 10≤s.length:=List.count_le_length
 refine FnOk.intro Tryz.func107 (by decide) Z Z Z Z ?_
 refine k2 (A3 (A7 Z Z (A7 Z Z (A5 ?_))));refine k1 (k2 (k2 (A3 (A4 Z Z (C4 (I77 s hs) Z Z Z ?_)))));rintro _ rfl;refine A7 Z Z (A5 ?_);refine k1 (k2 (A3 (A4 Z Z (A6 (O9 Z Z) Z (A5 ?_)))));refine k1 ?_;refine B3 rfl (fun ht=>?_) (fun ht=>?_)
 ·have h:d7 s≠0:=by simpa using ht
  have h1:s.length > 1048576∨(C2 s).length > 4096:=by
   by_cases h1:s.length > 1048576∨(C2 s).length > 4096
   ·exact h1
   ·exact absurd (by rw [d7,if_neg h1]) h
  refine k2 (A3 (A4 Z Z (A6 (M8 _ 1 M5) Z (A7 Z Z (A5 ?_)))));refine k1 (k10 (k11 ?_))
  exact B6 (s6 rfl rfl rfl rfl rfl) (by rw [C24,if_pos h1,d7,if_pos h1])
 ·have h:d7 s=0:=by simpa using ht
  have h1:¬(s.length > 1048576∨(C2 s).length > 4096):=fun h1=>by rw [d7,if_pos h1] at h;omega
  have hv:(T9 s)[(T9 s).length - 1]?=some ((T9 s).getLastD []):=by
   rw [←List.getLast?_eq_getElem?,List.getLast?_eq_some_getLast (fun e=>by rw [e] at hc;simp at hc)]
   rw [List.getLastD_eq_getLast?,List.getLast?_eq_some_getLast (fun e=>by rw [e] at hc;simp at hc)];rfl
  have hi:(((T9 s).length:Int) - 1).toNat=(T9 s).length - 1:=by omega
  refine k5 (k1 (k2 (A3 (A4 Z Z (C4 (F24 s hs) Z Z Z ?_)))));rintro _ rfl;refine A7 Z Z (A5 ?_);refine L0 ?_
  refine A21 [(5,C3 Str 1 M5 (C2 s))] [] ?_ ?_
  ·refine k2 (A3 (A4 Z Z (A4 Z Z (E7 Z Z (A6 (U0 Z Z (by omega)) Z (A6 (B0 Z (.pure _ _ _ _) Z (by omega) (by rw [hi];exact hv)) Z ?_))))));refine A6 (B1 Z Z) Z (A6 (A30 Z Z) Z (A5 ?_));refine k1 ?_;refine B3 rfl (fun ht=>?_) (fun ht=>?_)
   ·have h2:=A0 ht
    skip
    refine A3 (A4 Z Z (A4 Z Z (E7 Z Z (A6 (U0 Z Z (by omega)) Z (A6 (C12 Z (.pure _ _ _ _) Z (by omega) (by omega)) Z (A7 Z Z (A5 ?_)))))));refine k1 ?_
    rw [hp,if_pos h2,List.dropLast_eq_take,←hi]
    exact J69 ⟨le1 rfl,trivial⟩ trivial
   ·have h2:=A1 ht
    refine k5 (k1 ?_)
    rw [hp,if_neg h2]
    exact J69 ⟨le1 rfl,trivial⟩ trivial
  ·refine k2 (A3 (A4 Z Z (A7 Z Z (A7 Z Z (A5 ?_)))));refine k1 (k10 ?_)
   exact B6 (s6 rfl rfl rfl rfl rfl) (by rw [C24,if_neg h1])
end Go.Proofs.YtbiadkkamhpdnaaGreatDoor
namespace Go.Proofs.YtbiadkkamhpdnaaGreatDoor
open Go Go.AL
set_option maxRecDepth 100000
theorem B84 (s:Str):FnOk Tryz.prog 82 [N2 s] (fun rs=>rs=[M3 (Q0 s)]):=by
 refine FnOk.intro Tryz.func82 (by decide) Z Z Z Z ?_
 refine k2 (A3 (A7 Z Z (A5 ?_)));refine k1 (k2 (A3 (A4 Z Z (A6 (N3 Z) Z (A6 (A58 Z Z) Z (A4 Z Z (B2 Z Z Z Z (fun hg=>by rw [hg];exact B7 Z Z) ?_)))))));refine B2 Z Z Z Z (fun hg=>by rw [hg];exact N3 Z) ?_;refine B2 Z Z Z Z (fun hg=>by rw [hg];exact j6 Z Z) ?_;refine J4 Z Z ?_;refine A7 Z Z (A5 ?_);refine k1 (k10 (B6 (G6 Z Z Z) ?_))
 simp only [R7]
 congr 4
 unfold Q0
 congr 1
 apply propext
 omega
end Go.Proofs.YtbiadkkamhpdnaaGreatDoor
namespace Go.Proofs.YtbiadkkamhpdnaaGreatDoor
open Go Go.AL
set_option maxRecDepth 100000
end Go.Proofs.YtbiadkkamhpdnaaGreatDoor
namespace Go.Proofs.YtbiadkkamhpdnaaGreatDoor
open Go Go.AL
set_option maxRecDepth 100000
set_option maxHeartbeats 1000000
end Go.Proofs.YtbiadkkamhpdnaaGreatDoor
namespace Go.Proofs.YtbiadkkamhpdnaaGreatDoor
open Go Go.AL
set_option maxRecDepth 100000
end Go.Proofs.YtbiadkkamhpdnaaGreatDoor
namespace Go.Proofs.YtbiadkkamhpdnaaGreatDoor
open Go Go.AL
set_option maxRecDepth 100000
end Go.Proofs.YtbiadkkamhpdnaaGreatDoor
