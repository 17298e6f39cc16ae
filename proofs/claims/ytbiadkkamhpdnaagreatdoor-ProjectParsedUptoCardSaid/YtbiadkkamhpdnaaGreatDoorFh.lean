/- Walks of the program's functions. -/
import Derived.Test.YtbiadkkamhpdnaaGreatDoorFg
import Derived.Test.YtbiadkkamhpdnaaGreatDoorFe
import Derived.Test.YtbiadkkamhpdnaaGreatDoorFs
import Derived.Test.YtbiadkkamhpdnaaGreatDoorFc
import Derived.Test.YtbiadkkamhpdnaaGreatDoorFa
import Derived.Test.YtbiadkkamhpdnaaGreatDoorFf
set_option linter.unusedSimpArgs false
namespace Go.Proofs.YtbiadkkamhpdnaaGreatDoor
open Go Go.AL
set_option maxRecDepth 100000
theorem H19 (s:Str) (hs:s.length≤600000):FnOk Tryz.prog 62 [G7 s] (fun rs=>rs=H18 Z1 s):=by
 have h16:¬16777216 < s.length:=by omega
 have hL:=I08 s (by omega)
 have hfail:∀{x:Comb × Int},B14 Z1 s=x→x=(comb0,4)→[N7 comb0,F0 4]=H18 Z1 s:=by
  intro x h1 h2
  unfold H18;rw [h1,h2]
 refine FnOk.intro Tryz.func62 (by decide) Z Z Z Z ?_
 refine k2 ?_
 refine A4 (C7 (G4 2 Z) Z (A3 (A6 Z Z) Z (A7 ?_)))
 refine k1 (k2 (k2 ?_))
 refine A4 (A3 (A5 Z Z) Z (A3 (E3 Z) Z (A3 (Q1 Z Z) Z (A7 ?_))))
 refine k1 ?_
 refine B4 rfl (fun ht=>?_) (fun ht=>?_)
 ·exact absurd (A0 ht) (by omega)
 cases hl:x3 s with
 | none =>
  unfold D31 at hL
  rw [hl] at hL
  refine k5 (k1 (k2 ?_))
  refine A4 (A3 (A5 Z Z) Z (B9 (hL) Z Z Z ?_));rintro _ rfl;refine A3 (A5 Z Z) Z (A3 (B3 Z Z) Z (A3 (B3 Z Z) Z (A3 (A6 Z Z) Z (A3 (A6 Z Z) Z (A7 ?_)))))
  refine k1 (k2 (k2 ?_))
  refine A4 (A3 (A5 Z Z) Z (A3 (F7 Z) Z (A7 ?_)))
  refine k1 ?_
  refine B4 rfl (fun ht=>?_) (fun ht=>?_)
  ·refine k2 ?_
   refine A4 (A3 (F3 Z) Z (E1 (B7 TySz.out Z Z Z Z Z Z) (A3 (A6 Z Z) Z (A7 ?_))))
   refine k1 ?_
   refine E6 (K21 CHunk 2 L5 2 3 Z Z) ?_
   refine k10 (k11 ?_)
   exact B8 (rs:=[N7 comb0,F0 4]) (Q3 rfl rfl rfl rfl rfl rfl rfl) (hfail rfl (by unfold B14;rw [if_neg h16,hl]))
  ·cases ht
 | some l =>
  unfold D31 at hL
  rw [hl] at hL
  obtain ⟨z1,z2⟩:=J10 hl
  have zw:=J89 hl
  have hP:=J24 l (by omega) (fun t ht=>by have:=z2 t ht;omega)
  cases hp:Z1 l with
  | none =>
   unfold Z5 at hP
   rw [hp] at hP
   refine k5 (k1 (k2 ?_))
   refine A4 (A3 (A5 Z Z) Z (B9 (hL) Z Z Z ?_));rintro _ rfl;refine A3 (A5 Z Z) Z (A3 (B3 Z Z) Z (A3 (B3 Z Z) Z (A3 (A6 Z Z) Z (A3 (A6 Z Z) Z (A7 ?_)))))
   refine k1 (k2 (k2 ?_))
   refine A4 (A3 (A5 Z Z) Z (A3 (F7 Z) Z (A7 ?_)))
   refine k1 ?_
   refine B4 rfl (fun ht=>?_) (fun ht=>?_)
   ·cases ht
   refine k5 (k1 (k2 ?_))
   refine A4 (A3 (A5 Z Z) Z (B9 (hP) Z Z Z ?_));rintro _ rfl;refine A3 (A5 Z Z) Z (A3 (B3 Z Z) Z (A3 (B3 Z Z) Z (C7 (G4 6 Z) Z (E1 (B7 TySz.out Z Z Z Z Z Z) (A3 (A6 Z Z) Z (A7 ?_))))))
   refine k1 (k2 (k2 ?_))
   refine A4 (A3 (A5 Z Z) Z (A3 (F7 Z) Z (A7 ?_)))
   refine k1 ?_
   refine B4 rfl (fun ht=>?_) (fun ht=>?_)
   ·refine k2 ?_
    refine A4 (A3 (F3 Z) Z (E1 (B7 TySz.out Z Z Z Z Z Z) (A3 (A6 Z Z) Z (A7 ?_))))
    refine k1 ?_
    refine E6 (K21 CHunk 2 L5 2 3 Z Z) ?_
    refine k10 (k11 ?_)
    exact B8 (rs:=[N7 comb0,F0 4]) (Q3 rfl rfl rfl rfl rfl rfl rfl) (hfail rfl (by unfold B14;rw [if_neg h16,hl];dsimp only;rw [hp]))
   ·cases ht
  | some p =>
   unfold Z5 at hP
   rw [hp] at hP
   obtain ⟨_,hsz,hci⟩:=J16 hp
   have hz:szC p.Hunks≤268435456:=by omega
   have hr:∀h∈p.Hunks,J8 h.Rows:=fun h hm=>(hci h hm).2
   have hF:=E53 p hz hr
   have hS:B14 Z1 s=if G8 p≠0∨T6 p≠s then (comb0,4) else (p,0):=by unfold B14;rw [if_neg h16,hl];dsimp only;rw [hp]
   by_cases hc:G8 p=0
   ·rw [if_pos hc] at hF
    refine k5 (k1 (k2 ?_))
    refine A4 (A3 (A5 Z Z) Z (B9 (hL) Z Z Z ?_));rintro _ rfl;refine A3 (A5 Z Z) Z (A3 (B3 Z Z) Z (A3 (B3 Z Z) Z (A3 (A6 Z Z) Z (A3 (A6 Z Z) Z (A7 ?_)))))
    refine k1 (k2 (k2 ?_))
    refine A4 (A3 (A5 Z Z) Z (A3 (F7 Z) Z (A7 ?_)))
    refine k1 ?_
    refine B4 rfl (fun ht=>?_) (fun ht=>?_)
    ·cases ht
    refine k5 (k1 (k2 ?_))
    refine A4 (A3 (A5 Z Z) Z (B9 (hP) Z Z Z ?_));rintro _ rfl;refine A3 (A5 Z Z) Z (A3 (B3 Z Z) Z (A3 (B3 Z Z) Z (C7 (G4 6 Z) Z (E1 (B7 TySz.out Z Z Z Z Z Z) (A3 (A6 Z Z) Z (A7 ?_))))))
    refine k1 (k2 (k2 ?_))
    refine A4 (A3 (A5 Z Z) Z (A3 (F7 Z) Z (A7 ?_)))
    refine k1 ?_
    refine B4 rfl (fun ht=>?_) (fun ht=>?_)
    ·cases ht
    refine k5 (k1 (k2 (k2 ?_)))
    refine A4 (A3 (D2 Z Z Z) Z (B9 (hF) Z Z Z ?_));rintro _ rfl;refine A3 (A5 Z Z) Z (A3 (B3 Z Z) Z (A3 (B3 Z Z) Z (A3 (A6 Z Z) Z (A3 (A6 Z Z) Z (A7 ?_)))))
    refine k1 (k2 ?_)
    refine A4 (A3 (A5 Z Z) Z (A3 (N6 Z Z) Z (A3 (A5 Z Z) Z (B0 Z Z Z Z (fun hg=>by rw [hg];exact A5 Z Z) ?_))));refine B0 Z Z Z Z (fun hg=>by rw [hg];exact A5 Z Z) ?_;refine B0 Z Z Z Z (fun hg=>by rw [hg];exact A78 Z Z) ?_;refine A3 (B5 Z (fun h=>by first | rfl | (rw [h];rfl)) (fun h=>by first | rfl | (rw [h];rfl))) Z ?_;refine A7 ?_
    simp only [or_pick]
    refine k1 ?_
    by_cases hb:T6 p=s
    ·rw [if_neg (by simp [hc,hb])] at hS
     refine B4 rfl (fun ht=>?_) (fun ht=>?_)
     ·exfalso
      rcases A0 ht with h | h
      ·exact h rfl
      ·exact h hb
     refine k5 (k1 (k2 ?_))
     refine A4 (A3 (D2 Z Z Z) Z (E1 (B7 TySz.out Z Z Z Z Z Z) (A3 (A6 Z Z) Z (A7 ?_))))
     refine k1 (k10 ?_)
     exact B8 (rs:=[N7 p,F0 0]) (Q3 rfl rfl rfl rfl rfl rfl rfl) (by unfold H18;rw [hS])
    ·rw [if_pos (.inr hb)] at hS
     refine B4 rfl (fun ht=>?_) (fun ht=>?_)
     rotate_left
     ·exact absurd (.inr hb) (A1 ht)
     refine k2 ?_
     refine A4 (A3 (F3 Z) Z (E1 (B7 TySz.out Z Z Z Z Z Z) (A3 (A6 Z Z) Z (A7 ?_))))
     refine k1 ?_
     refine E6 (K21 CHunk 2 L5 2 3 Z Z) ?_
     refine k10 (k11 ?_)
     exact B8 (rs:=[N7 comb0,F0 4]) (Q3 rfl rfl rfl rfl rfl rfl rfl) (hfail hS rfl)
   ·rw [if_neg hc] at hF
    rw [if_pos (.inl hc)] at hS
    refine k5 (k1 (k2 ?_))
    refine A4 (A3 (A5 Z Z) Z (B9 (hL) Z Z Z ?_));rintro _ rfl;refine A3 (A5 Z Z) Z (A3 (B3 Z Z) Z (A3 (B3 Z Z) Z (A3 (A6 Z Z) Z (A3 (A6 Z Z) Z (A7 ?_)))))
    refine k1 (k2 (k2 ?_))
    refine A4 (A3 (A5 Z Z) Z (A3 (F7 Z) Z (A7 ?_)))
    refine k1 ?_
    refine B4 rfl (fun ht=>?_) (fun ht=>?_)
    ·cases ht
    refine k5 (k1 (k2 ?_))
    refine A4 (A3 (A5 Z Z) Z (B9 (hP) Z Z Z ?_));rintro _ rfl;refine A3 (A5 Z Z) Z (A3 (B3 Z Z) Z (A3 (B3 Z Z) Z (C7 (G4 6 Z) Z (E1 (B7 TySz.out Z Z Z Z Z Z) (A3 (A6 Z Z) Z (A7 ?_))))))
    refine k1 (k2 (k2 ?_))
    refine A4 (A3 (A5 Z Z) Z (A3 (F7 Z) Z (A7 ?_)))
    refine k1 ?_
    refine B4 rfl (fun ht=>?_) (fun ht=>?_)
    ·cases ht
    refine k5 (k1 (k2 (k2 ?_)))
    refine A4 (A3 (D2 Z Z Z) Z (B9 (hF) Z Z Z ?_));rintro _ rfl;refine A3 (A5 Z Z) Z (A3 (B3 Z Z) Z (A3 (B3 Z Z) Z (A3 (A6 Z Z) Z (A3 (A6 Z Z) Z (A7 ?_)))))
    refine k1 (k2 ?_)
    refine A4 (A3 (A5 Z Z) Z (A3 (N6 Z Z) Z (A3 (A5 Z Z) Z (B0 Z Z Z Z (fun hg=>by rw [hg];exact A5 Z Z) ?_))));refine B0 Z Z Z Z (fun hg=>by rw [hg];exact A5 Z Z) ?_;refine B0 Z Z Z Z (fun hg=>by rw [hg];exact A78 Z Z) ?_;refine A3 (B5 Z (fun h=>by first | rfl | (rw [h];rfl)) (fun h=>by first | rfl | (rw [h];rfl))) Z ?_;refine A7 ?_
    simp only [or_pick]
    refine k1 ?_
    refine B4 rfl (fun ht=>?_) (fun ht=>?_)
    rotate_left
    ·exact absurd (.inl hc) (A1 ht)
    refine k2 ?_
    refine A4 (A3 (F3 Z) Z (E1 (B7 TySz.out Z Z Z Z Z Z) (A3 (A6 Z Z) Z (A7 ?_))))
    refine k1 ?_
    refine E6 (K21 CHunk 2 L5 2 3 Z Z) ?_
    refine k10 (k11 ?_)
    exact B8 (rs:=[N7 comb0,F0 4]) (Q3 rfl rfl rfl rfl rfl rfl rfl) (hfail hS rfl)
theorem E56 {c:Comb} (hc:G8 c=0) (hw:(T6 c).length≤600000):FnOk Tryz.prog 62 [G7 (T6 c)] (fun rs=>rs=[N7 c,F0 0]):=by
 have h:=H19 (T6 c) hw
 unfold H18 at h
 rw [J49 (fun p hg=>H58 hg) hc] at h
 exact h
set_option maxHeartbeats 1000000
end Go.Proofs.YtbiadkkamhpdnaaGreatDoor
namespace Go.Proofs.YtbiadkkamhpdnaaGreatDoor
open Go Go.AL
set_option maxRecDepth 100000
set_option maxHeartbeats 1000000
set_option maxHeartbeats 2000000
end Go.Proofs.YtbiadkkamhpdnaaGreatDoor
namespace Go.Proofs.YtbiadkkamhpdnaaGreatDoor
open Go Go.AL
set_option maxRecDepth 100000
set_option maxHeartbeats 1000000
set_option maxHeartbeats 1000000
set_option maxHeartbeats 1000000
def awakeT:Table:=⟨2,[⟨false,0,[97,10]⟩,⟨true,1,[98,10]⟩,⟨false,1,[99,10]⟩]⟩
theorem F80:J8 awakeT.Rows:=by intro r hr;simp [awakeT] at hr;rcases hr with rfl | rfl | rfl<;>decide
theorem J90:FnOk Tryz.prog 56 [] (fun rs=>rs=[E8 true]):=by
 have h1:T0 awakeT (-1)=([97,10,99,10],0):=by decide
 have h2:T0 awakeT 0=([97,10,98,10],0):=by decide
 refine FnOk.intro Tryz.func56 (by decide) Z Z Z Z ?_
 refine k2 ?_
 refine A4 (A3 (A6 Z Z) Z (A7 ?_))
 refine k1 (k2 ?_)
 refine A4 (A3 (F3 Z) Z (A3 (F3 Z) Z (A3 (F3 Z) Z (A3 (E2 (c:=rowC) (ys:=[⟨false,0,[97,10]⟩,⟨true,1,[98,10]⟩,⟨false,1,[99,10]⟩]) (E9 Z Z Z Z (E9 Z Z Z Z (E9 Z Z Z Z I4))) Z Z Z) Z (A3 (F3 Z) Z (C7 (G4 1 Z) Z (E1 (B7 TySz.out Z Z Z Z Z Z) (A7 ?_))))))))
 refine k1 (k2 ?_)
 refine A4 (A3 (D2 Z Z Z) Z (B9 (C39 awakeT (-1) F80 (by decide) (by decide)) Z Z Z ?_));rintro _ rfl;refine A3 (A5 Z Z) Z (A3 (B3 Z Z) Z (A3 (B3 Z Z) Z (A3 (A6 Z Z) Z (A3 (A6 Z Z) Z (A7 ?_)))))
 rw [h1]
 refine k1 (k2 ?_)
 refine A4 (A3 (D2 Z Z Z) Z (B9 (C39 awakeT 0 F80 (by decide) (by decide)) Z Z Z ?_));rintro _ rfl;refine A3 (A5 Z Z) Z (A3 (B3 Z Z) Z (A3 (B3 Z Z) Z (A3 (A6 Z Z) Z (A3 (A6 Z Z) Z (A7 ?_)))))
 rw [h2]
 refine k1 (k2 ?_)
 refine A4 (A3 (A5 Z Z) Z (A3 (J3 Z Z) Z (A3 (A5 Z Z) Z (B0 Z Z Z Z (fun hg=>by rw [hg];exact A5 Z Z) ?_))));refine B0 Z Z Z Z (fun hg=>by rw [hg];exact J3 Z Z) ?_;refine A3 (B5 Z (fun h=>by first | rfl | (rw [h];rfl)) (fun h=>by first | rfl | (rw [h];rfl))) Z ?_;refine A3 (A5 Z Z) Z (B0 Z Z Z Z (fun hg=>by rw [hg];exact A5 Z Z) ?_);refine B0 Z Z Z Z (fun hg=>by rw [hg];exact T9 Z Z) ?_;refine A3 (B5 Z (fun h=>by first | rfl | (rw [h];rfl)) (fun h=>by first | rfl | (rw [h];rfl))) Z ?_;refine A3 (A5 Z Z) Z (B0 Z Z Z Z (fun hg=>by rw [hg];exact A5 Z Z) ?_);refine B0 Z Z Z Z (fun hg=>by rw [hg];exact T9 Z Z) ?_;refine A3 (B5 Z (fun h=>by first | rfl | (rw [h];rfl)) (fun h=>by first | rfl | (rw [h];rfl))) Z ?_;refine A3 (A6 Z Z) Z (A7 ?_)
 refine k1 (k10 ?_)
 exact B8 (J6 rfl rfl rfl) rfl
theorem H20:∀s∈lineTab,s.count 10=0:=by decide
theorem E57 (k:Int):(u9 k).count 10=0:=by
 unfold u9
 rw [K60]
 cases h:lineTab[(Z7 k 10).toNat]? with
 | none=>rfl
 | some s=>exact H20 s (K75 h)
theorem F35 (raw:List Int) (from' kinds:Int) (m:Nat):(S2 raw from' kinds m).count 10=m:=by
 induction m with
 | zero=>simp [S2]
 | succ m ih=>rw [A28,L08,L08,ih,E57];rfl
theorem E58 (raw:List Int) (from' n kinds:Int) (h1:0≤n):((W8 raw from' n kinds).count 10:Int)≤n:=by
 have h:=A27 (n6 raw from') (n:=n+1) (by omega)
 have h2:=F35 raw from' kinds (Z7 (n6 raw from') (n+1)).toNat
 have h3:=(List.take_sublist ((S2 raw from' kinds (Z7 (n6 raw from') (n+1)).toNat).length - 1) (S2 raw from' kinds (Z7 (n6 raw from') (n+1)).toNat)).count_le (a:=(10:UInt8))
 unfold W8
 simp only
 split
 ·omega
 ·omega
theorem A94 (raw:List Int) (from':Int):∀(l:List Str) (i:Nat) (s:Str),(n7 raw from' i s l).count 10≤s.count 10+l.flatten.count 10+l.length
 | [],i,s=>by simp [n7]
 | x::r,i,s=>by
  have h1:=A94 raw from' r (i+1) s
  have h2:=A94 raw from' r (i+1) (s++u9 (n6 raw (from'+40+(i:Int)))++[10]++x)
  have h3:=A94 raw from' r (i+1) (s++x)
  have h4:=E57 (n6 raw (from'+40+(i:Int)))
  have h5:List.count (10:UInt8) [10]=1:=rfl
  simp only [L08,h4,h5] at h2 h3
  unfold n7
  simp only [K72,L08,K58]
  split
  ·omega
  ·split<;>omega
structure Small16 (x:Str) (r:List Str):Prop where
 n:r.length≤32
 hx:x.length≤140
 hr:∀b∈r,b.length≤140
 rows:J8 (G5 x r).1.Rows
 len:(G5 x r).1.Rows.length≤1105
 txt:∀q∈(G5 x r).1.Rows,q.Text.length≤140
theorem textsLen_le {rows:List Row} {B:Nat} (h:∀q∈rows,q.Text.length≤B):P5 rows≤rows.length*B∧(rows.map Q4).sum≤rows.length*(B+96)∧∀n,(rows.map (D49 n)).sum≤rows.length*(B+n+29):=by
 unfold P5
 induction rows with
 | nil=>simp
 | cons x r ih =>
  obtain ⟨i1,i2,i3⟩:=ih fun q hq=>h q (by simp [hq])
  have hx:=h x (by simp)
  simp only [K63,K72,K56,K85,K58,K80,Nat.one_mul]
  simp only [Nat.mul_add] at i2 i3 ⊢
  refine ⟨by omega,by unfold Q4 at i2 ⊢;omega,fun n=>?_⟩
  have:=i3 n
  unfold D49 at this ⊢
  omega
theorem Small16.sums {x:Str} {r:List Str} (h:Small16 x r):P5 (G5 x r).1.Rows≤154700∧((G5 x r).1.Rows.map Q4).sum≤260780∧∀n,n≤32→((G5 x r).1.Rows.map (D49 n)).sum≤1105*201:=by
 obtain ⟨h1,h2,h3⟩:=textsLen_le h.txt
 have h4:=h.len
 refine ⟨by omega,by omega,fun n hn=>?_⟩
 refine Nat.le_trans (h3 n) ?_
 exact Nat.mul_le_mul h4 (by omega)
set_option maxHeartbeats 1000000
theorem I72 {n:Nat} {rows:List Row}:∀{sp:List Span} {e:Int} {hs:List CHunk},E55 rows.length e sp=false→z7 n rows e hs sp=none
 | [],e,hs,h=>by cases h
 | s::r,e,hs,h=>by
  rw [E55] at h
  rw [z7]
  by_cases hc:s.From < e∨s.To≤s.From∨(rows.length:Int) < s.To
  ·rw [if_pos hc]
  ·rw [if_neg hc] at h ⊢
   exact I72 h
abbrev z59:Ob:=.box [.p (.v (.string ⟨#[]⟩)),.p (.v (.bool false)),.p (.v (.int .i64 0)),.p (.v (.slice none 0 0))]
set_option maxHeartbeats 1000000
theorem pcut_ok (path:Str) (t:Table) (sp:List Span) (d:Bool) (hr:J8 t.Rows) (hW:(t.Rows.map Q4).sum≤8388608) (hx:P5 t.Rows≤8388608) (hsp:sp.length≤536870912) :
  FnOk Tryz.prog 98 [G7 path,pTable t,pSpans sp,E8 d] (fun rs=>rs=[N7 (A12 path t sp d).1,F0 (A12 path t sp d).2]):=by
 have hl:=l4 t.Rows
 have hll:t.Rows.length≤8388608:=by omega
 refine FnOk.intro Tryz.func98 (by decide) Z Z Z Z ?_
 refine k2 ?_
 refine A4 (C7 (T7 5 Z Z Z) Z (C7 (G4 8 Z) Z (A3 (A6 Z Z) Z (A7 ?_))))
 refine k1 (k2 (k2 ?_))
 refine A4 (A3 (A5 Z Z) Z (B9 (D32 path) Z Z Z ?_));rintro _ rfl;refine A3 (F7 Z) Z (A7 ?_)
 refine k1 ?_
 refine B4 rfl (fun ht=>?_) (fun ht=>?_)
 ·have h:X3 path=false:=by simpa using ht
  refine k2 ?_
  refine A4 (A3 (F3 Z) Z (E1 (B7 TySz.out Z Z Z Z Z Z) (A3 (A6 Z Z) Z (A7 ?_))))
  refine k1 ?_
  refine E6 (K21 CHunk 2 L5 8 3 Z Z) ?_
  refine k10 (k11 ?_)
  exact B8 (rs:=[N7 comb0,F0 120]) (Q3 rfl rfl rfl rfl rfl rfl rfl) (by unfold A12;rw [if_pos h])
 have h:X3 path=true:=by simpa using ht
 refine k5 (k1 (k2 (k2 ?_)))
 refine A4 (A3 (D2 Z Z Z) Z (B9 (F60 t hr (by omega) (by omega)) Z Z Z ?_));rintro _ rfl;refine A3 (A6 Z Z) Z (A7 ?_)
 refine k1 (k2 ?_)
 refine A4 (A3 (A5 Z Z) Z (A3 (N6 Z Z) Z (A7 ?_)))
 refine k1 ?_
 refine B4 rfl (fun ht=>?_) (fun ht=>?_)
 ·have h1:=A0 ht
  refine k2 ?_
  refine A4 (A3 (F3 Z) Z (A3 (A5 Z Z) Z (E1 (B7 TySz.out Z Z Z Z Z Z) (A3 (A6 Z Z) Z (A7 ?_)))))
  refine k1 ?_
  refine E6 (K21 CHunk 2 L5 8 3 Z Z) ?_
  refine k10 (k11 ?_)
  exact B8 (rs:=[N7 comb0,F0 (M6 t)]) (Q3 rfl rfl rfl rfl rfl rfl rfl) (by unfold A12;rw [if_neg (by rw [h];decide),if_pos h1])
 have h1:=A1 ht
 have h10:M6 t=0:=by omega
 obtain ⟨hn1,hn2⟩:=H11 h10
 obtain ⟨n,hn⟩:∃n:Nat,t.Parents=n:=⟨t.Parents.toNat,by omega⟩
 obtain ⟨tp,rows⟩:=t
 have hn:tp=(n:Int):=hn
 subst hn
 dsimp only at hr hW hx hl hll hn1 hn2
 have hcut:A12 path ⟨n,rows⟩ sp d=match z7 n rows 0 [] sp with
  | none=>(comb0,3)
  | some hs=>if G8 ⟨path,d,(n:Int),hs⟩≠0 then (comb0,G8 ⟨path,d,(n:Int),hs⟩) else (⟨path,d,(n:Int),hs⟩,0):=by
  unfold A12;rw [if_neg (by rw [h];decide),if_neg (by omega)];rfl
 rw [hcut]
 obtain ⟨W,hWd⟩:∃W,W=z7 n rows 0 [] sp:=⟨_,rfl⟩
 have hcs:∀hs,W=some hs→szC hs≤268435456∧∀x∈hs,J8 x.Rows:=fun hs e=>I69 (n:=n) (by omega) hr hW (by rw [←hWd];exact e)
 have hord0:=I72 (n:=n) (rows:=rows) (sp:=sp) (e:=0) (hs:=[])
 rw [←hWd] at hord0 ⊢
 refine k5 (k1 (k2 (k2 ?_)))
 refine A4 (A3 (A5 Z Z) Z (A3 (A8 Z) Z (A3 (A9 Z Z Z) Z (A3 (F4 Z (.pure _ _ _ _)) Z (B9 (H10 sp rows.length hsp) Z Z Z ?_)))));rintro _ rfl;refine A3 (F7 Z) Z (A7 ?_)
 refine k1 ?_
 refine B4 rfl (fun ht=>?_) (fun ht=>?_)
 ·have hno:E55 rows.length 0 sp=false:=by simpa using ht
  rw [hord0 hno]
  refine k2 ?_
  refine A4 (A3 (F3 Z) Z (E1 (B7 TySz.out Z Z Z Z Z Z) (A3 (A6 Z Z) Z (A7 ?_))))
  refine k1 ?_
  refine E6 (K21 CHunk 2 L5 8 3 Z Z) ?_
  refine k10 (k11 ?_)
  exact B8 (rs:=[N7 comb0,F0 3]) (Q3 rfl rfl rfl rfl rfl rfl rfl) rfl
 have hord:E55 rows.length 0 sp=true:=by simpa using ht
 refine k5 (k1 (k2 ?_))
 refine A4 (A3 (A5 Z Z) Z (A3 (A5 Z Z) Z (A3 (A8 Z) Z (A3 (A9 Z Z Z) Z (A3 (F3 Z) Z (C7 (G4 11 Z) Z (E1 (B7 TySz.out Z Z Z Z Z Z) (A7 ?_))))))))
 refine E6 (K28 754 CHunk 2 L5 59 (kb:=11) (o:=3) Z Z Z) ?_
 refine k2 ?_
 have e0:((n:Int)+1).toNat=n+1:=by omega
 have hz:List.replicate (n+1) (0:Int)=F5 (rows.take 0) n:=by
  refine List.ext_getElem (by simp [F5]) fun q h1 h2=>?_
  simp [F5,M1,K0]
 refine A4 (A3 (A8 Z) Z (A3 (A9 Z Z Z) Z (A3 (C6 Z Z (by omega)) Z (C7 (x6 720 Int G9 0 Z Z (by omega) (by omega) (fun _=>by first | exact ⟨⟨rfl,rfl⟩,trivial⟩ | exact ⟨P1 _ _ _,trivial⟩) (by first | rfl | (simp [G3,I1,Ob.free,SV.free,S1.free,TC.free]<;>rfl))) Z ?_))));refine C7 (G4 12 Z) Z (E1 (B7 TySz.out Z Z Z Z Z Z) (A7 ?_))
 rw [e0,hz]
 refine k1 (k2 ?_)
 refine A4 (C7 (G4 13 Z) Z (E1 (B7 TySz.out Z Z Z Z Z Z) (A7 ?_)))
 refine k1 (k2 ?_)
 refine A4 (A3 (C35 Z Z) Z (A3 (A6 Z Z) Z (A7 ?_)))
 refine k1 (k2 (k2 ?_))
 refine A4 (A3 (A5 Z Z) Z (A3 (F4 Z (.pure _ _ _ _)) Z (A3 (A5 Z Z) Z (A7 ?_))))
 refine k1 (k3 ?_)
 refine E4 (X:=Nat × Nat × List CHunk) (fun x=>([(5,.s (.one (.ref 5 0))),(8,.s (.one (.ref 8 0))),(11,.s (.one (.ref 11 0))),(12,.s (.one (.ref 12 0))),(14,.s (.one (.clo 165 [] [(5,0),(13,0),(12,0)]))),(45,D3 Span 2 spanC sp),(46,C2 sp.length),(47,C2 x.1)],[(5,.box (pTable ⟨n,rows⟩).s1.cells),(8,z59),(11,.box [.p (.v (.string ⟨path.toArray⟩)),.p (.v (.bool d)),.p (.v (.int .i64 n)),.buf 754 CHunk 2 L5 x.2.2]),(754,.spare x.2.2.length 2 59),(12,.box [.mut 720]),(13,n8 x.2.1),(720,.arr Int 1 G9 (F5 (rows.take x.2.1) n))])) (fun x=>x.1≤sp.length∧x.2.1≤rows.length∧x.2.2.length≤x.1∧W=z7 n rows x.2.1 x.2.2 (sp.drop x.1)∧E55 rows.length x.2.1 (sp.drop x.1)=true) (fun x=>sp.length - x.1) (0,0,[]) ⟨Nat.zero_le _,Nat.zero_le _,Nat.le_refl _,hWd,hord⟩ (K19 ⟨le1 rfl,le1 rfl,le1 rfl,le1 rfl,le1 rfl,le1 rfl,le1 rfl,le1 rfl,trivial⟩ ⟨rfl,rfl,rfl,rfl,rfl,rfl,rfl,trivial⟩) ?_
 rintro ⟨k,e,hs⟩ ⟨hk,he,hsl,hp,ho⟩
 dsimp only at hk he hsl hp ho ⊢
 refine k2 ?_
 refine A4 (A3 (E5 Z Z) Z (A7 ?_))
 refine k1 (k2 ?_)
 refine B4 rfl (fun ht=>?_) (fun ht=>?_)
 rotate_left
 ·have hkl:k=sp.length:=by have:=A1 ht;omega
  rw [hkl,K66 (Nat.le_refl _)] at hp
  have hp:W=some hs:=hp
  obtain ⟨z1,z2⟩:=hcs hs hp
  rw [hp]
  dsimp only
  refine k6 (k2 (k2 ?_))
  refine A4 (A3 (D2 Z Z Z) Z (B9 (B85 ⟨path,d,n,hs⟩ z1 z2) Z Z Z ?_));rintro _ rfl;refine A3 (A6 Z Z) Z (A7 ?_)
  refine k1 (k2 ?_)
  refine A4 (A3 (A5 Z Z) Z (A3 (N6 Z Z) Z (A7 ?_)))
  refine k1 ?_
  refine B4 rfl (fun ht=>?_) (fun ht=>?_)
  ·have h2:=A0 ht
   refine k2 ?_
   refine A4 (A3 (F3 Z) Z (A3 (A5 Z Z) Z (E1 (B7 TySz.out Z Z Z Z Z Z) (A3 (A6 Z Z) Z (A7 ?_)))))
   refine k1 ?_
   refine E6 (K21 CHunk 2 L5 8 3 Z Z) ?_
   refine k10 (k11 ?_)
   exact B8 (rs:=[N7 comb0,F0 (G8 ⟨path,d,n,hs⟩)]) (Q3 rfl rfl rfl rfl rfl rfl rfl) (by rw [if_pos h2])
  ·have h2:=A1 ht
   refine k5 (k1 (k2 ?_))
   refine A4 (A3 (D2 Z Z Z) Z (E1 (B7 TySz.out Z Z Z Z Z Z) (A3 (A6 Z Z) Z (A7 ?_))))
   refine k1 (k10 ?_)
   exact B8 (rs:=[N7 ⟨path,d,n,hs⟩,F0 0]) (Q3 rfl rfl rfl rfl rfl rfl rfl) (by rw [if_neg h2])
 have hlt:k < sp.length:=by have:=A0 ht;omega
 have hv:sp[k]?=some sp[k]:=by simp [hlt]
 rw [K64 hlt,z7] at hp
 rw [K64 hlt,E55] at ho
 obtain ⟨s,hsd⟩:∃s,s=sp[k]:=⟨_,rfl⟩
 rw [←hsd] at hp hv ho
 have hc:¬(s.From < (e:Int)∨s.To≤s.From∨(rows.length:Int) < s.To):=by
  intro hc
  rw [if_pos hc] at ho;cases ho
 rw [if_neg hc] at hp ho
 simp only [not_or,Int.not_lt,Int.not_le] at hc
 obtain ⟨c1,c2,c3⟩:=hc
 obtain ⟨F,hF⟩:∃F:Nat,s.From=F:=⟨s.From.toNat,by omega⟩
 obtain ⟨T,hT⟩:∃T:Nat,s.To=T:=⟨s.To.toNat,by omega⟩
 obtain ⟨sF,sT⟩:=s
 have hF:sF=(F:Int):=hF
 have hT:sT=(T:Int):=hT
 subst hF hT
 dsimp only at c1 c2 c3 hp ho
 rw [K62,K62] at hp
 have hsub:((rows.drop F).take (T - F)).length=T - F:=by rw [K70,K65];omega
 have hcl:(F5 (rows.take F) n).length=n+1:=by simp [F5]
 refine k5 (k1 (k2 (k3 (k2 ?_))))
 refine A4 (A3 (C0 Z (.pure _ _ _ _) Z (by omega) hv) Z (A3 (H1 Z Z) Z (C7 (G4 16 Z) Z (E1 (B7 TySz.out Z Z Z Z Z Z) (A7 ?_)))))
 refine L8 [(5,.s (.one (.ref 5 0))),(8,.s (.one (.ref 8 0))),(11,.s (.one (.ref 11 0))),(12,.s (.one (.ref 12 0))),(14,.s (.one (.clo 165 [] [(5,0),(13,0),(12,0)]))),(16,.s (.one (.ref 16 0))),(45,D3 Span 2 spanC sp),(46,C2 sp.length),(47,C2 k)] [(5,.box (pTable ⟨n,rows⟩).s1.cells),(8,z59),(11,.box [.p (.v (.string ⟨path.toArray⟩)),.p (.v (.bool d)),.p (.v (.int .i64 n)),.buf 754 CHunk 2 L5 hs]),(754,.spare hs.length 2 59),(12,.box [.mut 720]),(13,n8 e),(720,.arr Int 1 G9 (F5 (rows.take e) n)),(16,.box [.p (.v (.int .i64 F)),.p (.v (.int .i64 T))])] (K19 ⟨le1 rfl,le1 rfl,le1 rfl,le1 rfl,le1 rfl,le1 rfl,le1 rfl,le1 rfl,le1 rfl,trivial⟩ ⟨rfl,rfl,rfl,rfl,rfl,rfl,rfl,rfl,trivial⟩) ?_
 refine k2 ?_
 refine A4 (A3 (A5 Z Z) Z (A3 (A8 Z) Z (A3 (A9 Z Z Z) Z (D21 (E54 ⟨n,rows⟩ n e F Z (by omega) hr (by dsimp only;omega) (by omega) (by dsimp only;omega) Z Z Z Z) Z Z Z Z ?_))));rintro _ _ ⟨rfl,rfl⟩;refine A7 ?_
 refine L8 [(5,.s (.one (.ref 5 0))),(8,.s (.one (.ref 8 0))),(11,.s (.one (.ref 11 0))),(12,.s (.one (.ref 12 0))),(14,.s (.one (.clo 165 [] [(5,0),(13,0),(12,0)]))),(16,.s (.one (.ref 16 0))),(45,D3 Span 2 spanC sp),(46,C2 sp.length),(47,C2 k)] [(5,.box (pTable ⟨n,rows⟩).s1.cells),(8,z59),(11,.box [.p (.v (.string ⟨path.toArray⟩)),.p (.v (.bool d)),.p (.v (.int .i64 n)),.buf 754 CHunk 2 L5 hs]),(754,.spare hs.length 2 59),(12,.box [.mut 720]),(13,n8 F),(720,.arr Int 1 G9 (F5 (rows.take F) n)),(16,.box [.p (.v (.int .i64 F)),.p (.v (.int .i64 T))])] (K19 ⟨le1 rfl,le1 rfl,le1 rfl,le1 rfl,le1 rfl,le1 rfl,le1 rfl,le1 rfl,le1 rfl,trivial⟩ ⟨rfl,rfl,rfl,rfl,rfl,rfl,rfl,rfl,trivial⟩) ?_
 refine k2 ?_
 have hCR:=F73 ((rows.drop F).take (T - F)) (by omega)
 have hCI:=fun gf ob h=>I12 (gf:=gf) (ob:=ob) (F5 (rows.take F) n) (by omega) h
 refine O3 [16,14,3] [[],[3],[14,3],[16,14,3]] [(3,([],[])),(14,([754],[56])),(16,([],[]))] [(0,[]),(1,[]),(2,[]),(3,[]),(4,[]),(5,[]),(6,[]),(7,[]),(8,[]),(9,[]),(10,[]),(11,[3]),(12,[3]),(13,[3]),(14,[3]),(15,[14,3]),(16,[14,3])] [(0,[3]),(1,[3]),(4,[3]),(5,[3]),(6,[3]),(7,[3]),(8,[3]),(9,[3]),(10,[3])] (by kernel_rfl) (by kernel_rfl) (D4 Z Z (by kernel_rfl) Z Z (A8 Z) (D4 Z Z (by kernel_rfl) Z Z (A9 Z Z Z) (D4 Z Z (by kernel_rfl) Z Z (A9 Z Z Z) (W0 Z Z (by kernel_rfl) Z Z (r_met (fun gf=>hCI gf _ Z) Z Z) Z (D4 Z Z (by kernel_rfl) Z Z (A8 Z) (D4 Z Z (by kernel_rfl) Z Z (A9 Z Z Z) (D4 Z Z (by kernel_rfl) Z Z (A8 Z) (D4 Z Z (by kernel_rfl) Z Z (A9 Z Z Z) (D4 Z Z (by kernel_rfl) Z Z (A8 Z) (D4 Z Z (by kernel_rfl) Z Z (A9 Z Z Z) (D4 Z Z (by kernel_rfl) Z Z (t7 Z (.pure _ _ _ _) Z Z (by (first | omega | (dsimp only;omega))) (by (first | omega | (dsimp only;omega))) (by (first | omega | (dsimp only;omega)))) (D4 Z Z (by kernel_rfl) Z Z (O0 (hCR) Z Z) (D4 Z Z (by kernel_rfl) Z Z (F3 Z) (D4 Z Z (by kernel_rfl) Z Z (E2 (c:=L5) (ys:=[⟨F5 (rows.take F) n,(rows.drop F).take (T - F)⟩]) (E9 Z Z Z Z I4) Z Z Z) (W0 Z Z (by kernel_rfl) Z Z (A87 (fun frc hU=>L1 (T5 hU Z) Z (T5 hU Z) (.pure _ _ _ _) (by (simp only [K58,K61];omega)) Z)) Z (D4 Z Z (by kernel_rfl) Z Z (A8 Z) (W0 Z Z (by kernel_rfl) Z Z (C77 (fun frc hU=>B7 TySz.out (T5 hU Z) Z (T5 hU Z) Z Z Z)) Z ?_)))))))))))))))));refine C76 (by kernel_rfl) rfl ?_ ?_
 ·refine K6 Z Z (by kernel_rfl) Z Z (A8 Z) (K6 Z Z (by kernel_rfl) Z Z (A9 Z Z Z) (K6 Z Z (by kernel_rfl) Z Z (A8 Z) (K6 Z Z (by kernel_rfl) Z Z (A9 Z Z Z) (K6 Z Z (by kernel_rfl) Z Z (A8 Z) (K6 Z Z (by kernel_rfl) Z Z (A9 Z Z Z) (K6 Z Z (by kernel_rfl) Z Z (A8 Z) (K6 Z Z (by kernel_rfl) Z Z (A9 Z Z Z) (K6 Z Z (by kernel_rfl) Z Z (t7 Z (.pure _ _ _ _) Z Z (by (first | omega | (dsimp only;omega))) (by (first | omega | (dsimp only;omega))) (by (first | omega | (dsimp only;omega)))) ?_))))))));exact C08
 refine L8 [(5,.s (.one (.ref 5 0))),(8,.s (.one (.ref 8 0))),(11,.s (.one (.ref 11 0))),(12,.s (.one (.ref 12 0))),(14,.s (.one (.clo 165 [] [(5,0),(13,0),(12,0)]))),(16,.s (.one (.ref 16 0))),(45,D3 Span 2 spanC sp),(46,C2 sp.length),(47,C2 k)] [(5,.box (pTable ⟨n,rows⟩).s1.cells),(8,z59),(11,.box [.p (.v (.string ⟨path.toArray⟩)),.p (.v (.bool d)),.p (.v (.int .i64 n)),.buf 754 CHunk 2 L5 (hs++[⟨F5 (rows.take F) n,(rows.drop F).take (T - F)⟩])]),(754,.spare (hs++[(⟨F5 (rows.take F) n,(rows.drop F).take (T - F)⟩:CHunk)]).length 2 59),(12,.box [.mut 720]),(13,n8 F),(720,.arr Int 1 G9 (F5 (rows.take F) n)),(16,.box [.p (.v (.int .i64 F)),.p (.v (.int .i64 T))])] (K19 ⟨le1 rfl,le1 rfl,le1 rfl,le1 rfl,le1 rfl,le1 rfl,le1 rfl,le1 rfl,le1 rfl,trivial⟩ ⟨rfl,rfl,rfl,rfl,rfl,rfl,rfl,rfl,trivial⟩) ?_
 skip
 refine A4 (A3 (A5 Z Z) Z (A3 (A8 Z) Z (A3 (A9 Z Z Z) Z (D21 (E54 ⟨n,rows⟩ n F T Z (by omega) hr (by dsimp only;omega) (by omega) (by dsimp only;omega) Z Z Z Z) Z Z Z Z ?_))));rintro _ _ ⟨rfl,rfl⟩;refine A7 ?_
 refine k4 (k1 ?_)
 refine A4 (A3 (C6 Z Z (by omega)) Z (A3 (A5 Z Z) Z (A7 ?_)))
 refine k1 ?_
 exact ⟨(k+1,T,hs++[⟨F5 (rows.take F) n,(rows.drop F).take (T - F)⟩]),⟨by dsimp only;omega,by dsimp only;omega,by dsimp only;rw [K56];simp;omega,hp,ho⟩,by dsimp only;omega,K19 ⟨le1 rfl,le1 rfl,le1 rfl,le1 rfl,le1 rfl,le1 rfl,le1 rfl,le1 rfl,trivial⟩ ⟨rfl,rfl,rfl,rfl,rfl,rfl,rfl,trivial⟩⟩
def D69 (t:Table):List Span:=if 0 < t.Rows.length then [⟨0,t.Rows.length⟩] else []
def A03 (path x:Str) (r:List Str):Comb × Int :=
 if X3 path=false then (comb0,120) else if (G5 x r).2≠0 then (comb0,(G5 x r).2) else A12 path (G5 x r).1 (D69 (G5 x r).1) false
set_option maxHeartbeats 1000000
theorem J91 (path x:Str) (r:List Str) (h:Small16 x r) (hL:∀b∈x::r,(C1 b).length≤16):FnOk Tryz.prog 43 [G7 path,G7 x,Z6 r] (fun rs=>rs=[N7 (A03 path x r).1,F0 (A03 path x r).2]):=by
 have hx:=h.hx
 obtain ⟨s1,s2,s3⟩:=h.sums
 have hl:=h.len
 have hrows:=h.rows
 have hrn:=h.n
 have hm:=J79 x r 16 (by omega) (by omega) ⟨hL x (by simp),by omega⟩ (fun b hb=>⟨hL b (by simp [hb]),by have:=h.hr b hb;omega⟩)
 obtain ⟨t,e,hte⟩:∃t e,G5 x r=(t,e):=⟨_,_,rfl⟩
 rw [hte] at s1 s2 hl hrows hm
 dsimp only at s1 s2 hl hrows hm
 have hc:=pcut_ok path t (D69 t) false hrows (by omega) (by omega) (by unfold D69;split<;>simp)
 have hres:A03 path x r=if X3 path=false then (comb0,120) else if e≠0 then (comb0,e) else A12 path t (D69 t) false:=by
  unfold A03;rw [hte]
 rw [hres]
 refine FnOk.intro Tryz.func43 (by decide) Z Z Z Z ?_
 refine k2 ?_
 refine A4 (C7 (G4 6 Z) Z (A3 (A6 Z Z) Z (A7 ?_)))
 refine k1 (k2 (k2 ?_))
 refine A4 (A3 (A5 Z Z) Z (B9 (D32 path) Z Z Z ?_));rintro _ rfl;refine A3 (F7 Z) Z (A7 ?_)
 refine k1 ?_
 refine B4 rfl (fun ht=>?_) (fun ht=>?_)
 ·have h:X3 path=false:=by simpa using ht
  refine k2 ?_
  refine A4 (A3 (F3 Z) Z (E1 (B7 TySz.out Z Z Z Z Z Z) (A3 (A6 Z Z) Z (A7 ?_))))
  refine k1 ?_
  refine E6 (K21 CHunk 2 L5 6 3 Z Z) ?_
  refine k10 (k11 ?_)
  exact B8 (rs:=[N7 comb0,F0 120]) (Q3 rfl rfl rfl rfl rfl rfl rfl) (by rw [if_pos h])
 have h1:X3 path=true:=by simpa using ht
 rw [if_neg (by rw [h1];decide)]
 refine k5 (k1 (k2 ?_))
 refine A4 (A3 (A5 Z Z) Z (A3 (A5 Z Z) Z (B9 (hm) Z Z Z ?_)));rintro _ rfl;refine A3 (A5 Z Z) Z (A3 (B3 Z Z) Z (A3 (B3 Z Z) Z (C7 (G4 8 Z) Z (E1 (B7 TySz.out Z Z Z Z Z Z) (A3 (A6 Z Z) Z (A7 ?_))))))
 refine k1 (k2 (k2 ?_))
 refine A4 (A3 (A5 Z Z) Z (A3 (N6 Z Z) Z (A7 ?_)))
 refine k1 ?_
 refine B4 rfl (fun ht=>?_) (fun ht=>?_)
 ·have h2:=A0 ht
  refine k2 ?_
  refine A4 (A3 (F3 Z) Z (A3 (A5 Z Z) Z (E1 (B7 TySz.out Z Z Z Z Z Z) (A3 (A6 Z Z) Z (A7 ?_)))))
  refine k1 ?_
  refine E6 (K21 CHunk 2 L5 6 3 Z Z) ?_
  refine k10 (k11 ?_)
  exact B8 (rs:=[N7 comb0,F0 e]) (Q3 rfl rfl rfl rfl rfl rfl rfl) (by rw [if_pos h2])
 have h2:=A1 ht
 rw [if_neg h2]
 refine k5 (k1 (k2 ?_))
 refine A4 (A3 (V3 _ 2 spanC) Z (A7 ?_))
 refine k1 (k2 (k2 ?_))
 refine A4 (A3 (A8 Z) Z (A3 (A9 Z Z Z) Z (A3 (F4 Z (.pure _ _ _ _)) Z (A3 (Q1 Z Z) Z (A7 ?_)))))
 refine k1 ?_
 refine B4 rfl (fun ht=>?_) (fun ht=>?_)
 ·have h3:=A0 ht
  have hsp:D69 t=[⟨0,t.Rows.length⟩]:=by unfold D69;rw [if_pos (by omega)]
  rw [hsp] at hc ⊢
  skip
  refine A4 (A3 (A8 Z) Z (A3 (A9 Z Z Z) Z (A3 (F4 Z (.pure _ _ _ _)) Z (A3 (F3 Z) Z (A3 (E2 (c:=spanC) (ys:=[⟨0,(t.Rows.length:Int)⟩]) (E9 Z Z Z Z I4) Z Z Z) Z (A3 (A6 Z Z) Z (A7 ?_)))))))
  refine k1 (k2 ?_)
  refine A4 (A3 (A5 Z Z) Z (A3 (D2 Z Z Z) Z (A3 (A5 Z Z) Z (B9 (hc) Z Z Z ?_))));rintro _ rfl;refine A3 (B3 Z Z) Z (A3 (B3 Z Z) Z (E1 (B7 TySz.out Z Z Z Z Z Z) (A3 (A6 Z Z) Z (A7 ?_))))
  refine k1 (k10 ?_)
  exact B8 (Q3 rfl rfl rfl rfl rfl rfl rfl) rfl
 ·have h3:=A1 ht
  have hsp:D69 t=[]:=by unfold D69;rw [if_neg (by omega)]
  rw [hsp] at hc ⊢
  refine k5 (k1 (k2 ?_))
  refine A4 (A3 (A5 Z Z) Z (A3 (D2 Z Z Z) Z (A3 (A5 Z Z) Z (B9 (hc) Z Z Z ?_))));rintro _ rfl;refine A3 (B3 Z Z) Z (A3 (B3 Z Z) Z (E1 (B7 TySz.out Z Z Z Z Z Z) (A3 (A6 Z Z) Z (A7 ?_))))
  refine k1 (k10 ?_)
  exact B8 (Q3 rfl rfl rfl rfl rfl rfl rfl) rfl
theorem A95 {x:Str} {r:List Str} (h:Small16 x r) (h1:1≤r.length) (hL:∀b∈x::r,(C1 b).length≤16):(G5 x r).2=0∧M6 (G5 x r).1=0∧(G5 x r).1.Parents=r.length∧Made16 x r (G5 x r).1.Rows:=by
 have hn:=h.n
 have hz:(G5 x r).2=0:=D88 (B:=16) ⟨h1,hn⟩ (hL x (by simp)) (fun b hb=>hL b (by simp [hb])) (by omega)
 have hx1:=hL x (by simp)
 have h2:∀b∈r,(C1 b).length≤4096:=fun b hb=>by have:=hL b (by simp [hb]);omega
 have h3:=B73 (by omega) h2 hz
 exact ⟨hz,G72 (by omega) h2 hz,h3.2⟩
theorem H21 {path:Str} {x:Str} {r:List Str} {sp:List Span} (d:Bool) (hp:X3 path=true) (hpl:path.length≤400) (h:Small16 x r) (h1:1≤r.length) (hL:∀b∈x::r,(C1 b).length≤16) (hsp:CutSp (G5 x r).1.Rows.length 0 sp) :
  A12 path (G5 x r).1 sp d=(⟨path,d,r.length,U6 r.length (G5 x r).1.Rows sp⟩,0)∧G8 ⟨path,d,r.length,U6 r.length (G5 x r).1.Rows sp⟩=0:=by
 obtain ⟨_,g2,g3,_⟩:=A95 h h1 hL
 have hl:=h.len
 have hs:=h.sums.2.2 r.length (by have:=h.n;omega)
 have hg:=I49 (path:=path) (sp:=sp) (d:=d) hp g2 (by omega) hsp (by rw [g3,K62];omega)
 rw [g3,K62] at hg
 exact ⟨hg.1,hg.2.1⟩
theorem H22 {path x:Str} {r:List Str} (hp:X3 path=true) (hpl:path.length≤400) (h:Small16 x r) (h1:1≤r.length) (hL:∀b∈x::r,(C1 b).length≤16) :
  A03 path x r=(⟨path,false,r.length,U6 r.length (G5 x r).1.Rows (d9 (G5 x r).1.Rows.length)⟩,0)∧G8 ⟨path,false,r.length,U6 r.length (G5 x r).1.Rows (d9 (G5 x r).1.Rows.length)⟩=0∧A03 path x r=A12 path (G5 x r).1 (d9 (G5 x r).1.Rows.length) false:=by
 obtain ⟨g1,g2,_,_⟩:=A95 h h1 hL
 obtain ⟨c1,c2⟩:=H21 (path:=path) false hp hpl h h1 hL (H75 _)
 have e:A03 path x r=A12 path (G5 x r).1 (d9 (G5 x r).1.Rows.length) false:=by
  unfold A03
  rw [if_neg (by rw [hp];decide),g1,if_neg (by decide)]
  rfl
 exact ⟨e.trans c1,c2,e⟩
theorem J25 {path x:Str} {r:List Str} (h:Small16 x r):szC (A03 path x r).1.Hunks≤268435456∧∀y∈(A03 path x r).1.Hunks,J8 y.Rows:=by
 unfold A03
 split
 ·exact ⟨Nat.zero_le _,fun y hy=>by cases hy⟩
 ·split
  ·exact ⟨Nat.zero_le _,fun y hy=>by cases hy⟩
  ·exact J86 h.rows (by have:=h.sums.2.1;omega)
set_option maxHeartbeats 1000000
theorem F36 {c:Comb} (h:G8 c=0):(1≤c.Parents∧c.Parents≤32)∧p9 c.Parents.toNat c.Hunks=true∧W2 c.Parents.toNat (List.replicate (c.Parents.toNat+1) 0) c.Hunks=true∧c9 (d7 c.Hunks) c.Parents.toNat=true:=by
 unfold G8 at h
 split at h
 ·cases h
 ·split at h
  ·cases h
  ·rename_i h0
   split at h
   ·cases h
   ·rename_i h1
    split at h
    ·cases h
    ·rename_i h2
     have h2:T3 c.Parents.toNat c.Hunks=true:=by simpa using h2
     unfold T3 at h2
     rw [K59] at h2
     exact ⟨by omega,by simpa using h1,h2.1,h2.2⟩
theorem at_nn {n:Nat} {hs:List CHunk} (hg:W2 n (List.replicate (n+1) 0) hs=true) {h:CHunk} (hm:h∈hs):h.At.length=n+1∧h.Rows≠[]∧∀v∈h.At,0≤v:=by
 obtain ⟨a1,a2,a3⟩:=B96 hs _ (fun k hk=>by rw [K60,List.getElem?_replicate_of_lt hk];exact Int.le_refl _) hg h hm
 refine ⟨a1,a2,fun v hv=>?_⟩
 obtain ⟨k,hk,rfl⟩:=List.getElem_of_mem hv
 have:=(a3 k (by omega)).1
 rw [K60,K57 hk] at this
 exact this
theorem H23 {c:Comb} (h:G8 c≠0):V7 c=(⟨0,[]⟩,G8 c):=by unfold V7;rw [if_pos h]
theorem H24 {p:Str} {d:Bool} {n:Int} (h:G8 ⟨p,d,n,[]⟩=0):V7 ⟨p,d,n,[]⟩=(⟨n,[]⟩,0):=by unfold V7;rw [if_neg (fun q=>q h)]
theorem G43 {p:Str} {d:Bool} {n:Int} {x y:CHunk} {r:List CHunk} (h:G8 ⟨p,d,n,x::y::r⟩=0):V7 ⟨p,d,n,x::y::r⟩=(⟨0,[]⟩,121):=by
 unfold V7
 rw [if_neg (fun q=>q h)]
 dsimp only
 rw [if_pos (.inl (by simp))]
theorem H25 {p:Str} {d:Bool} {n:Int} {x:CHunk} (h:G8 ⟨p,d,n,[x]⟩=0) {v:Int} (hv:v∈x.At) (h0:v≠0):V7 ⟨p,d,n,[x]⟩=(⟨0,[]⟩,121):=by
 unfold V7
 rw [if_neg (fun q=>q h)]
 dsimp only
 rw [if_pos (.inr ⟨v,hv,h0⟩)]
theorem H26 {p:Str} {d:Bool} {n:Int} {x:CHunk} (h:G8 ⟨p,d,n,[x]⟩=0) (hz:∀v∈x.At,v=0):V7 ⟨p,d,n,[x]⟩=(⟨n,x.Rows⟩,0):=by
 unfold V7
 rw [if_neg (fun q=>q h)]
 dsimp only
 rw [if_neg]
 rintro (q | ⟨v,hv,q⟩)
 ·exact q rfl
 ·exact q (hz v hv)
set_option maxHeartbeats 1000000
theorem J26 (c:Comb) (hz:szC c.Hunks≤268435456) (hr:∀h∈c.Hunks,J8 h.Rows):FnOk Tryz.prog 54 [N7 c] (fun rs=>rs=[pTable (V7 c).1,F0 (V7 c).2]):=by
 have hC:=B85 c hz hr
 obtain ⟨p,d,n,hs⟩:=c
 dsimp only at hz hr
 refine FnOk.intro Tryz.func54 (by decide) Z Z Z Z ?_
 refine k2 ?_
 refine A4 (C7 (T7 1 Z Z Z) Z (C7 (G4 2 Z) Z (A3 (A6 Z Z) Z (A7 ?_))))
 refine k1 (k2 (k2 ?_))
 refine A4 (A3 (D2 Z Z Z) Z (B9 (hC) Z Z Z ?_));rintro _ rfl;refine A3 (A6 Z Z) Z (A7 ?_)
 refine k1 (k2 ?_)
 refine A4 (A3 (A5 Z Z) Z (A3 (N6 Z Z) Z (A7 ?_)))
 refine k1 ?_
 refine B4 rfl (fun ht=>?_) (fun ht=>?_)
 ·have h:=A0 ht
  refine k2 ?_
  refine A4 (A3 (F3 Z) Z (A3 (A5 Z Z) Z (E1 (B7 TySz.out Z Z Z Z Z Z) (A3 (A6 Z Z) Z (A7 ?_)))))
  refine k1 ?_
  refine E6 (K21 Row 3 rowC 2 1 Z Z) ?_
  refine k10 (k11 ?_)
  exact B8 (rs:=[pTable ⟨0,[]⟩,F0 (G8 ⟨p,d,n,hs⟩)]) (Q3 rfl rfl rfl rfl rfl rfl rfl) (by rw [H23 h])
 have h0:G8 ⟨p,d,n,hs⟩=0:=by have:=A1 ht;(try dsimp only at this);omega
 obtain ⟨p1,p2,p3,p4⟩:=F36 h0
 dsimp only at p1 p2 p3 p4
 refine k5 (k1 (k2 ?_))
 refine A4 (A3 (A8 Z) Z (A3 (A9 Z Z Z) Z (A3 (F3 Z) Z (C7 (G4 5 Z) Z (E1 (B7 TySz.out Z Z Z Z Z Z) (A7 ?_))))))
 refine k1 (k2 (k3 (k2 ?_)))
 refine A4 (A3 (A8 Z) Z (A3 (A9 Z Z Z) Z (A3 (F4 Z (.pure _ _ _ _)) Z (A3 (J3 Z Z) Z (A3 (A6 Z Z) Z (A7 ?_))))))
 refine k1 ?_
 refine B4 rfl (fun ht=>?_) (fun ht=>?_)
 ·have hh:hs=[]:=List.eq_nil_of_length_eq_zero (by have:=A0 ht;(try dsimp only at this);omega)
  subst hh
  refine k2 ?_
  refine A4 (A3 (D2 Z Z Z) Z (E1 (B7 TySz.out Z Z Z Z Z Z) (A3 (A6 Z Z) Z (A7 ?_))))
  refine k1 ?_
  refine E6 (K21 Row 3 rowC 2 1 Z Z) ?_
  refine k10 (k12 (k11 ?_))
  exact B8 (rs:=[pTable ⟨n,[]⟩,F0 0]) (Q3 rfl rfl rfl rfl rfl rfl rfl) (by rw [H24 h0])
 have hne:=A1 ht
 cases hs with
 | nil=>exact absurd rfl hne
 | cons x r =>
  have hv:(x::r)[(0:Int).toNat]?=some x:=rfl
  obtain ⟨a1,a2,a3⟩:=at_nn p3 (h:=x) (by simp)
  have hxz:C53 x≤268435456:=by unfold szC at hz;rw [K63,K85] at hz;omega
  have hx1:=l4 x.Rows
  have hx2:0 < x.Rows.length:=List.length_pos_iff.2 a2
  unfold C53 at hxz
  cases r with
  | cons y r =>
   have hd:decide ((((x::y::r).length:Nat):Int) > 1)=true:=decide_eq_true (by simp;omega)
   refine k2 ?_
   refine A4 (A3 (A8 Z) Z (A3 (A9 Z Z Z) Z (A3 (F4 Z (.pure _ _ _ _)) Z (A3 (Q1 Z Z) Z (A3 (A5 Z Z) Z (Q7 Z Z Z (by rw [hd];decide) Z ?_))))));refine Q7 Z Z Z (by rw [hd];decide) Z ?_;refine Q7 Z Z Z (by rw [hd];decide) Z ?_;refine Q7 Z Z Z (by rw [hd];decide) Z ?_;refine Q7 Z Z Z (by rw [hd];decide) Z ?_;refine Q7 Z Z Z (by rw [hd];decide) Z ?_;refine Q7 Z Z Z (by rw [hd];decide) Z ?_;refine A3 (G90 Z (hd) Z) Z (A3 (A6 Z Z) Z (A7 ?_))
   refine k1 ?_
   refine B4 rfl (fun ht=>?_) (fun ht=>?_)
   ·refine k2 ?_
    refine A4 (A3 (F3 Z) Z (E1 (B7 TySz.out Z Z Z Z Z Z) (A3 (A6 Z Z) Z (A7 ?_))))
    refine k1 ?_
    refine E6 (K21 Row 3 rowC 2 1 Z Z) ?_
    refine k10 (k12 (k11 ?_))
    exact B8 (rs:=[pTable ⟨0,[]⟩,F0 121]) (Q3 rfl rfl rfl rfl rfl rfl rfl) (by rw [G43 h0])
   ·cases ht
  | nil =>
   have hd:decide (((([x]:List CHunk).length:Nat):Int) > 1)=false:=decide_eq_false (by simp)
   refine k2 ?_
   refine A4 (A3 (A8 Z) Z (A3 (A9 Z Z Z) Z (A3 (F4 Z (.pure _ _ _ _)) Z (A3 (Q1 Z Z) Z (A3 (A5 Z Z) Z (X9 Z Z Z hd (A3 (A8 Z) Z (X9 Z Z Z hd (A3 (A9 Z Z Z) Z (X9 Z Z Z hd (A3 (C0 Z (.pure _ _ _ _) Z (by omega) hv) Z (X9 Z Z Z hd (A3 (A13 Z) Z (X9 Z Z Z hd (A3 (C9 Z Z) Z (X9 Z Z Z hd (B9 (I67 x.At (by omega)) Z Z Z ?_)))))))))))))))));rintro _ ⟨m,rfl,hm⟩;refine X9 Z Z Z hd (A3 (Q1 Z Z) Z (A3 (C72 Z (hd) Z) Z (A3 (A6 Z Z) Z (A7 ?_))))
   refine k1 ?_
   refine B4 rfl (fun ht=>?_) (fun ht=>?_)
   ·have hm0:0 < m:=A0 ht
    have:∃v,v∈x.At∧v≠0:=Classical.byContradiction fun q=>by
     have:m≤0:=(hm 0).2 fun e he=>by
      have:e=0:=Classical.byContradiction fun h2=>q ⟨e,he,h2⟩
      omega
     omega
    obtain ⟨v,hv1,hv2⟩:=this
    refine k2 ?_
    refine A4 (A3 (F3 Z) Z (E1 (B7 TySz.out Z Z Z Z Z Z) (A3 (A6 Z Z) Z (A7 ?_))))
    refine k1 ?_
    refine E6 (K21 Row 3 rowC 2 1 Z Z) ?_
    refine k10 (k12 (k11 ?_))
    exact B8 (rs:=[pTable ⟨0,[]⟩,F0 121]) (Q3 rfl rfl rfl rfl rfl rfl rfl) (by rw [H25 h0 hv1 hv2])
   ·have hm0:m≤0:=by have:=A1 ht;(try dsimp only at this);omega
    have hall:∀v∈x.At,v=0:=fun v h=>by have h1:=a3 v h;have h2:=(hm 0).1 hm0 v h;omega
    refine k5 (k2 ?_)
    refine A4 (A3 (A8 Z) Z (A3 (A9 Z Z Z) Z (A3 (C0 Z (.pure _ _ _ _) Z (by omega) hv) Z (A3 (A13 Z) Z (A3 (C9 Z Z) Z (B9 (F73 x.Rows (by omega)) Z Z Z ?_))))));rintro _ rfl;refine A3 (A8 Z) Z (E1 (B7 TySz.out Z Z Z Z Z Z) (A7 ?_))
    refine k1 (k2 ?_)
    refine A4 (A3 (D2 Z Z Z) Z (E1 (B7 TySz.out Z Z Z Z Z Z) (A3 (A6 Z Z) Z (A7 ?_))))
    refine k1 (k10 ?_)
    exact B8 (rs:=[pTable ⟨n,x.Rows⟩,F0 0]) (Q3 rfl rfl rfl rfl rfl rfl rfl) (by rw [H26 h0 hall])
theorem J27 {x:Str} {r:List Str} (hsm:Small16 x r) (h1:1≤r.length) (hL:∀b∈x::r,(C1 b).length≤16):∃(c:Comb) (rows:List Row),A03 [120] x r=(c,0)∧(c.Path=[120]∧c.Parents=r.length)∧G8 c=0∧G5 x r=(⟨r.length,rows⟩,0)∧V7 c=(⟨r.length,rows⟩,0)∧M6 ⟨r.length,rows⟩=0 ∧
  (szC c.Hunks≤268435456∧∀y∈c.Hunks,J8 y.Rows)∧(J8 rows∧rows.length≤1105∧P5 rows≤154700)∧T0 ⟨r.length,rows⟩ (-1)=(x,0)∧(∀q:Nat,q < r.length→T0 ⟨r.length,rows⟩ q=(r.getD q [],0))∧c.Hunks=U6 r.length rows (d9 rows.length):=by
 obtain ⟨g1,g2,g3,g4⟩:=A95 hsm h1 hL
 obtain ⟨F1,F2,_⟩:=H22 (path:=[120]) (by decide) (by decide) hsm h1 hL
 have hz:=J25 (path:=[120]) hsm
 obtain ⟨s1,s2,_⟩:=hsm.sums
 have hl:=hsm.len
 have hrw:=hsm.rows
 obtain ⟨m1,m2⟩:=H76 g2 g3 g4 (by have:=hsm.hx;omega) (fun b hb=>by have:=hsm.hr b hb;omega)
 have htf:=I51 (path:=[120]) (d:=false) (t:=(G5 x r).1) (by rw [g3,K62];exact F2)
 rw [g3,K62] at htf
 rw [F1] at hz
 obtain ⟨t,e,hte⟩:∃t e,G5 x r=(t,e):=⟨_,_,rfl⟩
 rw [hte] at g1 g2 g3 F1 F2 hz s1 hl hrw m1 m2 htf
 obtain ⟨tp,rows⟩:=t
 dsimp only at g1 g2 g3 F1 F2 hz s1 hl hrw m1 m2 htf
 subst g1 g3
 exact ⟨_,rows,F1,⟨rfl,rfl⟩,F2,hte,htf,g2,hz,⟨hrw,hl,s1⟩,m1,m2,rfl⟩
set_option maxHeartbeats 1000000
theorem H27 (raw:List Int) (p:Nat):(v6 raw 4 p).count 10≤9:=by
 have h1:=E58 raw (600+50*(p:Int)) 4 4 (by omega)
 have h2:=E58 raw 0 4 5 (by omega)
 have h3:=A94 raw (600+50*(p:Int)) (C1 (W8 raw 0 4 5)) 0 []
 have h4:=D87 (W8 raw 0 4 5)
 rw [A02] at h3
 have h5:List.count (10:UInt8) ([]:Str)=0:=rfl
 unfold v6
 split
 ·omega
 ·split
  ·omega
  ·unfold C38;omega
theorem blobs4 (raw:List Int) (n:Nat):∀b∈Z4 raw n 4,(C1 b).length≤16∧b.length≤140:=by
 intro b hb
 obtain ⟨p,_,rfl⟩:=List.mem_map.1 hb
 have h1:=H92 raw 4 p (by omega)
 have h2:=H27 raw p
 have h3:=D87 (v6 raw 4 p)
 omega
theorem I19 {x:Str} {r:List Str} (hn:1≤r.length∧r.length≤32) (hx:(C1 x).length≤16∧x.length≤140) (hr:∀b∈r,(C1 b).length≤16∧b.length≤140):Small16 x r:=by
 obtain ⟨k1,k2,k3⟩:=G71 x r 16 140 hx hr
 have hz:(G5 x r).2=0:=D88 (B:=16) hn hx.1 (fun b hb=>(hr b hb).1) (by omega)
 have h3:=B73 (by omega) (fun b hb=>by have:=(hr b hb).1;omega) hz
 have h4:=h3.2.2.few hn.2 hx.1 (fun b hb=>(hr b hb).1)
 exact ⟨hn.2,hx.2,fun b hb=>(hr b hb).2,k1,by omega,k3⟩
theorem J28 {c:Comb} {x:Str} {r:List Str} {rows:List Row} (hsm:Small16 x r) (hm:G5 x r=(⟨r.length,rows⟩,0)) (hp:c.Path=[120]∧c.Parents=r.length) (hh:c.Hunks=U6 r.length rows (d9 rows.length)):(T6 c).length≤600000:=by
 obtain ⟨_,_,s3⟩:=hsm.sums
 have s3:=s3 r.length hsm.n
 rw [hm] at s3
 dsimp only at s3
 have hw:=H66 c
 have hn:=hsm.n
 rw [hp.1,hp.2,K62,hh,F08] at hw
 have e:([120]:Str).length=1:=rfl
 rw [e] at hw
 split at hw
 ·simp only [K63,K96,K85,L09] at hw
  omega
 ·simp only [K96,L09] at hw
  omega
set_option maxHeartbeats 1000000
theorem F37 (raw:List Int) (n:Int):FnOk Tryz.prog 14 [S9 raw,F0 n] (fun rs=>rs=[E8 true]):=by
 have hm:=A27 n (n:=32) (by omega)
 have hmod:=G28 n 32 (by omega) (by omega)
 obtain ⟨M,hM⟩:∃M:Nat,Z7 n 32=M:=⟨(Z7 n 32).toNat,by omega⟩
 rw [hM] at hm hmod
 have hl:(Z4 raw (M+2) 4).length=M+2:=by simp [Z4]
 have hb4:=blobs4 raw (M+2)
 have hb:=J72 raw (M+2) 4 (by omega) (by omega)
 obtain ⟨x,r,hxr⟩:∃x r,Z4 raw (M+2) 4=x::r:=by
  cases h:Z4 raw (M+2) 4 with
  | nil=>rw [h] at hl;simp at hl
  | cons x r=>exact ⟨x,r,rfl⟩
 rw [hxr] at hl hb4 hb
 have hrl:r.length=M+1:=by simpa using hl
 have hN:1+(M:Int)=(r.length:Int):=by omega
 rw [show ((M+2:Nat):Int)=(r.length:Int)+1 by omega] at hb
 have hsm:=I19 (x:=x) (r:=r) (by omega) (hb4 x (by simp)) (fun b h=>hb4 b (by simp [h]))
 have h1:1≤r.length:=by omega
 have hL:∀b∈x::r,(C1 b).length≤16:=fun b h=>(hb4 b h).1
 have hF:=J91 [120] x r hsm hL
 obtain ⟨c,rows,e1,⟨e2,e3⟩,e4,e5,e6,e7,⟨z1,z2⟩,⟨r1,r2,r3⟩,c1,c2,hhk⟩:=J27 hsm h1 hL
 rw [e1] at hF
 have hwl:=J28 hsm e5 ⟨e2,e3⟩ hhk
 have hFo:=E53 c z1 z2
 rw [if_pos e4] at hFo
 have hPa:=E56 e4 hwl
 have hT:=J26 c z1 z2
 rw [e6] at hT
 have hC:=fun q=>C39 ⟨r.length,rows⟩ q r1 (by dsimp only;omega) (by dsimp only;omega)
 have hcol:∀j:Nat,j < r.length+1→T0 ⟨r.length,rows⟩ ((j:Int) - 1)=((x::r).getD j [],0):=by
  intro j hj
  cases j with
  | zero=>exact c1
  | succ q=>rw [show ((q+1:Nat):Int) - 1=(q:Int) by omega];exact c2 q (by omega)
 obtain ⟨w,hw⟩:∃w,w=T6 c:=⟨_,rfl⟩
 rw [←hw] at hFo hPa
 refine FnOk.intro Tryz.func14 (by decide) Z Z Z Z ?_
 refine k2 ?_
 refine A4 (A3 (A6 Z Z) Z (A7 ?_))
 refine k1 (k2 ?_)
 refine A4 (A3 (A5 Z Z) Z (B9 (hmod) Z Z Z ?_));rintro _ rfl;refine A3 (C6 Z Z (by omega)) Z (A3 (A6 Z Z) Z (A7 ?_))
 rw [hN]
 refine k1 (k2 ?_)
 refine A4 (A3 (A5 Z Z) Z (A3 (A5 Z Z) Z (A3 (C6 Z Z (by omega)) Z (B9 (hb) Z Z Z ?_))));rintro _ rfl;refine A3 (A6 Z Z) Z (A7 ?_)
 refine k1 (k2 ?_)
 refine G24 [10,9] [[],[9],[10,9]] [(0,[9]),(1,[9]),(2,[9]),(3,[9]),(4,[9]),(5,[9]),(6,[9]),(7,[9]),(8,[9]),(8,[10,9])] (by kernel_rfl) (by kernel_rfl) (C04 Z (A5 Z Z) (C04 Z (C0 Z (.pure _ _ _ _) Z (by omega) (show (x::r)[(0:Int).toNat]?=some x from Z)) (C04 Z (C9 Z Z) (C04 Z (A5 Z Z) (C04 Z (A63 Z (.pure _ _ _ _) Z (by (first | omega | (simp only [K58];omega))) (by (first | omega | (simp only [K58];omega)))) (C04 Z (O0 (hF) Z Z) (C04 Z (A5 Z Z) (C04 Z (B3 Z Z) (C04 Z (B3 Z Z) (a_alloc 6 Z Z (a_store (G89 TySz.out Z Z Z Z Z Z) (C04 Z (A6 Z Z) ?_))))))))))));refine a_nil rfl ?_ ?_
 ·refine C05 Z Z (A5 Z Z) (C05 Z Z (C0 Z (.pure _ _ _ _) Z (by omega) (show (x::r)[(0:Int).toNat]?=some x from Z)) (C05 Z Z (C9 Z Z) (C05 Z Z (A5 Z Z) (C05 Z Z (A63 Z (.pure _ _ _ _) Z (by (first | omega | (simp only [K58];omega))) (by (first | omega | (simp only [K58];omega)))) (C05 Z Z (O0 (hF) Z Z) (C05 Z Z (A5 Z Z) (C05 Z Z (B3 Z Z) (C05 Z Z (B3 Z Z) (C05 Z Z (B3 Z Z) ?_)))))))));exact o_nil
 refine k1 (k2 ?_)
 refine A4 (A3 (D2 Z Z Z) Z (B9 (hFo) Z Z Z ?_));rintro _ rfl;refine A3 (A5 Z Z) Z (A3 (B3 Z Z) Z (A3 (B3 Z Z) Z (A3 (A6 Z Z) Z (A3 (A6 Z Z) Z (A7 ?_)))))
 refine k1 (k2 ?_)
 refine A4 (A3 (A5 Z Z) Z (B9 (hPa) Z Z Z ?_));rintro _ rfl;refine A3 (A5 Z Z) Z (A3 (B3 Z Z) Z (A3 (B3 Z Z) Z (C7 (G4 10 Z) Z (E1 (B7 TySz.out Z Z Z Z Z Z) (A3 (A6 Z Z) Z (A7 ?_))))))
 refine k1 (k2 ?_)
 refine A4 (A3 (D2 Z Z Z) Z (B9 (hT) Z Z Z ?_));rintro _ rfl;refine A3 (A5 Z Z) Z (A3 (B3 Z Z) Z (A3 (B3 Z Z) Z (C7 (G4 12 Z) Z (E1 (B7 TySz.out Z Z Z Z Z Z) (A3 (A6 Z Z) Z (A7 ?_))))))
 refine k1 (k2 (k2 ?_))
 refine A4 (A3 (A5 Z Z) Z (A3 (N6 Z Z) Z (A3 (A5 Z Z) Z (B0 Z Z Z Z (fun hg=>by rw [hg];exact A5 Z Z) ?_))));refine B0 Z Z Z Z (fun hg=>by rw [hg];exact N6 Z Z) ?_;refine A3 (B5 Z (fun h=>by first | rfl | (rw [h];rfl)) (fun h=>by first | rfl | (rw [h];rfl))) Z ?_;refine A3 (A5 Z Z) Z (B0 Z Z Z Z (fun hg=>by rw [hg];exact A5 Z Z) ?_);refine B0 Z Z Z Z (fun hg=>by rw [hg];exact N6 Z Z) ?_;refine A3 (B5 Z (fun h=>by first | rfl | (rw [h];rfl)) (fun h=>by first | rfl | (rw [h];rfl))) Z ?_;refine A3 (A5 Z Z) Z (B0 Z Z Z Z (fun hg=>by rw [hg];exact A5 Z Z) ?_);refine B0 Z Z Z Z (fun hg=>by rw [hg];exact N6 Z Z) ?_;refine A3 (B5 Z (fun h=>by first | rfl | (rw [h];rfl)) (fun h=>by first | rfl | (rw [h];rfl))) Z ?_;refine A3 (A5 Z Z) Z (B0 Z Z Z Z (fun hg=>by rw [hg];exact A8 Z) ?_);refine B0 Z Z Z Z (fun hg=>by rw [hg];exact A9 Z Z Z) ?_;refine B0 Z Z Z Z (fun hg=>by rw [hg];exact A5 Z Z) ?_;refine B0 Z Z Z Z (fun hg=>by rw [hg];exact N6 Z Z) ?_;refine A3 (B5 Z (fun h=>by first | rfl | (rw [h];rfl)) (fun h=>by first | rfl | (rw [h];rfl))) Z ?_;refine A7 ?_
 refine k1 ?_
 refine B4 rfl (fun ht=>?_) (fun ht=>?_)
 ·exfalso;simp at ht
 refine k5 (k1 (k2 (k2 ?_)))
 refine A4 (A3 (A6 Z Z) Z (A7 ?_))
 refine k1 (k3 ?_)
 refine E4 (X:=Nat) (fun j=>([(1,C2 r.length),(5,D3 Str 1 L0 (x::r)),(12,.s (.one (.ref 12 0))),(14,C2 ((j:Int) - 1))],[(12,.box (pTable ⟨r.length,rows⟩).s1.cells)])) (fun j=>j≤r.length+1) (fun j=>r.length+1 - j) 0 (Nat.zero_le _) (K19 ⟨le1 rfl,le1 rfl,le1 rfl,le1 rfl,trivial⟩ ⟨rfl,trivial⟩) ?_
 intro j hj
 dsimp only at hj ⊢
 refine k2 (k2 ?_)
 refine A4 (A3 (A5 Z Z) Z (A3 (A5 Z Z) Z (A3 (E5 Z Z) Z (A7 ?_))))
 refine k1 ?_
 refine B4 rfl (fun ht=>?_) (fun ht=>?_)
 ·have hlt:j < r.length+1:=by have:=A0 ht;(try dsimp only at this);omega
  have hv:(x::r)[((j:Int) - 1+1).toNat]?=some ((x::r).getD j []):=by
   rw [show ((j:Int) - 1+1).toNat=j by omega,K60,K57 (by simpa using hlt)];rfl
  have hCj:=hC ((j:Int) - 1)
  rw [hcol j hlt] at hCj
  refine k5 (k1 (k2 (k3 (k2 ?_))))
  refine A4 (A3 (D2 Z Z Z) Z (A3 (A5 Z Z) Z (B9 (hCj) Z Z Z ?_)));rintro _ rfl;refine A3 (A5 Z Z) Z (A3 (B3 Z Z) Z (A3 (B3 Z Z) Z (A3 (A6 Z Z) Z (A3 (A6 Z Z) Z (A7 ?_)))))
  refine k1 (k2 ?_)
  refine A4 (A3 (A5 Z Z) Z (A3 (N6 Z Z) Z (A3 (A5 Z Z) Z (B0 Z Z Z Z (fun hg=>by rw [hg];exact A5 Z Z) ?_))));refine B0 Z Z Z Z (fun hg=>by rw [hg];exact A5 Z Z) ?_;refine B0 Z Z Z Z (fun hg=>by rw [hg];exact A5 Z Z) ?_;refine B0 Z Z Z Z (fun hg=>by have hq:=hg;(try simp at hq);rw [hg];exact C6 Z Z (by omega)) ?_;refine B0 Z Z Z Z (fun hg=>by have hq:=hg;(try simp at hq);rw [hg];exact C0 Z (.pure _ _ _ _) Z (by omega) hv) ?_;refine B0 Z Z Z Z (fun hg=>by rw [hg];exact C9 Z Z) ?_;refine B0 Z Z Z Z (fun hg=>by rw [hg];exact A78 Z Z) ?_;refine A3 (B5 Z (fun h=>by first | rfl | (rw [h];rfl)) (fun h=>by first | rfl | (rw [h];rfl))) Z ?_;refine A7 ?_
  refine k1 ?_
  refine B4 rfl (fun ht=>?_) (fun ht=>?_)
  ·exfalso;simp at ht
  refine k5 (k4 (k1 ?_))
  refine A4 (A3 (A5 Z Z) Z (A3 (C6 Z Z (by omega)) Z (A3 (A6 Z Z) Z (A7 ?_))))
  rw [show (j:Int) - 1+1=((j+1:Nat):Int) - 1 by omega]
  refine k1 ?_
  exact ⟨j+1,by omega,by omega,K19 ⟨le1 rfl,le1 rfl,le1 rfl,le1 rfl,trivial⟩ ⟨rfl,trivial⟩⟩
 ·skip
  refine k6 (k2 ?_)
  refine A4 (B9 (J90) Z Z Z ?_);rintro _ rfl;refine A3 (A6 Z Z) Z (A7 ?_)
  refine k1 (k10 ?_)
  exact B8 (J6 rfl rfl rfl) rfl
end Go.Proofs.YtbiadkkamhpdnaaGreatDoor
