/- Walks of the program's functions. -/
import Derived.Test.YtgejaedjnbjpoaaGreatDoorFh
import Derived.Test.YtgejaedjnbjpoaaGreatDoorFf
import Derived.Test.YtgejaedjnbjpoaaGreatDoorFs
import Derived.Test.YtgejaedjnbjpoaaGreatDoorFc
import Derived.Test.YtgejaedjnbjpoaaGreatDoorFg
import Derived.Test.YtgejaedjnbjpoaaGreatDoorFa
namespace Go.Proofs.YtgejaedjnbjpoaaGreatDoor
open Go Go.AL
set_option maxRecDepth 100000
theorem K19 {s:Str} {l:List Str} (h:x4 s=some l):(l.map A49).sum≤420*s.length:=by
 unfold x4 at h
 split at h
 ·cases h;simp
 ·split at h
  ·have h:(C3 s).map List.dropLast=l:=Option.some.inj h
   obtain ⟨f1,f2⟩:=E94 s
   have hsum:∀L:List Str,(∀x∈L,x≠[])→((L.map List.dropLast).map A49).sum≤420*L.flatten.length:=by
    intro L
    induction L with
    | nil=>intro _;simp
    | cons x r ih =>
     intro hne
     have ih:=ih (fun y hy=>hne y (by simp [hy]))
     have hx:=List.length_pos_iff.2 (hne x (by simp))
     simp only [L04,L29,L16,K96]
     have e:A49 x.dropLast=420*(x.dropLast.length+1):=rfl
     rw [e,List.length_dropLast]
     omega
   have hs:=hsum (C3 s) (fun x hx=>((C47 x).1 ((A37 s).1 x hx)).1)
   rw [h] at hs
   omega
  ·cases h
def H38 (f:List Str→Option Comb) (s:Str):List PV:=[N4 (B22 f s).1,F2 (B22 f s).2]
theorem H39 (s:Str) (hs:s.length≤600000):FnOk Tryz.prog 36 [G7 s] (fun rs=>rs=H38 Z1 s):=by
 have h16:¬16777216 < s.length:=by omega
 have hL:=I22 s (by omega)
 have hfail:∀{x:Comb × Int},B22 Z1 s=x→x=(comb0,4)→[N4 comb0,F2 4]=H38 Z1 s:=by
  intro x h1 h2
  unfold H38;rw [h1,h2]
 refine FnOk.intro Tryz.func36 (by decide) Z Z Z Z ?_
 refine k2 ?_
 refine A4 (C7 (F9 2 Z) Z (A3 (A6 Z Z) Z (A7 ?_)))
 refine k1 (k2 (k2 ?_))
 refine A4 (A3 (A5 Z Z) Z (A3 (E7 Z) Z (A3 (R5 Z Z) Z (A7 ?_))))
 refine k1 ?_
 refine B4 rfl (fun ht=>?_) (fun ht=>?_)
 ·exact absurd (A0 ht) (by omega)
 cases hl:x4 s with
 | none =>
  unfold D40 at hL
  rw [hl] at hL
  refine k5 (k1 (k2 ?_))
  refine A4 (A3 (A5 Z Z) Z (C1 (hL) Z Z Z ?_));rintro _ rfl;refine A3 (A5 Z Z) Z (A3 (B3 Z Z) Z (A3 (B3 Z Z) Z (A3 (A6 Z Z) Z (A3 (A6 Z Z) Z (A7 ?_)))))
  refine k1 (k2 (k2 ?_))
  refine A4 (A3 (A5 Z Z) Z (A3 (F0 Z) Z (A7 ?_)))
  refine k1 ?_
  refine B4 rfl (fun ht=>?_) (fun ht=>?_)
  ·refine k2 ?_
   refine A4 (A3 (G4 Z) Z (E5 (B7 TySz.out Z Z Z Z Z Z) (A3 (A6 Z Z) Z (A7 ?_))))
   refine k1 ?_
   refine E8 (K62 CHunk 2 L2 2 3 Z Z) ?_
   refine k10 (k11 ?_)
   exact B8 (rs:=[N4 comb0,F2 4]) (U0 rfl rfl rfl rfl rfl rfl rfl) (hfail rfl (by unfold B22;rw [if_neg h16,hl]))
  ·cases ht
 | some l =>
  unfold D40 at hL
  rw [hl] at hL
  obtain ⟨z1,z2⟩:=J33 hl
  have zw:=K19 hl
  have hP:=J48 l (by omega) (fun t ht=>by have:=z2 t ht;omega)
  cases hp:Z1 l with
  | none =>
   unfold Z5 at hP
   rw [hp] at hP
   refine k5 (k1 (k2 ?_))
   refine A4 (A3 (A5 Z Z) Z (C1 (hL) Z Z Z ?_));rintro _ rfl;refine A3 (A5 Z Z) Z (A3 (B3 Z Z) Z (A3 (B3 Z Z) Z (A3 (A6 Z Z) Z (A3 (A6 Z Z) Z (A7 ?_)))))
   refine k1 (k2 (k2 ?_))
   refine A4 (A3 (A5 Z Z) Z (A3 (F0 Z) Z (A7 ?_)))
   refine k1 ?_
   refine B4 rfl (fun ht=>?_) (fun ht=>?_)
   ·cases ht
   refine k5 (k1 (k2 ?_))
   refine A4 (A3 (A5 Z Z) Z (C1 (hP) Z Z Z ?_));rintro _ rfl;refine A3 (A5 Z Z) Z (A3 (B3 Z Z) Z (A3 (B3 Z Z) Z (C7 (F9 6 Z) Z (E5 (B7 TySz.out Z Z Z Z Z Z) (A3 (A6 Z Z) Z (A7 ?_))))))
   refine k1 (k2 (k2 ?_))
   refine A4 (A3 (A5 Z Z) Z (A3 (F0 Z) Z (A7 ?_)))
   refine k1 ?_
   refine B4 rfl (fun ht=>?_) (fun ht=>?_)
   ·refine k2 ?_
    refine A4 (A3 (G4 Z) Z (E5 (B7 TySz.out Z Z Z Z Z Z) (A3 (A6 Z Z) Z (A7 ?_))))
    refine k1 ?_
    refine E8 (K62 CHunk 2 L2 2 3 Z Z) ?_
    refine k10 (k11 ?_)
    exact B8 (rs:=[N4 comb0,F2 4]) (U0 rfl rfl rfl rfl rfl rfl rfl) (hfail rfl (by unfold B22;rw [if_neg h16,hl];dsimp only;rw [hp]))
   ·cases ht
  | some p =>
   unfold Z5 at hP
   rw [hp] at hP
   obtain ⟨_,hsz,hci⟩:=J40 hp
   have hz:szC p.Hunks≤268435456:=by omega
   have hr:∀h∈p.Hunks,K3 h.Rows:=fun h hm=>(hci h hm).2
   have hF:=E72 p hz hr
   have hS:B22 Z1 s=if J1 p≠0∨S0 p≠s then (comb0,4) else (p,0):=by unfold B22;rw [if_neg h16,hl];dsimp only;rw [hp]
   by_cases hc:J1 p=0
   ·rw [if_pos hc] at hF
    refine k5 (k1 (k2 ?_))
    refine A4 (A3 (A5 Z Z) Z (C1 (hL) Z Z Z ?_));rintro _ rfl;refine A3 (A5 Z Z) Z (A3 (B3 Z Z) Z (A3 (B3 Z Z) Z (A3 (A6 Z Z) Z (A3 (A6 Z Z) Z (A7 ?_)))))
    refine k1 (k2 (k2 ?_))
    refine A4 (A3 (A5 Z Z) Z (A3 (F0 Z) Z (A7 ?_)))
    refine k1 ?_
    refine B4 rfl (fun ht=>?_) (fun ht=>?_)
    ·cases ht
    refine k5 (k1 (k2 ?_))
    refine A4 (A3 (A5 Z Z) Z (C1 (hP) Z Z Z ?_));rintro _ rfl;refine A3 (A5 Z Z) Z (A3 (B3 Z Z) Z (A3 (B3 Z Z) Z (C7 (F9 6 Z) Z (E5 (B7 TySz.out Z Z Z Z Z Z) (A3 (A6 Z Z) Z (A7 ?_))))))
    refine k1 (k2 (k2 ?_))
    refine A4 (A3 (A5 Z Z) Z (A3 (F0 Z) Z (A7 ?_)))
    refine k1 ?_
    refine B4 rfl (fun ht=>?_) (fun ht=>?_)
    ·cases ht
    refine k5 (k1 (k2 (k2 ?_)))
    refine A4 (A3 (D5 Z Z Z) Z (C1 (hF) Z Z Z ?_));rintro _ rfl;refine A3 (A5 Z Z) Z (A3 (B3 Z Z) Z (A3 (B3 Z Z) Z (A3 (A6 Z Z) Z (A3 (A6 Z Z) Z (A7 ?_)))))
    refine k1 (k2 ?_)
    refine A4 (A3 (A5 Z Z) Z (A3 (O6 Z Z) Z (A3 (A5 Z Z) Z (B0 Z Z Z Z (fun hg=>by rw [hg];exact A5 Z Z) ?_))));refine B0 Z Z Z Z (fun hg=>by rw [hg];exact A5 Z Z) ?_;refine B0 Z Z Z Z (fun hg=>by rw [hg];exact A89 Z Z) ?_;refine A3 (B5 Z (fun h=>by first | rfl | (rw [h];rfl)) (fun h=>by first | rfl | (rw [h];rfl))) Z ?_;refine A7 ?_
    simp only [or_pick]
    refine k1 ?_
    by_cases hb:S0 p=s
    ·rw [if_neg (by simp [hc,hb])] at hS
     refine B4 rfl (fun ht=>?_) (fun ht=>?_)
     ·exfalso
      rcases A0 ht with h | h
      ·exact h rfl
      ·exact h hb
     refine k5 (k1 (k2 ?_))
     refine A4 (A3 (D5 Z Z Z) Z (E5 (B7 TySz.out Z Z Z Z Z Z) (A3 (A6 Z Z) Z (A7 ?_))))
     refine k1 (k10 ?_)
     exact B8 (rs:=[N4 p,F2 0]) (U0 rfl rfl rfl rfl rfl rfl rfl) (by unfold H38;rw [hS])
    ·rw [if_pos (.inr hb)] at hS
     refine B4 rfl (fun ht=>?_) (fun ht=>?_)
     rotate_left
     ·exact absurd (.inr hb) (A1 ht)
     refine k2 ?_
     refine A4 (A3 (G4 Z) Z (E5 (B7 TySz.out Z Z Z Z Z Z) (A3 (A6 Z Z) Z (A7 ?_))))
     refine k1 ?_
     refine E8 (K62 CHunk 2 L2 2 3 Z Z) ?_
     refine k10 (k11 ?_)
     exact B8 (rs:=[N4 comb0,F2 4]) (U0 rfl rfl rfl rfl rfl rfl rfl) (hfail hS rfl)
   ·rw [if_neg hc] at hF
    rw [if_pos (.inl hc)] at hS
    refine k5 (k1 (k2 ?_))
    refine A4 (A3 (A5 Z Z) Z (C1 (hL) Z Z Z ?_));rintro _ rfl;refine A3 (A5 Z Z) Z (A3 (B3 Z Z) Z (A3 (B3 Z Z) Z (A3 (A6 Z Z) Z (A3 (A6 Z Z) Z (A7 ?_)))))
    refine k1 (k2 (k2 ?_))
    refine A4 (A3 (A5 Z Z) Z (A3 (F0 Z) Z (A7 ?_)))
    refine k1 ?_
    refine B4 rfl (fun ht=>?_) (fun ht=>?_)
    ·cases ht
    refine k5 (k1 (k2 ?_))
    refine A4 (A3 (A5 Z Z) Z (C1 (hP) Z Z Z ?_));rintro _ rfl;refine A3 (A5 Z Z) Z (A3 (B3 Z Z) Z (A3 (B3 Z Z) Z (C7 (F9 6 Z) Z (E5 (B7 TySz.out Z Z Z Z Z Z) (A3 (A6 Z Z) Z (A7 ?_))))))
    refine k1 (k2 (k2 ?_))
    refine A4 (A3 (A5 Z Z) Z (A3 (F0 Z) Z (A7 ?_)))
    refine k1 ?_
    refine B4 rfl (fun ht=>?_) (fun ht=>?_)
    ·cases ht
    refine k5 (k1 (k2 (k2 ?_)))
    refine A4 (A3 (D5 Z Z Z) Z (C1 (hF) Z Z Z ?_));rintro _ rfl;refine A3 (A5 Z Z) Z (A3 (B3 Z Z) Z (A3 (B3 Z Z) Z (A3 (A6 Z Z) Z (A3 (A6 Z Z) Z (A7 ?_)))))
    refine k1 (k2 ?_)
    refine A4 (A3 (A5 Z Z) Z (A3 (O6 Z Z) Z (A3 (A5 Z Z) Z (B0 Z Z Z Z (fun hg=>by rw [hg];exact A5 Z Z) ?_))));refine B0 Z Z Z Z (fun hg=>by rw [hg];exact A5 Z Z) ?_;refine B0 Z Z Z Z (fun hg=>by rw [hg];exact A89 Z Z) ?_;refine A3 (B5 Z (fun h=>by first | rfl | (rw [h];rfl)) (fun h=>by first | rfl | (rw [h];rfl))) Z ?_;refine A7 ?_
    simp only [or_pick]
    refine k1 ?_
    refine B4 rfl (fun ht=>?_) (fun ht=>?_)
    rotate_left
    ·exact absurd (.inl hc) (A1 ht)
    refine k2 ?_
    refine A4 (A3 (G4 Z) Z (E5 (B7 TySz.out Z Z Z Z Z Z) (A3 (A6 Z Z) Z (A7 ?_))))
    refine k1 ?_
    refine E8 (K62 CHunk 2 L2 2 3 Z Z) ?_
    refine k10 (k11 ?_)
    exact B8 (rs:=[N4 comb0,F2 4]) (U0 rfl rfl rfl rfl rfl rfl rfl) (hfail hS rfl)
theorem B59 {c:Comb} (hc:J1 c=0) (hw:(S0 c).length≤600000):FnOk Tryz.prog 36 [G7 (S0 c)] (fun rs=>rs=[N4 c,F2 0]):=by
 have h:=H39 (S0 c) hw
 unfold H38 at h
 rw [J70 (fun p hg=>H73 hg) hc] at h
 exact h
theorem I32:FnOk Tryz.prog 39 [] (fun rs=>rs=[E3 true]):=by
 have hf:K0 3=[51]:=by rw [D09 (by decide) (by decide),Lib.decDigits,dif_pos (by decide)];rfl
 have e1:S0 ⟨[120],true,3,[]⟩=[100,105,102,102,32,45,45,99,99,32,120,10,112,97,114,101,110,116,115,32,51,10]:=by
  show (((C30 true++I9 [120]++[10])::(parS++K0 3++[10])::([]:List Str))).flatten=_
  rw [hf];decide
 have e2:J1 ⟨[120],true,3,[]⟩=0:=by
  unfold J1
  rw [e1];decide
 have hp:=B59 (c:=⟨[120],true,3,[]⟩) e2 (by rw [e1];decide)
 rw [e1] at hp
 have hr1:=G61 [45,32,98,10] 2
 have hr2:=G61 [43,45,120] 2
 rw [D43 (show A44 [45,32,98,10] 2=some ⟨true,1,[98,10]⟩ by decide)] at hr1
 rw [A81 (show A44 [43,45,120] 2=none by decide)] at hr2
 refine FnOk.intro Tryz.func39 (by decide) Z Z Z Z ?_
 refine k2 ?_
 refine A4 (A3 (A6 Z Z) Z (A7 ?_))
 refine k1 (k2 ?_)
 refine A4 (C1 (hr1) Z Z Z ?_);rintro _ rfl;refine A3 (A5 Z Z) Z (A3 (B3 Z Z) Z (A3 (B3 Z Z) Z (C7 (F9 1 Z) Z (E5 (B7 TySz.out Z Z Z Z Z Z) (A3 (A6 Z Z) Z (A7 ?_))))))
 refine k1 (k2 ?_)
 refine A4 (C1 (hr2) Z Z Z ?_);rintro _ rfl;refine A3 (A5 Z Z) Z (A3 (B3 Z Z) Z (A3 (B3 Z Z) Z (C7 (F9 3 Z) Z (E5 (B7 TySz.out Z Z Z Z Z Z) (A3 (A6 Z Z) Z (A7 ?_))))))
 refine k1 (k2 ?_)
 refine A4 (C1 (hp) Z Z Z ?_);rintro _ rfl;refine A3 (A5 Z Z) Z (A3 (B3 Z Z) Z (A3 (B3 Z Z) Z (C7 (F9 5 Z) Z (E5 (B7 TySz.out Z Z Z Z Z Z) (A3 (A6 Z Z) Z (A7 ?_))))))
 refine k1 (k2 ?_)
 refine A4 (A3 (A5 Z Z) Z (A3 (A5 Z Z) Z (B0 Z Z Z Z (fun hg=>by rw [hg];exact A5 Z Z) ?_)));refine B0 Z Z Z Z (fun hg=>by rw [hg];exact F0 Z) ?_;refine A3 (B5 Z (fun h=>by first | rfl | (rw [h];rfl)) (fun h=>by first | rfl | (rw [h];rfl))) Z ?_;refine A3 (A5 Z Z) Z (B0 Z Z Z Z (fun hg=>by rw [hg];exact D5 Z Z Z) ?_);refine B0 Z Z Z Z (fun hg=>by rw [hg];exact G4 Z) ?_;refine B0 Z Z Z Z (fun hg=>by rw [hg];exact J93 (rowV ⟨true,1,[98,10]⟩) (rowV ⟨true,1,[98,10]⟩) Z Z Z Z ((row_eq _ _).trans (decide_eq_true Z))) ?_;refine A3 (B5 Z (fun h=>by first | rfl | (rw [h];rfl)) (fun h=>by first | rfl | (rw [h];rfl))) Z ?_;refine A3 (A5 Z Z) Z (B0 Z Z Z Z (fun hg=>by rw [hg];exact A5 Z Z) ?_);refine B0 Z Z Z Z (fun hg=>by rw [hg];exact I1 Z Z) ?_;refine A3 (B5 Z (fun h=>by first | rfl | (rw [h];rfl)) (fun h=>by first | rfl | (rw [h];rfl))) Z ?_;refine A3 (A5 Z Z) Z (B0 Z Z Z Z (fun hg=>by rw [hg];exact A8 Z) ?_);refine B0 Z Z Z Z (fun hg=>by rw [hg];exact A9 Z Z Z) ?_;refine B0 Z Z Z Z (fun hg=>by rw [hg];exact I1 Z Z) ?_;refine A3 (B5 Z (fun h=>by first | rfl | (rw [h];rfl)) (fun h=>by first | rfl | (rw [h];rfl))) Z ?_;refine A3 (A5 Z Z) Z (B0 Z Z Z Z (fun hg=>by rw [hg];exact A8 Z) ?_);refine B0 Z Z Z Z (fun hg=>by rw [hg];exact A9 Z Z Z) ?_;refine A3 (B5 Z (fun h=>by first | rfl | (rw [h];rfl)) (fun h=>by first | rfl | (rw [h];rfl))) Z ?_;refine A3 (A5 Z Z) Z (B0 Z Z Z Z (fun hg=>by rw [hg];exact A8 Z) ?_);refine B0 Z Z Z Z (fun hg=>by rw [hg];exact A9 Z Z Z) ?_;refine B0 Z Z Z Z (fun hg=>by rw [hg];exact X2 Z Z) ?_;refine A3 (B5 Z (fun h=>by first | rfl | (rw [h];rfl)) (fun h=>by first | rfl | (rw [h];rfl))) Z ?_;refine A3 (A6 Z Z) Z (A7 ?_)
 refine k1 (k10 ?_)
 exact B8 (rs:=[E3 true]) (I2 rfl rfl rfl) rfl
set_option maxHeartbeats 1000000
end Go.Proofs.YtgejaedjnbjpoaaGreatDoor
namespace Go.Proofs.YtgejaedjnbjpoaaGreatDoor
open Go Go.AL
set_option maxRecDepth 100000
set_option maxHeartbeats 1000000
set_option maxHeartbeats 2000000
end Go.Proofs.YtgejaedjnbjpoaaGreatDoor
namespace Go.Proofs.YtgejaedjnbjpoaaGreatDoor
open Go Go.AL
set_option maxRecDepth 100000
set_option maxHeartbeats 1000000
set_option maxHeartbeats 1000000
set_option maxHeartbeats 1000000
def A05 (raw:List Int) (n:Int):List Str:=Z4 raw (2+P7 n 4).toNat 7
theorem H40 (raw:List Int) (n:Int):∃x r,A05 raw n=x::r∧x.length≤140∧∀b∈r,b.length≤140:=by
 have hm:=a6 n (n:=4) (by omega)
 have hl:(A05 raw n).length=(2+P7 n 4).toNat:=by simp [A05,Z4]
 have hb:∀b∈A05 raw n,b.length≤140:=by
  intro b hb
  obtain ⟨p,_,rfl⟩:=List.mem_map.1 hb
  have:=E57 raw 7 p (by omega);omega
 cases h:A05 raw n with
 | nil=>rw [h] at hl;simp at hl;omega
 | cons x r=>exact ⟨x,r,rfl,hb x (by rw [h];simp),fun b hb'=>hb b (by rw [h];simp [hb'])⟩
def V0 (path result:Str) (parents:List Str) (ctx:Int) (d:Bool):Comb × Int :=
 if V2 path=false then (comb0,120) else if (E9 result parents).2≠0 then (comb0,(E9 result parents).2) else
 if (M3 (E9 result parents).1 ctx d).2≠0 then (comb0,(M3 (E9 result parents).1 ctx d).2) else b9 path (E9 result parents).1 (M3 (E9 result parents).1 ctx d).1 d
theorem H41:∀s∈lineTab,s.count 10=0:=by decide
theorem E75 (k:Int):(v7 k).count 10=0:=by
 unfold v7
 rw [L00]
 cases h:lineTab[(P7 k 10).toNat]? with
 | none=>rfl
 | some s=>exact H41 s (L13 h)
theorem F57 (raw:List Int) (from' kinds:Int) (m:Nat):(S5 raw from' kinds m).count 10=m:=by
 induction m with
 | zero=>simp [S5]
 | succ m ih=>rw [A32,L47,L47,ih,E75];rfl
theorem E76 (raw:List Int) (from' n kinds:Int) (h1:0≤n):((W6 raw from' n kinds).count 10:Int)≤n:=by
 have h:=a6 (n7 raw from') (n:=n+1) (by omega)
 have h2:=F57 raw from' kinds (P7 (n7 raw from') (n+1)).toNat
 have h3:=(List.take_sublist ((S5 raw from' kinds (P7 (n7 raw from') (n+1)).toNat).length - 1) (S5 raw from' kinds (P7 (n7 raw from') (n+1)).toNat)).count_le (a:=(10:UInt8))
 unfold W6
 simp only
 split
 ·omega
 ·omega
theorem B03 (raw:List Int) (from':Int):∀(l:List Str) (i:Nat) (s:Str),(n8 raw from' i s l).count 10≤s.count 10+l.flatten.count 10+l.length
 | [],i,s=>by simp [n8]
 | x::r,i,s=>by
  have h1:=B03 raw from' r (i+1) s
  have h2:=B03 raw from' r (i+1) (s++v7 (n7 raw (from'+40+(i:Int)))++[10]++x)
  have h3:=B03 raw from' r (i+1) (s++x)
  have h4:=E75 (n7 raw (from'+40+(i:Int)))
  have h5:List.count (10:UInt8) [10]=1:=rfl
  simp only [L47,h4,h5] at h2 h3
  unfold n8
  simp only [L16,L47,K99]
  split
  ·omega
  ·split<;>omega
theorem I33 (raw:List Int) (p:Nat):(v8 raw 7 p).count 10≤15:=by
 have h1:=E76 raw (600+50*(p:Int)) 7 4 (by omega)
 have h2:=E76 raw 0 7 5 (by omega)
 have h3:=B03 raw (600+50*(p:Int)) (C3 (W6 raw 0 7 5)) 0 []
 have h4:=D99 (W6 raw 0 7 5)
 rw [A04] at h3
 have h5:List.count (10:UInt8) ([]:Str)=0:=rfl
 unfold v8
 split
 ·omega
 ·split
  ·omega
  ·unfold C43;omega
theorem E77 (raw:List Int) (n:Int):∀b∈A05 raw n,(C3 b).length≤16∧b.length≤140:=by
 intro b hb
 obtain ⟨p,_,rfl⟩:=List.mem_map.1 hb
 have h1:=E57 raw 7 p (by omega)
 have h2:=I33 raw p
 have h3:=D99 (v8 raw 7 p)
 omega
theorem K20 (raw:List Int) (n:Int) {x:Str} {r:List Str} (h:A05 raw n=x::r):1≤r.length∧r.length≤4:=by
 have hm:=a6 n (n:=4) (by omega)
 have hl:(A05 raw n).length=(2+P7 n 4).toNat:=by simp [A05,Z4]
 rw [h,K99] at hl
 omega
structure Small16 (x:Str) (r:List Str):Prop where
 n:1≤r.length∧r.length≤4
 hx:x.length≤140
 hr:∀b∈r,b.length≤140
 rows:K3 (E9 x r).1.Rows
 len:(E9 x r).1.Rows.length≤1105
 txt:∀q∈(E9 x r).1.Rows,q.Text.length≤140
theorem I34 {raw:List Int} {n:Int} {x:Str} {r:List Str} (h:A05 raw n=x::r):Small16 x r:=by
 have h1:=K20 raw n h
 have h2:=E77 raw n
 rw [h] at h2
 have hx:=h2 x (by simp)
 have hr:∀b∈r,(C3 b).length≤16∧b.length≤140:=fun b hb=>h2 b (by simp [hb])
 obtain ⟨k1,k2,k3⟩:=G88 x r 16 140 hx hr
 have h4:r.length*16+1≤65:=by omega
 exact ⟨h1,hx.2,fun b hb=>(hr b hb).2,k1,by omega,k3⟩
theorem textsLen_le {rows:List Row} {B:Nat} (h:∀q∈rows,q.Text.length≤B):V7 rows≤rows.length*B∧(rows.map Q6).sum≤rows.length*(B+96)∧∀n,(rows.map (D15 n)).sum≤rows.length*(B+n+29):=by
 unfold V7
 induction rows with
 | nil=>simp
 | cons x r ih =>
  obtain ⟨i1,i2,i3⟩:=ih fun q hq=>h q (by simp [hq])
  have hx:=h x (by simp)
  simp only [L04,L16,K96,L29,K99,L20,Nat.one_mul]
  simp only [Nat.mul_add] at i2 i3 ⊢
  refine ⟨by omega,by unfold Q6 at i2 ⊢;omega,fun n=>?_⟩
  have:=i3 n
  unfold D15 at this ⊢
  omega
theorem Small16.sums {x:Str} {r:List Str} (h:Small16 x r):V7 (E9 x r).1.Rows≤154700∧((E9 x r).1.Rows.map Q6).sum≤260780∧∀n,n≤32→((E9 x r).1.Rows.map (D15 n)).sum≤1105*201:=by
 obtain ⟨h1,h2,h3⟩:=textsLen_le h.txt
 have h4:=h.len
 refine ⟨by omega,by omega,fun n hn=>?_⟩
 refine Nat.le_trans (h3 n) ?_
 exact Nat.mul_le_mul h4 (by omega)
theorem cut18_w {path:Str} {t:Table} {sp:List Span} {d:Bool} (h:(b9 path t sp d).2=0):V2 path=true∧J2 t=0∧∃hs,j7 t.Parents.toNat t.Rows 0 [] sp=some hs∧J1 ⟨path,d,t.Parents,hs⟩=0∧b9 path t sp d=(⟨path,d,t.Parents,hs⟩,0):=by
 unfold b9 at h ⊢
 split at h
 ·cases h
 ·rename_i h1
  rw [if_neg h1]
  split at h
  ·rename_i h2;exact absurd h h2
  ·rename_i h2
   rw [if_neg h2]
   refine ⟨by simpa using h1,by omega,?_⟩
   cases hg:j7 t.Parents.toNat t.Rows 0 [] sp with
   | none=>rw [hg] at h;cases h
   | some hs =>
    rw [hg] at h
    dsimp only at h ⊢
    split at h
    ·rename_i h3;exact absurd h h3
    ·rename_i h3
     exact ⟨hs,rfl,by omega,by rw [if_neg h3]⟩
theorem J49 {path x:Str} {r:List Str} {ctx:Int} {d:Bool} (h:(V0 path x r ctx d).2=0):(E9 x r).2=0∧(M3 (E9 x r).1 ctx d).2=0∧V0 path x r ctx d=b9 path (E9 x r).1 (M3 (E9 x r).1 ctx d).1 d:=by
 unfold V0 at h ⊢
 split at h
 ·cases h
 ·rename_i h1
  rw [if_neg h1]
  split at h
  ·rename_i h2;exact absurd h h2
  ·rename_i h2
   rw [if_neg h2]
   split at h
   ·rename_i h3;exact absurd h h3
   ·rename_i h3
    rw [if_neg h3]
    exact ⟨by omega,by omega,rfl⟩
theorem I35 {path x:Str} {r:List Str} {ctx:Int} {d:Bool} (h:(V0 path x r ctx d).2≠0):(V0 path x r ctx d).1=comb0:=by
 unfold V0 at h ⊢
 split
 ·rfl
 ·rename_i h1
  rw [if_neg h1] at h
  split
  ·rfl
  ·rename_i h2
   rw [if_neg h2] at h
   split
   ·rfl
   ·rename_i h3
    rw [if_neg h3] at h
    unfold b9 at h ⊢
    split
    ·rfl
    ·rename_i h4
     rw [if_neg h4] at h
     split
     ·rfl
     ·rename_i h5
      rw [if_neg h5] at h
      cases hg:j7 (E9 x r).1.Parents.toNat (E9 x r).1.Rows 0 [] (M3 (E9 x r).1 ctx d).1 with
      | none=>rfl
      | some hs =>
       rw [hg] at h
       dsimp only at h ⊢
       split
       ·rfl
       ·rename_i h6
        rw [if_neg h6] at h;exact absurd rfl h
theorem J50:CFit comb0:=⟨⟨by decide,by decide⟩,by decide,by decide,(fun h hh=>by cases hh),fun h hh=>by cases hh⟩
theorem I36 {path x:Str} {r:List Str} {ctx:Int} {d:Bool} (hp:path.length≤400) (h:Small16 x r):CFit (V0 path x r ctx d).1∧(S0 (V0 path x r ctx d).1).length≤420000:=by
 by_cases he:(V0 path x r ctx d).2=0
 ·obtain ⟨_,_,e1⟩:=J49 he
  rw [e1] at he ⊢
  obtain ⟨_,c1,hs,c2,c3,e2⟩:=cut18_w he
  obtain ⟨s1,s2,s3⟩:=h.sums
  obtain ⟨n1,n2⟩:=D80 c1
  obtain ⟨z1,z2⟩:=G62 (n:=(E9 x r).1.Parents.toNat) (by omega) h.rows (by omega) c2
  rw [e2]
  dsimp only
  refine ⟨E71 c3 z1 z2,?_⟩
  have hw:=F22 ⟨path,d,(E9 x r).1.Parents,hs⟩
  dsimp only at hw
  obtain ⟨n,hn⟩:∃n:Nat,(E9 x r).1.Parents=n:=⟨(E9 x r).1.Parents.toNat,by omega⟩
  have hnr:(E9 x r).1.Parents=r.length∨(E9 x r).1.Parents=0:=by
   unfold E9
   split
   ·exact .inr rfl
   ·dsimp only
    split
    ·exact .inr rfl
    ·exact .inl rfl
  have hr4:=h.n
  rw [hn,L01] at hw c2
  rw [hn]
  have hn4:n≤4:=by omega
  have h1:=E25 (D15 n) (28*(n+1)+2) n (E9 x r).1.Rows (M3 (E9 x r).1 ctx d).1 0 [] hs (Int.le_refl _) c2 (by simp) (by simp)
  have h2:=h1.1
  have h3:=h1.2
  have h4:=s3 n (by omega)
  have h5:=h.len
  simp only [L02] at h3
  have h6:(28*(n+1)+2)*hs.length≤142*1105:=Nat.mul_le_mul (by omega) (by omega)
  omega
 ·rw [I35 he]
  exact ⟨J50,by have:=F22 comb0;have e1:comb0.Path.length=0:=rfl;have e2:comb0.Hunks=[]:=rfl;rw [e1,e2] at this;simp only [L36,L52] at this;omega⟩
set_option maxHeartbeats 1000000
theorem I88 {n:Nat} {rows:List Row}:∀{sp:List Span} {e:Int} {hs:List CHunk},E74 rows.length e sp=false→j7 n rows e hs sp=none
 | [],e,hs,h=>by cases h
 | s::r,e,hs,h=>by
  rw [E74] at h
  rw [j7]
  by_cases hc:s.From < e∨s.To≤s.From∨(rows.length:Int) < s.To
  ·rw [if_pos hc]
  ·rw [if_neg hc] at h ⊢
   exact I88 h
abbrev z59:Ob:=.box [.p (.v (.string ⟨#[]⟩)),.p (.v (.bool false)),.p (.v (.int .i64 0)),.p (.v (.slice none 0 0))]
set_option maxHeartbeats 1000000
theorem pcut_ok (path:Str) (t:Table) (sp:List Span) (d:Bool) (hr:K3 t.Rows) (hW:(t.Rows.map Q6).sum≤8388608) (hx:V7 t.Rows≤8388608) (hsp:sp.length≤536870912) :
  FnOk Tryz.prog 52 [G7 path,pTable t,pSpans sp,E3 d] (fun rs=>rs=[N4 (b9 path t sp d).1,F2 (b9 path t sp d).2]):=by
 have hl:=j6 t.Rows
 have hll:t.Rows.length≤8388608:=by omega
 refine FnOk.intro Tryz.func52 (by decide) Z Z Z Z ?_
 refine k2 ?_
 refine A4 (C7 (R1 5 Z Z Z) Z (C7 (F9 8 Z) Z (A3 (A6 Z Z) Z (A7 ?_))))
 refine k1 (k2 (k2 ?_))
 refine A4 (A3 (A5 Z Z) Z (C1 (D41 path) Z Z Z ?_));rintro _ rfl;refine A3 (F0 Z) Z (A7 ?_)
 refine k1 ?_
 refine B4 rfl (fun ht=>?_) (fun ht=>?_)
 ·have h:V2 path=false:=by simpa using ht
  refine k2 ?_
  refine A4 (A3 (G4 Z) Z (E5 (B7 TySz.out Z Z Z Z Z Z) (A3 (A6 Z Z) Z (A7 ?_))))
  refine k1 ?_
  refine E8 (K62 CHunk 2 L2 8 3 Z Z) ?_
  refine k10 (k11 ?_)
  exact B8 (rs:=[N4 comb0,F2 120]) (U0 rfl rfl rfl rfl rfl rfl rfl) (by unfold b9;rw [if_pos h])
 have h:V2 path=true:=by simpa using ht
 refine k5 (k1 (k2 (k2 ?_)))
 refine A4 (A3 (D5 Z Z Z) Z (C1 (F84 t hr (by omega) (by omega)) Z Z Z ?_));rintro _ rfl;refine A3 (A6 Z Z) Z (A7 ?_)
 refine k1 (k2 ?_)
 refine A4 (A3 (A5 Z Z) Z (A3 (O6 Z Z) Z (A7 ?_)))
 refine k1 ?_
 refine B4 rfl (fun ht=>?_) (fun ht=>?_)
 ·have h1:=A0 ht
  refine k2 ?_
  refine A4 (A3 (G4 Z) Z (A3 (A5 Z Z) Z (E5 (B7 TySz.out Z Z Z Z Z Z) (A3 (A6 Z Z) Z (A7 ?_)))))
  refine k1 ?_
  refine E8 (K62 CHunk 2 L2 8 3 Z Z) ?_
  refine k10 (k11 ?_)
  exact B8 (rs:=[N4 comb0,F2 (J2 t)]) (U0 rfl rfl rfl rfl rfl rfl rfl) (by unfold b9;rw [if_neg (by rw [h];decide),if_pos h1])
 have h1:=A1 ht
 have h10:J2 t=0:=by omega
 obtain ⟨hn1,hn2⟩:=D80 h10
 obtain ⟨n,hn⟩:∃n:Nat,t.Parents=n:=⟨t.Parents.toNat,by omega⟩
 obtain ⟨tp,rows⟩:=t
 have hn:tp=(n:Int):=hn
 subst hn
 dsimp only at hr hW hx hl hll hn1 hn2
 have hcut:b9 path ⟨n,rows⟩ sp d=match j7 n rows 0 [] sp with
  | none=>(comb0,3)
  | some hs=>if J1 ⟨path,d,(n:Int),hs⟩≠0 then (comb0,J1 ⟨path,d,(n:Int),hs⟩) else (⟨path,d,(n:Int),hs⟩,0):=by
  unfold b9;rw [if_neg (by rw [h];decide),if_neg (by omega)];rfl
 rw [hcut]
 obtain ⟨W,hWd⟩:∃W,W=j7 n rows 0 [] sp:=⟨_,rfl⟩
 have hcs:∀hs,W=some hs→szC hs≤268435456∧∀x∈hs,K3 x.Rows:=fun hs e=>G62 (n:=n) (by omega) hr hW (by rw [←hWd];exact e)
 have hord0:=I88 (n:=n) (rows:=rows) (sp:=sp) (e:=0) (hs:=[])
 rw [←hWd] at hord0 ⊢
 refine k5 (k1 (k2 (k2 ?_)))
 refine A4 (A3 (A5 Z Z) Z (A3 (A8 Z) Z (A3 (A9 Z Z Z) Z (A3 (F1 Z (.pure _ _ _ _)) Z (C1 (H31 sp rows.length hsp) Z Z Z ?_)))));rintro _ rfl;refine A3 (F0 Z) Z (A7 ?_)
 refine k1 ?_
 refine B4 rfl (fun ht=>?_) (fun ht=>?_)
 ·have hno:E74 rows.length 0 sp=false:=by simpa using ht
  rw [hord0 hno]
  refine k2 ?_
  refine A4 (A3 (G4 Z) Z (E5 (B7 TySz.out Z Z Z Z Z Z) (A3 (A6 Z Z) Z (A7 ?_))))
  refine k1 ?_
  refine E8 (K62 CHunk 2 L2 8 3 Z Z) ?_
  refine k10 (k11 ?_)
  exact B8 (rs:=[N4 comb0,F2 3]) (U0 rfl rfl rfl rfl rfl rfl rfl) rfl
 have hord:E74 rows.length 0 sp=true:=by simpa using ht
 refine k5 (k1 (k2 ?_))
 refine A4 (A3 (A5 Z Z) Z (A3 (A5 Z Z) Z (A3 (A8 Z) Z (A3 (A9 Z Z Z) Z (A3 (G4 Z) Z (C7 (F9 11 Z) Z (E5 (B7 TySz.out Z Z Z Z Z Z) (A7 ?_))))))))
 refine E8 (K69 754 CHunk 2 L2 82 (kb:=11) (o:=3) Z Z Z) ?_
 refine k2 ?_
 have e0:((n:Int)+1).toNat=n+1:=by omega
 have hz:List.replicate (n+1) (0:Int)=G1 (rows.take 0) n:=by
  refine List.ext_getElem (by simp [G1]) fun q h1 h2=>?_
  simp [G1,M2,N7]
 refine A4 (A3 (A8 Z) Z (A3 (A9 Z Z Z) Z (A3 (C6 Z Z (by omega)) Z (C7 (m9 720 Int G6 0 Z Z (by omega) (by omega) (fun _=>by first | exact ⟨⟨rfl,rfl⟩,trivial⟩ | exact ⟨N8 _ _ _,trivial⟩) (by first | rfl | (simp [G3,H7,Ob.free,SV.free,S1.free,TC.free]<;>rfl))) Z ?_))));refine C7 (F9 12 Z) Z (E5 (B7 TySz.out Z Z Z Z Z Z) (A7 ?_))
 rw [e0,hz]
 refine k1 (k2 ?_)
 refine A4 (C7 (F9 13 Z) Z (E5 (B7 TySz.out Z Z Z Z Z Z) (A7 ?_)))
 refine k1 (k2 ?_)
 refine A4 (A3 (A31 Z Z) Z (A3 (A6 Z Z) Z (A7 ?_)))
 refine k1 (k2 (k2 ?_))
 refine A4 (A3 (A5 Z Z) Z (A3 (F1 Z (.pure _ _ _ _)) Z (A3 (A5 Z Z) Z (A7 ?_))))
 refine k1 (k3 ?_)
 refine E1 (X:=Nat × Nat × List CHunk) (fun x=>([(5,.s (.one (.ref 5 0))),(8,.s (.one (.ref 8 0))),(11,.s (.one (.ref 11 0))),(12,.s (.one (.ref 12 0))),(14,.s (.one (.clo 111 [] [(5,0),(13,0),(12,0)]))),(45,D2 Span 2 spanC sp),(46,C0 sp.length),(47,C0 x.1)],[(5,.box (pTable ⟨n,rows⟩).s1.cells),(8,z59),(11,.box [.p (.v (.string ⟨path.toArray⟩)),.p (.v (.bool d)),.p (.v (.int .i64 n)),.buf 754 CHunk 2 L2 x.2.2]),(754,.spare x.2.2.length 2 82),(12,.box [.mut 720]),(13,n9 x.2.1),(720,.arr Int 1 G6 (G1 (rows.take x.2.1) n))])) (fun x=>x.1≤sp.length∧x.2.1≤rows.length∧x.2.2.length≤x.1∧W=j7 n rows x.2.1 x.2.2 (sp.drop x.1)∧E74 rows.length x.2.1 (sp.drop x.1)=true) (fun x=>sp.length - x.1) (0,0,[]) ⟨Nat.zero_le _,Nat.zero_le _,Nat.le_refl _,hWd,hord⟩ (K60 ⟨le1 rfl,le1 rfl,le1 rfl,le1 rfl,le1 rfl,le1 rfl,le1 rfl,le1 rfl,trivial⟩ ⟨rfl,rfl,rfl,rfl,rfl,rfl,rfl,trivial⟩) ?_
 rintro ⟨k,e,hs⟩ ⟨hk,he,hsl,hp,ho⟩
 dsimp only at hk he hsl hp ho ⊢
 refine k2 ?_
 refine A4 (A3 (E6 Z Z) Z (A7 ?_))
 refine k1 (k2 ?_)
 refine B4 rfl (fun ht=>?_) (fun ht=>?_)
 rotate_left
 ·have hkl:k=sp.length:=by have:=A1 ht;omega
  rw [hkl,L07 (Nat.le_refl _)] at hp
  have hp:W=some hs:=hp
  obtain ⟨z1,z2⟩:=hcs hs hp
  rw [hp]
  dsimp only
  refine k6 (k2 (k2 ?_))
  refine A4 (A3 (D5 Z Z Z) Z (C1 (D42 ⟨path,d,n,hs⟩ z1 z2) Z Z Z ?_));rintro _ rfl;refine A3 (A6 Z Z) Z (A7 ?_)
  refine k1 (k2 ?_)
  refine A4 (A3 (A5 Z Z) Z (A3 (O6 Z Z) Z (A7 ?_)))
  refine k1 ?_
  refine B4 rfl (fun ht=>?_) (fun ht=>?_)
  ·have h2:=A0 ht
   refine k2 ?_
   refine A4 (A3 (G4 Z) Z (A3 (A5 Z Z) Z (E5 (B7 TySz.out Z Z Z Z Z Z) (A3 (A6 Z Z) Z (A7 ?_)))))
   refine k1 ?_
   refine E8 (K62 CHunk 2 L2 8 3 Z Z) ?_
   refine k10 (k11 ?_)
   exact B8 (rs:=[N4 comb0,F2 (J1 ⟨path,d,n,hs⟩)]) (U0 rfl rfl rfl rfl rfl rfl rfl) (by rw [if_pos h2])
  ·have h2:=A1 ht
   refine k5 (k1 (k2 ?_))
   refine A4 (A3 (D5 Z Z Z) Z (E5 (B7 TySz.out Z Z Z Z Z Z) (A3 (A6 Z Z) Z (A7 ?_))))
   refine k1 (k10 ?_)
   exact B8 (rs:=[N4 ⟨path,d,n,hs⟩,F2 0]) (U0 rfl rfl rfl rfl rfl rfl rfl) (by rw [if_neg h2])
 have hlt:k < sp.length:=by have:=A0 ht;omega
 have hv:sp[k]?=some sp[k]:=by simp [hlt]
 rw [L03 hlt,j7] at hp
 rw [L03 hlt,E74] at ho
 obtain ⟨s,hsd⟩:∃s,s=sp[k]:=⟨_,rfl⟩
 rw [←hsd] at hp hv ho
 have hc:¬(s.From < (e:Int)∨s.To≤s.From∨(rows.length:Int) < s.To):=by
  intro hc
  rw [if_pos hc] at ho;cases ho
 rw [if_neg hc] at hp ho
 simp only [not_or,Int.not_lt,Int.not_le] at hc
 obtain ⟨c1,c2,c3⟩:=hc
 obtain ⟨F,hF⟩:∃F:Nat,s.From=F:=⟨s.From.toNat,by omega⟩
 obtain ⟨T,hT⟩:∃T:Nat,s.To=T:=⟨s.To.toNat,by omega⟩
 obtain ⟨sF,sT⟩:=s
 have hF:sF=(F:Int):=hF
 have hT:sT=(T:Int):=hT
 subst hF hT
 dsimp only at c1 c2 c3 hp ho
 rw [L01,L01] at hp
 have hsub:((rows.drop F).take (T - F)).length=T - F:=by rw [L08,L05];omega
 have hcl:(G1 (rows.take F) n).length=n+1:=by simp [G1]
 refine k5 (k1 (k2 (k3 (k2 ?_))))
 refine A4 (A3 (B9 Z (.pure _ _ _ _) Z (by omega) hv) Z (A3 (F4 Z Z) Z (C7 (F9 16 Z) Z (E5 (B7 TySz.out Z Z Z Z Z Z) (A7 ?_)))))
 refine K4 [(5,.s (.one (.ref 5 0))),(8,.s (.one (.ref 8 0))),(11,.s (.one (.ref 11 0))),(12,.s (.one (.ref 12 0))),(14,.s (.one (.clo 111 [] [(5,0),(13,0),(12,0)]))),(16,.s (.one (.ref 16 0))),(45,D2 Span 2 spanC sp),(46,C0 sp.length),(47,C0 k)] [(5,.box (pTable ⟨n,rows⟩).s1.cells),(8,z59),(11,.box [.p (.v (.string ⟨path.toArray⟩)),.p (.v (.bool d)),.p (.v (.int .i64 n)),.buf 754 CHunk 2 L2 hs]),(754,.spare hs.length 2 82),(12,.box [.mut 720]),(13,n9 e),(720,.arr Int 1 G6 (G1 (rows.take e) n)),(16,.box [.p (.v (.int .i64 F)),.p (.v (.int .i64 T))])] (K60 ⟨le1 rfl,le1 rfl,le1 rfl,le1 rfl,le1 rfl,le1 rfl,le1 rfl,le1 rfl,le1 rfl,trivial⟩ ⟨rfl,rfl,rfl,rfl,rfl,rfl,rfl,rfl,trivial⟩) ?_
 refine k2 ?_
 refine A4 (A3 (A5 Z Z) Z (A3 (A8 Z) Z (A3 (A9 Z Z Z) Z (A64 (E73 ⟨n,rows⟩ n e F Z (by omega) hr (by dsimp only;omega) (by omega) (by dsimp only;omega) Z Z Z Z) Z Z Z Z ?_))));rintro _ _ ⟨rfl,rfl⟩;refine A7 ?_
 refine K4 [(5,.s (.one (.ref 5 0))),(8,.s (.one (.ref 8 0))),(11,.s (.one (.ref 11 0))),(12,.s (.one (.ref 12 0))),(14,.s (.one (.clo 111 [] [(5,0),(13,0),(12,0)]))),(16,.s (.one (.ref 16 0))),(45,D2 Span 2 spanC sp),(46,C0 sp.length),(47,C0 k)] [(5,.box (pTable ⟨n,rows⟩).s1.cells),(8,z59),(11,.box [.p (.v (.string ⟨path.toArray⟩)),.p (.v (.bool d)),.p (.v (.int .i64 n)),.buf 754 CHunk 2 L2 hs]),(754,.spare hs.length 2 82),(12,.box [.mut 720]),(13,n9 F),(720,.arr Int 1 G6 (G1 (rows.take F) n)),(16,.box [.p (.v (.int .i64 F)),.p (.v (.int .i64 T))])] (K60 ⟨le1 rfl,le1 rfl,le1 rfl,le1 rfl,le1 rfl,le1 rfl,le1 rfl,le1 rfl,le1 rfl,trivial⟩ ⟨rfl,rfl,rfl,rfl,rfl,rfl,rfl,rfl,trivial⟩) ?_
 refine k2 ?_
 have hCR:=J35 ((rows.drop F).take (T - F)) (by omega)
 have hCI:=fun gf ob h=>I25 (gf:=gf) (ob:=ob) (G1 (rows.take F) n) (by omega) h
 refine O2 [16,14,3] [[],[3],[14,3],[16,14,3]] [(3,([],[])),(14,([754],[56])),(16,([],[]))] [(0,[]),(1,[]),(2,[]),(3,[]),(4,[]),(5,[]),(6,[]),(7,[]),(8,[]),(9,[]),(10,[]),(11,[3]),(12,[3]),(13,[3]),(14,[3]),(15,[14,3]),(16,[14,3])] [(0,[3]),(1,[3]),(4,[3]),(5,[3]),(6,[3]),(7,[3]),(8,[3]),(9,[3]),(10,[3])] (by kernel_rfl) (by kernel_rfl) (D6 Z Z (by kernel_rfl) Z Z (A8 Z) (D6 Z Z (by kernel_rfl) Z Z (A9 Z Z Z) (D6 Z Z (by kernel_rfl) Z Z (A9 Z Z Z) (V6 Z Z (by kernel_rfl) Z Z (r_met (fun gf=>hCI gf _ Z) Z Z) Z (D6 Z Z (by kernel_rfl) Z Z (A8 Z) (D6 Z Z (by kernel_rfl) Z Z (A9 Z Z Z) (D6 Z Z (by kernel_rfl) Z Z (A8 Z) (D6 Z Z (by kernel_rfl) Z Z (A9 Z Z Z) (D6 Z Z (by kernel_rfl) Z Z (A8 Z) (D6 Z Z (by kernel_rfl) Z Z (A9 Z Z Z) (D6 Z Z (by kernel_rfl) Z Z (d7 Z (.pure _ _ _ _) Z Z (by (first | omega | (dsimp only;omega))) (by (first | omega | (dsimp only;omega))) (by (first | omega | (dsimp only;omega)))) (D6 Z Z (by kernel_rfl) Z Z (K9 (hCR) Z Z) (D6 Z Z (by kernel_rfl) Z Z (G4 Z) (D6 Z Z (by kernel_rfl) Z Z (E4 (c:=L2) (ys:=[⟨G1 (rows.take F) n,(rows.drop F).take (T - F)⟩]) (F3 Z Z Z Z I6) Z Z Z) (V6 Z Z (by kernel_rfl) Z Z (A97 (fun frc hU=>L0 (T5 hU Z) Z (T5 hU Z) (.pure _ _ _ _) (by (simp only [K99,L02];omega)) Z)) Z (D6 Z Z (by kernel_rfl) Z Z (A8 Z) (V6 Z Z (by kernel_rfl) Z Z (C82 (fun frc hU=>B7 TySz.out (T5 hU Z) Z (T5 hU Z) Z Z Z)) Z ?_)))))))))))))))));refine C81 (by kernel_rfl) rfl ?_ ?_
 ·refine K6 Z Z (by kernel_rfl) Z Z (A8 Z) (K6 Z Z (by kernel_rfl) Z Z (A9 Z Z Z) (K6 Z Z (by kernel_rfl) Z Z (A8 Z) (K6 Z Z (by kernel_rfl) Z Z (A9 Z Z Z) (K6 Z Z (by kernel_rfl) Z Z (A8 Z) (K6 Z Z (by kernel_rfl) Z Z (A9 Z Z Z) (K6 Z Z (by kernel_rfl) Z Z (A8 Z) (K6 Z Z (by kernel_rfl) Z Z (A9 Z Z Z) (K6 Z Z (by kernel_rfl) Z Z (d7 Z (.pure _ _ _ _) Z Z (by (first | omega | (dsimp only;omega))) (by (first | omega | (dsimp only;omega))) (by (first | omega | (dsimp only;omega)))) ?_))))))));exact C14
 refine K4 [(5,.s (.one (.ref 5 0))),(8,.s (.one (.ref 8 0))),(11,.s (.one (.ref 11 0))),(12,.s (.one (.ref 12 0))),(14,.s (.one (.clo 111 [] [(5,0),(13,0),(12,0)]))),(16,.s (.one (.ref 16 0))),(45,D2 Span 2 spanC sp),(46,C0 sp.length),(47,C0 k)] [(5,.box (pTable ⟨n,rows⟩).s1.cells),(8,z59),(11,.box [.p (.v (.string ⟨path.toArray⟩)),.p (.v (.bool d)),.p (.v (.int .i64 n)),.buf 754 CHunk 2 L2 (hs++[⟨G1 (rows.take F) n,(rows.drop F).take (T - F)⟩])]),(754,.spare (hs++[(⟨G1 (rows.take F) n,(rows.drop F).take (T - F)⟩:CHunk)]).length 2 82),(12,.box [.mut 720]),(13,n9 F),(720,.arr Int 1 G6 (G1 (rows.take F) n)),(16,.box [.p (.v (.int .i64 F)),.p (.v (.int .i64 T))])] (K60 ⟨le1 rfl,le1 rfl,le1 rfl,le1 rfl,le1 rfl,le1 rfl,le1 rfl,le1 rfl,le1 rfl,trivial⟩ ⟨rfl,rfl,rfl,rfl,rfl,rfl,rfl,rfl,trivial⟩) ?_
 skip
 refine A4 (A3 (A5 Z Z) Z (A3 (A8 Z) Z (A3 (A9 Z Z Z) Z (A64 (E73 ⟨n,rows⟩ n F T Z (by omega) hr (by dsimp only;omega) (by omega) (by dsimp only;omega) Z Z Z Z) Z Z Z Z ?_))));rintro _ _ ⟨rfl,rfl⟩;refine A7 ?_
 refine k4 (k1 ?_)
 refine A4 (A3 (C6 Z Z (by omega)) Z (A3 (A5 Z Z) Z (A7 ?_)))
 refine k1 ?_
 exact ⟨(k+1,T,hs++[⟨G1 (rows.take F) n,(rows.drop F).take (T - F)⟩]),⟨by dsimp only;omega,by dsimp only;omega,by dsimp only;rw [K96];simp;omega,hp,ho⟩,by dsimp only;omega,K60 ⟨le1 rfl,le1 rfl,le1 rfl,le1 rfl,le1 rfl,le1 rfl,le1 rfl,le1 rfl,trivial⟩ ⟨rfl,rfl,rfl,rfl,rfl,rfl,rfl,trivial⟩⟩
theorem I37 (path x:Str) (r:List Str) (ctx:Int) (d:Bool) (h:Small16 x r) (hL:∀b∈x::r,(C3 b).length≤16):FnOk Tryz.prog 45 [G7 path,G7 x,m6 r,F2 ctx,E3 d] (fun rs=>rs=[N4 (V0 path x r ctx d).1,F2 (V0 path x r ctx d).2]):=by
 have hx:=h.hx
 obtain ⟨s1,s2,s3⟩:=h.sums
 have hl:=h.len
 have hrows:=h.rows
 have hrn:=h.n
 have hm:=K03 x r 16 (by omega) (by omega) ⟨hL x (by simp),by omega⟩ (fun b hb=>⟨hL b (by simp [hb]),by have:=h.hr b hb;omega⟩)
 obtain ⟨t,e,hte⟩:∃t e,E9 x r=(t,e):=⟨_,_,rfl⟩
 rw [hte] at s1 s2 hl hrows hm
 dsimp only at s1 s2 hl hrows hm
 have hh:=J27 t ctx d hrows (by omega) (by omega)
 have hin:=K45 t ctx d
 obtain ⟨sp,e2,hsp⟩:∃sp e2,M3 t ctx d=(sp,e2):=⟨_,_,rfl⟩
 rw [hsp] at hh hin
 dsimp only at hh hin
 have hc:=pcut_ok path t sp d hrows (by omega) (by omega) (by have:=hin.1;omega)
 have hres:V0 path x r ctx d=if V2 path=false then (comb0,120) else if e≠0 then (comb0,e) else if e2≠0 then (comb0,e2) else b9 path t sp d:=by
  unfold V0;rw [hte];dsimp only;rw [hsp]
 rw [hres]
 refine FnOk.intro Tryz.func45 (by decide) Z Z Z Z ?_
 refine k2 ?_
 refine A4 (C7 (F9 10 Z) Z (A3 (A6 Z Z) Z (A7 ?_)))
 refine k1 (k2 (k2 ?_))
 refine A4 (A3 (A5 Z Z) Z (C1 (D41 path) Z Z Z ?_));rintro _ rfl;refine A3 (F0 Z) Z (A7 ?_)
 refine k1 ?_
 refine B4 rfl (fun ht=>?_) (fun ht=>?_)
 ·have h:V2 path=false:=by simpa using ht
  refine k2 ?_
  refine A4 (A3 (G4 Z) Z (E5 (B7 TySz.out Z Z Z Z Z Z) (A3 (A6 Z Z) Z (A7 ?_))))
  refine k1 ?_
  refine E8 (K62 CHunk 2 L2 10 3 Z Z) ?_
  refine k10 (k11 ?_)
  exact B8 (rs:=[N4 comb0,F2 120]) (U0 rfl rfl rfl rfl rfl rfl rfl) (by rw [if_pos h])
 have h1:V2 path=true:=by simpa using ht
 rw [if_neg (by rw [h1];decide)]
 refine k5 (k1 (k2 ?_))
 refine A4 (A3 (A5 Z Z) Z (A3 (A5 Z Z) Z (C1 (hm) Z Z Z ?_)));rintro _ rfl;refine A3 (A5 Z Z) Z (A3 (B3 Z Z) Z (A3 (B3 Z Z) Z (C7 (F9 12 Z) Z (E5 (B7 TySz.out Z Z Z Z Z Z) (A3 (A6 Z Z) Z (A7 ?_))))))
 refine k1 (k2 (k2 ?_))
 refine A4 (A3 (A5 Z Z) Z (A3 (O6 Z Z) Z (A7 ?_)))
 refine k1 ?_
 refine B4 rfl (fun ht=>?_) (fun ht=>?_)
 ·have h2:=A0 ht
  refine k2 ?_
  refine A4 (A3 (G4 Z) Z (A3 (A5 Z Z) Z (E5 (B7 TySz.out Z Z Z Z Z Z) (A3 (A6 Z Z) Z (A7 ?_)))))
  refine k1 ?_
  refine E8 (K62 CHunk 2 L2 10 3 Z Z) ?_
  refine k10 (k11 ?_)
  exact B8 (rs:=[N4 comb0,F2 e]) (U0 rfl rfl rfl rfl rfl rfl rfl) (by rw [if_pos h2])
 have h2:=A1 ht
 rw [if_neg h2]
 refine k5 (k1 (k2 ?_))
 refine A4 (A3 (D5 Z Z Z) Z (A3 (A5 Z Z) Z (A3 (A5 Z Z) Z (C1 (hh) Z Z Z ?_))));rintro _ rfl;refine A3 (A5 Z Z) Z (A3 (B3 Z Z) Z (A3 (B3 Z Z) Z (A3 (A6 Z Z) Z (A3 (A6 Z Z) Z (A7 ?_)))))
 refine k1 (k2 (k2 ?_))
 refine A4 (A3 (A5 Z Z) Z (A3 (O6 Z Z) Z (A7 ?_)))
 refine k1 ?_
 refine B4 rfl (fun ht=>?_) (fun ht=>?_)
 ·have h3:=A0 ht
  refine k2 ?_
  refine A4 (A3 (G4 Z) Z (A3 (A5 Z Z) Z (E5 (B7 TySz.out Z Z Z Z Z Z) (A3 (A6 Z Z) Z (A7 ?_)))))
  refine k1 ?_
  refine E8 (K62 CHunk 2 L2 10 3 Z Z) ?_
  refine k10 (k11 ?_)
  exact B8 (rs:=[N4 comb0,F2 e2]) (U0 rfl rfl rfl rfl rfl rfl rfl) (by rw [if_pos h3])
 have h3:=A1 ht
 rw [if_neg h3]
 refine k5 (k1 (k2 ?_))
 refine A4 (A3 (A5 Z Z) Z (A3 (D5 Z Z Z) Z (A3 (A5 Z Z) Z (A3 (A5 Z Z) Z (C1 (hc) Z Z Z ?_)))));rintro _ rfl;refine A3 (B3 Z Z) Z (A3 (B3 Z Z) Z (E5 (B7 TySz.out Z Z Z Z Z Z) (A3 (A6 Z Z) Z (A7 ?_))))
 refine k1 (k10 ?_)
 exact B8 (U0 rfl rfl rfl rfl rfl rfl rfl) rfl
theorem K21 {raw:List Int} {n:Int} {x:Str} {r:List Str} (h:A05 raw n=x::r):∀b∈x::r,(C3 b).length≤16:=by rw [←h];exact fun b hb=>(E77 raw n b hb).1
theorem C92 {x:Str} {r:List Str} (h:Small16 x r) (hL:∀b∈x::r,(C3 b).length≤16):(E9 x r).2=0∧J2 (E9 x r).1=0∧(E9 x r).1.Parents=r.length∧Made16 x r (E9 x r).1.Rows:=by
 have hn:=h.n
 have hz:(E9 x r).2=0:=H90 (B:=16) (by omega) (hL x (by simp)) (fun b hb=>hL b (by simp [hb])) (by omega)
 have h1:=hL x (by simp)
 have h2:∀b∈r,(C3 b).length≤4096:=fun b hb=>by have:=hL b (by simp [hb]);omega
 have h3:=E02 (by omega) h2 hz
 exact ⟨hz,G90 (by omega) h2 hz,h3.2⟩
theorem H42 {path:Str} {x:Str} {r:List Str} {sp:List Span} (d:Bool) (hp:V2 path=true) (hpl:path.length≤400) (h:Small16 x r) (hL:∀b∈x::r,(C3 b).length≤16) (hsp:CutSp (E9 x r).1.Rows.length 0 sp) :
  b9 path (E9 x r).1 sp d=(⟨path,d,r.length,j8 r.length (E9 x r).1.Rows sp⟩,0)∧J1 ⟨path,d,r.length,j8 r.length (E9 x r).1.Rows sp⟩=0:=by
 obtain ⟨_,g2,g3,_⟩:=C92 h hL
 have hl:=h.len
 have hs:=h.sums.2.2 r.length (by have:=h.n;omega)
 have hg:=I66 (path:=path) (sp:=sp) (d:=d) hp g2 (by omega) hsp (by rw [g3,L01];omega)
 rw [g3,L01] at hg
 exact ⟨hg.1,hg.2.1⟩
theorem H43 {path x:Str} {r:List Str} {ctx:Int} (d:Bool) (hp:V2 path=true) (hpl:path.length≤400) (h:Small16 x r) (hL:∀b∈x::r,(C3 b).length≤16) (hc:0≤ctx∧ctx≤1048576) :
  V0 path x r ctx d=(⟨path,d,r.length,j8 r.length (E9 x r).1.Rows (M3 (E9 x r).1 ctx d).1⟩,0)∧J1 (V0 path x r ctx d).1=0∧V0 path x r ctx d=b9 path (E9 x r).1 (M3 (E9 x r).1 ctx d).1 d∧CutSp (E9 x r).1.Rows.length 0 (M3 (E9 x r).1 ctx d).1:=by
 obtain ⟨g1,g2,_,_⟩:=C92 h hL
 obtain ⟨k1,k2⟩:=G92 (t:=(E9 x r).1) d g2 hc
 obtain ⟨c1,c2⟩:=H42 d hp hpl h hL k2
 have e:V0 path x r ctx d=b9 path (E9 x r).1 (M3 (E9 x r).1 ctx d).1 d:=by
  unfold V0
  rw [if_neg (by rw [hp];decide),g1,if_neg (by decide),k1,if_neg (by decide)]
 refine ⟨e.trans c1,?_,e,k2⟩
 rw [e,c1];exact c2
theorem H44 (raw:List Int) (n ctx:Int) (d:Bool):FnOk Tryz.prog 10 [Q9 raw,F2 n,F2 ctx,E3 d] (fun rs=>rs=[E3 true]):=by
 obtain ⟨x,r,hpk,_,_⟩:=H40 raw n
 have hsm:=I34 hpk
 have hL:=K21 hpk
 have hm:=a6 n (n:=4) (by omega)
 have hmc:=a6 ctx (n:=4) (by omega)
 have hlen:(x::r).length=(2+P7 n 4).toNat:=by rw [←hpk];simp [A05,Z4]
 have hb:=J98 raw (2+P7 n 4).toNat 7 (by omega) (by omega)
 have hcast:(((2+P7 n 4).toNat:Nat):Int)=2+P7 n 4:=by omega
 rw [hcast] at hb
 have hbr:Z4 raw (2+P7 n 4).toNat 7=x::r:=hpk
 rw [hbr] at hb
 have hM:=I37 [120] x r (P7 ctx 4) d hsm hL
 obtain ⟨q1,q2,q3,_⟩:=H43 (path:=[120]) (ctx:=P7 ctx 4) d (by decide) (by decide) hsm hL (by omega)
 obtain ⟨_,f2⟩:=I36 (path:=[120]) (ctx:=P7 ctx 4) (d:=d) (by decide) hsm
 have hz:=K13 (path:=[120]) (sp:=(M3 (E9 x r).1 (P7 ctx 4) d).1) (d:=d) hsm.rows (by have:=hsm.sums.2.1;omega)
 rw [←q3] at hz
 obtain ⟨c,e,hce⟩:∃c e,V0 [120] x r (P7 ctx 4) d=(c,e):=⟨_,_,rfl⟩
 have he:e=0:=by rw [q1] at hce;cases hce;rfl
 subst he
 rw [hce] at hM q2 f2 hz
 dsimp only at hM q2 f2 hz
 have hF:=E72 c (by omega) hz.2
 rw [if_pos q2] at hF
 have hP:=B59 q2 (by omega)
 have hG:=K16 c (by omega)
 obtain ⟨w,hw⟩:∃w,w=S0 c:=⟨_,rfl⟩
 rw [←hw] at hF hP
 refine FnOk.intro Tryz.func10 (by decide) Z Z Z Z ?_
 refine k2 ?_
 refine A4 (A3 (A6 Z Z) Z (A7 ?_))
 refine k1 (k2 ?_)
 refine A4 (A3 (A5 Z Z) Z (A3 (A5 Z Z) Z (C1 (D31 n 4 (by omega) (by omega)) Z Z Z ?_)));rintro _ rfl;refine A3 (C6 Z Z (by omega)) Z (C1 (hb) Z Z Z ?_);rintro _ rfl;refine A3 (A6 Z Z) Z (A7 ?_)
 refine k1 (k2 ?_)
 refine G44 [13,12] [[],[12],[13,12]] [(0,[12]),(1,[12]),(2,[12]),(3,[12]),(4,[12]),(5,[12]),(6,[12]),(7,[12]),(8,[12]),(9,[12]),(10,[12]),(11,[12]),(11,[13,12])] (by kernel_rfl) (by kernel_rfl) (A78 Z (A5 Z Z) (A78 Z (B9 Z (.pure _ _ _ _) Z (by omega) (show (x::r)[(0:Int).toNat]?=some x from Z)) (A78 Z (C8 Z Z) (A78 Z (A5 Z Z) (A78 Z (A71 Z (.pure _ _ _ _) Z (by (first | omega | (simp only [K99];omega))) (by (first | omega | (simp only [K99];omega)))) (A78 Z (A5 Z Z) (A78 Z (K9 (D31 ctx 4 (by omega) (by omega)) Z Z) (A78 Z (A5 Z Z) (A78 Z (K9 (hM) Z Z) (A78 Z (A5 Z Z) (A78 Z (B3 Z Z) (A78 Z (B3 Z Z) (a_alloc 11 Z Z (a_store (H07 TySz.out Z Z Z Z Z Z) (A78 Z (A6 Z Z) ?_)))))))))))))));refine a_nil rfl ?_ ?_
 ·refine A79 Z Z (A5 Z Z) (A79 Z Z (B9 Z (.pure _ _ _ _) Z (by omega) (show (x::r)[(0:Int).toNat]?=some x from Z)) (A79 Z Z (C8 Z Z) (A79 Z Z (A5 Z Z) (A79 Z Z (A71 Z (.pure _ _ _ _) Z (by (first | omega | (simp only [K99];omega))) (by (first | omega | (simp only [K99];omega)))) (A79 Z Z (A5 Z Z) (A79 Z Z (K9 (D31 ctx 4 (by omega) (by omega)) Z Z) (A79 Z Z (A5 Z Z) (A79 Z Z (K9 (hM) Z Z) (A79 Z Z (A5 Z Z) (A79 Z Z (B3 Z Z) (A79 Z Z (B3 Z Z) (A79 Z Z (B3 Z Z) ?_))))))))))));exact o_nil
 refine k1 (k2 ?_)
 refine A4 (A3 (D5 Z Z Z) Z (C1 (hF) Z Z Z ?_));rintro _ rfl;refine A3 (A5 Z Z) Z (A3 (B3 Z Z) Z (A3 (B3 Z Z) Z (A3 (A6 Z Z) Z (A3 (A6 Z Z) Z (A7 ?_)))))
 refine k1 (k2 ?_)
 refine A4 (A3 (A5 Z Z) Z (C1 (hP) Z Z Z ?_));rintro _ rfl;refine A3 (A5 Z Z) Z (A3 (B3 Z Z) Z (A3 (B3 Z Z) Z (C7 (F9 12 Z) Z (E5 (B7 TySz.out Z Z Z Z Z Z) (A3 (A6 Z Z) Z (A7 ?_))))))
 refine k1 (k2 ?_)
 refine A4 (A3 (A5 Z Z) Z (A3 (I1 Z Z) Z (A3 (A5 Z Z) Z (B0 Z Z Z Z (fun hg=>by rw [hg];exact A5 Z Z) ?_))));refine B0 Z Z Z Z (fun hg=>by rw [hg];exact I1 Z Z) ?_;refine A3 (B5 Z (fun h=>by first | rfl | (rw [h];rfl)) (fun h=>by first | rfl | (rw [h];rfl))) Z ?_;refine A3 (A5 Z Z) Z (B0 Z Z Z Z (fun hg=>by rw [hg];exact A5 Z Z) ?_);refine B0 Z Z Z Z (fun hg=>by rw [hg];exact I1 Z Z) ?_;refine A3 (B5 Z (fun h=>by first | rfl | (rw [h];rfl)) (fun h=>by first | rfl | (rw [h];rfl))) Z ?_;refine A3 (A5 Z Z) Z (B0 Z Z Z Z (fun hg=>by rw [hg];exact D5 Z Z Z) ?_);refine B0 Z Z Z Z (fun hg=>by rw [hg];exact D5 Z Z Z) ?_;refine B0 Z Z Z Z (fun hg=>by have hq:=hg;(try simp at hq);rw [hg];exact K9 (hG) Z Z) ?_;refine A3 (B5 Z (fun h=>by first | rfl | (rw [h];rfl)) (fun h=>by first | rfl | (rw [h];rfl))) Z ?_;refine A3 (A5 Z Z) Z (B0 Z Z Z Z (fun hg=>by have hq:=hg;(try simp at hq);rw [hg];exact K9 (I32) Z Z) ?_);refine A3 (B5 Z (fun h=>by first | rfl | (rw [h];rfl)) (fun h=>by first | rfl | (rw [h];rfl))) Z ?_;refine A3 (A6 Z Z) Z (A7 ?_)
 refine k1 (k10 ?_)
 exact B8 (I2 rfl rfl rfl) (by simp)
end Go.Proofs.YtgejaedjnbjpoaaGreatDoor
