/- Walks of the program's functions. -/
import Derived.Test.YtbiadkkamhpdnaaGreatDoorFb
import Derived.Test.YtbiadkkamhpdnaaGreatDoorFs
import Derived.Test.YtbiadkkamhpdnaaGreatDoorAn
set_option linter.unusedSimpArgs false
namespace Go.Proofs.YtbiadkkamhpdnaaGreatDoor
open Go Go.AL
set_option maxRecDepth 100000
def wTo (p:Patch) (k:Nat):Str:=(y5 p++((p.Hunks.take k).map Z4).flatten).flatten
theorem G77 (p:Patch) (k:Nat) (h:k < p.Hunks.length):wTo p (k+1)=wTo p k++(Z4 p.Hunks[k]).flatten:=by
 unfold wTo
 rw [D91 _ _ h];simp only [K04,K01]
def lTo (ls:List PatchLine) (n:Nat):Str:=((ls.take n).map V3).flatten.flatten
theorem G78 (ls:List PatchLine) (n:Nat) (h:n < ls.length):lTo ls (n+1)=lTo ls n++(V3 ls[n]).flatten:=by
 unfold lTo;rw [D92 _ _ h,K04]
theorem G79 (p:Patch) (hp:PFit p) (hrange:∀h∈p.Hunks,(-4611686018427387904≤h.Old∧h.Old≤4611686018427387904)∧(-4611686018427387904≤h.New∧h.New≤4611686018427387904)):FnOk Tryz.prog 77 [pPatch p] (fun rs=>rs=[L6 (j1 p)]):=by
 have hsl:=C22 p.Hunks
 have hpl:=hp.hunks
 have hpo:=hp.old
 have hpn:=hp.new
 have hq1:=l8 p.OldName
 have hq2:=l8 p.NewName
 have hnf:=A89 p
 have hw0:wTo p 0=[45,45,45,32]++Z3 p.OldName++[10,43,43,43,32]++Z3 p.NewName++[10]:=by
  unfold wTo y5;simp
 have hwl:∀k,(wTo p k).length≤33554446+szP p.Hunks:=fun k=>by
  have h1:=A54 (p.Hunks.take k)
  have h2:=D19 p.Hunks k
  unfold wTo;rw [K04,J86];omega
 refine FnOk.intro Tryz.func77 (by decide) Z Z Z Z ?_
 refine k2 (A2 (C0 (M2 1 Z Z Z) Z (A7 Z Z (A4 ?_))));refine k1 (k2 (A2 (C0 (E37 700 Z) Z (A4 ?_))));refine k1 (k2 (G4 (J71 701 UInt8 1 u8C 5 (kb:=700) (o:=1) Z Z Z) ?_))
 have hwl0:=hwl 0
 rw [hw0] at hwl0
 refine M3 10 (by kernel_rfl) (by kernel_rfl) Z (A9 (A5 Z) Z Z (A9 (B2 Z Z Z) Z Z (A9 (E3 (C16 p.OldName (by omega)) Z Z) Z Z (A9 (E9 Z Z (by (simp only [J87,J89];omega))) Z Z (A9 (E9 Z Z (by (simp only [J86,J87,J89];omega))) Z Z (A9 (A5 Z) Z Z (A9 (B2 Z Z Z) Z Z (A9 (E3 (C16 p.NewName (by omega)) Z Z) Z Z (A9 (E9 Z Z (by (simp only [J86,J87,J89];omega))) Z Z (A9 (E9 Z Z (by (simp only [J86,J87,J89];omega))) Z Z (G5 ?_)))))))))));refine j9 (Q3 (xs:=[]) ⟨⟨_,.inl rfl,rfl⟩,rfl⟩ (by simp only [J89];omega)) Z Z Z ?_;rintro _ _ ⟨rfl,rfl⟩;refine ⟨_,rfl,?_⟩;refine G5 ?_
 rw [←hw0]
 refine k1 (k2 (k2 (A2 (A6 (A5 Z) Z (D3 Z Z Z Z (D9 Z Z (A3 Z Z (A4 ?_))))))));refine k1 (k3 (D1 (X:=Nat) (fun k=>([(3,.s (.one (.ref 700 0))),(20,C4 PatchHunk 3 phunkC p.Hunks),(21,B8 p.Hunks.length),(22,B8 k)],[(700,.tbx 124 [.ref 700 0,.buf 701 UInt8 1 u8C (wTo p k)]),(701,.spare (wTo p k).length 1 5)])) (fun k=>k≤p.Hunks.length) (fun k=>p.Hunks.length - k) 0 (Nat.zero_le _) (J58 ⟨le1 rfl,le1 rfl,le1 rfl,le1 rfl,trivial⟩ ⟨rfl,rfl,trivial⟩) ?_))
 intro k hk
 dsimp only at hk ⊢
 refine k2 (A2 (E1 Z Z Z (A4 ?_)));refine k1 (k2 ?_);refine B3 rfl (fun ht=>?_) (fun ht=>?_)
 ·have hlt:k < p.Hunks.length:=by have:=A0 ht;omega
  have hv:p.Hunks[k]?=some p.Hunks[k]:=by simp [hlt]
  have hmem:p.Hunks[k]∈p.Hunks:=J96 hlt
  have hsucc:=G77 p k hlt
  have hwk:=hwl k
  obtain ⟨h,hx⟩:∃x,x=p.Hunks[k]:=⟨_,rfl⟩
  rw [←hx] at hv hmem hsucc
  have h1:=B42 hmem
  have h3:=A53 h.Lines
  have h4:=D56 h
  have hr:=hrange h hmem
  unfold szH at h1
  obtain ⟨base,hbase⟩:∃base,base=wTo p k:=⟨_,rfl⟩
  rw [←hbase] at hsucc hwk ⊢
  refine k5 (k1 (k2 (k3 (k2 (A2 (A6 (A8 Z (.pure _ _ _ _) Z (by omega) hv) Z (A6 (C8 Z Z) Z (C0 (F4 5 Z) Z (E2 (B6 TySz.out Z Z Z Z Z Z) (A4 ?_))))))))));refine k1 (k2 (A2 (A6 (C6 Z Z Z) Z (C2 (E66 h (by omega) hr.1 hr.2) Z Z Z ?_))));rintro _ rfl;refine A47 (Q3 (xs:=base) (s:=Y7 h) ⟨⟨_,.inr rfl,rfl⟩,rfl⟩ (by omega)) Z Z Z ?_;rintro _ _ ⟨rfl,rfl⟩;refine A4 ?_;refine k1 (k2 (A2 (A6 (A5 Z) Z (D3 Z Z Z Z (D9 Z Z (A3 Z Z (A4 ?_)))))));refine k1 (k3 ?_);refine D1 (X:=Nat) (fun n=>([(3,.s (.one (.ref 700 0))),(20,C4 PatchHunk 3 phunkC p.Hunks),(21,B8 p.Hunks.length),(22,B8 k),(30,C4 PatchLine 2 plineC h.Lines),(31,B8 h.Lines.length),(32,B8 n)],[(700,.tbx 124 [.ref 700 0,.buf 701 UInt8 1 u8C (base++Y7 h++lTo h.Lines n)]),(701,.spare (base++Y7 h++lTo h.Lines n).length 1 5)])) (fun n=>n≤h.Lines.length) (fun n=>h.Lines.length - n) 0 (Nat.zero_le _) ?_ ?_
  ·have e:base++Y7 h++lTo h.Lines 0=base++Y7 h:=by simp [lTo]
   rw [e]
   exact J58 ⟨le1 rfl,le1 rfl,le1 rfl,le1 rfl,le1 rfl,le1 rfl,le1 rfl,trivial⟩ ⟨rfl,rfl,trivial⟩
  intro n hn1
  dsimp only at hn1 ⊢
  have hll:=B43 (h.Lines.take n)
  have hl2:=H13 h.Lines n
  have hlt0:(lTo h.Lines n).length≤(h.Lines.map szL).sum:=by unfold lTo;omega
  refine k2 (A2 (E1 Z Z Z (A4 ?_)));refine k1 (k2 ?_);refine B3 rfl (fun ht=>?_) (fun ht=>?_)
  ·have hlt2:n < h.Lines.length:=by have:=A0 ht;omega
   have hv2:h.Lines[n]?=some h.Lines[n]:=by simp [hlt2]
   have hmem2:=D18 (J96 hlt2)
   have hsucc2:=G78 h.Lines n hlt2
   obtain ⟨x,hx2⟩:∃x,x=h.Lines[n]:=⟨_,rfl⟩
   rw [←hx2] at hv2 hmem2 hsucc2
   obtain ⟨bs,hbs⟩:∃bs,bs=base++Y7 h++lTo h.Lines n:=⟨_,rfl⟩
   have hbl:bs.length≤33554446+szP p.Hunks+52+szP p.Hunks:=by rw [hbs,J86,J86];omega
   rw [←hbs]
   have hm29:markS.length=29:=rfl
   refine k5 (k1 (k2 (k3 (k2 (A2 (A6 (A8 Z (.pure _ _ _ _) Z (by omega) hv2) Z (A6 (C8 Z Z) Z (C0 (F4 7 Z) Z (E2 (B6 TySz.out Z Z Z Z Z Z) (A4 ?_))))))))));refine k1 (k2 (A2 (A6 (A5 Z) Z (D3 Z Z Z Z (A47 (A98 (xs:=bs) (c:=x.Kind) ⟨⟨_,.inr rfl,rfl⟩,rfl⟩ (by omega)) Z Z Z ?_)))));rintro _ _ ⟨rfl,rfl⟩;refine A4 ?_;refine k1 (k2 (A2 (A6 (A5 Z) Z (D3 Z Z Z Z (A47 (Q3 (xs:=bs++[x.Kind]) (s:=x.Text) ⟨⟨_,.inr rfl,rfl⟩,rfl⟩ (by simp only [J86,J87,J89];omega)) Z Z Z ?_)))));rintro _ _ ⟨rfl,rfl⟩;refine A4 ?_;refine k1 (k2 (A2 (A6 (A5 Z) Z (D3 Z Z Z Z (C2 (B13 x.Text (by omega)) Z Z Z ?_)))));rintro _ rfl;refine L7 Z Z (A4 ?_);refine k1 ?_;refine B3 rfl (fun ht=>?_) (fun ht=>?_)
   ·have h2:ended x.Text=false:=by simpa using ht
    have e:base++Y7 h++lTo h.Lines (n+1)=bs++[x.Kind]++x.Text++markS:=by
     rw [hsucc2,hbs,V3,h2];simp
    skip
    refine A2 (A47 (Q3 (xs:=bs++[x.Kind]++x.Text) (s:=markS) ⟨⟨_,.inr rfl,rfl⟩,rfl⟩ (by simp only [J86,J87,J89];omega)) Z Z Z ?_);rintro _ _ ⟨rfl,rfl⟩;refine A4 ?_;refine k4 (k1 (A2 (C7 Z Z Z (A3 Z Z (A4 ?_)))));refine k1 ?_;refine ⟨n+1,by omega,by omega,?_⟩
    rw [e]
    exact J58 ⟨le1 rfl,le1 rfl,le1 rfl,le1 rfl,le1 rfl,le1 rfl,le1 rfl,trivial⟩ ⟨rfl,rfl,trivial⟩
   ·have h2:ended x.Text=true:=by simpa using ht
    have e:base++Y7 h++lTo h.Lines (n+1)=bs++[x.Kind]++x.Text:=by
     rw [hsucc2,hbs,V3,h2];simp
    refine k5 (k4 (k1 (A2 (C7 Z Z Z (A3 Z Z (A4 ?_))))));refine k1 ?_;refine ⟨n+1,by omega,by omega,?_⟩
    rw [e]
    exact J58 ⟨le1 rfl,le1 rfl,le1 rfl,le1 rfl,le1 rfl,le1 rfl,le1 rfl,trivial⟩ ⟨rfl,rfl,trivial⟩
  ·have hn':n=h.Lines.length:=by have:=A1 ht;omega
   subst hn'
   have e:wTo p (k+1)=base++Y7 h++lTo h.Lines h.Lines.length:=by
    rw [hsucc,Z4,lTo,J98];simp
   rw [←e]
   refine k6 (k7 (k7 (k8 Z (k4 (k1 (A2 (C7 Z Z Z (A3 Z Z (A4 ?_)))))))));refine k1 ?_
   exact ⟨k+1,by omega,by omega,J58 ⟨le1 rfl,le1 rfl,le1 rfl,le1 rfl,trivial⟩ ⟨rfl,rfl,trivial⟩⟩
 ·have hk':k=p.Hunks.length:=by have:=A1 ht;omega
  subst hk'
  have e:wTo p p.Hunks.length=j1 p:=by unfold wTo j1 D17;rw [J98]
  rw [e]
  refine k6 (k2 (A2 (D42 (k:=700) (k':=701) ⟨_,rfl,rfl,rfl⟩ A99 Z Z Z Z Z (.inr Z) Z (A7 Z Z (A4 ?_)))));refine k1 (k10 ?_)
  exact B4 (F3 rfl rfl rfl) rfl
theorem J28 (p:Patch) (hp:PFit p) (hrange:∀h∈p.Hunks,(-4611686018427387904≤h.Old∧h.Old≤4611686018427387904)∧(-4611686018427387904≤h.New∧h.New≤4611686018427387904)):FnOk Tryz.prog 81 [pPatch p] (fun rs=>rs=[E5 (j1 p).length]):=by
 have hsl:=C22 p.Hunks
 have hpl:=hp.hunks
 have hpo:=hp.old
 have hpn:=hp.new
 have hnf:=A89 p
 have hw0:(j1 ⟨p.OldName,p.NewName,[]⟩).length=(wTo p 0).length:=by
  unfold j1 wTo D17 y5;simp
 have hwl:∀k,(wTo p k).length≤33554446+szP p.Hunks:=fun k=>by
  have h1:=A54 (p.Hunks.take k)
  have h2:=D19 p.Hunks k
  unfold wTo;rw [K04,J86];omega
 refine FnOk.intro Tryz.func81 (by decide) Z Z Z Z ?_
 refine k2 (A2 (C0 (M2 1 Z Z Z) Z (A7 Z Z (A4 ?_))));refine k1 (k2 (A2 (A6 (A5 Z) Z (D3 Z Z Z Z (A6 (A5 Z) Z (D3 Z Z Z Z (A6 (E6 Z) Z (l_sees (J84 PatchHunk 3 phunkC 12 2 Z Z) (C2 (G79 ⟨p.OldName,p.NewName,[]⟩ ⟨by dsimp only;omega,by dsimp only;omega,by simp [szP]⟩ (by simp)) Z Z Z ?_)))))))));rintro _ rfl;refine A6 (K6 Z) Z (A7 Z Z (A4 ?_))
 rw [hw0]
 refine k1 (k2 (k2 (A2 (A6 (A5 Z) Z (D3 Z Z Z Z (D9 Z Z (A3 Z Z (A4 ?_))))))));refine k1 (k3 (D1 (X:=Nat) (fun k=>([(3,B8 (wTo p k).length),(16,C4 PatchHunk 3 phunkC p.Hunks),(17,B8 p.Hunks.length),(18,B8 k)],[])) (fun k=>k≤p.Hunks.length) (fun k=>p.Hunks.length - k) 0 (Nat.zero_le _) (J58 ⟨le1 rfl,le1 rfl,le1 rfl,le1 rfl,trivial⟩ trivial) ?_))
 intro k hk
 dsimp only at hk ⊢
 have hwk:=hwl k
 refine k2 (A2 (E1 Z Z Z (A4 ?_)));refine k1 (k2 ?_);refine B3 rfl (fun ht=>?_) (fun ht=>?_)
 ·have hlt:k < p.Hunks.length:=by have:=A0 ht;omega
  have hv:p.Hunks[k]?=some p.Hunks[k]:=by simp [hlt]
  have hmem:p.Hunks[k]∈p.Hunks:=J96 hlt
  have hsucc:=G77 p k hlt
  obtain ⟨h,hx⟩:∃x,x=p.Hunks[k]:=⟨_,rfl⟩
  rw [←hx] at hv hmem hsucc
  have h1:=B42 hmem
  have h3:=A53 h.Lines
  have h4:=D56 h
  have hr:=hrange h hmem
  unfold szH at h1
  obtain ⟨base,hbase⟩:∃base,base=(wTo p k).length:=⟨_,rfl⟩
  rw [←hbase] at hwk ⊢
  have hsl2:(wTo p (k+1)).length=base+(Y7 h).length+(lTo h.Lines h.Lines.length).length:=by
   rw [hsucc,Z4,lTo,J98,hbase];simp;omega
  refine k5 (k1 (k2 (k3 (k2 (A2 (A6 (A8 Z (.pure _ _ _ _) Z (by omega) hv) Z (A6 (C8 Z Z) Z (C0 (F4 5 Z) Z (E2 (B6 TySz.out Z Z Z Z Z Z) (A4 ?_))))))))));refine k1 (k2 (A2 (A3 Z Z (A6 (C6 Z Z Z) Z (C2 (E66 h (by omega) hr.1 hr.2) Z Z Z ?_)))));rintro _ rfl;refine A6 (K6 Z) Z (C7 Z Z Z (A7 Z Z (A4 ?_)));refine k1 (k2 (A2 (A6 (A5 Z) Z (D3 Z Z Z Z (D9 Z Z (A3 Z Z (A4 ?_)))))));refine k1 (k3 ?_);refine D1 (X:=Nat) (fun n=>([(3,B8 (base+(Y7 h).length+(lTo h.Lines n).length:Nat)),(16,C4 PatchHunk 3 phunkC p.Hunks),(17,B8 p.Hunks.length),(18,B8 k),(28,C4 PatchLine 2 plineC h.Lines),(29,B8 h.Lines.length),(30,B8 n)],[])) (fun n=>n≤h.Lines.length) (fun n=>h.Lines.length - n) 0 (Nat.zero_le _) ?_ ?_
  ·have e:((base+(Y7 h).length+(lTo h.Lines 0).length:Nat):Int)=(base:Int)+((Y7 h).length:Int):=by simp [lTo]
   rw [e]
   exact J58 ⟨le1 rfl,le1 rfl,le1 rfl,le1 rfl,le1 rfl,le1 rfl,le1 rfl,trivial⟩ trivial
  intro n hn1
  dsimp only at hn1 ⊢
  have hll:=B43 (h.Lines.take n)
  have hl2:=H13 h.Lines n
  have hlt0:(lTo h.Lines n).length≤(h.Lines.map szL).sum:=by unfold lTo;omega
  refine k2 (A2 (E1 Z Z Z (A4 ?_)));refine k1 (k2 ?_);refine B3 rfl (fun ht=>?_) (fun ht=>?_)
  ·have hlt2:n < h.Lines.length:=by have:=A0 ht;omega
   have hv2:h.Lines[n]?=some h.Lines[n]:=by simp [hlt2]
   have hmem2:=D18 (J96 hlt2)
   have hsucc2:=G78 h.Lines n hlt2
   obtain ⟨x,hx2⟩:∃x,x=h.Lines[n]:=⟨_,rfl⟩
   rw [←hx2] at hv2 hmem2 hsucc2
   have hm29:markS.length=29:=rfl
   refine k5 (k1 (k2 (k3 (k2 (A2 (A6 (A8 Z (.pure _ _ _ _) Z (by omega) hv2) Z (A6 (C8 Z Z) Z (C0 (F4 7 Z) Z (E2 (B6 TySz.out Z Z Z Z Z Z) (A4 ?_))))))))));refine k1 (k2 (A2 (A3 Z Z (A6 (A5 Z) Z (D3 Z Z Z Z (A6 (K6 Z) Z (C7 Z Z Z (C7 Z Z Z (A7 Z Z (A4 ?_))))))))));refine k1 (k2 (A2 (A6 (A5 Z) Z (D3 Z Z Z Z (C2 (B13 x.Text (by omega)) Z Z Z ?_)))));rintro _ rfl;refine L7 Z Z (A4 ?_);refine k1 ?_;refine B3 rfl (fun ht=>?_) (fun ht=>?_)
   ·have h2:ended x.Text=false:=by simpa using ht
    have e:((base+(Y7 h).length+(lTo h.Lines (n+1)).length:Nat):Int)=((base+(Y7 h).length+(lTo h.Lines n).length:Nat):Int)+(1+(x.Text.length:Int))+29:=by
     rw [hsucc2,V3,h2];simp [hm29];omega
    skip
    refine A2 (A3 Z Z (C7 Z Z Z (A7 Z Z (A4 ?_))));refine k4 (k1 (A2 (C7 Z Z Z (A3 Z Z (A4 ?_)))));refine k1 ?_;refine ⟨n+1,by omega,by omega,?_⟩
    rw [e]
    exact J58 ⟨le1 rfl,le1 rfl,le1 rfl,le1 rfl,le1 rfl,le1 rfl,le1 rfl,trivial⟩ trivial
   ·have h2:ended x.Text=true:=by simpa using ht
    have e:((base+(Y7 h).length+(lTo h.Lines (n+1)).length:Nat):Int)=((base+(Y7 h).length+(lTo h.Lines n).length:Nat):Int)+(1+(x.Text.length:Int)):=by
     rw [hsucc2,V3,h2];simp;omega
    refine k5 (k4 (k1 (A2 (C7 Z Z Z (A3 Z Z (A4 ?_))))));refine k1 ?_;refine ⟨n+1,by omega,by omega,?_⟩
    rw [e]
    exact J58 ⟨le1 rfl,le1 rfl,le1 rfl,le1 rfl,le1 rfl,le1 rfl,le1 rfl,trivial⟩ trivial
  ·have hn':n=h.Lines.length:=by have:=A1 ht;omega
   subst hn'
   rw [←hsl2]
   refine k6 (k7 (k7 (k8 Z (k4 (k1 (A2 (C7 Z Z Z (A3 Z Z (A4 ?_)))))))));refine k1 ?_
   exact ⟨k+1,by omega,by omega,J58 ⟨le1 rfl,le1 rfl,le1 rfl,le1 rfl,trivial⟩ trivial⟩
 ·have hk':k=p.Hunks.length:=by have:=A1 ht;omega
  subst hk'
  have e:wTo p p.Hunks.length=j1 p:=by unfold wTo j1 D17;rw [J98]
  rw [e]
  refine k6 (k2 (A2 (A3 Z Z (A7 Z Z (A4 ?_)))));refine k1 (k10 ?_)
  exact B4 (F3 rfl rfl rfl) rfl
end Go.Proofs.YtbiadkkamhpdnaaGreatDoor
namespace Go.Proofs.YtbiadkkamhpdnaaGreatDoor
open Go Go.AL
set_option maxRecDepth 100000
theorem check12_good {p:Patch} (h1:¬y6 p≠0):s8 p.Hunks=true:=by
 by_cases hg:s8 p.Hunks=true
 ·exact hg
 ·exfalso;apply h1;unfold y6;split
  ·decide
  ·rw [if_pos (by simpa using hg)];decide
end Go.Proofs.YtbiadkkamhpdnaaGreatDoor
namespace Go.Proofs.YtbiadkkamhpdnaaGreatDoor
open Go Go.AL
set_option maxRecDepth 100000
end Go.Proofs.YtbiadkkamhpdnaaGreatDoor
namespace Go.Proofs.YtbiadkkamhpdnaaGreatDoor
open Go Go.AL
set_option maxRecDepth 100000
end Go.Proofs.YtbiadkkamhpdnaaGreatDoor
namespace Go.Proofs.YtbiadkkamhpdnaaGreatDoor
open Go Go.AL
set_option maxRecDepth 100000
abbrev G10 (q:PatchLine):List Value:=[.int .u8 q.Kind.toNat,.string ⟨q.Text.toArray⟩]
theorem J29 (q q':PatchLine):E43 (G10 q) (G10 q')=decide (q=q'):=by
 rw [Bool.eq_iff_iff]
 simp only [E43,eqV,ByteArray.toList_mk,J90,beq_iff_eq,decide_eq_true_eq,Bool.and_true]
 constructor
 ·rintro ⟨h1,h2⟩
  obtain ⟨k,t⟩:=q
  obtain ⟨k',t'⟩:=q'
  obtain rfl:k=k':=UInt8.toNat_inj.1 (by have h1:(k.toNat:Int)=k'.toNat:=h1;omega)
  obtain rfl:t=t':=h2
  rfl
 ·rintro rfl;exact ⟨rfl,rfl⟩
theorem D72 {α:Type} {a b:List α} {k:Nat} (hl:a.length=b.length) (hk:k=a.length) (h:a.take k=b.take k):a=b:=by
 subst hk;rw [J98,hl,J98] at h;exact h
theorem D05 {α:Type} {a b:List α} {k:Nat} (h1:k < a.length) (h2:k < b.length) (h:a.take k=b.take k) (he:a[k]=b[k]):a.take (k+1)=b.take (k+1):=by
 rw [J93 h1,J93 h2,h,he]
theorem I54 (a b:Patch) (ha:szP a.Hunks≤1099511627776):FnOk Tryz.prog 23 [pPatch a,pPatch b] (fun rs=>rs=[I8 (decide (a=b))]):=by
 have hsl:=C22 a.Hunks
 refine FnOk.intro Tryz.func23 (by decide) Z Z Z Z ?_
 refine k2 (A2 (C0 (M2 2 Z Z Z) Z (C0 (M2 3 Z Z Z) Z (A7 Z Z (A4 ?_)))));refine k1 (k2 (k2 (A2 (A6 (A5 Z) Z (D3 Z Z Z Z (A6 (A5 Z) Z (D3 Z Z Z Z (A6 (A80 Z Z) Z (A3 Z Z (B0 Z Z Z Z (fun hg=>by rw [hg];exact A5 Z) ?_))))))))));refine B0 Z Z Z Z (fun hg=>by rw [hg];exact B2 Z Z Z) ?_;refine B0 Z Z Z Z (fun hg=>by rw [hg];exact A5 Z) ?_;refine B0 Z Z Z Z (fun hg=>by rw [hg];exact B2 Z Z Z) ?_;refine B0 Z Z Z Z (fun hg=>by rw [hg];exact A80 Z Z) ?_;refine F2 Z Z ?_;refine A3 Z Z (B0 Z Z Z Z (fun hg=>by rw [hg];exact A5 Z) ?_);refine B0 Z Z Z Z (fun hg=>by rw [hg];exact B2 Z Z Z) ?_;refine B0 Z Z Z Z (fun hg=>by rw [hg];exact O8 Z (.pure _ _ _ _)) ?_;refine B0 Z Z Z Z (fun hg=>by rw [hg];exact A5 Z) ?_;refine B0 Z Z Z Z (fun hg=>by rw [hg];exact B2 Z Z Z) ?_;refine B0 Z Z Z Z (fun hg=>by rw [hg];exact O8 Z (.pure _ _ _ _)) ?_;refine B0 Z Z Z Z (fun hg=>by rw [hg];exact H9 Z Z) ?_;refine F2 Z Z ?_;refine A4 ?_;refine k1 ?_;refine B3 rfl (fun ht=>?_) (fun ht=>?_)
 ·simp only [or_pick] at ht
  have h:=A0 ht
  refine k2 (A2 (A7 Z Z (A4 ?_)));refine k1 (k10 (k11 (B4 (rs:=[I8 false]) (F3 Z Z Z) ?_)))
  rw [decide_eq_false]
  rintro rfl
  simp at h
 simp only [or_pick] at ht
 have h:=A1 ht
 have h1:a.OldName=b.OldName:=Decidable.not_not.1 fun q=>h (.inl (.inl q))
 have h2:a.NewName=b.NewName:=Decidable.not_not.1 fun q=>h (.inl (.inr q))
 have h3:a.Hunks.length=b.Hunks.length:=by
  have:(a.Hunks.length:Int)=b.Hunks.length:=Decidable.not_not.1 fun q=>h (.inr q)
  omega
 refine k5 (k1 (k2 (k2 (A2 (A7 Z Z (A4 ?_))))));refine k1 (k3 (D1 (X:=Nat) (fun k=>([(2,.s (.one (.ref 2 0))),(3,.s (.one (.ref 3 0))),(5,B8 k)],[(2,.box (pPatch a).s1.cells),(3,.box (pPatch b).s1.cells)])) (fun k=>k≤a.Hunks.length∧a.Hunks.take k=b.Hunks.take k) (fun k=>a.Hunks.length - k) 0 ⟨Nat.zero_le _,rfl⟩ (J58 ⟨le1 rfl,le1 rfl,le1 rfl,trivial⟩ ⟨rfl,rfl,trivial⟩) ?_))
 rintro k ⟨hk,he⟩
 dsimp only at hk he ⊢
 refine k2 (k2 (A2 (A3 Z Z (A6 (A5 Z) Z (D3 Z Z Z Z (D9 Z Z (E1 Z Z Z (A4 ?_))))))));refine k1 ?_;refine B3 rfl (fun ht=>?_) (fun ht=>?_)
 ·have hlt:k < a.Hunks.length:=by have:=A0 ht;omega
  have hlt':k < b.Hunks.length:=by omega
  have hv:a.Hunks[k]?=some a.Hunks[k]:=by simp [hlt]
  have hv':b.Hunks[k]?=some b.Hunks[k]:=by simp [hlt']
  have hszx:64*(a.Hunks[k].Lines.length)≤szP a.Hunks:=by
   have h3:=B42 (J96 hlt)
   have h4:=A53 a.Hunks[k].Lines
   unfold szH at h3;omega
  have hnext:=fun q=>D05 hlt hlt' he q
  have hno:a.Hunks[k]≠b.Hunks[k]→decide (a=b)=false:=fun q=>by
   rw [decide_eq_false];rintro rfl;exact q rfl
  obtain ⟨x,hx⟩:∃x,x=a.Hunks[k]:=⟨_,rfl⟩
  obtain ⟨y,hy⟩:∃y,y=b.Hunks[k]:=⟨_,rfl⟩
  rw [←hx] at hv hszx
  rw [←hy] at hv'
  rw [←hx,←hy] at hnext hno
  refine k5 (k1 (k2 (k3 (k2 (x5 [13,12,11,10] [[],[10],[11],[11,10],[12,11,10],[13,12,11,10]] [(0,[10]),(0,[11]),(0,[11,10]),(1,[10]),(1,[11]),(1,[11,10]),(2,[10]),(2,[11]),(2,[11,10]),(3,[10]),(3,[11]),(3,[11,10]),(4,[10]),(4,[11]),(4,[11,10]),(5,[10]),(5,[11]),(5,[11,10]),(5,[12,11,10]),(6,[10]),(6,[11]),(6,[11,10]),(6,[12,11,10]),(7,[10]),(7,[11]),(7,[11,10]),(7,[12,11,10]),(8,[10]),(8,[11]),(8,[11,10]),(8,[12,11,10]),(9,[10]),(9,[11]),(9,[11,10]),(9,[12,11,10]),(10,[11]),(11,[])] (by kernel_rfl) (by kernel_rfl) (L8 Z (A5 Z) (L8 Z (B2 Z Z Z) (L8 Z (B5 Z Z) (L8 Z (A8 Z (.pure _ _ _ _) Z (by omega) hv) (L8 Z (C8 Z Z) (L8 Z (A5 Z) (L8 Z (B2 Z Z Z) (L8 Z (B5 Z Z) (L8 Z (A8 Z (.pure _ _ _ _) Z (by omega) hv') (L8 Z (C8 Z Z) (C12 6 Z Z (C12 7 Z Z (A85 (Y6 TySz.out Z Z Z Z Z Z) (A85 (Y6 TySz.out Z Z Z Z Z Z) ?_)))))))))))))))))));refine G60 rfl ?_ ?_
  ·refine G3 Z Z (A5 Z) (G3 Z Z (A5 Z) (G3 Z Z (A5 Z) (G3 Z Z (B2 Z Z Z) (G3 Z Z (B2 Z Z Z) (G3 Z Z (B2 Z Z Z) (G3 Z Z (B5 Z Z) (G3 Z Z (B5 Z Z) (G3 Z Z (B5 Z Z) (G3 Z Z (A8 Z (.pure _ _ _ _) Z (by omega) hv) (G3 Z Z (A8 Z (.pure _ _ _ _) Z (by omega) hv) (G3 Z Z (A8 Z (.pure _ _ _ _) Z (by omega) hv) (G3 Z Z (C8 Z Z) (G3 Z Z (C8 Z Z) (G3 Z Z (C8 Z Z) (G3 Z Z (A5 Z) (G3 Z Z (A5 Z) (G3 Z Z (A5 Z) (G3 Z Z (A5 Z) (G3 Z Z (B2 Z Z Z) (G3 Z Z (B2 Z Z Z) (G3 Z Z (B2 Z Z Z) (G3 Z Z (B2 Z Z Z) (G3 Z Z (B5 Z Z) ?_)))))))))))))))))))))));refine G3 Z Z (B5 Z Z) (G3 Z Z (B5 Z Z) (G3 Z Z (B5 Z Z) (G3 Z Z (A8 Z (.pure _ _ _ _) Z (by omega) hv') (G3 Z Z (A8 Z (.pure _ _ _ _) Z (by omega) hv') (G3 Z Z (A8 Z (.pure _ _ _ _) Z (by omega) hv') (G3 Z Z (A8 Z (.pure _ _ _ _) Z (by omega) hv') (G3 Z Z (C8 Z Z) (G3 Z Z (C8 Z Z) (G3 Z Z (C8 Z Z) (G3 Z Z (C8 Z Z) (E19 Z Z Z Z Z (E19 Z Z Z Z Z ?_))))))))))));exact G61
  refine k1 (k2 (k2 (A2 (A6 (A5 Z) Z (D3 Z Z Z Z (A6 (A5 Z) Z (D3 Z Z Z Z (A6 (H9 Z Z) Z (A3 Z Z (B0 Z Z Z Z (fun hg=>by rw [hg];exact A5 Z) ?_))))))))));refine B0 Z Z Z Z (fun hg=>by rw [hg];exact B2 Z Z Z) ?_;refine B0 Z Z Z Z (fun hg=>by rw [hg];exact A5 Z) ?_;refine B0 Z Z Z Z (fun hg=>by rw [hg];exact B2 Z Z Z) ?_;refine B0 Z Z Z Z (fun hg=>by rw [hg];exact H9 Z Z) ?_;refine F2 Z Z ?_;refine A3 Z Z (B0 Z Z Z Z (fun hg=>by rw [hg];exact A5 Z) ?_);refine B0 Z Z Z Z (fun hg=>by rw [hg];exact B2 Z Z Z) ?_;refine B0 Z Z Z Z (fun hg=>by rw [hg];exact O8 Z (.pure _ _ _ _)) ?_;refine B0 Z Z Z Z (fun hg=>by rw [hg];exact A5 Z) ?_;refine B0 Z Z Z Z (fun hg=>by rw [hg];exact B2 Z Z Z) ?_;refine B0 Z Z Z Z (fun hg=>by rw [hg];exact O8 Z (.pure _ _ _ _)) ?_;refine B0 Z Z Z Z (fun hg=>by rw [hg];exact H9 Z Z) ?_;refine F2 Z Z ?_;refine A4 ?_;refine k1 ?_;refine B3 rfl (fun ht=>?_) (fun ht=>?_)
  ·simp only [or_pick] at ht
   have h:=A0 ht
   refine k2 (A2 (A7 Z Z (A4 ?_)));refine k1 (k10 (k11 (k12 (k11 (k11 (k12 (k11 (B4 (rs:=[I8 false]) (F3 Z Z Z) ?_))))))))
   rw [hno]
   rintro rfl
   simp at h
  simp only [or_pick] at ht
  have g:=A1 ht
  have g1:x.Old=y.Old:=Decidable.not_not.1 fun q=>g (.inl (.inl q))
  have g2:x.New=y.New:=Decidable.not_not.1 fun q=>g (.inl (.inr q))
  have g3:x.Lines.length=y.Lines.length:=by
   have:(x.Lines.length:Int)=y.Lines.length:=Decidable.not_not.1 fun q=>g (.inr q)
   omega
  refine k5 (k1 (k2 (A2 (A7 Z Z (A4 ?_)))));refine k1 (k3 (D1 (X:=Nat) (fun i=>([(2,.s (.one (.ref 2 0))),(3,.s (.one (.ref 3 0))),(5,B8 k),(6,.s (.one (.ref 6 0))),(7,.s (.one (.ref 7 0))),(8,B8 i)],[(2,.box (pPatch a).s1.cells),(3,.box (pPatch b).s1.cells),(6,.box (pPhunk x).s1.cells),(7,.box (pPhunk y).s1.cells)])) (fun i=>i≤x.Lines.length∧x.Lines.take i=y.Lines.take i) (fun i=>x.Lines.length - i) 0 ⟨Nat.zero_le _,rfl⟩ (J58 ⟨le1 rfl,le1 rfl,le1 rfl,le1 rfl,le1 rfl,le1 rfl,trivial⟩ ⟨rfl,rfl,rfl,rfl,trivial⟩) ?_))
  rintro i ⟨hi,hie⟩
  dsimp only at hi hie ⊢
  refine k2 (k2 (A2 (A3 Z Z (A6 (A5 Z) Z (D3 Z Z Z Z (D9 Z Z (E1 Z Z Z (A4 ?_))))))));refine k1 ?_;refine B3 rfl (fun ht=>?_) (fun ht=>?_)
  ·have hlt2:i < x.Lines.length:=by have:=A0 ht;omega
   have hlt2':i < y.Lines.length:=by omega
   have w:x.Lines[i]?=some x.Lines[i]:=by simp [hlt2]
   have w':y.Lines[i]?=some y.Lines[i]:=by simp [hlt2']
   have inext:=fun q=>D05 hlt2 hlt2' hie q
   have ino:x.Lines[i]≠y.Lines[i]→x≠y:=fun q e=>by subst e;exact q rfl
   obtain ⟨u,hu⟩:∃u,u=x.Lines[i]:=⟨_,rfl⟩
   obtain ⟨v,hv2⟩:∃v,v=y.Lines[i]:=⟨_,rfl⟩
   rw [←hu] at w
   rw [←hv2] at w'
   rw [←hu,←hv2] at inext ino
   refine k5 (k1 (k2 (k3 (k2 (C5 (by kernel_rfl) (by kernel_rfl) (A9 (A5 Z) Z Z (A9 (B2 Z Z Z) Z Z (C3 Z Z (A9 (A8 Z (.pure _ _ _ _) Z (by omega) w) Z Z (A9 (C8 Z Z) Z Z (A9 (A5 Z) Z Z (A9 (B2 Z Z Z) Z Z (C3 Z Z (A9 (A8 Z (.pure _ _ _ _) Z (by omega) w') Z Z (A9 (C8 Z Z) Z Z (A9 (G57 (G10 u) (G10 v) Z Z Z Z (J29 u v)) Z Z (G5 ?_)))))))))))))))));refine k1 ?_;refine B3 rfl (fun ht=>?_) (fun ht=>?_)
   ·have e:u≠v:=by simpa using ht
    refine k2 (A2 (A7 Z Z (A4 ?_)));refine k1 (k10 (k12 (k11 (k11 (k12 (k12 (k11 (k11 (k12 (k11 ?_))))))))))
    exact B4 (rs:=[I8 false]) (F3 rfl rfl rfl) (by rw [hno (ino e)])
   ·have e:u=v:=by simpa using ht
    refine k5 (k4 (k1 (A2 (A3 Z Z (C7 Z Z Z (A7 Z Z (A4 ?_)))))));refine k1 ?_
    exact ⟨i+1,⟨by omega,inext e⟩,by omega,J58 ⟨le1 rfl,le1 rfl,le1 rfl,le1 rfl,le1 rfl,le1 rfl,trivial⟩ ⟨rfl,rfl,rfl,rfl,trivial⟩⟩
  ·have hi':i=x.Lines.length:=by have:=A1 ht;omega
   have hxy:x=y:=by
    have h5:=D72 g3 hi' hie
    clear hno hnext hv hv' hx hy
    obtain ⟨x1,x2,x3⟩:=x
    obtain ⟨y1,y2,y3⟩:=y
    simp only at g1 g2 h5
    subst g1 g2 h5
    rfl
   refine k6 (k7 (k7 (k8 Z (k4 (k1 (A2 (A3 Z Z (C7 Z Z Z (A7 Z Z (A4 ?_))))))))));refine k1 ?_
   exact ⟨k+1,⟨by omega,hnext hxy⟩,by omega,J58 ⟨le1 rfl,le1 rfl,le1 rfl,trivial⟩ ⟨rfl,rfl,trivial⟩⟩
 ·have hk':k=a.Hunks.length:=by have:=A1 ht;omega
  have hab:a=b:=by
   have h5:=D72 h3 hk' he
   obtain ⟨a1,a2,a3⟩:=a
   obtain ⟨b1,b2,b3⟩:=b
   simp only at h1 h2 h5
   subst h1 h2 h5
   rfl
  refine k6 (k2 (A2 (A7 Z Z (A4 ?_))));refine k1 (k10 ?_)
  exact B4 (rs:=[I8 true]) (F3 rfl rfl rfl) (by rw [decide_eq_true hab])
end Go.Proofs.YtbiadkkamhpdnaaGreatDoor
namespace Go.Proofs.YtbiadkkamhpdnaaGreatDoor
open Go Go.AL
set_option maxRecDepth 100000
theorem l5 (n:Int):FnOk Tryz.prog 232 [E5 n] (fun rs=>rs=[I8 (decide (H7 n))]):=by
 refine FnOk.intro Tryz.func232 (by decide) Z Z Z Z ?_
 refine k2 (A2 (A7 Z Z (A4 ?_)));refine k1 (k2 (A2 (A3 Z Z (A6 (i8 Z Z) Z (A3 Z Z (B0 Z Z Z Z (fun hg=>by rw [hg];exact B5 Z Z) ?_))))));refine B0 Z Z Z Z (fun hg=>by rw [hg];exact t8 Z Z) ?_;refine F2 Z Z ?_;refine A7 Z Z (A4 ?_);refine k1 (k10 (B4 (F3 Z Z Z) ?_))
 simp only [L5]
 rfl
theorem F67 (l:List Change) (m n:Int) (hl:l.length≤1073741824):FnOk Tryz.prog 194 [pChanges l,E5 m,E5 n] (fun rs=>rs=[E5 (T9 l m n)]):=by
 refine FnOk.intro Tryz.func194 (by decide) Z Z Z Z ?_
 refine k2 (A2 (A7 Z Z (A4 ?_)));refine k1 (k2 (k2 (A2 (A3 Z Z (C2 (l5 m) Z Z Z ?_)))));rintro _ rfl;refine L7 Z Z (A3 Z Z (B0 Z Z Z Z (fun hg=>by rw [hg];exact B5 Z Z) ?_));refine B0 Z Z Z Z (fun hg=>by have hq:=hg;(try simp at hq);rw [hg];exact E3 (l5 n) Z Z) ?_;refine B0 Z Z Z Z (fun hg=>by rw [hg];exact Y0 Z) ?_;refine F2 Z Z ?_;refine A4 ?_;refine k1 ?_;refine B3 rfl (fun ht=>?_) (fun ht=>?_)
 ·simp only [←decide_not,or_pick] at ht
  have h:¬H7 m∨¬H7 n:=A0 ht
  refine k2 (A2 (A7 Z Z (A4 ?_)));refine k1 (k10 (k11 ?_))
  exact B4 (F3 rfl rfl rfl) (by rw [T9,if_pos h])
 simp only [←decide_not,or_pick] at ht
 have h:¬(¬H7 m∨¬H7 n):=A1 ht
 have hm:0≤m∧m≤4096:=by by_cases hm:H7 m;exact hm;exact absurd (.inl hm) h
 have hn:0≤n∧n≤4096:=by by_cases hn:H7 n;exact hn;exact absurd (.inr hn) h
 refine k5 (k1 (k2 (A2 (A7 Z Z (A7 Z Z (A4 ?_))))));refine k1 (k2 (k2 (A2 (A3 Z Z (D9 Z Z (A3 Z Z (A4 ?_)))))));refine k1 (k3 (D1 (X:=Nat × Int × Int) (fun x=>([(1,B8 m),(2,B8 n),(7,B8 x.2.1),(8,B8 x.2.2),(20,C4 Change 4 changeC l),(21,B8 l.length),(22,B8 x.1)],[])) (fun x=>x.1≤l.length∧K0 0 0 0 l m n=K0 x.1 x.2.1 x.2.2 (l.drop x.1) m n∧0≤x.2.1∧x.2.1≤8192∧0≤x.2.2∧x.2.2≤8192) (fun x=>l.length - x.1) (0,0,0) ⟨Nat.zero_le _,rfl,by decide,by decide,by decide,by decide⟩ (J58 ⟨le1 rfl,le1 rfl,le1 rfl,le1 rfl,le1 rfl,le1 rfl,le1 rfl,trivial⟩ trivial) ?_))
 rintro ⟨k,i,j⟩ ⟨hk,hp,hi,hi2,hj,hj2⟩
 dsimp only at hk hp hi hi2 hj hj2 ⊢
 refine k2 (A2 (E1 Z Z Z (A4 ?_)));refine k1 (k2 ?_);refine B3 rfl (fun ht=>?_) (fun ht=>?_)
 ·have hlt:k < l.length:=by have:=A0 ht;omega
  have hv:l[k]?=some l[k]:=by simp [hlt]
  obtain ⟨c,hc⟩:∃c,c=l[k]:=⟨_,rfl⟩
  rw [J92 hlt,K0] at hp
  rw [←hc] at hv hp
  refine k5 (k1 (k2 (k3 (k2 (A2 (A3 Z Z (A6 (A8 Z (.pure _ _ _ _) Z (by omega) hv) Z (A6 (C8 Z Z) Z (C0 (F4 10 Z) Z (A7 Z Z (E2 (B6 TySz.out Z Z Z Z Z Z) (A4 ?_))))))))))));refine k1 (k2 (k2 (A2 (A6 (A5 Z) Z (D3 Z Z Z Z (C2 (l5 c.Old) Z Z Z ?_))))));rintro _ rfl;refine L7 Z Z (A3 Z Z (B0 Z Z Z Z (fun hg=>by rw [hg];exact A5 Z) ?_));refine B0 Z Z Z Z (fun hg=>by rw [hg];exact B2 Z Z Z) ?_;refine B0 Z Z Z Z (fun hg=>by have hq:=hg;(try simp at hq);rw [hg];exact E3 (l5 c.OldLen) Z Z) ?_;refine B0 Z Z Z Z (fun hg=>by rw [hg];exact Y0 Z) ?_;refine F2 Z Z ?_;refine A3 Z Z (B0 Z Z Z Z (fun hg=>by rw [hg];exact A5 Z) ?_);refine B0 Z Z Z Z (fun hg=>by rw [hg];exact B2 Z Z Z) ?_;refine B0 Z Z Z Z (fun hg=>by have hq:=hg;(try simp at hq);rw [hg];exact E3 (l5 c.New) Z Z) ?_;refine B0 Z Z Z Z (fun hg=>by rw [hg];exact Y0 Z) ?_;refine F2 Z Z ?_;refine A3 Z Z (B0 Z Z Z Z (fun hg=>by rw [hg];exact A5 Z) ?_);refine B0 Z Z Z Z (fun hg=>by rw [hg];exact B2 Z Z Z) ?_;refine B0 Z Z Z Z (fun hg=>by have hq:=hg;(try simp at hq);rw [hg];exact E3 (l5 c.NewLen) Z Z) ?_;refine B0 Z Z Z Z (fun hg=>by rw [hg];exact Y0 Z) ?_;refine F2 Z Z ?_;refine A3 Z Z (B0 Z Z Z Z (fun hg=>by rw [hg];exact A5 Z) ?_);refine B0 Z Z Z Z (fun hg=>by rw [hg];exact B2 Z Z Z) ?_;refine B0 Z Z Z Z (fun hg=>by rw [hg];exact A5 Z) ?_;refine B0 Z Z Z Z (fun hg=>by rw [hg];exact B2 Z Z Z) ?_;refine B0 Z Z Z Z (fun hg=>by have hq:=hg;(try simp at hq);simp [H7] at hq;rw [hg];exact L4 Z Z (by omega)) ?_;refine B0 Z Z Z Z (fun hg=>by rw [hg];exact J7 Z Z) ?_;refine F2 Z Z ?_;refine A4 ?_;refine k1 ?_;refine B3 rfl (fun ht=>?_) (fun ht=>?_)
  ·simp only [←decide_not,or_pick,L5] at ht
   have h0:=A0 ht
   have hb:D15 k i j c:=.inl (.inl (.inl h0))
   refine k2 (A2 (A7 Z Z (A4 ?_)));refine k1 (k10 (k11 (k12 (k11 (k11 (k12 (k11 ?_)))))))
   exact B4 (F3 rfl rfl rfl) (by rw [T9,if_neg ‹¬(¬H7 m∨¬H7 n)›,hp,decide_eq_false (fun hh=>hh hb)];rfl)
  simp only [←decide_not,or_pick,L5] at ht
  have h0:=A1 ht
  have hr:(0≤c.Old∧c.Old≤4096)∧(0≤c.OldLen∧c.OldLen≤4096)∧(0≤c.New∧c.New≤4096)∧(0≤c.NewLen∧c.NewLen≤4096)∧c.OldLen+c.NewLen≠0:=by
   by_cases a1:H7 c.Old<;>by_cases a2:H7 c.OldLen<;>by_cases a3:H7 c.New<;>by_cases a4:H7 c.NewLen<;>simp [a1,a2,a3,a4] at h0
   exact ⟨a1,a2,a3,a4,h0⟩
  refine k5 (k1 (k2 (A2 (A6 (A5 Z) Z (D3 Z Z Z Z (A3 Z Z (A6 (I5 Z Z (by omega)) Z (A7 Z Z (A4 ?_)))))))));refine k1 (k2 (k2 (A2 (A3 Z Z (A6 (A5 Z) Z (D3 Z Z Z Z (A3 Z Z (A6 (I5 Z Z (by omega)) Z (A6 (H9 Z Z) Z (A3 Z Z (B0 Z Z Z Z (fun hg=>by rw [hg];exact B5 Z Z) ?_)))))))))));refine B0 Z Z Z Z (fun hg=>by rw [hg];exact B5 Z Z) ?_;refine B0 Z Z Z Z (fun hg=>by rw [hg];exact D64 Z Z) ?_;refine B0 Z Z Z Z (fun hg=>by rw [hg];exact Y4 Z Z) ?_;refine F2 Z Z ?_;refine A4 ?_;refine k1 ?_
  have hmin:∀b:Int,(c.Old - i < if (1:Int) < (k:Int) then 1 else (k:Int))↔(c.Old < i∨(0 < (k:Int)∧c.Old=i)):=by intro _;split<;>omega
  refine B3 rfl (fun ht=>?_) (fun ht=>?_)
  ·simp only [or_pick] at ht
   have h1:=A0 ht
   have hb:D15 k i j c:=by
    rcases h1 with h1 | h1
    ·exact .inl (.inl (.inr h1))
    ·rcases (hmin 0).1 h1 with h2 | h2
     ·exact .inl (.inr h2)
     ·exact .inr h2
   refine k2 (A2 (A7 Z Z (A4 ?_)));refine k1 (k10 (k11 (k12 (k11 (k11 (k12 (k11 ?_)))))))
   exact B4 (F3 rfl rfl rfl) (by rw [T9,if_neg ‹¬(¬H7 m∨¬H7 n)›,hp,decide_eq_false (fun hh=>hh hb)];rfl)
  ·simp only [or_pick] at ht
   have h1:=A1 ht
   have hb:¬D15 k i j c:=by
    rintro (((q | q) | q) | q)
    ·exact h0 q
    ·exact h1 (.inl q)
    ·exact h1 (.inr ((hmin 0).2 (.inl q)))
    ·exact h1 (.inr ((hmin 0).2 (.inr q)))
   rw [decide_eq_true hb,Bool.true_and] at hp
   refine k5 (k1 (C5 (by kernel_rfl) (by kernel_rfl) (A9 (A5 Z) Z Z (A9 (B2 Z Z Z) Z Z (A9 (A5 Z) Z Z (A9 (B2 Z Z Z) Z Z (A9 (L4 Z Z (by omega)) Z Z (A9 (A5 Z) Z Z (A9 (B2 Z Z Z) Z Z (A9 (A5 Z) Z Z (A9 (B2 Z Z Z) Z Z (A9 (L4 Z Z (by omega)) Z Z (A9 (E0 Z Z) Z Z (A9 (E0 Z Z) Z Z (G5 ?_)))))))))))))));refine k4 (k1 (A2 (C7 Z Z Z (A3 Z Z (A4 ?_)))));refine k1 ?_
   exact ⟨(k+1,c.Old+c.OldLen,c.New+c.NewLen),⟨by dsimp only;omega,hp,by dsimp only;omega,by dsimp only;omega,by dsimp only;omega,by dsimp only;omega⟩,by dsimp only;omega,J58 ⟨le1 rfl,le1 rfl,le1 rfl,le1 rfl,le1 rfl,le1 rfl,le1 rfl,trivial⟩ trivial⟩
 ·have hk':k=l.length:=by have:=A1 ht;omega
  rw [hk',J94 (Nat.le_refl _),K0] at hp
  refine k6 (k2 (k2 (A2 (A3 Z Z (A3 Z Z (A6 (I5 Z Z (by omega)) Z (A3 Z Z (A3 Z Z (A6 (I5 Z Z (by omega)) Z (A6 (H9 Z Z) Z (A3 Z Z (B0 Z Z Z Z (fun hg=>by rw [hg];exact B5 Z Z) ?_))))))))))));refine B0 Z Z Z Z (fun hg=>by rw [hg];exact B5 Z Z) ?_;refine B0 Z Z Z Z (fun hg=>by rw [hg];exact Y4 Z Z) ?_;refine F2 Z Z ?_;refine A4 ?_;refine k1 ?_;refine B3 rfl (fun ht=>?_) (fun ht=>?_)
  ·have h2:=A0 (or_pick.symm.trans ht)
   refine k2 (A2 (A7 Z Z (A4 ?_)));refine k1 (k10 (k11 ?_))
   exact B4 (F3 rfl rfl rfl) (by rw [T9,if_neg h,hp,decide_eq_false (fun hh=>hh h2)];rfl)
  ·have h2:=A1 (or_pick.symm.trans ht)
   refine k5 (k1 (k2 (A2 (A7 Z Z (A4 ?_)))));refine k1 (k10 ?_)
   exact B4 (F3 rfl rfl rfl) (by rw [T9,if_neg h,hp,decide_eq_true h2];rfl)
theorem I55 {gf:Fr} {ob:Obs} (p:List Span):AL.Met Tryz.prog 261 [.one (.p (.list Span 2 spanC p))] gf ob [] (fun rs ob'=>rs=[.one (.full Span 2 spanC p)]∧ob'=ob):=by
 refine AL.Met.intro Tryz.func261 (by decide) Z Z Z ?_
 refine k2 (A2 (A7 Z Z (A4 ?_)));refine k1 (k2 (A2 (A3 Z Z (A3 Z Z (D9 Z Z (A3 Z Z (D9 Z Z (A6 (H49 Z (.pure _ _ _ _) Z Z (by omega) (by omega) (by first | rfl | omega)) Z ?_))))))));refine A7 Z Z (A4 ?_)
 rw [show p.take (p.length:Int).toNat=p by simp]
 refine k1 (k10 ?_)
 exact S7 (A64 rfl rfl) (by repeat (first | exact H2 | refine G8 rfl ?_ | refine J4 _ ?_)) (fun _ _ h=>h) ⟨rfl,rfl⟩
def A87 (i j:Int):List Span→List Change
 | []=>[]
 | x::r=>(if x.From > i∨x.To > j then [⟨i,x.From - i,j,x.To - j⟩] else [])++A87 (x.From+1) (x.To+1) r
theorem D73 (m n:Int):∀(p:List Span) (i j:Int),A87 i j (p++[⟨m,n⟩])=R4 i j p m n
 | [],i,j=>by simp [A87,R4]
 | x::r,i,j=>by
  rw [K19,A87,R4,D73 m n r]
theorem F26 (p:List Span) (m n:Int) (hp:p.length≤536870912) (hm:-1099511627776≤m∧m≤1099511627776) (hn:-1099511627776≤n∧n≤1099511627776) (hb:∀s∈p,-1099511627776≤s.From∧s.From≤1099511627776 ∧ -1099511627776≤s.To∧s.To≤1099511627776) :
  FnOk Tryz.prog 233 [pSpans p,E5 m,E5 n] (fun rs=>rs=[pChanges (A10 p m n)]):=by
 refine FnOk.intro Tryz.func233 (by decide) Z Z Z Z ?_
 refine k2 (A2 (A7 Z Z (A4 ?_)));refine k1 (k2 (A2 (C0 (R7 7 _ changeC Z) Z (A4 ?_))));refine k1 (k2 (A2 (A7 Z Z (A7 Z Z (A4 ?_)))));refine k1 (k2 (k2 (A2 (A3 Z Z (A47 (I55 p) Z Z Z ?_)))));rintro _ _ ⟨rfl,rfl⟩;refine A3 Z Z (A3 Z Z (A6 (E6 Z) Z (A6 (C9 (c:=spanC) (ys:=[⟨m,n⟩]) (D8 Z Z Z Z F1) Z Z Z) Z (C0 (F21 18 Z Z (.pure _ _ _ _) (by simp;omega) (by simp) Z) Z (A6 (O8 Z (.buf _ _ _ _ _)) Z (A3 Z Z (A4 ?_)))))))
 obtain ⟨q,hq⟩:∃q,q=p++[(⟨m,n⟩:Span)]:=⟨_,rfl⟩
 have hql:q.length=p.length+1:=by rw [hq];simp
 have hqb:∀s∈q,-1099511627776≤s.From∧s.From≤1099511627776 ∧ -1099511627776≤s.To∧s.To≤1099511627776:=by
  intro s hs
  rw [hq] at hs
  rcases List.mem_append.1 hs with h | h
  ·exact hb s h
  ·simp at h;subst h;exact ⟨hm.1,hm.2,hn.1,hn.2⟩
 have hres:A10 p m n=A87 0 0 q:=by rw [hq,D73];rfl
 rw [←hq]
 refine k1 (k3 (D1 (X:=Nat × Int × Int × List Change) (fun x=>([(7,.s (.one (.buf 7 Change 4 changeC x.2.2.2))),(8,B8 x.2.1),(9,B8 x.2.2.1),(18,.s (.one (.buf 18 Span 2 spanC q))),(19,B8 q.length),(20,B8 x.1)],[(7,.spare x.2.2.2.length 4 146)])) (fun x=>x.1≤q.length∧x.2.2.2++A87 x.2.1 x.2.2.1 (q.drop x.1)=A10 p m n∧(-1099511627777≤x.2.1∧x.2.1≤1099511627777)∧(-1099511627777≤x.2.2.1∧x.2.2.1≤1099511627777)∧x.2.2.2.length≤x.1) (fun x=>q.length - x.1) (0,0,0,[]) ⟨Nat.zero_le _,hres.symm,by decide,by decide,Nat.le_refl _⟩ (J58 ⟨le1 rfl,le1 rfl,le1 rfl,le1 rfl,le1 rfl,le1 rfl,trivial⟩ ⟨rfl,trivial⟩) ?_))
 rintro ⟨k,i,j,out⟩ ⟨hk,he,hi,hj,hol⟩
 dsimp only at hk he hi hj hol ⊢
 refine k2 (A2 (E1 Z Z Z (A4 ?_)));refine k1 (k2 ?_);refine B3 rfl (fun ht=>?_) (fun ht=>?_)
 ·have hlt:k < q.length:=by have:=A0 ht;omega
  have hv:q[k]?=some q[k]:=by simp [hlt]
  have hbk:=hqb _ (J96 hlt)
  obtain ⟨c,hc⟩:∃c,c=q[k]:=⟨_,rfl⟩
  rw [J92 hlt,A87] at he
  rw [←hc] at hv he hbk
  refine k5 (k1 (k2 (k3 (k2 (A2 (A6 (A8 Z (.buf _ _ _ _ _) Z (by omega) hv) Z (A6 (C8 Z Z) Z (C0 (F4 11 Z) Z (E2 (B6 TySz.out Z Z Z Z Z Z) (A4 ?_))))))))));refine J3 ?_
  obtain ⟨out',hout'⟩:∃out',out'=out++(if c.From > i∨c.To > j then [⟨i,c.From - i,j,c.To - j⟩] else []):=⟨_,rfl⟩
  have hol':out'.length≤k+1:=by rw [hout',J86];split<;>simp<;>omega
  rw [←K01,←hout'] at he
  refine n9 [(7,.s (.one (.buf 7 Change 4 changeC out'))),(8,B8 i),(9,B8 j),(11,.s (.one (.ref 11 0))),(18,.s (.one (.buf 18 Span 2 spanC q))),(19,B8 q.length),(20,B8 k)] [(7,.spare out'.length 4 146),(11,.box [.p (.v (.int .i64 c.From)),.p (.v (.int .i64 c.To))])] ?_ ?_
  ·refine k2 (A2 (A6 (A5 Z) Z (D3 Z Z Z Z (A3 Z Z (A6 (K9 Z Z) Z (A3 Z Z (B0 Z Z Z Z (fun hg=>by rw [hg];exact A5 Z) ?_)))))));refine B0 Z Z Z Z (fun hg=>by rw [hg];exact B2 Z Z Z) ?_;refine B0 Z Z Z Z (fun hg=>by rw [hg];exact B5 Z Z) ?_;refine B0 Z Z Z Z (fun hg=>by rw [hg];exact K9 Z Z) ?_;refine F2 Z Z ?_;refine A4 ?_;refine k1 ?_;refine B3 rfl (fun ht=>?_) (fun ht=>?_)
   ·simp only [or_pick] at ht
    have h1:=A0 ht
    rw [if_pos h1] at hout'
    skip
    refine A2 (A3 Z Z (A3 Z Z (A6 (A5 Z) Z (D3 Z Z Z Z (A3 Z Z (A6 (I5 Z Z (by omega)) Z (A3 Z Z (A6 (A5 Z) Z (D3 Z Z Z Z (A3 Z Z (A6 (I5 Z Z (by omega)) Z (A6 (E6 Z) Z (A6 (C9 (c:=changeC) (ys:=[⟨i,c.From - i,j,c.To - j⟩]) (D8 Z Z Z Z F1) Z Z Z) Z (C0 (F8 Z Z Z (.pure _ _ _ _) (by (simp only [J87,J89];omega)) Z) Z (A7 Z Z (A4 ?_))))))))))))))));refine k1 ?_
    rw [hout']
    exact J58 ⟨le1 rfl,le1 rfl,le1 rfl,le1 rfl,le1 rfl,le1 rfl,le1 rfl,trivial⟩ ⟨rfl,rfl,trivial⟩
   ·simp only [or_pick] at ht
    have h1:=A1 ht
    rw [if_neg h1,K06] at hout'
    refine k5 (k1 ?_)
    rw [hout']
    exact J58 ⟨le1 rfl,le1 rfl,le1 rfl,le1 rfl,le1 rfl,le1 rfl,le1 rfl,trivial⟩ ⟨rfl,rfl,trivial⟩
  ·skip
   refine C5 (by kernel_rfl) (by kernel_rfl) (A9 (A5 Z) Z Z (A9 (B2 Z Z Z) Z Z (A9 (L4 Z Z (by omega)) Z Z (A9 (A5 Z) Z Z (A9 (B2 Z Z Z) Z Z (A9 (L4 Z Z (by omega)) Z Z (A9 (E0 Z Z) Z Z (A9 (E0 Z Z) Z Z (G5 ?_)))))))));refine k4 (k1 (A2 (C7 Z Z Z (A3 Z Z (A4 ?_)))));refine k1 ?_
   exact ⟨(k+1,c.From+1,c.To+1,out'),⟨by dsimp only;omega,he,⟨by dsimp only;omega,by dsimp only;omega⟩,⟨by dsimp only;omega,by dsimp only;omega⟩,by dsimp only;omega⟩,by dsimp only;omega,J58 ⟨le1 rfl,le1 rfl,le1 rfl,le1 rfl,le1 rfl,le1 rfl,trivial⟩ ⟨rfl,trivial⟩⟩
 ·have hk':k=q.length:=by have:=A1 ht;omega
  rw [hk',J94 (Nat.le_refl _),A87,K06] at he
  refine k6 (k2 (A2 (A3 Z Z (A7 Z Z (A4 ?_)))));refine k1 (k10 ?_)
  exact B4 (F3 rfl rfl rfl) (by rw [←he])
theorem G80 {m n:Int}:∀{p:List Span} {i j:Int},Asc m n i j p→∀k (h:k < p.length),(k=0→i≤p[k].From∧j≤p[k].To)∧(∀h0:0 < k,p[k - 1].From < p[k].From∧p[k - 1].To < p[k].To)∧p[k].From < m∧p[k].To < n
 | [],_,_,_,k,h=>by simp at h
 | x::r,i,j,ha,k,h=>by
  obtain ⟨h1,h2,h3⟩:=ha
  cases k with
  | zero=>have:=h3.le;exact ⟨fun _=>⟨h1,h2⟩,fun h0=>absurd h0 (by omega),by show x.From < m;omega,by show x.To < n;omega⟩
  | succ k =>
   obtain ⟨g1,g2,g3,g4⟩:=G80 h3 k (by simpa using h)
   refine ⟨fun h0=>absurd h0 (by omega),fun _=>?_,by simpa using g3,by simpa using g4⟩
   cases k with
   | zero =>
    obtain ⟨q1,q2⟩:=g1 rfl
    have hr:0 < r.length:=by simpa using h
    show x.From < r[0].From∧x.To < r[0].To
    omega
   | succ k=>simpa using g2 (by omega)
theorem F27 (p:List Span) (m n:Int) (hm:H7 m) (hn:H7 n) (ha:Asc m n 0 0 p) (hp:p.length≤536870912) :
  FnOk Tryz.prog 189 [pSpans p,E5 m,E5 n] (fun rs=>rs=[pChanges (A10 p m n),E5 0]):=by
 obtain ⟨hm1,hm2⟩:=hm
 obtain ⟨hn1,hn2⟩:=hn
 have hst:=G80 ha
 have hb:∀s∈p,0≤s.From∧s.From≤4096∧0≤s.To∧s.To≤4096:=by
  have key:∀(p:List Span) (i j:Int),Asc m n i j p→0≤i→0≤j→∀s∈p,0≤s.From∧s.From≤4096∧0≤s.To∧s.To≤4096:=by
   intro p
   induction p with
   | nil=>intro _ _ _ _ _ s hs;simp at hs
   | cons x r ih =>
    rintro i j ⟨h1,h2,h3⟩ h4 h5 s hs
    have:=h3.le
    rcases List.mem_cons.1 hs with rfl | hs
    ·omega
    ·exact ih _ _ h3 (by omega) (by omega) s hs
  exact key p 0 0 ha (by omega) (by omega)
 refine FnOk.intro Tryz.func189 (by decide) Z Z Z Z ?_
 refine k2 (A2 (A7 Z Z (A7 Z Z (A4 ?_))));refine k1 (k2 (k2 (A2 (A3 Z Z (C2 (l5 m) Z Z Z ?_)))));rintro _ rfl;refine L7 Z Z (A3 Z Z (B0 Z Z Z Z (fun hg=>by rw [hg];exact B5 Z Z) ?_));refine B0 Z Z Z Z (fun hg=>by have hq:=hg;(try simp at hq);rw [hg];exact E3 (l5 n) Z Z) ?_;refine B0 Z Z Z Z (fun hg=>by rw [hg];exact Y0 Z) ?_;refine F2 Z Z ?_;refine A4 ?_;refine k1 ?_;refine B3 rfl (fun ht=>?_) (fun ht=>?_)
 ·exfalso
  simp only [←decide_not,or_pick] at ht
  have h:¬H7 m∨¬H7 n:=A0 ht
  rcases h with h | h
  ·exact h ⟨hm1,hm2⟩
  ·exact h ⟨hn1,hn2⟩
 refine O9 [(0,C4 Span 2 spanC p),(1,B8 m),(2,B8 n)] [] (J58 ⟨le1 rfl,le1 rfl,le1 rfl,trivial⟩ trivial) ?_
 refine k5 (k1 (k2 (A2 (A6 (E6 Z) Z (C0 (F4 8 Z) Z (E2 (B6 TySz.out Z Z Z Z Z Z) (A4 ?_)))))));refine k1 (k2 (k2 (A2 (A3 Z Z (D9 Z Z (A3 Z Z (A4 ?_)))))));refine k1 (k3 ?_)
 obtain ⟨lastOf,hlast⟩:∃lastOf:Nat→Span,lastOf=fun k=>if k=0 then ⟨-1,-1⟩ else p.getD (k - 1) ⟨0,0⟩:=⟨_,rfl⟩
 refine D1 (X:=Nat) (fun k=>([(0,C4 Span 2 spanC p),(1,B8 m),(2,B8 n),(8,.s (.one (.ref 8 0))),(20,C4 Span 2 spanC p),(21,B8 p.length),(22,B8 k)],[(8,.box [.p (.v (.int .i64 (lastOf k).From)),.p (.v (.int .i64 (lastOf k).To))])])) (fun k=>k≤p.length) (fun k=>p.length - k) 0 (Nat.zero_le _) ?_ ?_
 ·rw [show lastOf 0=⟨-1,-1⟩ by rw [hlast];rfl]
  exact J58 ⟨le1 rfl,le1 rfl,le1 rfl,le1 rfl,le1 rfl,le1 rfl,le1 rfl,trivial⟩ ⟨rfl,trivial⟩
 intro k hk
 dsimp only at hk ⊢
 refine k2 (A2 (E1 Z Z Z (A4 ?_)));refine k1 (k2 ?_);refine B3 rfl (fun ht=>?_) (fun ht=>?_)
 ·have hlt:k < p.length:=by have:=A0 ht;omega
  have hv:p[k]?=some p[k]:=by simp [hlt]
  obtain ⟨g1,g2,g3,g4⟩:=hst k hlt
  have hnext:lastOf (k+1)=p[k]:=by rw [hlast];simp [hlt]
  have hless:(lastOf k).From < p[k].From∧(lastOf k).To < p[k].To:=by
   rw [hlast]
   by_cases h0:k=0
   ·have:=g1 h0
    simp only [h0,if_true] at this ⊢
    omega
   ·have:=g2 (by omega)
    simp only [h0,if_false]
    have e:p.getD (k - 1) ⟨0,0⟩=p[k - 1]:=by simp [show k - 1 < p.length by omega]
    rw [e];exact this
  obtain ⟨c,hc⟩:∃c,c=p[k]:=⟨_,rfl⟩
  rw [←hc] at hv g3 g4 hnext hless
  obtain ⟨la,hla⟩:∃la,la=lastOf k:=⟨_,rfl⟩
  rw [←hla] at hless ⊢
  refine k5 (k1 (k2 (k3 (k2 (A2 (A6 (A8 Z (.pure _ _ _ _) Z (by omega) hv) Z (A6 (C8 Z Z) Z (C0 (F4 10 Z) Z (E2 (B6 TySz.out Z Z Z Z Z Z) (A4 ?_))))))))));refine k1 (k2 (k2 (A2 (A6 (A5 Z) Z (D3 Z Z Z Z (A6 (A5 Z) Z (D3 Z Z Z Z (A6 (t8 Z Z) Z (A3 Z Z (B0 Z Z Z Z (fun hg=>by rw [hg];exact A5 Z) ?_))))))))));refine B0 Z Z Z Z (fun hg=>by rw [hg];exact B2 Z Z Z) ?_;refine B0 Z Z Z Z (fun hg=>by rw [hg];exact B5 Z Z) ?_;refine B0 Z Z Z Z (fun hg=>by rw [hg];exact i8 Z Z) ?_;refine F2 Z Z ?_;refine A3 Z Z (B0 Z Z Z Z (fun hg=>by rw [hg];exact A5 Z) ?_);refine B0 Z Z Z Z (fun hg=>by rw [hg];exact B2 Z Z Z) ?_;refine B0 Z Z Z Z (fun hg=>by rw [hg];exact A5 Z) ?_;refine B0 Z Z Z Z (fun hg=>by rw [hg];exact B2 Z Z Z) ?_;refine B0 Z Z Z Z (fun hg=>by rw [hg];exact t8 Z Z) ?_;refine F2 Z Z ?_;refine A3 Z Z (B0 Z Z Z Z (fun hg=>by rw [hg];exact A5 Z) ?_);refine B0 Z Z Z Z (fun hg=>by rw [hg];exact B2 Z Z Z) ?_;refine B0 Z Z Z Z (fun hg=>by rw [hg];exact B5 Z Z) ?_;refine B0 Z Z Z Z (fun hg=>by rw [hg];exact i8 Z Z) ?_;refine F2 Z Z ?_;refine A4 ?_;refine k1 ?_;refine B3 rfl (fun ht=>?_) (fun ht=>?_)
  ·exfalso
   simp only [or_pick] at ht
   have:=A0 ht
   omega
  ·refine k5 (k1 (A2 (A6 (C6 Z Z Z) Z (E2 (B6 TySz.out Z Z Z Z Z Z) (A4 ?_)))));refine k4 (k1 (A2 (C7 Z Z Z (A3 Z Z (A4 ?_)))));refine k1 ?_;refine ⟨k+1,by omega,by omega,?_⟩
   rw [hnext]
   exact J58 ⟨le1 rfl,le1 rfl,le1 rfl,le1 rfl,le1 rfl,le1 rfl,le1 rfl,trivial⟩ ⟨rfl,trivial⟩
 ·refine k6 (k2 (A2 (A3 Z Z (A3 Z Z (A3 Z Z (C2 (F26 p m n hp (by omega) (by omega) (fun s hs=>by have:=hb s hs;omega)) Z Z Z ?_))))));rintro _ rfl;refine A7 Z Z (A7 Z Z (A4 ?_));refine k1 (k10 ?_)
  exact B4 (U7 rfl rfl rfl rfl rfl) rfl
theorem D06 {l:List Int} {i:Nat} (h:i < l.length):l[i]?=some (l.getD i 0):=by simp [h]
theorem G81 (a b:List Int):FnOk Tryz.prog 188 [M1 a,M1 b] (fun rs=>rs=[I8 (decide ((a.length:Int)≤4096∧(b.length:Int)≤4096))]):=by
 refine FnOk.intro Tryz.func188 (by decide) Z Z Z Z ?_
 refine k2 (A2 (A7 Z Z (A4 ?_)));refine k1 (k2 (A2 (A3 Z Z (D9 Z Z (A6 (t8 Z Z) Z (A3 Z Z (B0 Z Z Z Z (fun hg=>by rw [hg];exact B5 Z Z) ?_)))))));refine B0 Z Z Z Z (fun hg=>by rw [hg];exact O8 Z (.pure _ _ _ _)) ?_;refine B0 Z Z Z Z (fun hg=>by rw [hg];exact t8 Z Z) ?_;refine F2 Z Z ?_;refine A7 Z Z (A4 ?_);refine k1 (k10 ?_)
 exact B4 (F3 rfl rfl rfl) (by simp only [L5])
theorem F28 (a b:List Int) (ha:a.length≤1073741824):FnOk Tryz.prog 234 [M1 a,M1 b] (fun rs=>rs=[E5 (Y8 a b)]):=by
 refine FnOk.intro Tryz.func234 (by decide) Z Z Z Z ?_
 refine k2 (A2 (A7 Z Z (A4 ?_)));refine k1 (k2 (A2 (A7 Z Z (A4 ?_))));refine k1 (k2 (k3 (D1 (X:=Nat) (fun k=>([(0,C4 Int 1 H4 a),(1,C4 Int 1 H4 b),(5,B8 k)],[])) (fun k=>k≤a.length∧k≤b.length∧Y8 a b=k+Y8 (a.drop k) (b.drop k)) (fun k=>a.length - k) 0 ⟨Nat.zero_le _,Nat.zero_le _,by simp⟩ (J58 ⟨le1 rfl,le1 rfl,le1 rfl,trivial⟩ trivial) ?_)))
 rintro k ⟨hk,hk2,he⟩
 dsimp only at hk hk2 he ⊢
 refine k2 (k2 (C5 (by kernel_rfl) (by kernel_rfl) (C3 Z Z (C3 Z Z (A9 (O8 Z (.pure _ _ _ _)) Z Z (A9 (Y4 Z Z) Z Z (C3 Z Z (B9 Z Z (fun hg=>by rw [hg];exact B5 Z Z) Z Z ?_))))))));refine B9 Z Z (fun hg=>by rw [hg];exact B5 Z Z) Z Z ?_;refine B9 Z Z (fun hg=>by rw [hg];exact O8 Z (.pure _ _ _ _)) Z Z ?_;refine B9 Z Z (fun hg=>by rw [hg];exact Y4 Z Z) Z Z ?_;refine A9 (G7 Z (fun h=>by first | rfl | (rw [h];rfl)) (fun h=>by first | rfl | (rw [h];rfl))) Z Z ?_;refine C3 Z Z (B9 Z Z (fun hg=>by rw [hg];exact B5 Z Z) Z Z ?_);refine B9 Z Z (fun hg=>by rw [hg];exact B5 Z Z) Z Z ?_;refine B9 Z Z (fun hg=>by have hq:=hg;(try simp at hq);rw [hg];exact A8 Z (.pure _ _ _ _) Z (by omega) (D06 (by omega))) Z Z ?_;refine B9 Z Z (fun hg=>by rw [hg];exact B1 Z Z) Z Z ?_;refine B9 Z Z (fun hg=>by rw [hg];exact B5 Z Z) Z Z ?_;refine B9 Z Z (fun hg=>by rw [hg];exact B5 Z Z) Z Z ?_;refine B9 Z Z (fun hg=>by have hq:=hg;(try simp at hq);rw [hg];exact A8 Z (.pure _ _ _ _) Z (by omega) (D06 (by omega))) Z Z ?_;refine B9 Z Z (fun hg=>by rw [hg];exact B1 Z Z) Z Z ?_;refine B9 Z Z (fun hg=>by rw [hg];exact J7 Z Z) Z Z ?_;refine A9 (G7 Z (fun h=>by first | rfl | (rw [h];rfl)) (fun h=>by first | rfl | (rw [h];rfl))) Z Z ?_;refine G5 ?_;refine k1 ?_;refine B3 rfl (fun ht=>?_) (fun ht=>?_)
 ·simp only [L5] at ht
  obtain ⟨⟨h1,h2⟩,h3⟩:=A0 ht
  have h1:k < a.length:=by omega
  have h2:k < b.length:=by omega
  rw [E95 a b k h1 h2,if_pos (by simpa [h1,h2] using h3)] at he
  refine k5 (k1 (k3 (A2 (A3 Z Z (C7 Z Z Z (A7 Z Z (A4 ?_)))))));refine k4 (k1 ?_)
  exact ⟨k+1,⟨by omega,by omega,by omega⟩,by omega,J58 ⟨le1 rfl,le1 rfl,le1 rfl,trivial⟩ trivial⟩
 ·simp only [L5] at ht
  have h:=A1 ht
  have h0:Y8 (a.drop k) (b.drop k)=0:=by
   by_cases hc:k < a.length∧k < b.length
   ·obtain ⟨h1,h2⟩:=hc
    rw [E95 a b k h1 h2,if_neg]
    intro h3
    exact h ⟨⟨by omega,by omega⟩,by simpa [h1,h2] using h3⟩
   ·exact J00 a b k hc
  rw [h0] at he
  refine k6 (k2 (A2 (A3 Z Z (A7 Z Z (A4 ?_)))));refine k1 (k10 ?_)
  exact B4 (F3 rfl rfl rfl) (by rw [he];rfl)
theorem F29 (a b:List Int) (ha:a.length≤4096) (hb:b.length≤4096):FnOk Tryz.prog 235 [M1 a,M1 b] (fun rs=>rs=[pU16s (flat a b (fun _ _=>true))]):=by
 obtain ⟨W,hW⟩:∃W,W=b.length+1:=⟨_,rfl⟩
 have hmul:∀i:Nat,i≤a.length+1→0≤(i:Int)*(W:Int)∧(i:Int)*(W:Int)≤16789506:=by
  intro i hi
  have h1:i*W≤4098*4097:=Nat.mul_le_mul (by omega) (by omega)
  have h2:((i*W:Nat):Int)=(i:Int)*W:=by push_cast;rfl
  omega
 have hcast:∀i:Nat,(i:Int)*(W:Int)=((i*W:Nat):Int):=fun i=>by push_cast;rfl
 have hlen:∀done,(flat a b done).length=(a.length+1)*W:=fun done=>by rw [D96,hW]
 have hdl:∀i j,dist (a.drop i) (b.drop j)≤8192:=fun i j=>by
  have:=C18 (a.drop i) (b.drop j)
  simp only [K08] at this
  omega
 have hin:∀i j:Nat,i≤a.length→j≤b.length→i*W+j < (a.length+1)*W:=fun i j hi hj=>by rw [hW];exact (E22 hi hj).1
 refine FnOk.intro Tryz.func235 (by decide) Z Z Z Z ?_
 refine k2 (A2 (A7 Z Z (A4 ?_)));refine k1 (k2 (A2 (A3 Z Z (D9 Z Z (C7 Z Z Z (A7 Z Z (A4 ?_)))))));refine J3 ?_
 refine O9 [(0,C4 Int 1 H4 a),(1,C4 Int 1 H4 b),(5,B8 W)] [] (J58 ⟨⟨_,rfl,.same _⟩,⟨_,rfl,.same _⟩,⟨_,rfl,.eq (by rw [hW];simp)⟩,trivial⟩ trivial) ?_
 have hm1:=hmul (a.length+1) (Nat.le_refl _)
 have e1:((a.length:Int)+1)=((a.length+1:Nat):Int):=by omega
 refine k2 (A2 (A3 Z Z (D9 Z Z (C7 Z Z Z (A3 Z Z (A6 (B68 Z Z (by (rw [e1];omega))) Z ?_))))));refine C0 (p7 20 Int C77 0 Z Z (by (rw [e1];omega)) (by (rw [e1];omega)) (fun _=>by first | exact ⟨⟨rfl,rfl⟩,trivial⟩ | exact ⟨Q5 _ _ _,trivial⟩) Z) Z ?_;refine A7 Z Z (A4 ?_);refine J3 ?_
 refine O9 [(0,C4 Int 1 H4 a),(1,C4 Int 1 H4 b),(5,B8 W),(6,.s (.one (.mut 20)))] [(20,.arr Int 1 C77 (flat a b (fun _ _=>false)))] ?_ ?_
 ·refine J58 ⟨⟨_,rfl,.same _⟩,⟨_,rfl,.same _⟩,⟨_,rfl,.same _⟩,⟨_,rfl,.same _⟩,trivial⟩ ⟨?_,trivial⟩
  rw [←I99,e1,hcast,J97,hW];rfl
 refine k2 (k2 (A2 (A3 Z Z (D9 Z Z (A3 Z Z (A4 ?_))))));refine k1 (k3 ?_);refine D1 (X:=Nat) (fun j=>([(0,C4 Int 1 H4 a),(1,C4 Int 1 H4 b),(5,B8 W),(6,.s (.one (.mut 20))),(22,B8 b.length),(23,B8 j)],[(20,.arr Int 1 C77 (flat a b (fun r q=>decide (r=a.length∧q < j))))])) (fun j=>j≤b.length) (fun j=>b.length - j) 0 (Nat.zero_le _) ?_ ?_
 ·rw [show flat a b (fun r q=>decide (r=a.length∧q < 0))=flat a b (fun _ _=>false) from B51 fun r q _ _=>.inl (by simp)]
  exact J58 ⟨le1 rfl,le1 rfl,le1 rfl,le1 rfl,le1 rfl,le1 rfl,trivial⟩ ⟨rfl,trivial⟩
 intro j hj
 dsimp only at hj ⊢
 refine k2 (A2 (E1 Z Z Z (A4 ?_)));refine k1 (k2 ?_);refine B3 rfl (fun ht=>?_) (fun ht=>?_)
 ·have hlt:j < b.length:=by have:=A0 ht;omega
  have hmm:=hmul a.length (by omega)
  have hix:=hin a.length j (Nat.le_refl _) (by omega)
  have hc1:=hcast a.length
  have hL:=hlen (fun r q=>decide (r=a.length∧q < j))
  have hst:(flat a b (fun r q=>decide (r=a.length∧q < j))).set (((a.length:Int)*(W:Int)+(j:Int)).toNat) (IntKind.u16.wrap ((b.length:Int) - j))=flat a b (fun r q=>decide (r=a.length∧q < j+1)):=by
   rw [show ((a.length:Int)*(W:Int)+(j:Int)).toNat=a.length*(b.length+1)+j by rw [hc1,hW];omega,H80 _ (by omega)]
   refine H19 (Nat.le_refl _) (by omega) ?_ (by simp) (fun r q hr hq hne=>?_)
   ·rw [J94 (Nat.le_refl a.length),dist,K08];omega
   ·rw [decide_eq_decide];omega
  refine k5 (k1 (k2 (k3 (k2 (A2 (A3 Z Z (A7 Z Z (A4 ?_))))))));refine k1 (A2 (A3 Z Z (A3 Z Z (D9 Z Z (A3 Z Z (A6 (B68 Z Z (by omega)) Z (A3 Z Z (C7 Z Z Z (A3 Z Z (D9 Z Z (A3 Z Z (A6 (I5 Z Z (by omega)) Z (A6 (O0 Z) Z (A6 (F7 Z Z Z (by omega) (by (rw [hL];omega))) Z ?_))))))))))))));refine E2 (I9 TySz.out Z Z (by (rw [hL];omega)) Z Z) ?_;refine A4 ?_;refine k4 (k1 (A2 (C7 Z Z Z (A3 Z Z (A4 ?_)))));refine k1 ?_;refine ⟨j+1,by omega,by omega,?_⟩
  rw [←hst]
  exact J58 ⟨le1 rfl,le1 rfl,le1 rfl,le1 rfl,le1 rfl,le1 rfl,trivial⟩ ⟨rfl,trivial⟩
 ·have hj':j=b.length:=by have:=A1 ht;omega
  subst hj'
  rw [show flat a b (fun r q=>decide (r=a.length∧q < b.length))=flat a b (fun r _=>decide (a.length≤r)) from B51 fun r q hr hq=>by
   by_cases h:r=a.length∧q=b.length
   ·right;rw [h.1,h.2,J94 (Nat.le_refl _),J94 (Nat.le_refl _)];exact A72 []
   ·left;rw [decide_eq_decide];omega]
  refine k6 (k2 (k2 (A2 (A3 Z Z (D9 Z Z (A6 (I5 Z Z (by omega)) Z (A7 Z Z (A4 ?_))))))));refine k1 (k3 (D1 (X:=Nat) (fun i=>([(0,C4 Int 1 H4 a),(1,C4 Int 1 H4 b),(5,B8 W),(6,.s (.one (.mut 20))),(8,B8 ((i:Int) - 1))],[(20,.arr Int 1 C77 (flat a b (fun r _=>decide (i≤r))))])) (fun i=>i≤a.length) (fun i=>i) a.length (Nat.le_refl _) (J58 ⟨le1 rfl,le1 rfl,le1 rfl,le1 rfl,le1 rfl,trivial⟩ ⟨rfl,trivial⟩) ?_))
  intro i hi
  dsimp only at hi ⊢
  refine k2 (k2 (A2 (A3 Z Z (A6 (i8 Z Z) Z (A4 ?_)))));refine k1 ?_;refine B3 rfl (fun ht=>?_) (fun ht=>?_)
  ·obtain ⟨i,rfl⟩:∃r,i=r+1:=⟨i - 1,by have:=A0 ht;omega⟩
   refine O9 [(0,C4 Int 1 H4 a),(1,C4 Int 1 H4 b),(5,B8 W),(6,.s (.one (.mut 20))),(8,B8 i)] [(20,.arr Int 1 C77 (flat a b (fun r _=>decide (i+1≤r))))] (J58 ⟨le1 rfl,le1 rfl,le1 rfl,le1 rfl,leE Z (by first | (simp;done) | (simp;omega)),trivial⟩ ⟨rfl,trivial⟩) ?_
   obtain ⟨P,hP⟩:∃P,P=i*W:=⟨_,rfl⟩
   obtain ⟨N,hN⟩:∃N,N=(a.length+1)*W:=⟨_,rfl⟩
   have c0:(i:Int)*(W:Int)=(P:Int):=by rw [hP];exact hcast i
   have c1:((i:Int)+1)*(W:Int)=(P:Int)+W:=by rw [Int.add_mul,Int.one_mul,c0]
   have c2:((i:Int)+2)*(W:Int)=(P:Int)+W+W:=by rw [Int.add_mul,c0];omega
   have hPN:P+W+W≤N:=by
    have h1:(i+2)*W≤(a.length+1)*W:=K07 _ (by omega)
    have h2:(i+2)*W=i*W+W+W:=by rw [K14];omega
    omega
   have hN2:N≤16789506:=by have:=hmul (a.length+1) (Nat.le_refl _);have:=hcast (a.length+1);omega
   have hL:∀done,(flat a b done).length=N:=fun done=>by rw [hlen,hN]
   refine k5 (k1 (k2 (k3 (k2 (C5 (by kernel_rfl) (by kernel_rfl) (C3 Z Z (C3 Z Z (C3 Z Z (A9 (B68 Z Z (by (rw [c0];omega))) Z Z ?_)))))))));refine C3 Z Z (A9 (L4 Z Z (by omega)) Z Z (C3 Z Z (A9 (B68 Z Z (by (rw [c1];omega))) Z Z ?_)));refine A9 (B80 Z Z Z Z (by (first | (rw [c0];omega) | (rw [c0,c1];omega) | (rw [c1,hL];omega))) (by (first | (rw [c0];omega) | (rw [c0,c1];omega) | (rw [c1,hL];omega))) (by (first | (rw [c0];omega) | (rw [c0,c1];omega) | (rw [c1,hL];omega)))) Z Z ?_;refine C3 Z Z (C3 Z Z (A9 (L4 Z Z (by omega)) Z Z (C3 Z Z (A9 (B68 Z Z (by (rw [c1];omega))) Z Z ?_))));refine C3 Z Z (A9 (L4 Z Z (by omega)) Z Z (C3 Z Z (A9 (B68 Z Z (by (rw [c2];omega))) Z Z ?_)));refine A9 (B80 Z Z Z Z (by (first | (rw [c1];omega) | (rw [c1,c2];omega) | (rw [c2,hL];omega))) (by (first | (rw [c1];omega) | (rw [c1,c2];omega) | (rw [c2,hL];omega))) (by (first | (rw [c1];omega) | (rw [c1,c2];omega) | (rw [c2,hL];omega)))) Z Z ?_;refine A9 (E0 Z Z) Z Z (A9 (E0 Z Z) Z Z (G5 ?_));refine J3 ?_
   have hdone:∀j,j≤b.length→(flat a b (fun r q=>decide (i+1≤r∨(r=i∧j≤q))))[P+j]?=some (dist (a.drop i) (b.drop j):Int):=fun j hj=>by
    rw [hP,hW,E94 (by omega) hj,if_pos (by simp)]
   have hbelow:∀j j',j≤b.length→(flat a b (fun r q=>decide (i+1≤r∨(r=i∧j'≤q))))[P+W+j]?=some (dist (a.drop (i+1)) (b.drop j):Int):=fun j j' hj=>by
    rw [show P+W+j=(i+1)*(b.length+1)+j by rw [hP,hW,K14];omega,E94 (by omega) hj,if_pos (by simp)]
   refine O9 [(0,C4 Int 1 H4 a),(1,C4 Int 1 H4 b),(5,B8 W),(6,.s (.one (.mut 20))),(8,B8 i),(9,.s (.one (.msl 20 1 P W))),(10,.s (.one (.msl 20 1 (P+W) W)))] [(20,.arr Int 1 C77 (flat a b (fun r _=>decide (i+1≤r))))] ?_ ?_
   ·refine J58 ⟨⟨_,rfl,.same _⟩,⟨_,rfl,.same _⟩,⟨_,rfl,.same _⟩,⟨_,rfl,.same _⟩,⟨_,rfl,.same _⟩,⟨_,rfl,.eq ?_⟩,⟨_,rfl,.eq ?_⟩,trivial⟩ ⟨rfl,trivial⟩
    ·rw [c0,c1];congr 3<;>omega
    ·rw [c1,c2];congr 3<;>omega
   have hset:∀(done done':Nat→Nat→Bool) (j:Nat) (v:Int),j≤b.length→v=(dist (a.drop i) (b.drop j):Int)→done' i j=true→(∀r q,r≤a.length→q≤b.length→¬(r=i∧q=j)→done' r q=done r q)→(flat a b done).set (P+j) v=flat a b done':=by
    intro done done' j v hj hv h1 h2
    rw [hP,hW];exact H19 (by omega) hj hv h1 h2
   have hs0:(flat a b (fun r _=>decide (i+1≤r))).set (P+((b.length:Nat):Int).toNat) (IntKind.u16.wrap ((a.length:Int) - i))=flat a b (fun r q=>decide (i+1≤r∨(r=i∧b.length≤q))):=by
    rw [J97,H80 _ (by omega)]
    refine hset _ _ _ _ (Nat.le_refl _) ?_ (by simp) (fun r q hr hq hne=>?_)
    ·rw [J94 (Nat.le_refl b.length),A72,K08];omega
    ·rw [decide_eq_decide];omega
   refine k2 (A2 (A3 Z Z (A3 Z Z (D9 Z Z (A3 Z Z (D9 Z Z (A3 Z Z (A6 (I5 Z Z (by omega)) Z (A6 (O0 Z) Z (A6 (W1 Z Z (by omega) (by omega)) Z (E2 (I9 TySz.out Z Z (by (rw [hL];omega)) Z Z) ?_)))))))))));refine A4 ?_
   rw [hs0]
   refine k1 (k2 (A2 (A3 Z Z (D9 Z Z (A6 (I5 Z Z (by omega)) Z (A7 Z Z (A4 ?_)))))));refine k1 (k3 (D1 (X:=Nat) (fun j=>([(0,C4 Int 1 H4 a),(1,C4 Int 1 H4 b),(5,B8 W),(6,.s (.one (.mut 20))),(8,B8 i),(9,.s (.one (.msl 20 1 P W))),(10,.s (.one (.msl 20 1 (P+W) W))),(11,B8 ((j:Int) - 1))],[(20,.arr Int 1 C77 (flat a b (fun r q=>decide (i+1≤r∨(r=i∧j≤q)))))])) (fun j=>j≤b.length) (fun j=>j) b.length (Nat.le_refl _) (J58 ⟨le1 rfl,le1 rfl,le1 rfl,le1 rfl,le1 rfl,le1 rfl,le1 rfl,le1 rfl,trivial⟩ ⟨rfl,trivial⟩) ?_))
   intro j hj
   dsimp only at hj ⊢
   refine k2 (k2 (A2 (A3 Z Z (A6 (i8 Z Z) Z (A4 ?_)))));refine k1 ?_;refine B3 rfl (fun ht=>?_) (fun ht=>?_)
   ·obtain ⟨j,rfl⟩:∃r,j=r+1:=⟨j - 1,by have:=A0 ht;omega⟩
    have hva:a[i]?=some a[i]:=by simp [show i < a.length by omega]
    have hvb:b[j]?=some b[j]:=by simp [show j < b.length by omega]
    have hdd:=F76 a b i j (by omega) (by omega)
    have hd1:=hdl i j
    have hd2:=hdl (i+1) j
    have hd3:=hdl i (j+1)
    have hd4:=hdl (i+1) (j+1)
    obtain ⟨u,hu⟩:∃u,u=a[i]:=⟨_,rfl⟩
    obtain ⟨v,hv⟩:∃v,v=b[j]:=⟨_,rfl⟩
    rw [←hu] at hva hdd
    rw [←hv] at hvb hdd
    have hst:(flat a b (fun r q=>decide (i+1≤r∨(r=i∧j+1≤q)))).set (P+j) (dist (a.drop i) (b.drop j):Int)=flat a b (fun r q=>decide (i+1≤r∨(r=i∧j≤q))):=hset _ _ _ _ (by omega) rfl (by simp) (fun r q hr hq hne=>by rw [decide_eq_decide];omega)
    refine O9 [(0,C4 Int 1 H4 a),(1,C4 Int 1 H4 b),(5,B8 W),(6,.s (.one (.mut 20))),(8,B8 i),(9,.s (.one (.msl 20 1 P W))),(10,.s (.one (.msl 20 1 (P+W) W))),(11,B8 j)] [(20,.arr Int 1 C77 (flat a b (fun r q=>decide (i+1≤r∨(r=i∧j+1≤q)))))] (J58 ⟨le1 rfl,le1 rfl,le1 rfl,le1 rfl,le1 rfl,le1 rfl,le1 rfl,leE Z (by first | (simp;done) | (simp;omega)),trivial⟩ ⟨rfl,trivial⟩) ?_
    refine E24 ?_
    refine J3 ?_
    refine n9 [(0,C4 Int 1 H4 a),(1,C4 Int 1 H4 b),(5,B8 W),(6,.s (.one (.mut 20))),(8,B8 i),(9,.s (.one (.msl 20 1 P W))),(10,.s (.one (.msl 20 1 (P+W) W))),(11,B8 j)] [(20,.arr Int 1 C77 (flat a b (fun r q=>decide (i+1≤r∨(r=i∧j≤q)))))] ?_ ?_
    ·refine k3 (k2 (C5 (by kernel_rfl) (by kernel_rfl) (C3 Z Z (C3 Z Z (A9 (A8 Z (.pure _ _ _ _) Z (by omega) hva) Z Z (A9 (B1 Z Z) Z Z (C3 Z Z (C3 Z Z (A9 (A8 Z (.pure _ _ _ _) Z (by omega) hvb) Z Z (A9 (B1 Z Z) Z Z (A9 (J7 Z Z) Z Z (G5 ?_))))))))))));refine k1 ?_;refine B3 rfl (fun ht=>?_) (fun ht=>?_)
     ·rw [if_pos (A0 ht)] at hdd
      rw [hdd] at hst
      have hg:=hbelow (j+1) (j+1) (by omega)
      have hgi:(flat a b (fun r q=>decide (i+1≤r∨(r=i∧j+1≤q))))[P+W+((j:Int)+1).toNat]?=some (dist (a.drop (i+1)) (b.drop (j+1)):Int):=by rw [show ((j:Int)+1).toNat=j+1 by omega];exact hg
      skip
      refine A2 (A3 Z Z (A3 Z Z (A3 Z Z (A3 Z Z (C7 Z Z Z (A6 (W1 Z Z (by omega) (by omega)) Z (A6 (Q2 Z Z hgi Z) Z (A6 (W1 Z Z (by omega) (by omega)) Z (E2 (I9 TySz.out Z Z (by (rw [hL];omega)) Z Z) ?_)))))))));refine A4 ?_;refine k4 (k1 ?_)
      rw [show P+((j:Nat):Int).toNat=P+j by omega,hst]
      exact J58 ⟨le1 rfl,le1 rfl,le1 rfl,le1 rfl,le1 rfl,le1 rfl,le1 rfl,le1 rfl,trivial⟩ ⟨rfl,trivial⟩
     ·rw [if_neg (A1 ht)] at hdd
      have hg1:=hbelow j (j+1) (by omega)
      have hg2:=hdone (j+1) (by omega)
      have hgi1:(flat a b (fun r q=>decide (i+1≤r∨(r=i∧j+1≤q))))[P+W+((j:Nat):Int).toNat]?=some (dist (a.drop (i+1)) (b.drop j):Int):=by rw [J97];exact hg1
      have hgi2:(flat a b (fun r q=>decide (i+1≤r∨(r=i∧j+1≤q))))[P+((j:Int)+1).toNat]?=some (dist (a.drop i) (b.drop (j+1)):Int):=by rw [show ((j:Int)+1).toNat=j+1 by omega];exact hg2
      have hval:IntKind.u16.wrap ((if (dist (a.drop i) (b.drop (j+1)):Int) < (dist (a.drop (i+1)) (b.drop j):Int) then (dist (a.drop i) (b.drop (j+1)):Int) else (dist (a.drop (i+1)) (b.drop j):Int))+1)=(dist (a.drop i) (b.drop j):Int):=by
       rw [H80 _ (by split<;>omega),hdd];split<;>omega
      skip
      refine C5 (by kernel_rfl) (by kernel_rfl) (C3 Z Z (C3 Z Z (C3 Z Z (C3 Z Z (A9 (W1 Z Z (by omega) (by omega)) Z Z (A9 (Q2 Z Z hgi1 Z) Z Z (C3 Z Z (C3 Z Z (A9 (L4 Z Z (by omega)) Z Z (A9 (W1 Z Z (by omega) (by omega)) Z Z (A9 (Q2 Z Z hgi2 Z) Z Z (A9 (D64 Z Z) Z Z (A9 (A79 Z Z) Z Z (A9 (W1 Z Z (by omega) (by omega)) Z Z (o6 (I9 TySz.out Z Z (by (rw [hL];omega)) Z Z) Z ?_)))))))))))))));refine G5 ?_;refine k4 (k1 ?_)
      rw [hval,show P+((j:Nat):Int).toNat=P+j by omega,hst]
      exact J58 ⟨le1 rfl,le1 rfl,le1 rfl,le1 rfl,le1 rfl,le1 rfl,le1 rfl,le1 rfl,trivial⟩ ⟨rfl,trivial⟩
    ·skip
     refine A2 (A3 Z Z (A6 (I5 Z Z (by omega)) Z (A7 Z Z (A4 ?_))));refine k1 ?_
     exact ⟨j,by omega,by omega,J58 ⟨le1 rfl,le1 rfl,le1 rfl,le1 rfl,le1 rfl,le1 rfl,le1 rfl,le1 rfl,trivial⟩ ⟨rfl,trivial⟩⟩
   ·obtain rfl:j=0:=by have:=A1 ht;omega
    rw [show flat a b (fun r q=>decide (i+1≤r∨(r=i∧0≤q)))=flat a b (fun r _=>decide (i≤r)) from B51 fun r q _ _=>.inl (by rw [decide_eq_decide];omega)]
    refine k6 (k7 (k7 (k8 Z (k4 (k1 (A2 (A3 Z Z (A6 (I5 Z Z (by omega)) Z (A7 Z Z (A4 ?_))))))))));refine k1 ?_
    exact ⟨i,by omega,by omega,J58 ⟨le1 rfl,le1 rfl,le1 rfl,le1 rfl,le1 rfl,trivial⟩ ⟨rfl,trivial⟩⟩
  ·obtain rfl:i=0:=by have:=A1 ht;omega
   rw [show flat a b (fun r _=>decide (0≤r))=flat a b (fun _ _=>true) from B51 fun r q _ _=>.inl (by simp)]
   refine G4 (Sees.freeze (k:=20) Z) ?_
   refine k6 (k2 (A2 (A3 Z Z (A7 Z Z (A4 ?_)))));refine k1 (k10 ?_)
   exact B4 (F3 rfl rfl rfl) rfl
theorem i64_id {n:Int} (h:-9223372036854775808≤n∧n≤9223372036854775807):IntKind.i64.wrap n=n:=IntWalk.i64_in _ h
theorem I21 {gf:Fr} {ob:Obs} (a b:List Int) (i j:Nat) (ha:a.length≤4096) (hb:b.length≤4096) (hi:i≤a.length) (hj:j≤b.length) (h8:D4 ob 8=some (.box [.p (.list Int 1 C77 (flat a b (fun _ _=>true)))])) (h3:D4 ob 3=some (.box [.p (.list Int 1 H4 b)])) :
  AL.Met Tryz.prog 236 [.one (.p (.v (.int .i64 i))),.one (.p (.v (.int .i64 j))),.one (.ref 8 0),.one (.ref 3 0)] gf ob [] (fun rs ob'=>rs=[.one (.p (.v (.int .i64 (dist (a.drop i) (b.drop j):Int))))]∧ob'=ob):=by
 have hg:=E94 (a:=a) (b:=b) (done:=fun _ _=>true) hi hj
 rw [if_pos rfl] at hg
 have hin:=(E22 (a:=a) (b:=b) hi hj).1
 have hL:=D96 a b (fun _ _=>true)
 have e1:(i:Int)*((b.length:Int)+1)=((i*(b.length+1):Nat):Int):=by push_cast;rfl
 have hbd:i*(b.length+1)≤4096*4097:=Nat.mul_le_mul (by omega) (by omega)
 have hbd2:(a.length+1)*(b.length+1)≤4097*4097:=Nat.mul_le_mul (by omega) (by omega)
 have hgi:(flat a b (fun _ _=>true))[((i:Int)*((b.length:Int)+1)+j).toNat]?=some (dist (a.drop i) (b.drop j):Int):=by
  rw [e1,show (((i*(b.length+1):Nat):Int)+j).toNat=i*(b.length+1)+j by omega];exact hg
 have hd:=C18 (a.drop i) (b.drop j)
 simp only [K08] at hd
 refine AL.Met.intro Tryz.func236 (by decide) Z Z Z ?_
 refine k2 (A2 (A7 Z Z (A4 ?_)));refine k1 (k2 (A2 (A6 (B2 Z h8 Z) Z (A3 Z Z (A6 (B2 Z h3 Z) Z (D9 Z Z (C7 Z Z Z (A6 (B68 Z Z (by (rw [e1];omega))) Z ?_))))))));refine A3 Z Z (A6 (L4 Z Z (by (rw [e1];omega))) Z ?_);refine A6 (A8 Z (.pure _ _ _ _) Z (by omega) hgi) Z (A6 (B1 Z Z) Z (A6 (O0 Z) Z (A7 Z Z (A4 ?_))))
 rw [i64_id (by omega)]
 refine k1 (k10 ?_)
 exact S7 (A64 rfl rfl) (by repeat (first | exact H2 | refine G8 rfl ?_ | refine J4 _ ?_)) (fun _ _ h=>h) ⟨rfl,rfl⟩
theorem J30 (a b:List Int) (ha:a.length≤4096) (hb:b.length≤4096):FnOk Tryz.prog 190 [M1 a,M1 b] (fun rs=>rs=[pSpans (H1 0 0 a b)]):=by
 obtain ⟨n,hn⟩:∃n,n=Y8 a b:=⟨_,rfl⟩
 have hnl:=H20 a b
 rw [←hn] at hnl
 have hbeg:=E96 a b 0 0
 rw [←hn] at hbeg
 refine FnOk.intro Tryz.func190 (by decide) Z Z Z Z ?_
 refine k2 (A2 (C0 (M2 3 Z Z Z) Z (A7 Z Z (A4 ?_))));refine k1 (k2 (A2 (C0 (R7 5 _ spanC Z) Z (A4 ?_))));refine k1 (k2 (A2 (A3 Z Z (D3 Z Z Z Z (C2 (F28 a b (by omega)) Z Z Z ?_)))));rintro _ rfl;refine A7 Z Z (A4 ?_)
 rw [←hn]
 refine k1 (k2 (k2 (A2 (A3 Z Z (A3 Z Z (A4 ?_))))));refine k1 (k3 (D1 (X:=Nat) (fun k=>([(0,C4 Int 1 H4 a),(3,.s (.one (.ref 3 0))),(5,.s (.one (.buf 5 Span 2 spanC (M5 0 0 k)))),(6,B8 n),(15,B8 n),(16,B8 k)],[(3,.box [.p (.list Int 1 H4 b)]),(5,.spare (M5 0 0 k).length 2 88)])) (fun k=>k≤n) (fun k=>n - k) 0 (Nat.zero_le _) (J58 ⟨le1 rfl,le1 rfl,le1 rfl,le1 rfl,le1 rfl,le1 rfl,trivial⟩ ⟨rfl,rfl,trivial⟩) ?_))
 intro k hk
 dsimp only at hk ⊢
 have hrl:=V1 0 0 k
 refine k2 (A2 (E1 Z Z Z (A4 ?_)));refine k1 (k2 ?_);refine B3 rfl (fun ht=>?_) (fun ht=>?_)
 ·have hlt:k < n:=by have:=A0 ht;omega
  have hsn:=A51 0 0 k
  refine k5 (k1 (k2 (k3 (k2 (A2 (A3 Z Z (A7 Z Z (A4 ?_))))))));refine k1 (A2 (A3 Z Z (A3 Z Z (A3 Z Z (A6 (E6 Z) Z (A6 (C9 (c:=spanC) (ys:=[⟨(k:Int),(k:Int)⟩]) (D8 Z Z Z Z F1) Z Z Z) Z (C0 (F8 Z Z Z (.pure _ _ _ _) (by (simp only [J87,J89];omega)) Z) Z (A7 Z Z (A4 ?_)))))))));refine k4 (k1 (A2 (C7 Z Z Z (A3 Z Z (A4 ?_)))));refine k1 ?_;refine ⟨k+1,by omega,by omega,?_⟩
  rw [hsn,show (0:Int)+(k:Int)=k by omega]
  exact J58 ⟨le1 rfl,le1 rfl,le1 rfl,le1 rfl,le1 rfl,le1 rfl,trivial⟩ ⟨rfl,rfl,trivial⟩
 have hk':k=n:=by have:=A1 ht;omega
 subst hk'
 obtain ⟨a',ha'⟩:∃a',a'=a.drop k:=⟨_,rfl⟩
 obtain ⟨b',hb'⟩:∃b',b'=b.drop k:=⟨_,rfl⟩
 have hal:a'.length≤4096:=by rw [ha',K08];omega
 have hbl:b'.length≤4096:=by rw [hb',K08];omega
 rw [Int.zero_add,←ha',←hb'] at hbeg
 refine k6 (k2 (C5 (by kernel_rfl) (by kernel_rfl) (C3 Z Z (C3 Z Z (A9 (D37 Z (.pure _ _ _ _) Z (by omega) (by omega)) Z Z (A9 (B2 Z Z Z) Z Z (C3 Z Z (A9 (D37 Z (.pure _ _ _ _) Z (by omega) (by omega)) Z Z (A9 (E0 Z Z) Z Z (o6 (B6 TySz.out Z Z Z Z Z Z) Z (G5 ?_)))))))))))
 rw [J97,←ha',←hb']
 refine k1 (k2 (A2 (A3 Z Z (D3 Z Z Z Z (C2 (F29 a' b' hal hbl) Z Z Z ?_)))));rintro _ rfl;refine C0 (F4 8 Z) Z (E2 (B6 TySz.out Z Z Z Z Z Z) (A4 ?_));refine k1 (k2 (A2 (A6 (C56 Z Z) Z (A7 Z Z (A4 ?_)))));refine k1 (k2 (k2 (A2 (A7 Z Z (A7 Z Z (A4 ?_))))));refine k1 (k3 (D1 (X:=Nat × Nat × List Span) (fun x=>([(0,C4 Int 1 H4 a'),(3,.s (.one (.ref 3 0))),(5,.s (.one (.buf 5 Span 2 spanC x.2.2))),(6,B8 k),(8,.s (.one (.ref 8 0))),(9,.s (.one (.clo 236 [] [(8,0),(3,0)]))),(10,B8 x.1),(11,B8 x.2.1)],[(3,.box [.p (.list Int 1 H4 b')]),(5,.spare x.2.2.length 2 88),(8,.box [.p (.list Int 1 C77 (flat a' b' (fun _ _=>true)))])])) (fun x=>x.1≤a'.length∧x.2.1≤b'.length∧x.2.2.length≤k+x.1∧H1 0 0 a b=x.2.2++H1 (k+x.1) (k+x.2.1) (a'.drop x.1) (b'.drop x.2.1)) (fun x=>(a'.length - x.1)+(b'.length - x.2.1)) (0,0,M5 0 0 k) ⟨Nat.zero_le _,Nat.zero_le _,by rw [hrl];exact Nat.le_refl _,by simpa using hbeg⟩ (J58 ⟨le1 rfl,le1 rfl,le1 rfl,le1 rfl,le1 rfl,le1 rfl,le1 rfl,le1 rfl,trivial⟩ ⟨rfl,rfl,rfl,trivial⟩) ?_))
 rintro ⟨i,j,out⟩ ⟨hi,hj,hol,he⟩
 dsimp only at hi hj hol he ⊢
 refine k2 (k2 (A2 (A3 Z Z (A3 Z Z (D9 Z Z (E1 Z Z Z (A3 Z Z (B0 Z Z Z Z (fun hg=>by rw [hg];exact B5 Z Z) ?_))))))));refine B0 Z Z Z Z (fun hg=>by rw [hg];exact B2 Z Z Z) ?_;refine B0 Z Z Z Z (fun hg=>by rw [hg];exact O8 Z (.pure _ _ _ _)) ?_;refine B0 Z Z Z Z (fun hg=>by rw [hg];exact Y4 Z Z) ?_;refine F2 Z Z ?_;refine A4 ?_;refine k1 ?_;refine B3 rfl (fun ht=>?_) (fun ht=>?_)
 ·simp only [or_pick] at ht
  have hcond:=A0 ht
  refine O9 [(0,C4 Int 1 H4 a'),(3,.s (.one (.ref 3 0))),(5,.s (.one (.buf 5 Span 2 spanC out))),(6,B8 k),(8,.s (.one (.ref 8 0))),(9,.s (.one (.clo 236 [] [(8,0),(3,0)]))),(10,B8 i),(11,B8 j)] [(3,.box [.p (.list Int 1 H4 b')]),(5,.spare out.length 2 88),(8,.box [.p (.list Int 1 C77 (flat a' b' (fun _ _=>true)))])] (J58 ⟨le1 rfl,le1 rfl,le1 rfl,le1 rfl,le1 rfl,le1 rfl,le1 rfl,le1 rfl,trivial⟩ ⟨rfl,rfl,rfl,trivial⟩) ?_
  refine k5 (k1 (k3 (k3 (k2 (C5 (by kernel_rfl) (by kernel_rfl) (C3 Z Z (C3 Z Z (A9 (O8 Z (.pure _ _ _ _)) Z Z (A9 (Y4 Z Z) Z Z (C3 Z Z (B9 Z Z (fun hg=>by rw [hg];exact B5 Z Z) Z Z ?_)))))))))));refine B9 Z Z (fun hg=>by rw [hg];exact B2 Z Z Z) Z Z ?_;refine B9 Z Z (fun hg=>by rw [hg];exact O8 Z (.pure _ _ _ _)) Z Z ?_;refine B9 Z Z (fun hg=>by rw [hg];exact Y4 Z Z) Z Z ?_;refine A9 (G7 Z (fun h=>by first | rfl | (rw [h];rfl)) (fun h=>by first | rfl | (rw [h];rfl))) Z Z ?_;refine C3 Z Z (B9 Z Z (fun hg=>by rw [hg];exact B5 Z Z) Z Z ?_);refine B9 Z Z (fun hg=>by rw [hg];exact B5 Z Z) Z Z ?_;refine B9 Z Z (fun hg=>by have hq:=hg;(try simp at hq);rw [hg];exact A8 Z (.pure _ _ _ _) Z (by omega) (D06 (by omega))) Z Z ?_;refine B9 Z Z (fun hg=>by rw [hg];exact B1 Z Z) Z Z ?_;refine B9 Z Z (fun hg=>by rw [hg];exact B2 Z Z Z) Z Z ?_;refine B9 Z Z (fun hg=>by rw [hg];exact B5 Z Z) Z Z ?_;refine B9 Z Z (fun hg=>by have hq:=hg;(try simp at hq);rw [hg];exact A8 Z (.pure _ _ _ _) Z (by omega) (D06 (by omega))) Z Z ?_;refine B9 Z Z (fun hg=>by rw [hg];exact B1 Z Z) Z Z ?_;refine B9 Z Z (fun hg=>by rw [hg];exact J7 Z Z) Z Z ?_;refine A9 (G7 Z (fun h=>by first | rfl | (rw [h];rfl)) (fun h=>by first | rfl | (rw [h];rfl))) Z Z ?_;refine A9 (E0 Z Z) Z Z (G5 ?_);refine k1 ?_;refine B3 rfl (fun ht=>?_) (fun ht=>?_)
  ·simp only [L5] at ht
   obtain ⟨⟨h1,h2⟩,h3⟩:=A0 ht
   have h1:i < a'.length:=by omega
   have h2:j < b'.length:=by omega
   rw [A33 a' b' i j h1 h2,if_pos (by simpa [h1,h2] using h3)] at he
   refine O9 [(0,C4 Int 1 H4 a'),(3,.s (.one (.ref 3 0))),(5,.s (.one (.buf 5 Span 2 spanC out))),(6,B8 k),(8,.s (.one (.ref 8 0))),(9,.s (.one (.clo 236 [] [(8,0),(3,0)]))),(10,B8 i),(11,B8 j)] [(3,.box [.p (.list Int 1 H4 b')]),(5,.spare out.length 2 88),(8,.box [.p (.list Int 1 C77 (flat a' b' (fun _ _=>true)))])] (J58 ⟨le1 rfl,le1 rfl,le1 rfl,le1 rfl,le1 rfl,le1 rfl,le1 rfl,le1 rfl,trivial⟩ ⟨rfl,rfl,rfl,trivial⟩) ?_
   refine k2 (A2 (A3 Z Z (A3 Z Z (A3 Z Z (C7 Z Z Z (A3 Z Z (A3 Z Z (C7 Z Z Z (A6 (E6 Z) Z (A6 (C9 (c:=spanC) (ys:=[⟨(k:Int)+i,(k:Int)+j⟩]) (D8 Z Z Z Z F1) Z Z Z) Z (C0 (F8 Z Z Z (.pure _ _ _ _) (by (simp only [J87,J89];omega)) Z) Z (A7 Z Z (A4 ?_)))))))))))));refine k1 (A2 (A3 Z Z (C7 Z Z Z (A3 Z Z (C7 Z Z Z (A7 Z Z (A7 Z Z (A4 ?_))))))));refine k4 (k4 (k1 ?_));refine ⟨(i+1,j+1,out++[⟨(k:Int)+i,(k:Int)+j⟩]),⟨by dsimp only;omega,by dsimp only;omega,by simp;omega,?_⟩,by dsimp only;omega,J58 ⟨le1 rfl,le1 rfl,le1 rfl,le1 rfl,le1 rfl,le1 rfl,le1 rfl,le1 rfl,trivial⟩ ⟨rfl,rfl,rfl,trivial⟩⟩
   dsimp only
   rw [he,K01]
   congr 2
  ·simp only [L5] at ht
   have hno:=A1 ht
   refine O9 [(0,C4 Int 1 H4 a'),(3,.s (.one (.ref 3 0))),(5,.s (.one (.buf 5 Span 2 spanC out))),(6,B8 k),(8,.s (.one (.ref 8 0))),(9,.s (.one (.clo 236 [] [(8,0),(3,0)]))),(10,B8 i),(11,B8 j)] [(3,.box [.p (.list Int 1 H4 b')]),(5,.spare out.length 2 88),(8,.box [.p (.list Int 1 C77 (flat a' b' (fun _ _=>true)))])] (J58 ⟨le1 rfl,le1 rfl,le1 rfl,le1 rfl,le1 rfl,le1 rfl,le1 rfl,le1 rfl,trivial⟩ ⟨rfl,rfl,rfl,trivial⟩) ?_
   by_cases h1:i < a'.length
   ·have hr:decide ((i:Int) < (a'.length:Int))=true:=decide_eq_true (by omega)
    have hd1:=C18 (a'.drop (i+1)) (b'.drop j)
    simp only [K08] at hd1
    have hstep:¬j < b'.length→dist (a'.drop (i+1)) (b'.drop j)+1=dist (a'.drop i) (b'.drop j)∧H1 (k+i) (k+j) (a'.drop i) (b'.drop j)=H1 (k+i+1) (k+j) (a'.drop (i+1)) (b'.drop j):=by
     intro hj2
     rw [show b'.drop j=[] from J94 (by omega),A72,A72,K08,K08,n7,n7]
     exact ⟨by omega,rfl⟩
    have hgo:j < b'.length→H1 (k+i) (k+j) (a'.drop i) (b'.drop j)=if dist (a'.drop (i+1)) (b'.drop j)+1=dist (a'.drop i) (b'.drop j) then H1 (k+i+1) (k+j) (a'.drop (i+1)) (b'.drop j) else H1 (k+i) (k+j+1) (a'.drop i) (b'.drop (j+1)):=by
     intro h2
     rw [A33 a' b' i j h1 h2,if_neg]
     intro h3
     exact hno ⟨⟨by omega,by omega⟩,by simpa [h1,h2] using h3⟩
    refine k2 (A2 (A3 Z Z (A3 Z Z (D9 Z Z (E1 Z Z Z (A3 Z Z (N0 Z Z Z hr (A3 Z Z (N0 Z Z Z hr (A3 Z Z (N0 Z Z Z hr (C7 Z Z Z (N0 Z Z Z hr (A3 Z Z (N0 Z Z Z hr (E48 (I21 a' b' (i+1) j hal hbl (by omega) hj Z Z) Z Z Z Z ?_))))))))))))))));rintro _ _ ⟨rfl,rfl⟩;refine N0 Z Z Z hr (C7 Z Z Z (N0 Z Z Z hr (A3 Z Z (N0 Z Z Z hr (A3 Z Z (N0 Z Z Z hr (A3 Z Z (N0 Z Z Z hr (E48 (I21 a' b' i j hal hbl hi hj Z Z) Z Z Z Z ?_)))))))));rintro _ _ ⟨rfl,rfl⟩;refine N0 Z Z Z hr (A6 (J7 Z Z) Z (F2 Z Z ?_));refine A7 Z Z (A4 ?_);refine k1 ?_;refine B3 rfl (fun ht=>?_) (fun ht=>?_)
    ·simp only [L5] at ht
     obtain ⟨_,h3⟩:=A0 ht
     have h3:dist (a'.drop (i+1)) (b'.drop j)+1=dist (a'.drop i) (b'.drop j):=by omega
     have hnext:H1 (k+i) (k+j) (a'.drop i) (b'.drop j)=H1 (k+i+1) (k+j) (a'.drop (i+1)) (b'.drop j):=by
      by_cases h2:j < b'.length
      ·rw [hgo h2,if_pos h3]
      ·exact (hstep h2).2
     rw [hnext] at he
     skip
     refine A2 (A3 Z Z (C7 Z Z Z (A7 Z Z (A4 ?_))));refine k4 (k4 (k1 ?_));refine ⟨(i+1,j,out),⟨by dsimp only;omega,by dsimp only;omega,by dsimp only;omega,?_⟩,by dsimp only;omega,J58 ⟨le1 rfl,le1 rfl,le1 rfl,le1 rfl,le1 rfl,le1 rfl,le1 rfl,le1 rfl,trivial⟩ ⟨rfl,rfl,rfl,trivial⟩⟩
     dsimp only
     rw [he,show (k:Int)+(i:Int)+1=(k:Int)+((i+1:Nat):Int) by omega]
    ·simp only [L5] at ht
     have h3:=A1 ht
     have h3:¬dist (a'.drop (i+1)) (b'.drop j)+1=dist (a'.drop i) (b'.drop j):=fun q=>h3 ⟨by omega,by omega⟩
     have h2:j < b'.length:=by
      by_cases h2:j < b'.length
      ·exact h2
      ·exact absurd (hstep h2).1 h3
     rw [hgo h2,if_neg h3] at he
     skip
     refine A2 (A3 Z Z (C7 Z Z Z (A7 Z Z (A4 ?_))));refine k4 (k4 (k1 ?_));refine ⟨(i,j+1,out),⟨by dsimp only;omega,by dsimp only;omega,by dsimp only;omega,?_⟩,by dsimp only;omega,J58 ⟨le1 rfl,le1 rfl,le1 rfl,le1 rfl,le1 rfl,le1 rfl,le1 rfl,le1 rfl,trivial⟩ ⟨rfl,rfl,rfl,trivial⟩⟩
     dsimp only
     rw [he,show (k:Int)+(j:Int)+1=(k:Int)+((j+1:Nat):Int) by omega]
   ·have hrf:decide ((i:Int) < (a'.length:Int))=false:=decide_eq_false (by omega)
    have h2:j < b'.length:=by omega
    refine k2 (A2 (A3 Z Z (A3 Z Z (D9 Z Z (E1 Z Z Z (A3 Z Z (N9 Z Z Z (by rw [hrf];decide) Z ?_)))))));refine N9 Z Z Z (by rw [hrf];decide) Z ?_;refine N9 Z Z Z (by rw [hrf];decide) Z ?_;refine N9 Z Z Z (by rw [hrf];decide) Z ?_;refine N9 Z Z Z (by rw [hrf];decide) Z ?_;refine N9 Z Z Z (by rw [hrf];decide) Z ?_;refine N9 Z Z Z (by rw [hrf];decide) Z ?_;refine N9 Z Z Z (by rw [hrf];decide) Z ?_;refine N9 Z Z Z (by rw [hrf];decide) Z ?_;refine N9 Z Z Z (by rw [hrf];decide) Z ?_;refine N9 Z Z Z (by rw [hrf];decide) Z ?_;refine A6 (B77 Z (hrf) Z) Z (A7 Z Z (A4 ?_));refine k1 ?_;refine B3 rfl (fun ht=>?_) (fun ht=>?_)
    ·cases ht
    ·skip
     refine A2 (A3 Z Z (C7 Z Z Z (A7 Z Z (A4 ?_))));refine k4 (k4 (k1 ?_));refine ⟨(i,j+1,out),⟨by dsimp only;omega,by dsimp only;omega,by dsimp only;omega,?_⟩,by dsimp only;omega,J58 ⟨le1 rfl,le1 rfl,le1 rfl,le1 rfl,le1 rfl,le1 rfl,le1 rfl,le1 rfl,trivial⟩ ⟨rfl,rfl,rfl,trivial⟩⟩
     dsimp only
     rw [he,show a'.drop i=[] from J94 (by omega),c7,c7]
 ·simp only [or_pick] at ht
  have hcond:=A1 ht
  rw [show a'.drop i=[] from J94 (by omega),c7,K06] at he
  refine k6 (k2 (A2 (A3 Z Z (A7 Z Z (A4 ?_)))));refine k1 (k10 ?_)
  exact B4 (F3 rfl rfl rfl) (by rw [he])
theorem H55 (a b:List Int) (ha:a.length≤4096) (hb:b.length≤4096):FnOk Tryz.prog 130 [M1 a,M1 b] (fun rs=>rs=[pChanges (V7 a b),E5 0]):=by
 have hA:=A11 a b 0 0
 rw [Int.zero_add,Int.zero_add] at hA
 have hl:=d6 0 0 a b
 refine FnOk.intro Tryz.func130 (by decide) Z Z Z Z ?_
 refine k2 (A2 (A7 Z Z (A7 Z Z (A4 ?_))));refine k1 (k2 (k2 (A2 (A3 Z Z (A3 Z Z (C2 (G81 a b) Z Z Z ?_))))));rintro _ rfl;refine L7 Z Z (A4 ?_);refine k1 ?_;refine B3 rfl (fun ht=>?_) (fun ht=>?_)
 ·exfalso
  have h:decide ((a.length:Int)≤4096∧(b.length:Int)≤4096)=true:=decide_eq_true ⟨by omega,by omega⟩
  rw [h] at ht;cases ht
 refine k5 (k1 (k2 (A2 (A3 Z Z (A3 Z Z (C2 (J30 a b ha hb) Z Z Z ?_))))));rintro _ rfl;refine A3 Z Z (D9 Z Z (A3 Z Z (D9 Z Z (C2 (F27 (H1 0 0 a b) a.length b.length ⟨by omega,by omega⟩ ⟨by omega,by omega⟩ hA (by omega)) Z Z Z ?_))));rintro _ rfl;refine F5 Z Z Z (F5 Z Z Z (A7 Z Z (A7 Z Z (A4 ?_))));refine k1 (k10 ?_)
 exact B4 (U7 rfl rfl rfl rfl rfl) rfl
set_option maxHeartbeats 1000000
abbrev pHunk (h:Hunk):PV:=.agg [.v (.int .i64 h.First),.v (.int .i64 h.Last),.v (.int .i64 h.Old.From),.v (.int .i64 h.Old.To),.v (.int .i64 h.New.From),.v (.int .i64 h.New.To)]
theorem H56 (l:List Change) (f z:Nat) (m ctx:Int) (hl:l.length≤1073741824) (hf:f < z) (hz:z≤l.length) (hc:0≤ctx∧ctx≤1048576) (hm:0≤m∧m≤4096)
  (hb:∀k,k < l.length→H7 (cAt l k).Old∧H7 (cAt l k).OldLen∧H7 (cAt l k).New∧H7 (cAt l k).NewLen) :
  FnOk Tryz.prog 195 [pChanges l,E5 f,E5 z,E5 m,E5 ctx] (fun rs=>rs=[pHunk (mkH l m ctx f z)]):=by
 have hva:l[((f:Nat):Int).toNat]?=some (cAt l f):=by rw [J97];exact X9 (by omega)
 have hvz:l[((z:Nat):Int).toNat - 1]?=some (cAt l (z - 1)):=by rw [J97];exact X9 (by omega)
 have hvz2:l[(((z:Nat):Int) - 1).toNat]?=some (cAt l (z - 1)):=by rw [show (((z:Nat):Int) - 1).toNat=z - 1 by omega];exact X9 (by omega)
 obtain ⟨⟨a1,a2⟩,⟨a3,a4⟩,⟨a5,a6⟩,⟨a7,a8⟩⟩:=hb f (by omega)
 obtain ⟨⟨z1,z2⟩,⟨z3,z4⟩,⟨z5,z6⟩,⟨z7,z8⟩⟩:=hb (z - 1) (by omega)
 obtain ⟨a,ha⟩:∃a,a=cAt l f:=⟨_,rfl⟩
 obtain ⟨y,hy⟩:∃y,y=cAt l (z - 1):=⟨_,rfl⟩
 have hres:mkH l m ctx f z=⟨f,z,⟨a.Old - X8 ctx a.Old,y.Old+y.OldLen+X8 ctx (m - y.Old - y.OldLen)⟩,⟨a.New - X8 ctx a.Old,y.New+y.NewLen+X8 ctx (m - y.Old - y.OldLen)⟩⟩:=by
  unfold mkH A52 V2
  dsimp only
  rw [←ha,←hy,show m - (y.Old+y.OldLen)=m - y.Old - y.OldLen by omega,show (((z - 1:Nat):Int)+1)=z by omega]
 rw [←ha] at hva a1 a2 a3 a4 a5 a6 a7 a8
 rw [←hy] at hvz hvz2 z1 z2 z3 z4 z5 z6 z7 z8
 rw [hres]
 have n1:-4096≤X8 ctx a.Old∧X8 ctx a.Old≤4096:=by unfold X8;split<;>omega
 have n2:-8192≤X8 ctx (m - y.Old - y.OldLen)∧X8 ctx (m - y.Old - y.OldLen)≤1048576:=by unfold X8;split<;>omega
 refine FnOk.intro Tryz.func195 (by decide) Z Z Z Z ?_
 refine k2 (A2 (C0 (F4 10 Z) Z (A4 ?_)));refine k1 (k2 (x5 [12,11,10,9] [[],[9],[10],[10,9],[11,10,9],[12,11,10,9]] [(0,[9]),(0,[10]),(0,[10,9]),(1,[9]),(1,[10]),(1,[10,9]),(2,[9]),(2,[10]),(2,[10,9]),(3,[9]),(3,[10]),(3,[10,9]),(4,[9]),(4,[10]),(4,[10,9]),(4,[11,10,9]),(5,[9]),(5,[10]),(5,[10,9]),(5,[11,10,9]),(6,[9]),(6,[10]),(6,[10,9]),(6,[11,10,9]),(7,[9]),(7,[10]),(7,[10,9]),(7,[11,10,9]),(8,[9]),(8,[10]),(8,[10,9]),(8,[11,10,9]),(9,[10]),(10,[])] (by kernel_rfl) (by kernel_rfl) (L8 Z (B5 Z Z) (L8 Z (B5 Z Z) (L8 Z (A8 Z (.pure _ _ _ _) Z (by omega) hva) (L8 Z (C8 Z Z) (L8 Z (B5 Z Z) (L8 Z (B5 Z Z) (L8 Z (I5 Z Z (by omega)) (L8 Z (A8 Z (.pure _ _ _ _) Z (by omega) hvz2) (L8 Z (C8 Z Z) (C12 11 Z Z (C12 12 Z Z (A85 (Y6 TySz.out Z Z Z Z Z Z) (A85 (Y6 TySz.out Z Z Z Z Z Z) ?_)))))))))))))));refine G60 rfl ?_ ?_
 ·refine G3 Z Z (B5 Z Z) (G3 Z Z (B5 Z Z) (G3 Z Z (B5 Z Z) (G3 Z Z (B5 Z Z) (G3 Z Z (B5 Z Z) (G3 Z Z (B5 Z Z) (G3 Z Z (A8 Z (.pure _ _ _ _) Z (by omega) hva) (G3 Z Z (A8 Z (.pure _ _ _ _) Z (by omega) hva) (G3 Z Z (A8 Z (.pure _ _ _ _) Z (by omega) hva) (G3 Z Z (C8 Z Z) (G3 Z Z (C8 Z Z) (G3 Z Z (C8 Z Z) (G3 Z Z (B5 Z Z) (G3 Z Z (B5 Z Z) (G3 Z Z (B5 Z Z) (G3 Z Z (B5 Z Z) (G3 Z Z (B5 Z Z) (G3 Z Z (B5 Z Z) (G3 Z Z (B5 Z Z) (G3 Z Z (B5 Z Z) (G3 Z Z (I5 Z Z (by omega)) (G3 Z Z (I5 Z Z (by omega)) (G3 Z Z (I5 Z Z (by omega)) (G3 Z Z (I5 Z Z (by omega)) ?_)))))))))))))))))))))));refine G3 Z Z (A8 Z (.pure _ _ _ _) Z (by omega) hvz2) (G3 Z Z (A8 Z (.pure _ _ _ _) Z (by omega) hvz2) (G3 Z Z (A8 Z (.pure _ _ _ _) Z (by omega) hvz2) (G3 Z Z (A8 Z (.pure _ _ _ _) Z (by omega) hvz2) (G3 Z Z (C8 Z Z) (G3 Z Z (C8 Z Z) (G3 Z Z (C8 Z Z) (G3 Z Z (C8 Z Z) (E19 Z Z Z Z Z (E19 Z Z Z Z Z ?_)))))))));exact G61
 refine k1 (k2 (A2 (A3 Z Z (A6 (A5 Z) Z (D3 Z Z Z Z (A6 (D64 Z Z) Z (A7 Z Z (A4 ?_))))))))
 rw [show (if a.Old < ctx then a.Old else ctx)=X8 ctx a.Old from rfl]
 refine k1 (k2 (A2 (A3 Z Z (A3 Z Z (A6 (A5 Z) Z (D3 Z Z Z Z (A6 (I5 Z Z (by omega)) Z (A6 (A5 Z) Z (D3 Z Z Z Z (A6 (I5 Z Z (by omega)) Z (A6 (D64 Z Z) Z (A7 Z Z (A4 ?_)))))))))))))
 rw [show (if m - y.Old - y.OldLen < ctx then m - y.Old - y.OldLen else ctx)=X8 ctx (m - y.Old - y.OldLen) from rfl]
 refine k1 (k2 (A2 (A3 Z Z (A3 Z Z (A6 (A5 Z) Z (D3 Z Z Z Z (A3 Z Z (A6 (I5 Z Z (by omega)) Z (A6 (A5 Z) Z (D3 Z Z Z Z (A6 (A5 Z) Z (D3 Z Z Z Z (C7 Z Z Z (A3 Z Z (C7 Z Z Z (A6 (E6 Z) Z (A6 (A5 Z) Z (D3 Z Z Z Z (A3 Z Z (A6 (I5 Z Z (by omega)) Z (A6 (A5 Z) Z (D3 Z Z Z Z (A6 (A5 Z) Z ?_)))))))))))))))))))))));refine D3 Z Z Z Z (C7 Z Z Z (A3 Z Z (C7 Z Z Z (A6 (E6 Z) Z (A6 (E6 Z) Z (E2 (B6 TySz.out Z Z Z Z Z Z) (A4 ?_)))))));refine k1 (k10 ?_)
 exact B4 (retc rfl rfl rfl rfl rfl) rfl
theorem I56 (l:List Change) (m n ctx:Int) (hl:l.length≤1073741824):FnOk Tryz.prog 132 [pChanges l,E5 m,E5 n,E5 ctx] (fun rs=>rs=[pHunks (r8 l m n ctx).1,E5 (r8 l m n ctx).2]):=by
 have hg0:r8 l m n ctx=if ctx < 0∨1048576 < ctx then ([],3) else if T9 l m n≠0 then ([],T9 l m n) else (H5 l m ctx l.length,0):=rfl
 refine FnOk.intro Tryz.func132 (by decide) Z Z Z Z ?_
 refine k2 (A2 (A7 Z Z (A7 Z Z (A4 ?_))));refine k1 (k2 (k2 (A2 (A3 Z Z (E1 Z Z Z (A3 Z Z (B0 Z Z Z Z (fun hg=>by rw [hg];exact B5 Z Z) ?_)))))));refine B0 Z Z Z Z (fun hg=>by rw [hg];exact K9 Z Z) ?_;refine F2 Z Z ?_;refine A4 ?_;refine k1 ?_;refine B3 rfl (fun ht=>?_) (fun ht=>?_)
 ·simp only [or_pick] at ht
  have h:=A0 ht
  rw [if_pos h] at hg0
  refine k2 (A2 (A6 (K5 _ 6 hunkC) Z (A7 Z Z (A4 ?_))));refine k1 (k10 (k11 ?_))
  exact B4 (U7 rfl rfl rfl rfl rfl) (by rw [hg0])
 simp only [or_pick] at ht
 have hc:=A1 ht
 rw [if_neg hc] at hg0
 refine k5 (k1 (k2 (k2 (A2 (A3 Z Z (A3 Z Z (A3 Z Z (C2 (F67 l m n hl) Z Z Z ?_))))))));rintro _ rfl;refine A7 Z Z (A4 ?_);refine k1 (k2 (A2 (A3 Z Z (A6 (H9 Z Z) Z (A4 ?_)))));refine k1 ?_;refine B3 rfl (fun ht=>?_) (fun ht=>?_)
 ·have h:=A0 ht
  rw [if_pos h] at hg0
  refine k2 (A2 (A3 Z Z (A6 (K5 _ 6 hunkC) Z (A7 Z Z (A4 ?_)))));refine k1 (k10 (k11 ?_))
  exact B4 (U7 rfl rfl rfl rfl rfl) (by rw [hg0])
 have h:=A1 ht
 rw [if_neg h] at hg0
 obtain ⟨hm,hn,hs⟩:=B16 (Decidable.not_not.1 h)
 have hb:∀k,k < l.length→H7 (cAt l k).Old∧H7 (cAt l k).OldLen∧H7 (cAt l k).New∧H7 (cAt l k).NewLen:=fun k hk=>by
  obtain ⟨b1,b2,b3,b4,_⟩:=hs.get k hk
  exact ⟨b1,b2,b3,b4⟩
 refine O9 [(0,C4 Change 4 changeC l),(1,B8 m),(2,B8 n),(3,B8 ctx)] [] (J58 ⟨le1 rfl,le1 rfl,le1 rfl,le1 rfl,trivial⟩ trivial) ?_
 refine k5 (k1 (k2 (A2 (C0 (R7 11 _ hunkC Z) Z (A4 ?_)))));refine k1 (k2 (A2 (A7 Z Z (A4 ?_))));refine k1 (k2 (k2 (A2 (A3 Z Z (D9 Z Z (A3 Z Z (A4 ?_)))))));refine k1 (k3 (D1 (X:=Nat × Nat × List Hunk) (fun x=>([(0,C4 Change 4 changeC l),(1,B8 m),(3,B8 ctx),(11,.s (.one (.buf 11 Hunk 6 hunkC x.2.2))),(12,B8 x.2.1),(28,C4 Change 4 changeC l),(29,B8 l.length),(30,B8 x.1)],[(11,.spare x.2.2.length 6 175)])) (fun x=>x.1≤l.length∧x.2.1≤x.1∧GrX l m ctx 0 x.2.2 x.2.1∧(∀c,x.2.1 < c→c≤x.1→c < l.length→¬opens l ctx c)∧(x.2.1 < l.length→opens l ctx x.2.1)∧(x.1=l.length→x.2.1=l.length)) (fun x=>l.length - x.1) (0,0,[]) ⟨Nat.zero_le _,Nat.le_refl _,rfl,fun c h1 h2=>by omega,fun _=>.inl rfl,fun h=>h⟩ (J58 ⟨le1 rfl,le1 rfl,le1 rfl,le1 rfl,le1 rfl,le1 rfl,le1 rfl,le1 rfl,trivial⟩ ⟨rfl,trivial⟩) ?_))
 rintro ⟨i,f,out⟩ ⟨hi,hfi,hx,hno,hof,hend⟩
 dsimp only at hi hfi hx hno hof hend ⊢
 have hxl:=hx.len
 refine k2 (A2 (E1 Z Z Z (A4 ?_)));refine k1 (k2 ?_);refine B3 rfl (fun ht=>?_) (fun ht=>?_)
 ·have hlt:i < l.length:=by have:=A0 ht;omega
  have hv:l[((i:Nat):Int).toNat]?=some (cAt l i):=by rw [J97];exact X9 hlt
  obtain ⟨⟨b1,b2⟩,⟨b3,b4⟩,_⟩:=hb i hlt
  obtain ⟨c,hcc⟩:∃c,c=cAt l i:=⟨_,rfl⟩
  have hopi:i+1 < l.length→(opens l ctx (i+1)↔2*ctx < (cAt l (i+1)).Old - c.Old - c.OldLen):=fun h1=>by
   unfold opens
   rw [show i+1 - 1=i by omega,←hcc]
   exact ⟨fun h=>h.resolve_left (by omega),fun h=>.inr h⟩
  rw [←hcc] at hv b1 b2 b3 b4
  have hnx:∀q:Int,q=(i:Int)+1→¬q=(l.length:Int)→l[q.toNat]?=some (cAt l (i+1)):=by
   intro q hq hne
   rw [hq,show ((i:Int)+1).toNat=i+1 by omega];exact X9 (by omega)
  have hbx:¬((i:Int)+1=(l.length:Int))→0≤(cAt l (i+1)).Old∧(cAt l (i+1)).Old≤4096:=by
   intro hne;exact (hb (i+1) (by omega)).1
  refine k5 (k1 (k2 (k3 (k2 (A2 (A3 Z Z (A6 (A8 Z (.pure _ _ _ _) Z (by omega) hv) Z (A6 (C8 Z Z) Z (C0 (F4 14 Z) Z (A7 Z Z (E2 (B6 TySz.out Z Z Z Z Z Z) (A4 ?_))))))))))));refine k1 (k2 (C5 (by kernel_rfl) (by kernel_rfl) (C3 Z Z (A9 (L4 Z Z (by omega)) Z Z (C3 Z Z (A9 (O8 Z (.pure _ _ _ _)) Z Z (A9 (J7 Z Z) Z Z (C3 Z Z (B9 Z Z (fun hg=>by rw [hg];exact B5 Z Z) Z Z ?_)))))))));refine B9 Z Z (fun hg=>by rw [hg];exact B5 Z Z) Z Z ?_;refine B9 Z Z (fun hg=>by have hq:=hg;(try simp at hq);skip;rw [hg];exact L4 Z Z (by omega)) Z Z ?_;refine B9 Z Z (fun hg=>by have hq:=hg;(try simp at hq);rw [hg];exact A8 Z (.pure _ _ _ _) Z (by omega) (hnx _ Z (by simpa using hq))) Z Z ?_;refine B9 Z Z (fun hg=>by rw [hg];exact C1 Z) Z Z ?_;refine B9 Z Z (fun hg=>by rw [hg];exact B1 Z Z) Z Z ?_;refine B9 Z Z (fun hg=>by rw [hg];exact A5 Z) Z Z ?_;refine B9 Z Z (fun hg=>by rw [hg];exact B2 Z Z Z) Z Z ?_;refine B9 Z Z (fun hg=>by have hq:=hg;(try simp at hq);rw [hg];exact I5 Z Z (by (have:=hbx (by simpa using hq);omega))) Z Z ?_;refine B9 Z Z (fun hg=>by rw [hg];exact A5 Z) Z Z ?_;refine B9 Z Z (fun hg=>by rw [hg];exact B2 Z Z Z) Z Z ?_;refine B9 Z Z (fun hg=>by have hq:=hg;(try simp at hq);rw [hg];exact I5 Z Z (by (have:=hbx (by simpa using hq);omega))) Z Z ?_;refine B9 Z Z (fun hg=>by rw [hg];exact B5 Z Z) Z Z ?_;refine B9 Z Z (fun hg=>by have hq:=hg;(try simp at hq);rw [hg];exact B68 Z Z (by omega)) Z Z ?_;refine B9 Z Z (fun hg=>by rw [hg];exact K9 Z Z) Z Z ?_;refine A9 (G7 Z (fun h=>by first | rfl | (rw [h];rfl)) (fun h=>by first | rfl | (rw [h];rfl))) Z Z ?_;refine G5 ?_;refine k1 ?_;refine B3 rfl (fun ht=>?_) (fun ht=>?_)
  ·simp only [or_pick] at ht
   have hcl:=A0 ht
   have hnext:i+1 < l.length→opens l ctx (i+1):=fun h1=>by
    rw [hopi h1]
    exact hcl.resolve_left (by omega)
   refine O9 [(0,C4 Change 4 changeC l),(1,B8 m),(3,B8 ctx),(11,.s (.one (.buf 11 Hunk 6 hunkC out))),(12,B8 f),(13,B8 i),(28,C4 Change 4 changeC l),(29,B8 l.length),(30,B8 i)] [(11,.spare out.length 6 175)] (J58 ⟨le1 rfl,le1 rfl,le1 rfl,le1 rfl,le1 rfl,le1 rfl,le1 rfl,le1 rfl,le1 rfl,trivial⟩ ⟨rfl,trivial⟩) ?_
   refine k2 (A2 (A3 Z Z (A3 Z Z (A3 Z Z (A3 Z Z (C7 Z Z Z (A3 Z Z (A3 Z Z (C2 (H56 l f (i+1) m ctx hl (by omega) (by omega) (by omega) hm hb) Z Z Z ?_)))))))));rintro _ rfl;refine A6 (C9 (c:=hunkC) (ys:=[mkH l m ctx f (i+1)]) (D8 Z Z Z Z F1) Z Z Z) Z (C0 (F8 Z Z Z (.pure _ _ _ _) (by (simp only [J87,J89];omega)) Z) Z (A7 Z Z (A4 ?_)));refine k1 (A2 (A3 Z Z (C7 Z Z Z (A7 Z Z (A4 ?_)))));refine k4 (k1 (A2 (C7 Z Z Z (A3 Z Z (A4 ?_)))));refine k1 ?_;refine ⟨(i+1,i+1,out++[mkH l m ctx f (i+1)]),⟨by dsimp only;omega,Nat.le_refl _,?_,fun c h1 h2=>by dsimp only at h1 h2;omega,fun h1=>hnext h1,fun h1=>h1⟩,by dsimp only;omega,J58 ⟨le1 rfl,le1 rfl,le1 rfl,le1 rfl,le1 rfl,le1 rfl,le1 rfl,le1 rfl,trivial⟩ ⟨rfl,trivial⟩⟩
   exact hx.snoc (hof (by omega)) (by omega) (fun c h1 h2=>hno c h1 (by omega) (by omega))
  ·simp only [or_pick] at ht
   have hcl:=A1 ht
   have hne:¬(i:Int)+1=l.length:=fun q=>hcl (.inl q)
   have hnext:¬opens l ctx (i+1):=fun q=>by
    rw [hopi (by omega)] at q
    exact hcl (.inr q)
   refine k5 (k4 (k1 (A2 (C7 Z Z Z (A3 Z Z (A4 ?_))))));refine k1 ?_;refine ⟨(i+1,f,out),⟨by dsimp only;omega,by dsimp only;omega,hx,fun c h1 h2 h3=>?_,hof,fun h1=>by dsimp only at h1;omega⟩,by dsimp only;omega,J58 ⟨le1 rfl,le1 rfl,le1 rfl,le1 rfl,le1 rfl,le1 rfl,le1 rfl,le1 rfl,trivial⟩ ⟨rfl,trivial⟩⟩
   dsimp only at h1 h2
   by_cases hce:c=i+1
   ·rw [hce];exact hnext
   ·exact hno c h1 (by omega) h3
 ·have hi':i=l.length:=by have:=A1 ht;omega
  have hf':=hend hi'
  rw [hf'] at hx
  refine k6 (k2 (A2 (A3 Z Z (A7 Z Z (A7 Z Z (A4 ?_))))));refine k1 (k10 ?_)
  exact B4 (U7 rfl rfl rfl rfl rfl) (by rw [hg0,GrX.unique hx (D97 l m ctx l.length)])
end Go.Proofs.YtbiadkkamhpdnaaGreatDoor
