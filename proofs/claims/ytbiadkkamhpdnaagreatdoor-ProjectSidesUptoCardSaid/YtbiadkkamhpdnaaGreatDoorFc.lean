/- Walks of the program's functions. -/
import Derived.Test.YtbiadkkamhpdnaaGreatDoorFb
import Derived.Test.YtbiadkkamhpdnaaGreatDoorFs
import Derived.Test.YtbiadkkamhpdnaaGreatDoorAn
set_option linter.unusedSimpArgs false
namespace Go.Proofs.YtbiadkkamhpdnaaGreatDoor
open Go Go.AL
set_option maxRecDepth 100000
def wTo (p:Patch) (k:Nat):Str:=(B72 p++((p.Hunks.take k).map A24).flatten).flatten
theorem G75 (p:Patch) (k:Nat) (h:k < p.Hunks.length):wTo p (k+1)=wTo p k++(A24 p.Hunks[k]).flatten:=by
 unfold wTo
 rw [H15 _ _ h];simp only [K21,K23]
def lTo (ls:List PatchLine) (n:Nat):Str:=((ls.take n).map y7).flatten.flatten
theorem G76 (ls:List PatchLine) (n:Nat) (h:n < ls.length):lTo ls (n+1)=lTo ls n++(y7 ls[n]).flatten:=by
 unfold lTo;rw [H16 _ _ h,K21]
theorem G77 (p:Patch) (hp:PFit p) (hrange:∀h∈p.Hunks,(-4611686018427387904≤h.Old∧h.Old≤4611686018427387904)∧(-4611686018427387904≤h.New∧h.New≤4611686018427387904)):FnOk Tryz.prog 77 [pPatch p] (fun rs=>rs=[M9 (d5 p)]):=by
 have hsl:=E03 p.Hunks
 have hpl:=hp.hunks
 have hpo:=hp.old
 have hpn:=hp.new
 have hq1:=A14 p.OldName
 have hq2:=A14 p.NewName
 have hnf:=B73 p
 have hw0:wTo p 0=[45,45,45,32]++c8 p.OldName++[10,43,43,43,32]++c8 p.NewName++[10]:=by
  unfold wTo B72;simp
 have hwl:∀k,(wTo p k).length≤33554446+szP p.Hunks:=fun k=>by
  have h1:=B27 (p.Hunks.take k)
  have h2:=E68 p.Hunks k
  unfold wTo;rw [K21,K05];omega
 refine FnOk.intro Tryz.func77 (by decide) Z Z Z Z ?_
 refine k2 ?_
 refine A4 (C5 (Q1 1 Z Z Z) Z (A3 (A6 Z Z) Z (A7 ?_)))
 refine k1 (k2 ?_)
 refine A4 (C5 (E18 700 Z) Z (A7 ?_))
 refine k1 (k2 ?_)
 refine G6 (J82 701 UInt8 1 u8C 5 (kb:=700) (o:=1) Z Z Z) ?_
 have hwl0:=hwl 0
 rw [hw0] at hwl0
 refine U1 10 (by kernel_rfl) (by kernel_rfl) Z (B0 (A8 Z) Z Z (B0 (A9 Z Z Z) Z Z (B0 (I0 (C02 p.OldName (by omega)) Z Z) Z Z (B0 (I5 Z Z (by (simp only [K07,K10];omega))) Z Z (B0 (I5 Z Z (by (simp only [K05,K07,K10];omega))) Z Z (B0 (A8 Z) Z Z (B0 (A9 Z Z Z) Z Z (B0 (I0 (C02 p.NewName (by omega)) Z Z) Z Z (B0 (I5 Z Z (by (simp only [K05,K07,K10];omega))) Z Z (B0 (I5 Z Z (by (simp only [K05,K07,K10];omega))) Z Z (L4 (A41 (O4 (xs:=[]) ⟨⟨_,.inl rfl,rfl⟩,rfl⟩ (by simp only [K10];omega)) Z Z Z ?_))))))))))));rintro _ _ ⟨rfl,rfl⟩;refine ⟨_,rfl,?_⟩;refine L4 ?_
 rw [←hw0]
 refine k1 (k2 (k2 ?_))
 refine A4 (A3 (A8 Z) Z (A3 (A9 Z Z Z) Z (A3 (E3 Z (.pure _ _ _ _)) Z (A3 (A5 Z Z) Z (A7 ?_)))))
 refine k1 (k3 ?_)
 refine E2 (X:=Nat) (fun k=>([(3,.s (.one (.ref 700 0))),(20,C7 PatchHunk 3 phunkC p.Hunks),(21,C0 p.Hunks.length),(22,C0 k)],[(700,.tbx 124 [.ref 700 0,.buf 701 UInt8 1 u8C (wTo p k)]),(701,.spare (wTo p k).length 1 5)])) (fun k=>k≤p.Hunks.length) (fun k=>p.Hunks.length - k) 0 (Nat.zero_le _) (J70 ⟨le1 rfl,le1 rfl,le1 rfl,le1 rfl,trivial⟩ ⟨rfl,rfl,trivial⟩) ?_
 intro k hk
 dsimp only at hk ⊢
 refine k2 ?_
 refine A4 (A3 (F0 Z Z) Z (A7 ?_))
 refine k1 (k2 ?_)
 refine B6 rfl (fun ht=>?_) (fun ht=>?_)
 ·have hlt:k < p.Hunks.length:=by have:=A0 ht;omega
  have hv:p.Hunks[k]?=some p.Hunks[k]:=by simp [hlt]
  have hmem:p.Hunks[k]∈p.Hunks:=K17 hlt
  have hsucc:=G75 p k hlt
  have hwk:=hwl k
  obtain ⟨h,hx⟩:∃x,x=p.Hunks[k]:=⟨_,rfl⟩
  rw [←hx] at hv hmem hsucc
  have h1:=E02 hmem
  have h3:=B25 h.Lines
  have h4:=D33 h
  have hr:=hrange h hmem
  unfold szH at h1
  obtain ⟨base,hbase⟩:∃base,base=wTo p k:=⟨_,rfl⟩
  rw [←hbase] at hsucc hwk ⊢
  refine k5 (k1 (k2 (k3 (k2 ?_))))
  refine A4 (A3 (B4 Z (.pure _ _ _ _) Z (by omega) hv) Z (A3 (D6 Z Z) Z (C5 (E8 5 Z) Z (E7 (B2 TySz.out Z Z Z Z Z Z) (A7 ?_)))))
  refine k1 (k2 ?_)
  refine A4 (A3 (D1 Z Z Z) Z (C9 (E43 h (by omega) hr.1 hr.2) Z Z Z ?_));rintro _ rfl;refine X9 (O4 (xs:=base) (s:=j5 h) ⟨⟨_,.inr rfl,rfl⟩,rfl⟩ (by omega)) Z Z Z ?_;rintro _ _ ⟨rfl,rfl⟩;refine A7 ?_
  refine k1 (k2 ?_)
  refine A4 (A3 (A8 Z) Z (A3 (A9 Z Z Z) Z (A3 (E3 Z (.pure _ _ _ _)) Z (A3 (A5 Z Z) Z (A7 ?_)))))
  refine k1 (k3 ?_)
  refine E2 (X:=Nat) (fun n=>([(3,.s (.one (.ref 700 0))),(20,C7 PatchHunk 3 phunkC p.Hunks),(21,C0 p.Hunks.length),(22,C0 k),(30,C7 PatchLine 2 plineC h.Lines),(31,C0 h.Lines.length),(32,C0 n)],[(700,.tbx 124 [.ref 700 0,.buf 701 UInt8 1 u8C (base++j5 h++lTo h.Lines n)]),(701,.spare (base++j5 h++lTo h.Lines n).length 1 5)])) (fun n=>n≤h.Lines.length) (fun n=>h.Lines.length - n) 0 (Nat.zero_le _) ?_ ?_
  ·have e:base++j5 h++lTo h.Lines 0=base++j5 h:=by simp [lTo]
   rw [e]
   exact J70 ⟨le1 rfl,le1 rfl,le1 rfl,le1 rfl,le1 rfl,le1 rfl,le1 rfl,trivial⟩ ⟨rfl,rfl,trivial⟩
  intro n hn1
  dsimp only at hn1 ⊢
  have hll:=B26 (h.Lines.take n)
  have hl2:=H12 h.Lines n
  have hlt0:(lTo h.Lines n).length≤(h.Lines.map szL).sum:=by unfold lTo;omega
  refine k2 ?_
  refine A4 (A3 (F0 Z Z) Z (A7 ?_))
  refine k1 (k2 ?_)
  refine B6 rfl (fun ht=>?_) (fun ht=>?_)
  ·have hlt2:n < h.Lines.length:=by have:=A0 ht;omega
   have hv2:h.Lines[n]?=some h.Lines[n]:=by simp [hlt2]
   have hmem2:=E01 (K17 hlt2)
   have hsucc2:=G76 h.Lines n hlt2
   obtain ⟨x,hx2⟩:∃x,x=h.Lines[n]:=⟨_,rfl⟩
   rw [←hx2] at hv2 hmem2 hsucc2
   obtain ⟨bs,hbs⟩:∃bs,bs=base++j5 h++lTo h.Lines n:=⟨_,rfl⟩
   have hbl:bs.length≤33554446+szP p.Hunks+52+szP p.Hunks:=by rw [hbs,K05,K05];omega
   rw [←hbs]
   have hm29:markS.length=29:=rfl
   refine k5 (k1 (k2 (k3 (k2 ?_))))
   refine A4 (A3 (B4 Z (.pure _ _ _ _) Z (by omega) hv2) Z (A3 (D6 Z Z) Z (C5 (E8 7 Z) Z (E7 (B2 TySz.out Z Z Z Z Z Z) (A7 ?_)))))
   refine k1 (k2 ?_)
   refine A4 (A3 (A8 Z) Z (A3 (A9 Z Z Z) Z (X9 (A80 (xs:=bs) (c:=x.Kind) ⟨⟨_,.inr rfl,rfl⟩,rfl⟩ (by omega)) Z Z Z ?_)));rintro _ _ ⟨rfl,rfl⟩;refine A7 ?_
   refine k1 (k2 ?_)
   refine A4 (A3 (A8 Z) Z (A3 (A9 Z Z Z) Z (X9 (O4 (xs:=bs++[x.Kind]) (s:=x.Text) ⟨⟨_,.inr rfl,rfl⟩,rfl⟩ (by simp only [K05,K07,K10];omega)) Z Z Z ?_)));rintro _ _ ⟨rfl,rfl⟩;refine A7 ?_
   refine k1 (k2 ?_)
   refine A4 (A3 (A8 Z) Z (A3 (A9 Z Z Z) Z (C9 (A36 x.Text (by omega)) Z Z Z ?_)));rintro _ rfl;refine A3 (I7 Z) Z (A7 ?_)
   refine k1 ?_
   refine B6 rfl (fun ht=>?_) (fun ht=>?_)
   ·have h2:ended x.Text=false:=by simpa using ht
    have e:base++j5 h++lTo h.Lines (n+1)=bs++[x.Kind]++x.Text++markS:=by
     rw [hsucc2,hbs,y7,h2];simp
    skip
    refine A4 (X9 (O4 (xs:=bs++[x.Kind]++x.Text) (s:=markS) ⟨⟨_,.inr rfl,rfl⟩,rfl⟩ (by simp only [K05,K07,K10];omega)) Z Z Z ?_);rintro _ _ ⟨rfl,rfl⟩;refine A7 ?_
    refine k4 (k1 ?_)
    refine A4 (A3 (C6 Z Z (by omega)) Z (A3 (A5 Z Z) Z (A7 ?_)))
    refine k1 ?_
    refine ⟨n+1,by omega,by omega,?_⟩
    rw [e]
    exact J70 ⟨le1 rfl,le1 rfl,le1 rfl,le1 rfl,le1 rfl,le1 rfl,le1 rfl,trivial⟩ ⟨rfl,rfl,trivial⟩
   ·have h2:ended x.Text=true:=by simpa using ht
    have e:base++j5 h++lTo h.Lines (n+1)=bs++[x.Kind]++x.Text:=by
     rw [hsucc2,hbs,y7,h2];simp
    refine k5 (k4 (k1 ?_))
    refine A4 (A3 (C6 Z Z (by omega)) Z (A3 (A5 Z Z) Z (A7 ?_)))
    refine k1 ?_
    refine ⟨n+1,by omega,by omega,?_⟩
    rw [e]
    exact J70 ⟨le1 rfl,le1 rfl,le1 rfl,le1 rfl,le1 rfl,le1 rfl,le1 rfl,trivial⟩ ⟨rfl,rfl,trivial⟩
  ·have hn':n=h.Lines.length:=by have:=A1 ht;omega
   subst hn'
   have e:wTo p (k+1)=base++j5 h++lTo h.Lines h.Lines.length:=by
    rw [hsucc,A24,lTo,K28];simp
   rw [←e]
   refine k6 (k7 (k7 (k8 Z (k4 (k1 ?_)))))
   refine A4 (A3 (C6 Z Z (by omega)) Z (A3 (A5 Z Z) Z (A7 ?_)))
   refine k1 ?_
   exact ⟨k+1,by omega,by omega,J70 ⟨le1 rfl,le1 rfl,le1 rfl,le1 rfl,trivial⟩ ⟨rfl,rfl,trivial⟩⟩
 ·have hk':k=p.Hunks.length:=by have:=A1 ht;omega
  subst hk'
  have e:wTo p p.Hunks.length=d5 p:=by unfold wTo d5 C89;rw [K28]
  rw [e]
  refine k6 (k2 ?_)
  refine A4 (D17 (k:=700) (k':=701) ⟨_,rfl,rfl,rfl⟩ A81 Z Z Z Z Z (.inr Z) Z (A3 (A6 Z Z) Z (A7 ?_)))
  refine k1 (k10 ?_)
  exact B7 (H6 rfl rfl rfl) rfl
theorem G78 (p:Patch) (hp:PFit p) (hrange:∀h∈p.Hunks,(-4611686018427387904≤h.Old∧h.Old≤4611686018427387904)∧(-4611686018427387904≤h.New∧h.New≤4611686018427387904)):FnOk Tryz.prog 81 [pPatch p] (fun rs=>rs=[G5 (d5 p).length]):=by
 have hsl:=E03 p.Hunks
 have hpl:=hp.hunks
 have hpo:=hp.old
 have hpn:=hp.new
 have hnf:=B73 p
 have hw0:(d5 ⟨p.OldName,p.NewName,[]⟩).length=(wTo p 0).length:=by
  unfold d5 wTo C89 B72;simp
 have hwl:∀k,(wTo p k).length≤33554446+szP p.Hunks:=fun k=>by
  have h1:=B27 (p.Hunks.take k)
  have h2:=E68 p.Hunks k
  unfold wTo;rw [K21,K05];omega
 refine FnOk.intro Tryz.func81 (by decide) Z Z Z Z ?_
 refine k2 ?_
 refine A4 (C5 (Q1 1 Z Z Z) Z (A3 (A6 Z Z) Z (A7 ?_)))
 refine k1 (k2 ?_)
 refine A4 (A3 (A8 Z) Z (A3 (A9 Z Z Z) Z (A3 (A8 Z) Z (A3 (A9 Z Z Z) Z (A3 (F9 Z) Z (l_sees (J96 PatchHunk 3 phunkC 12 2 Z Z) (C9 (G77 ⟨p.OldName,p.NewName,[]⟩ ⟨by dsimp only;omega,by dsimp only;omega,by simp [szP]⟩ (by simp)) Z Z Z ?_)))))));rintro _ rfl;refine A3 (N1 Z) Z (A3 (A6 Z Z) Z (A7 ?_))
 rw [hw0]
 refine k1 (k2 (k2 ?_))
 refine A4 (A3 (A8 Z) Z (A3 (A9 Z Z Z) Z (A3 (E3 Z (.pure _ _ _ _)) Z (A3 (A5 Z Z) Z (A7 ?_)))))
 refine k1 (k3 ?_)
 refine E2 (X:=Nat) (fun k=>([(3,C0 (wTo p k).length),(16,C7 PatchHunk 3 phunkC p.Hunks),(17,C0 p.Hunks.length),(18,C0 k)],[])) (fun k=>k≤p.Hunks.length) (fun k=>p.Hunks.length - k) 0 (Nat.zero_le _) (J70 ⟨le1 rfl,le1 rfl,le1 rfl,le1 rfl,trivial⟩ trivial) ?_
 intro k hk
 dsimp only at hk ⊢
 have hwk:=hwl k
 refine k2 ?_
 refine A4 (A3 (F0 Z Z) Z (A7 ?_))
 refine k1 (k2 ?_)
 refine B6 rfl (fun ht=>?_) (fun ht=>?_)
 ·have hlt:k < p.Hunks.length:=by have:=A0 ht;omega
  have hv:p.Hunks[k]?=some p.Hunks[k]:=by simp [hlt]
  have hmem:p.Hunks[k]∈p.Hunks:=K17 hlt
  have hsucc:=G75 p k hlt
  obtain ⟨h,hx⟩:∃x,x=p.Hunks[k]:=⟨_,rfl⟩
  rw [←hx] at hv hmem hsucc
  have h1:=E02 hmem
  have h3:=B25 h.Lines
  have h4:=D33 h
  have hr:=hrange h hmem
  unfold szH at h1
  obtain ⟨base,hbase⟩:∃base,base=(wTo p k).length:=⟨_,rfl⟩
  rw [←hbase] at hwk ⊢
  have hsl2:(wTo p (k+1)).length=base+(j5 h).length+(lTo h.Lines h.Lines.length).length:=by
   rw [hsucc,A24,lTo,K28,hbase];simp;omega
  refine k5 (k1 (k2 (k3 (k2 ?_))))
  refine A4 (A3 (B4 Z (.pure _ _ _ _) Z (by omega) hv) Z (A3 (D6 Z Z) Z (C5 (E8 5 Z) Z (E7 (B2 TySz.out Z Z Z Z Z Z) (A7 ?_)))))
  refine k1 (k2 ?_)
  refine A4 (A3 (A5 Z Z) Z (A3 (D1 Z Z Z) Z (C9 (E43 h (by omega) hr.1 hr.2) Z Z Z ?_)));rintro _ rfl;refine A3 (N1 Z) Z (A3 (C6 Z Z (by omega)) Z (A3 (A6 Z Z) Z (A7 ?_)))
  refine k1 (k2 ?_)
  refine A4 (A3 (A8 Z) Z (A3 (A9 Z Z Z) Z (A3 (E3 Z (.pure _ _ _ _)) Z (A3 (A5 Z Z) Z (A7 ?_)))))
  refine k1 (k3 ?_)
  refine E2 (X:=Nat) (fun n=>([(3,C0 (base+(j5 h).length+(lTo h.Lines n).length:Nat)),(16,C7 PatchHunk 3 phunkC p.Hunks),(17,C0 p.Hunks.length),(18,C0 k),(28,C7 PatchLine 2 plineC h.Lines),(29,C0 h.Lines.length),(30,C0 n)],[])) (fun n=>n≤h.Lines.length) (fun n=>h.Lines.length - n) 0 (Nat.zero_le _) ?_ ?_
  ·have e:((base+(j5 h).length+(lTo h.Lines 0).length:Nat):Int)=(base:Int)+((j5 h).length:Int):=by simp [lTo]
   rw [e]
   exact J70 ⟨le1 rfl,le1 rfl,le1 rfl,le1 rfl,le1 rfl,le1 rfl,le1 rfl,trivial⟩ trivial
  intro n hn1
  dsimp only at hn1 ⊢
  have hll:=B26 (h.Lines.take n)
  have hl2:=H12 h.Lines n
  have hlt0:(lTo h.Lines n).length≤(h.Lines.map szL).sum:=by unfold lTo;omega
  refine k2 ?_
  refine A4 (A3 (F0 Z Z) Z (A7 ?_))
  refine k1 (k2 ?_)
  refine B6 rfl (fun ht=>?_) (fun ht=>?_)
  ·have hlt2:n < h.Lines.length:=by have:=A0 ht;omega
   have hv2:h.Lines[n]?=some h.Lines[n]:=by simp [hlt2]
   have hmem2:=E01 (K17 hlt2)
   have hsucc2:=G76 h.Lines n hlt2
   obtain ⟨x,hx2⟩:∃x,x=h.Lines[n]:=⟨_,rfl⟩
   rw [←hx2] at hv2 hmem2 hsucc2
   have hm29:markS.length=29:=rfl
   refine k5 (k1 (k2 (k3 (k2 ?_))))
   refine A4 (A3 (B4 Z (.pure _ _ _ _) Z (by omega) hv2) Z (A3 (D6 Z Z) Z (C5 (E8 7 Z) Z (E7 (B2 TySz.out Z Z Z Z Z Z) (A7 ?_)))))
   refine k1 (k2 ?_)
   refine A4 (A3 (A5 Z Z) Z (A3 (A8 Z) Z (A3 (A9 Z Z Z) Z (A3 (N1 Z) Z (A3 (C6 Z Z (by omega)) Z (A3 (C6 Z Z (by omega)) Z (A3 (A6 Z Z) Z (A7 ?_))))))))
   refine k1 (k2 ?_)
   refine A4 (A3 (A8 Z) Z (A3 (A9 Z Z Z) Z (C9 (A36 x.Text (by omega)) Z Z Z ?_)));rintro _ rfl;refine A3 (I7 Z) Z (A7 ?_)
   refine k1 ?_
   refine B6 rfl (fun ht=>?_) (fun ht=>?_)
   ·have h2:ended x.Text=false:=by simpa using ht
    have e:((base+(j5 h).length+(lTo h.Lines (n+1)).length:Nat):Int)=((base+(j5 h).length+(lTo h.Lines n).length:Nat):Int)+(1+(x.Text.length:Int))+29:=by
     rw [hsucc2,y7,h2];simp [hm29];omega
    skip
    refine A4 (A3 (A5 Z Z) Z (A3 (C6 Z Z (by omega)) Z (A3 (A6 Z Z) Z (A7 ?_))))
    refine k4 (k1 ?_)
    refine A4 (A3 (C6 Z Z (by omega)) Z (A3 (A5 Z Z) Z (A7 ?_)))
    refine k1 ?_
    refine ⟨n+1,by omega,by omega,?_⟩
    rw [e]
    exact J70 ⟨le1 rfl,le1 rfl,le1 rfl,le1 rfl,le1 rfl,le1 rfl,le1 rfl,trivial⟩ trivial
   ·have h2:ended x.Text=true:=by simpa using ht
    have e:((base+(j5 h).length+(lTo h.Lines (n+1)).length:Nat):Int)=((base+(j5 h).length+(lTo h.Lines n).length:Nat):Int)+(1+(x.Text.length:Int)):=by
     rw [hsucc2,y7,h2];simp;omega
    refine k5 (k4 (k1 ?_))
    refine A4 (A3 (C6 Z Z (by omega)) Z (A3 (A5 Z Z) Z (A7 ?_)))
    refine k1 ?_
    refine ⟨n+1,by omega,by omega,?_⟩
    rw [e]
    exact J70 ⟨le1 rfl,le1 rfl,le1 rfl,le1 rfl,le1 rfl,le1 rfl,le1 rfl,trivial⟩ trivial
  ·have hn':n=h.Lines.length:=by have:=A1 ht;omega
   subst hn'
   rw [←hsl2]
   refine k6 (k7 (k7 (k8 Z (k4 (k1 ?_)))))
   refine A4 (A3 (C6 Z Z (by omega)) Z (A3 (A5 Z Z) Z (A7 ?_)))
   refine k1 ?_
   exact ⟨k+1,by omega,by omega,J70 ⟨le1 rfl,le1 rfl,le1 rfl,le1 rfl,trivial⟩ trivial⟩
 ·have hk':k=p.Hunks.length:=by have:=A1 ht;omega
  subst hk'
  have e:wTo p p.Hunks.length=d5 p:=by unfold wTo d5 C89;rw [K28]
  rw [e]
  refine k6 (k2 ?_)
  refine A4 (A3 (A5 Z Z) Z (A3 (A6 Z Z) Z (A7 ?_)))
  refine k1 (k10 ?_)
  exact B7 (H6 rfl rfl rfl) rfl
abbrev Y0 (e:Int) (o:Bool):Ob:=.box [.p (.v (.int .i64 e)),.p (.v (.bool o))]
theorem G79 {gf:Fr} (h h':PatchHunk) (i j:Int) (o n:Bool) (hl:(h.Lines.map szL).sum≤268435456) (hi:0≤i∧i≤8192) (hj:0≤j∧j≤8192) (hf3:G4 3 gf=true) (hf8:G4 8 gf=true) :
  AL.Met Tryz.prog 141 [(pPhunk h).s1,.one (.ref 710 0),.one (.ref 711 0)] gf [(6,.box (pPhunk h').s1.cells),(710,Y0 i o),(711,Y0 j n)] []
   (fun rs ob'=>∃b,rs=[.one (.p (.v (.bool b)))]∧b=(decide (¬U9 i j h)&&match u9 o n h.Lines with
    | none=>false
    | some _=>decide (h.Old+M2 h≤4096∧h.New+O7 h≤4096)) ∧
    (b=true→∃o' n',u9 o n h.Lines=some (o',n')∧ob'=[(6,.box (pPhunk h').s1.cells),(710,Y0 (h.Old+M2 h) o'),(711,Y0 (h.New+O7 h) n')])):=by
 refine AL.Met.introH Tryz.func141 (by decide) rfl rfl rfl (fun hH=>?_)
 refine k2 ?_
 refine A4 (C5 (Q1 3 Z Z (show ((G4 3 gf&&true)&&true)=true by rw [hf3];rfl)) Z ?_);refine A3 (A6 Z Z) Z (A7 ?_)
 refine k1 (k2 (k2 ?_))
 refine E1 (by kernel_rfl) (by kernel_rfl) (B0 (A8 Z) Z Z (B0 (A9 Z Z Z) Z Z (B0 (F0 Z Z) Z Z (B0 (A5 Z Z) Z Z (D7 Z Z (fun hg=>by rw [hg];exact A8 Z) Z Z ?_)))));refine D7 Z Z (fun hg=>by rw [hg];exact A9 Z Z Z) Z Z ?_;refine D7 Z Z (fun hg=>by rw [hg];exact F0 Z Z) Z Z ?_;refine B0 (B5 Z (fun h=>by first | rfl | (rw [h];rfl)) (fun h=>by first | rfl | (rw [h];rfl))) Z Z ?_;refine B0 (A5 Z Z) Z Z (D7 Z Z (fun hg=>by rw [hg];exact A8 Z) Z Z ?_);refine D7 Z Z (fun hg=>by rw [hg];exact A9 Z Z Z) Z Z ?_;refine D7 Z Z (fun hg=>by rw [hg];exact R5 Z Z) Z Z ?_;refine B0 (B5 Z (fun h=>by first | rfl | (rw [h];rfl)) (fun h=>by first | rfl | (rw [h];rfl))) Z Z ?_;refine B0 (A5 Z Z) Z Z (D7 Z Z (fun hg=>by rw [hg];exact A8 Z) Z Z ?_);refine D7 Z Z (fun hg=>by rw [hg];exact A9 Z Z Z) Z Z ?_;refine D7 Z Z (fun hg=>by rw [hg];exact R5 Z Z) Z Z ?_;refine B0 (B5 Z (fun h=>by first | rfl | (rw [h];rfl)) (fun h=>by first | rfl | (rw [h];rfl))) Z Z ?_;refine B0 (A5 Z Z) Z Z (D7 Z Z (fun hg=>by rw [hg];exact A8 Z) Z Z ?_);refine D7 Z Z (fun hg=>by rw [hg];exact A9 Z Z Z) Z Z ?_;refine D7 Z Z (fun hg=>by rw [hg];exact A5 Z Z) Z Z ?_;refine D7 Z Z (fun hg=>by rw [hg];exact B9 Z) Z Z ?_;refine D7 Z Z (fun hg=>by rw [hg];exact A8 Z) Z Z ?_;refine D7 Z Z (fun hg=>by rw [hg];exact A9 Z Z Z) Z Z ?_;refine D7 Z Z (fun hg=>by rw [hg];exact F0 Z Z) Z Z ?_;refine B0 (B5 Z (fun h=>by first | rfl | (rw [h];rfl)) (fun h=>by first | rfl | (rw [h];rfl))) Z Z ?_;refine B0 (A5 Z Z) Z Z (D7 Z Z (fun hg=>by rw [hg];exact A8 Z) Z Z ?_);refine D7 Z Z (fun hg=>by rw [hg];exact A9 Z Z Z) Z Z ?_;refine D7 Z Z (fun hg=>by rw [hg];exact A5 Z Z) Z Z ?_;refine D7 Z Z (fun hg=>by rw [hg];exact B9 Z) Z Z ?_;refine D7 Z Z (fun hg=>by rw [hg];exact A8 Z) Z Z ?_;refine D7 Z Z (fun hg=>by rw [hg];exact A9 Z Z Z) Z Z ?_;refine D7 Z Z (fun hg=>by have hq:=hg;(try simp at hq);rw [hg];exact N5 Z Z (by omega)) Z Z ?_;refine D7 Z Z (fun hg=>by rw [hg];exact A8 Z) Z Z ?_;refine D7 Z Z (fun hg=>by rw [hg];exact A9 Z Z Z) Z Z ?_
 refine D7 Z Z (fun hg=>by rw [hg];exact A5 Z Z) Z Z ?_;refine D7 Z Z (fun hg=>by rw [hg];exact B9 Z) Z Z ?_;refine D7 Z Z (fun hg=>by rw [hg];exact A8 Z) Z Z ?_;refine D7 Z Z (fun hg=>by rw [hg];exact A9 Z Z Z) Z Z ?_;refine D7 Z Z (fun hg=>by have hq:=hg;(try simp at hq);rw [hg];exact N5 Z Z (by omega)) Z Z ?_;refine D7 Z Z (fun hg=>by rw [hg];exact K2 Z Z) Z Z ?_;refine B0 (B5 Z (fun h=>by first | rfl | (rw [h];rfl)) (fun h=>by first | rfl | (rw [h];rfl))) Z Z ?_;refine L4 ?_
 refine k1 ?_
 refine B6 rfl (fun ht=>?_) (fun ht=>?_)
 ·simp only [or_pick] at ht
  have hb:U9 i j h:=A0 ht
  refine k2 ?_
  refine A4 (A3 (A6 Z Z) Z (A7 ?_))
  refine k1 (k10 (k11 ?_))
  refine K8 (Y6 rfl rfl) (by repeat (first | exact D5 | refine D4 rfl ?_ | refine F4 _ ?_)) (fun _ _ h=>h) ⟨false,rfl,by rw [decide_eq_false (fun hh=>hh hb)];rfl,fun hh=>by cases hh⟩
 ·simp only [or_pick] at ht
  have hb:¬U9 i j h:=A1 ht
  have hln:=B25 h.Lines
  refine k5 (k1 (k2 (k2 ?_)))
  refine A4 (A3 (A8 Z) Z (A3 (A9 Z Z Z) Z (A3 (E3 Z (.pure _ _ _ _)) Z (A3 (A5 Z Z) Z (A7 ?_)))))
  refine k1 (k3 ?_)
  refine E2 (X:=Nat × Bool × Bool) (fun z=>([(1,.s (.one (.ref 710 0))),(2,.s (.one (.ref 711 0))),(3,.s (.one (.ref 3 0))),(56,C7 PatchLine 2 plineC h.Lines),(57,C0 h.Lines.length),(58,C0 z.1)]++gf,[(3,.box (pPhunk h).s1.cells),(6,.box (pPhunk h').s1.cells),(710,Y0 i z.2.1),(711,Y0 j z.2.2)])) (fun z=>z.1≤h.Lines.length∧u9 o n h.Lines=u9 z.2.1 z.2.2 (h.Lines.drop z.1)) (fun z=>h.Lines.length - z.1) (0,o,n) ⟨Nat.zero_le _,rfl⟩ ?_ ?_
  ·exact J71 ⟨le1 rfl,le1 rfl,le1 rfl,le1 rfl,le1 rfl,le1 rfl,trivial⟩ hH (by repeat (first | exact D5 | refine D4 rfl ?_)) (fun _ _ hh=>hh)
  rintro ⟨k,ok,nk⟩ ⟨hk,hp⟩
  dsimp only at hk hp ⊢
  refine k2 ?_
  refine A4 (A3 (F0 Z Z) Z (A7 ?_))
  refine k1 (k2 ?_)
  refine B6 rfl (fun ht=>?_) (fun ht=>?_)
  ·have hlt:k < h.Lines.length:=by have:=A0 ht;omega
   have hv:h.Lines[k]?=some h.Lines[k]:=by simp [hlt]
   have hmem2:=E01 (K17 hlt)
   rw [K11 hlt,u9] at hp
   obtain ⟨x,hx⟩:∃x,x=h.Lines[k]:=⟨_,rfl⟩
   rw [←hx] at hv hmem2 hp
   refine k5 (k1 (k2 (k3 (k2 ?_))))
   refine A4 (A3 (B4 Z (.pure _ _ _ _) Z (by omega) hv) Z (A3 (D6 Z Z) Z (C5 (E8 8 (show ((G4 8 gf&&true)=true) by rw [hf8];rfl)) Z ?_)));refine E7 (B2 TySz.out Z Z Z Z Z Z) (A7 ?_)
   refine k1 (k2 ?_)
   refine M7 ([(1,.s (.one (.ref 710 0))),(2,.s (.one (.ref 711 0))),(3,.s (.one (.ref 3 0))),(8,.s (.one (.ref 8 0))),(56,C7 PatchLine 2 plineC h.Lines),(57,C0 h.Lines.length),(58,C0 k)]++gf) [(8,.box [.p (.v (.int .u8 x.Kind.toNat)),.p (.v (.string ⟨x.Text.toArray⟩))]),(3,.box (pPhunk h).s1.cells),(6,.box (pPhunk h').s1.cells),(710,Y0 i ok),(711,Y0 j nk)] (J71 ⟨le1 rfl,le1 rfl,le1 rfl,le1 rfl,le1 rfl,le1 rfl,le1 rfl,trivial⟩ hH (by repeat (first | exact D5 | refine D4 rfl ?_ | refine K5 _ ?_)) (ObIn.spec ⟨rfl,rfl,rfl,rfl,rfl,trivial⟩)) ?_
   have hneg:∀{b:Bool},b=(decide (¬U9 i j h)&&match u9 o n h.Lines with
    | none=>false
    | some _=>decide (h.Old+M2 h≤4096∧h.New+O7 h≤4096))→u9 o n h.Lines=none→b=false:=fun h1 h2=>by rw [h1,h2];simp
   by_cases c1:x.Kind≠43
   ·have c1n:(x.Kind.toNat:Int)≠43:=(decide_eq_decide.1 (A62 x.Kind 43)).2 c1
    cases ok with
    | true =>
     rw [if_pos ⟨c1,rfl⟩] at hp
     refine A4 (A3 (A8 Z) Z (A3 (A9 Z Z Z) Z (A3 (K2 Z Z) Z (A3 (A5 Z Z) Z (H3 Z Z Z (by simp [c1n]) (A3 (A5 Z Z) Z (H3 Z Z Z (by simp [c1n]) (A3 (A8 Z) Z (H3 Z Z Z (by simp [c1n]) (A3 (A9 Z Z Z) Z (H3 Z Z Z (by simp [c1n]) (X9 (A97 (k:=710) (e:=i) (o:=true) Z (by omega)) Z Z Z ?_))))))))))));rintro _ _ ⟨rfl,rfl⟩;refine H3 Z Z Z (by simp [c1n]) (A3 (I7 Z) Z (A3 (B5 Z (fun h=>by first | rfl | (rw [h];rfl)) (fun h=>by first | rfl | (rw [h];rfl))) Z ?_));refine A3 (A5 Z Z) Z (J5 Z Z Z (by simp [c1n]) Z (J5 Z Z Z (by simp [c1n]) Z (J5 Z Z Z (by simp [c1n]) Z (J5 Z Z Z (by simp [c1n]) Z (J2 (s:=.any) Z Z Z .un Z (fun h=>absurd h (by decide)) (J2 (s:=.any) Z Z Z .un Z (fun h=>absurd h (by decide)) (J2 (s:=.any) Z Z Z .un Z (fun h=>absurd h (by decide)) (J2 (s:=.any) Z Z Z .un Z (fun h=>absurd h (by decide)) (J2 (s:=.any) Z Z Z .un Z (fun h=>absurd h (by decide)) (J5 Z Z Z (by simp [c1n]) Z (A3 (E26 Z ((by simp [c1n])) Z) Z (A7 ?_))))))))))))
     refine k1 ?_
     refine B6 rfl (fun ht=>?_) (fun ht=>?_)
     ·refine k2 ?_
      refine A4 (A3 (A6 Z Z) Z (A7 ?_))
      refine k1 (k10 (k12 (k11 (k11 (k12 (k11 ?_))))))
      refine K8 (Y6 rfl rfl) (by repeat (first | exact D5 | refine D4 rfl ?_ | refine F4 _ ?_)) (fun _ _ h=>h) ⟨false,rfl,by rw [hp];simp,fun hh=>by cases hh⟩
     ·cases ht
    | false =>
     rw [if_neg (by simp)] at hp
     by_cases c2:x.Kind≠45
     ·have c2n:(x.Kind.toNat:Int)≠45:=(decide_eq_decide.1 (A62 x.Kind 45)).2 c2
      refine A4 (A3 (A8 Z) Z (A3 (A9 Z Z Z) Z (A3 (K2 Z Z) Z (A3 (A5 Z Z) Z (H3 Z Z Z (by simp [c1n]) (A3 (A5 Z Z) Z (H3 Z Z Z (by simp [c1n]) (A3 (A8 Z) Z (H3 Z Z Z (by simp [c1n]) (A3 (A9 Z Z Z) Z (H3 Z Z Z (by simp [c1n]) (X9 (A97 (k:=710) (e:=i) (o:=false) Z (by omega)) Z Z Z ?_))))))))))));rintro _ _ ⟨rfl,rfl⟩;refine H3 Z Z Z (by simp [c1n]) (A3 (I7 Z) Z (A3 (B5 Z (fun h=>by first | rfl | (rw [h];rfl)) (fun h=>by first | rfl | (rw [h];rfl))) Z ?_));refine A3 (A5 Z Z) Z (H3 Z Z Z (by simp [c1n]) (A3 (A8 Z) Z (H3 Z Z Z (by simp [c1n]) (A3 (A9 Z Z Z) Z (H3 Z Z Z (by simp [c1n]) (A3 (K2 Z Z) Z (H3 Z Z Z (by simp [c1n]) (A3 (A5 Z Z) Z (H3 Z Z Z (by simp [c1n,c2n]) (A3 (A5 Z Z) Z (H3 Z Z Z (by simp [c1n,c2n]) (A3 (A8 Z) Z (H3 Z Z Z (by simp [c1n,c2n]) (A3 (A9 Z Z Z) Z (H3 Z Z Z (by simp [c1n,c2n]) (X9 (A97 (k:=711) (e:=j) (o:=nk) Z (by omega)) Z Z Z ?_))))))))))))))));rintro _ _ ⟨rfl,rfl⟩;refine H3 Z Z Z (by simp [c1n,c2n]) (A3 (I7 Z) Z (H3 Z Z Z (by simp [c1n]) (A3 (B5 Z (fun h=>by first | rfl | (rw [h];rfl)) (fun h=>by first | rfl | (rw [h];rfl))) Z ?_)));refine A3 (B5 Z (fun h=>by first | rfl | (rw [h];rfl)) (fun h=>by first | rfl | (rw [h];rfl))) Z ?_;refine A7 ?_
      refine k1 ?_
      refine B6 rfl (fun ht=>?_) (fun ht=>?_)
      ·have hnk:nk=true:=by revert ht;simp [c1n,c2n]
       rw [if_pos ⟨c2,hnk⟩] at hp
       refine k2 ?_
       refine A4 (A3 (A6 Z Z) Z (A7 ?_))
       refine k1 (k10 (k12 (k11 (k11 (k12 (k11 ?_))))))
       refine K8 (Y6 rfl rfl) (by repeat (first | exact D5 | refine D4 rfl ?_ | refine F4 _ ?_)) (fun _ _ h=>h) ⟨false,rfl,by rw [hp];simp,fun hh=>by cases hh⟩
      ·have hnk:nk=false:=by revert ht;simp [c1n,c2n]
       rw [if_neg (by simp [hnk]),if_pos c1,if_pos c2] at hp
       refine k5 (k4 (k1 ?_))
       refine A4 (A3 (C6 Z Z (by omega)) Z (A3 (A5 Z Z) Z (A7 ?_)))
       refine k1 ?_
       exact ⟨(k+1,!ended x.Text,!ended x.Text),⟨by dsimp only;omega,hp⟩,by dsimp only;omega,J71 ⟨le1 rfl,le1 rfl,le1 rfl,le1 rfl,le1 rfl,le1 rfl,trivial⟩ hH (by repeat (first | exact D5 | refine D4 rfl ?_ | refine K5 _ ?_)) (ObIn.spec ⟨rfl,rfl,rfl,rfl,trivial⟩)⟩
     ·have c2n:(x.Kind.toNat:Int)=45:=Decidable.not_not.1 (fun hh=>c2 ((decide_eq_decide.1 (A62 x.Kind 45)).1 hh))
      refine A4 (A3 (A8 Z) Z (A3 (A9 Z Z Z) Z (A3 (K2 Z Z) Z (A3 (A5 Z Z) Z (H3 Z Z Z (by simp [c1n]) (A3 (A5 Z Z) Z (H3 Z Z Z (by simp [c1n]) (A3 (A8 Z) Z (H3 Z Z Z (by simp [c1n]) (A3 (A9 Z Z Z) Z (H3 Z Z Z (by simp [c1n]) (X9 (A97 (k:=710) (e:=i) (o:=false) Z (by omega)) Z Z Z ?_))))))))))));rintro _ _ ⟨rfl,rfl⟩;refine H3 Z Z Z (by simp [c1n]) (A3 (I7 Z) Z (A3 (B5 Z (fun h=>by first | rfl | (rw [h];rfl)) (fun h=>by first | rfl | (rw [h];rfl))) Z ?_));refine A3 (A5 Z Z) Z (H3 Z Z Z (by simp [c1n]) (A3 (A8 Z) Z (H3 Z Z Z (by simp [c1n]) (A3 (A9 Z Z Z) Z (H3 Z Z Z (by simp [c1n]) (A3 (K2 Z Z) Z (H3 Z Z Z (by simp [c1n]) (A3 (A5 Z Z) Z (J5 Z Z Z (by simp [c1n,c2n]) Z (J5 Z Z Z (by simp [c1n,c2n]) Z (J5 Z Z Z (by simp [c1n,c2n]) Z (J5 Z Z Z (by simp [c1n,c2n]) Z (J5 Z Z Z (by simp [c1n,c2n]) Z (H3 Z Z Z (by simp [c1n]) (A3 (B57 Z ((by simp [c1n,c2n])) Z) Z (A3 (B5 Z (fun h=>by first | rfl | (rw [h];rfl)) (fun h=>by first | rfl | (rw [h];rfl))) Z ?_))))))))))))))));refine A7 ?_
      refine k1 ?_
      refine B6 rfl (fun ht=>?_) (fun ht=>?_)
      ·exfalso;revert ht;simp [c1n,c2n]
      ·rw [if_neg (by simp [c2]),if_pos c1,if_neg c2] at hp
       refine k5 (k4 (k1 ?_))
       refine A4 (A3 (C6 Z Z (by omega)) Z (A3 (A5 Z Z) Z (A7 ?_)))
       refine k1 ?_
       exact ⟨(k+1,!ended x.Text,nk),⟨by dsimp only;omega,hp⟩,by dsimp only;omega,J71 ⟨le1 rfl,le1 rfl,le1 rfl,le1 rfl,le1 rfl,le1 rfl,trivial⟩ hH (by repeat (first | exact D5 | refine D4 rfl ?_ | refine K5 _ ?_)) (ObIn.spec ⟨rfl,rfl,rfl,rfl,trivial⟩)⟩
   ·have c2:x.Kind≠45:=by rw [Decidable.not_not.1 c1];decide
    have c1n:(x.Kind.toNat:Int)=43:=Decidable.not_not.1 (fun hh=>c1 ((decide_eq_decide.1 (A62 x.Kind 43)).1 hh))
    have c2n:(x.Kind.toNat:Int)≠45:=(decide_eq_decide.1 (A62 x.Kind 45)).2 c2
    rw [if_neg (by simp [c1])] at hp
    refine A4 (A3 (A8 Z) Z (A3 (A9 Z Z Z) Z (A3 (K2 Z Z) Z (A3 (A5 Z Z) Z (J5 Z Z Z (by simp [c1n]) Z (J5 Z Z Z (by simp [c1n]) Z (J5 Z Z Z (by simp [c1n]) Z (J5 Z Z Z (by simp [c1n]) Z (J5 Z Z Z (by simp [c1n]) Z (A3 (B57 Z ((by simp [c1n])) Z) Z (A3 (A5 Z Z) Z (H3 Z Z Z (by simp [c1n]) (A3 (A8 Z) Z (H3 Z Z Z (by simp [c1n]) (A3 (A9 Z Z Z) Z (H3 Z Z Z (by simp [c1n]) (A3 (K2 Z Z) Z (H3 Z Z Z (by simp [c1n]) (A3 (A5 Z Z) Z (H3 Z Z Z (by simp [c1n,c2n]) (A3 (A5 Z Z) Z (H3 Z Z Z (by simp [c1n,c2n]) (A3 (A8 Z) Z ?_)))))))))))))))))))))));refine H3 Z Z Z (by simp [c1n,c2n]) (A3 (A9 Z Z Z) Z (H3 Z Z Z (by simp [c1n,c2n]) (X9 (A97 (k:=711) (e:=j) (o:=nk) Z (by omega)) Z Z Z ?_)));rintro _ _ ⟨rfl,rfl⟩;refine H3 Z Z Z (by simp [c1n,c2n]) (A3 (I7 Z) Z (H3 Z Z Z (by simp [c1n]) (A3 (B5 Z (fun h=>by first | rfl | (rw [h];rfl)) (fun h=>by first | rfl | (rw [h];rfl))) Z ?_)));refine A3 (B5 Z (fun h=>by first | rfl | (rw [h];rfl)) (fun h=>by first | rfl | (rw [h];rfl))) Z ?_;refine A7 ?_
    refine k1 ?_
    refine B6 rfl (fun ht=>?_) (fun ht=>?_)
    ·have hnk:nk=true:=by revert ht;simp [c1n,c2n]
     rw [if_pos ⟨c2,hnk⟩] at hp
     refine k2 ?_
     refine A4 (A3 (A6 Z Z) Z (A7 ?_))
     refine k1 (k10 (k12 (k11 (k11 (k12 (k11 ?_))))))
     refine K8 (Y6 rfl rfl) (by repeat (first | exact D5 | refine D4 rfl ?_ | refine F4 _ ?_)) (fun _ _ h=>h) ⟨false,rfl,by rw [hp];simp,fun hh=>by cases hh⟩
    ·have hnk:nk=false:=by revert ht;simp [c1n,c2n]
     rw [if_neg (by simp [hnk]),if_neg c1,if_pos c2] at hp
     refine k5 (k4 (k1 ?_))
     refine A4 (A3 (C6 Z Z (by omega)) Z (A3 (A5 Z Z) Z (A7 ?_)))
     refine k1 ?_
     exact ⟨(k+1,ok,!ended x.Text),⟨by dsimp only;omega,hp⟩,by dsimp only;omega,J71 ⟨le1 rfl,le1 rfl,le1 rfl,le1 rfl,le1 rfl,le1 rfl,trivial⟩ hH (by repeat (first | exact D5 | refine D4 rfl ?_ | refine K5 _ ?_)) (ObIn.spec ⟨rfl,rfl,rfl,rfl,trivial⟩)⟩
  ·have hk':k=h.Lines.length:=by have:=A1 ht;omega
   subst hk'
   rw [K15 (Nat.le_refl _),u9] at hp
   have hbb:(0≤h.Old∧h.Old≤4096)∧(0≤h.New∧h.New≤4096):=by unfold U9 at hb;simp only [not_or] at hb;omega
   have hon:=N9 h.Lines 43
   have hnn:=N9 h.Lines 45
   have hon2:M2 h≤h.Lines.length∧0≤M2 h:=by unfold M2;omega
   have hnn2:O7 h≤h.Lines.length∧0≤O7 h:=by unfold O7;omega
   refine k6 (k2 ?_)
   refine A4 (A3 (D1 Z Z Z) Z (C9 (F63 h (by omega)) Z Z Z ?_));rintro _ rfl;refine A3 (A5 Z Z) Z (A3 (C1 Z Z) Z (A3 (C1 Z Z) Z (A3 (A6 Z Z) Z (A3 (A6 Z Z) Z (A7 ?_)))))
   refine k1 (k2 ?_)
   have hbx:decide (¬U9 i j h)=true:=decide_eq_true hb
   refine E25 12 [(101,.s (.one (.ref 710 0))),(95,C0 (h.Old+M2 h))] (by kernel_rfl) (by kernel_rfl) Z (p7 TySz.out Z Z Z Z Z Z) Z Z (B40 (A5 Z Z) Z (A5 Z Z) (B40 (A5 Z Z) Z (A5 Z Z) (B40 (A8 Z) Z (A8 Z) (B40 (A9 Z Z Z) Z (A9 Z Z Z) (B40 (A5 Z Z) Z (A5 Z Z) (B40 (C6 Z Z (by omega)) Z (C6 Z Z (by omega)) (B40 (A8 Z) Z (A8 Z) (B40 (A9 Z Z Z) Z (A9 Z Z Z) (B40 (A5 Z Z) Z (A5 Z Z) (B40 (C6 Z Z (by omega)) Z (C6 Z Z (by omega)) (B40 (B9 Z) Z (B9 Z) (B40 (A8 Z) Z (A8 Z) (s_nil ⟨rfl,rfl,trivial⟩ (B0 (B9 Z) Z Z (B0 (A8 Z) Z Z (B39 (B2 TySz.out Z Z Z Z Z Z) Z (L4 ?_)))))))))))))))))
   refine k1 (k2 ?_)
   refine A4 (A3 (A5 Z Z) Z (A3 (B9 Z) Z (A3 (A8 Z) Z (A3 (A9 Z Z Z) Z (A3 (A57 Z Z) Z (A3 (A5 Z Z) Z (B1 Z Z Z Z (fun hg=>by rw [hg];exact A5 Z Z) ?_)))))));refine B1 Z Z Z Z (fun hg=>by rw [hg];exact B9 Z) ?_;refine B1 Z Z Z Z (fun hg=>by rw [hg];exact A8 Z) ?_;refine B1 Z Z Z Z (fun hg=>by rw [hg];exact A9 Z Z Z) ?_;refine B1 Z Z Z Z (fun hg=>by rw [hg];exact A57 Z Z) ?_;refine A3 (B5 Z (fun h=>by first | rfl | (rw [h];rfl)) (fun h=>by first | rfl | (rw [h];rfl))) Z ?_;refine A3 (A6 Z Z) Z (A7 ?_)
   refine k1 (k10 ?_)
   refine K8 (ob':=[(6,.box (pPhunk h').s1.cells),(710,Y0 (h.Old+M2 h) ok),(711,Y0 (h.New+O7 h) nk)]) (Y6 rfl rfl) (by repeat (first | exact D5 | refine D4 rfl ?_ | refine F4 _ ?_)) (ObIn.spec ⟨rfl,rfl,rfl,trivial⟩) ⟨_,rfl,?_,fun hh=>⟨ok,nk,hp,rfl⟩⟩
   rw [hp,hbx]
   simp only [L8,Bool.true_and]
theorem J32 (hs:List PatchHunk) (hsz:szP hs≤268435456):FnOk Tryz.prog 80 [pPhunks hs] (fun rs=>rs=[O9 (u6 hs)]):=by
 have hsl:=E03 hs
 rw [←I98]
 refine FnOk.intro Tryz.func80 (by decide) Z Z Z Z ?_
 refine k2 ?_
 refine A4 (A3 (A6 Z Z) Z (A7 ?_))
 refine k1 (k2 ?_)
 refine A4 (C5 (E8 710 Z) Z (C5 (E8 711 Z) Z (A7 ?_)))
 refine k1 (k2 (k2 ?_))
 refine A4 (A3 (A5 Z Z) Z (A3 (E3 Z (.pure _ _ _ _)) Z (A3 (A5 Z Z) Z (A7 ?_))))
 refine k1 (k3 ?_)
 refine E2 (X:=Nat × (Int × Int) × Bool × Bool) (fun z=>([(3,.s (.one (.ref 710 0))),(4,.s (.one (.ref 711 0))),(7,C7 PatchHunk 3 phunkC hs),(8,C0 hs.length),(9,C0 z.1)],[(710,Y0 z.2.1.1 z.2.2.1),(711,Y0 z.2.1.2 z.2.2.2)])) (fun z=>z.1≤hs.length∧((0≤z.2.1.1∧z.2.1.1≤8192)∧(0≤z.2.1.2∧z.2.1.2≤8192))∧A85 0 0 false false hs=A85 z.2.1.1 z.2.1.2 z.2.2.1 z.2.2.2 (hs.drop z.1)) (fun z=>hs.length - z.1) (0,(0,0),false,false) ⟨Nat.zero_le _,by decide,rfl⟩ (J70 ⟨le1 rfl,le1 rfl,le1 rfl,le1 rfl,le1 rfl,trivial⟩ ⟨rfl,rfl,trivial⟩) ?_
 rintro ⟨k,⟨i,j⟩,o,n⟩ ⟨hk,⟨hi,hj⟩,hp⟩
 dsimp only at hk hi hj hp ⊢
 refine k2 ?_
 refine A4 (A3 (F0 Z Z) Z (A7 ?_))
 refine k1 (k2 ?_)
 refine B6 rfl (fun ht=>?_) (fun ht=>?_)
 ·have hlt:k < hs.length:=by have:=A0 ht;omega
  have hv:hs[k]?=some hs[k]:=by simp [hlt]
  have hmem:hs[k]∈hs:=K17 hlt
  rw [K11 hlt,A85] at hp
  obtain ⟨h,hx⟩:∃x,x=hs[k]:=⟨_,rfl⟩
  rw [←hx] at hv hmem hp
  have h1:=E02 hmem
  have h3:=B25 h.Lines
  unfold szH at h1
  refine k5 (k1 (k2 (k3 (k2 ?_))))
  refine A4 (A3 (B4 Z (.pure _ _ _ _) Z (by omega) hv) Z (A3 (D6 Z Z) Z (C5 (E8 6 Z) Z (E7 (B2 TySz.out Z Z Z Z Z Z) (A7 ?_)))))
  refine k1 (k2 ?_)
  refine M7 [(3,.s (.one (.ref 710 0))),(4,.s (.one (.ref 711 0))),(6,.s (.one (.ref 6 0))),(7,C7 PatchHunk 3 phunkC hs),(8,C0 hs.length),(9,C0 k)] [(6,.box (pPhunk h).s1.cells),(710,Y0 i o),(711,Y0 j n)] (J70 ⟨le1 rfl,le1 rfl,le1 rfl,le1 rfl,le1 rfl,le1 rfl,trivial⟩ ⟨rfl,rfl,rfl,trivial⟩) ?_
  cases hpr:(h.Lines.all n6&&X5 h.Lines) with
  | false =>
   rw [hpr] at hp
   refine A4 (A3 (D1 Z Z Z) Z (C9 (E44 h (by omega)) Z Z Z ?_));rintro _ rfl;refine A3 (I7 Z) Z (A3 (A5 Z Z) Z (J5 Z Z Z (by rw [hpr];decide) Z ?_));refine J5 Z Z Z (by rw [hpr];decide) Z ?_;refine J5 Z Z Z (by rw [hpr];decide) Z ?_;refine A3 (E26 Z ((by rw [hpr];rfl)) Z) Z ?_;refine A7 ?_
   refine k1 ?_
   refine B6 rfl (fun ht=>?_) (fun ht=>?_)
   ·refine k2 ?_
    refine A4 (A3 (A6 Z Z) Z (A7 ?_))
    refine k1 (k10 (k12 (k11 (k11 (k12 (k11 ?_))))))
    exact B7 (H6 rfl rfl rfl) (by rw [hp];rfl)
   ·cases ht
  | true =>
   rw [hpr] at hp
   refine A4 (A3 (D1 Z Z Z) Z (C9 (E44 h (by omega)) Z Z Z ?_));rintro _ rfl;refine A3 (I7 Z) Z (A3 (A5 Z Z) Z (H3 Z Z Z (by rw [hpr];rfl) ?_));refine A3 (D1 Z Z Z) Z (H3 Z Z Z (by rw [hpr];rfl) ?_);refine X9 (G79 h h i j o n (by omega) hi hj Z Z) Z Z Z ?_;rintro _ _ ⟨b,rfl,hb,hpost⟩;refine H3 Z Z Z (by rw [hpr];rfl) ?_;refine A3 (I7 Z) Z (A3 (B57 Z ((by rw [hpr];rfl)) Z) Z ?_);refine A7 ?_
   refine k1 ?_
   refine B6 rfl (fun ht=>?_) (fun ht=>?_)
   ·have hbf:b=false:=by simpa using ht
    refine k2 ?_
    refine A4 (A3 (A6 Z Z) Z (A7 ?_))
    refine k1 (k10 (k12 (k11 (k11 (k12 (k11 ?_))))))
    refine B7 (H6 Z Z Z) ?_
    subst hbf
    rw [hp]
    cases hbp:decide (¬U9 i j h) with
    | false=>rfl
    | true =>
     rw [hbp] at hb
     cases hop:u9 o n h.Lines with
     | none=>rfl
     | some q =>
      rw [hop] at hb
      obtain ⟨q1,q2⟩:=q
      have hb2:decide (h.Old+M2 h≤4096∧h.New+O7 h≤4096)=false:=hb.symm
      show [O9 false]=[O9 (decide (h.Old+M2 h≤4096∧h.New+O7 h≤4096)&&A85 (h.Old+M2 h) (h.New+O7 h) q1 q2 (List.drop (k+1) hs))]
      rw [hb2];rfl
   ·have hbt:b=true:=by simpa using ht
    obtain ⟨o',n',e1,rfl⟩:=hpost hbt
    rw [hbt,e1] at hb
    have hb2:=(K08 _ _ ▸ hb.symm:_∧_)
    have hb1:=A0 hb2.1
    have hb3:=A0 hb2.2
    rw [e1,hb2.1] at hp
    simp only [Bool.true_and] at hp
    rw [decide_eq_true hb3,Bool.true_and] at hp
    have hbb:(0≤h.Old∧h.Old≤4096)∧(0≤h.New∧h.New≤4096):=by unfold U9 at hb1;simp only [not_or] at hb1;omega
    have hon2:0≤M2 h:=by unfold M2;omega
    have hnn2:0≤O7 h:=by unfold O7;omega
    refine k5 (k4 (k1 ?_))
    refine A4 (A3 (C6 Z Z (by omega)) Z (A3 (A5 Z Z) Z (A7 ?_)))
    refine k1 ?_
    exact ⟨(k+1,(h.Old+M2 h,h.New+O7 h),o',n'),⟨by dsimp only;omega,by dsimp only;omega,hp⟩,by dsimp only;omega,J70 ⟨le1 rfl,le1 rfl,le1 rfl,le1 rfl,le1 rfl,trivial⟩ ⟨rfl,rfl,trivial⟩⟩
 ·have hk':k=hs.length:=by have:=A1 ht;omega
  subst hk'
  rw [K15 (Nat.le_refl _),A85] at hp
  refine k6 (k2 ?_)
  refine A4 (A3 (A6 Z Z) Z (A7 ?_))
  refine k1 (k10 ?_)
  exact B7 (H6 rfl rfl rfl) (by rw [hp])
theorem I65 (p:Patch) (hp:szP p.Hunks≤268435456):FnOk Tryz.prog 33 [pPatch p] (fun rs=>rs=[G5 (O6 p)]):=by
 refine FnOk.intro Tryz.func33 (by decide) Z Z Z Z ?_
 refine k2 ?_
 refine A4 (C5 (Q1 1 Z Z Z) Z (A3 (A6 Z Z) Z (A7 ?_)))
 refine k1 (k2 (k3 (k2 ?_)))
 refine A4 (A3 (A8 Z) Z (A3 (A9 Z Z Z) Z (C9 (C04 p.OldName) Z Z Z ?_)));rintro _ rfl;refine A3 (I7 Z) Z (A3 (A5 Z Z) Z (B1 Z Z Z Z (fun hg=>by rw [hg];exact A8 Z) ?_));refine B1 Z Z Z Z (fun hg=>by rw [hg];exact A9 Z Z Z) ?_;refine B1 Z Z Z Z (fun hg=>by have hq:=hg;(try simp at hq);rw [hg];exact I0 (C04 p.NewName) Z Z) ?_;refine B1 Z Z Z Z (fun hg=>by rw [hg];exact I7 Z) ?_;refine A3 (B5 Z (fun h=>by first | rfl | (rw [h];rfl)) (fun h=>by first | rfl | (rw [h];rfl))) Z ?_;refine A3 (A6 Z Z) Z (A7 ?_)
 refine k1 ?_
 refine B6 rfl (fun ht=>?_) (fun ht=>?_)
 ·simp only [notB,or_pick] at ht
  have h:=A0 ht
  refine k2 ?_
  refine A4 (A3 (A6 Z Z) Z (A7 ?_))
  refine k1 (k10 (k12 (k11 ?_)))
  exact B7 (H6 rfl rfl rfl) (by rw [O6,if_pos h])
 ·simp only [notB,or_pick] at ht
  have h:=A1 ht
  refine k2 ?_
  refine A4 (A3 (A8 Z) Z (A3 (A9 Z Z Z) Z (C9 (J32 p.Hunks hp) Z Z Z ?_)));rintro _ rfl;refine A3 (I7 Z) Z (A3 (A6 Z Z) Z (A7 ?_))
  refine k1 ?_
  refine B6 rfl (fun ht=>?_) (fun ht=>?_)
  ·have h2:u6 p.Hunks=false:=by simpa using ht
   refine k2 ?_
   refine A4 (A3 (A6 Z Z) Z (A7 ?_))
   refine k1 (k10 (k12 (k11 ?_)))
   exact B7 (H6 rfl rfl rfl) (by rw [O6,if_neg h,if_pos h2])
  ·have h2:u6 p.Hunks=true:=by simpa using ht
   have hr:=C91 h2
   have hn1:K4 p.OldName=true:=by by_cases hh:K4 p.OldName=true;exact hh;exact absurd (.inl (by simpa using hh)) h
   have hn2:K4 p.NewName=true:=by by_cases hh:K4 p.NewName=true;exact hh;exact absurd (.inr (by simpa using hh)) h
   have hn3:=A0 hn1
   have hn4:=A0 hn2
   have hpf:PFit p:=⟨by omega,by omega,hp⟩
   refine k2 ?_
   refine A4 (A3 (D1 Z Z Z) Z (C9 (G78 p hpf (fun x hx=>by have:=hr x hx;omega)) Z Z Z ?_));rintro _ rfl;refine A3 (R5 Z Z) Z (A3 (A6 Z Z) Z (A7 ?_))
   refine k1 ?_
   refine B6 rfl (fun ht=>?_) (fun ht=>?_)
   ·have h3:=A0 ht
    refine k2 ?_
    refine A4 (A3 (A6 Z Z) Z (A7 ?_))
    refine k1 (k10 (k12 (k11 ?_)))
    exact B7 (H6 rfl rfl rfl) (by rw [O6,if_neg h,if_neg (by rw [h2];decide),if_pos (by omega)])
   ·have h3:=A1 ht
    refine k5 (k2 ?_)
    refine A4 (A3 (A6 Z Z) Z (A7 ?_))
    refine k1 (k10 ?_)
    exact B7 (H6 rfl rfl rfl) (by rw [O6,if_neg h,if_neg (by rw [h2];decide),if_neg (by omega)])
theorem check12_good {p:Patch} (h1:¬O6 p≠0):u6 p.Hunks=true:=by
 by_cases hg:u6 p.Hunks=true
 ·exact hg
 ·exfalso;apply h1;unfold O6;split
  ·decide
  ·rw [if_pos (by simpa using hg)];decide
def U2 (p:Patch) (blob:Str):List Str × Int:=if O6 p≠0 then ([],O6 p) else W0 blob
theorem G80 (p:Patch) (blob:Str) (hp:szP p.Hunks≤268435456) (hb:blob.length≤536870912):FnOk Tryz.prog 65 [pPatch p,M9 blob] (fun rs=>rs=[d6 (U2 p blob).1,G5 (U2 p blob).2]):=by
 refine FnOk.intro Tryz.func65 (by decide) Z Z Z Z ?_
 refine k2 ?_
 refine A4 (C5 (Q1 2 Z Z Z) Z (A3 (A6 Z Z) Z (A3 (A6 Z Z) Z (A7 ?_))))
 refine k1 (k2 (k2 ?_))
 refine A4 (A3 (D1 Z Z Z) Z (C9 (I65 p hp) Z Z Z ?_));rintro _ rfl;refine A3 (A6 Z Z) Z (A7 ?_)
 refine k1 (k2 ?_)
 refine A4 (A3 (A5 Z Z) Z (A3 (K2 Z Z) Z (A7 ?_)))
 refine k1 ?_
 refine B6 rfl (fun ht=>?_) (fun ht=>?_)
 ·have h1:O6 p≠0:=A0 ht
  refine k2 ?_
  refine A4 (A3 (A5 Z Z) Z (A3 (T0 _ 1 K6) Z (A3 (A6 Z Z) Z (A7 ?_))))
  refine k1 (k10 (k11 ?_))
  exact B7 (p9 rfl rfl rfl rfl rfl) (by rw [U2,if_pos h1])
 have h1:¬O6 p≠0:=A1 ht
 refine k5 (k1 (k2 ?_))
 refine A4 (A3 (A5 Z Z) Z (C9 (C03 blob hb) Z Z Z ?_));rintro _ rfl;refine A3 (C1 Z Z) Z (A3 (C1 Z Z) Z (A3 (A6 Z Z) Z (A3 (A6 Z Z) Z (A7 ?_))))
 refine k1 (k10 ?_)
 exact B7 (p9 rfl rfl rfl rfl rfl) (by rw [U2,if_neg h1])
theorem G81 (p:Patch) (blob:Str):C48 p blob=if (U2 p blob).2≠0 then ((0:Int),(U2 p blob).2) else (((F38 p.Hunks (U2 p blob).1:Nat):Int),(0:Int)):=by
 unfold C48 U2
 by_cases h:O6 p≠0
 ·simp only [if_pos h]
 ·simp only [if_neg h]
theorem D55 {p:Patch} {blob:Str} (h:¬(U2 p blob).2≠0):u6 p.Hunks=true∧(U2 p blob).1=B8 blob∧(U2 p blob).1.length≤4096∧¬O6 p≠0:=by
 unfold U2 at h ⊢
 by_cases h1:O6 p≠0
 ·rw [if_pos h1] at h;exact absurd h1 h
 rw [if_neg h1] at h ⊢
 refine ⟨check12_good h1,?_,H10 blob,h1⟩
 unfold W0 at h ⊢
 split
 ·rename_i c3;rw [if_pos c3] at h;exact absurd (by decide) h
 ·rfl
theorem G13 (p:Patch) (blob:Str):A71 p blob=if (U2 p blob).2≠0 then (([]:Str),(U2 p blob).2) else if F38 p.Hunks (U2 p blob).1 < p.Hunks.length then ([],140) else E04 p.Hunks (U2 p blob).1:=by
 unfold A71
 rw [G81]
 by_cases h:(U2 p blob).2≠0
 ·simp only [if_pos h]
 ·obtain ⟨_,h2,_⟩:=D55 h
  simp only [if_neg h]
  rw [h2]
  simp
theorem J33 (out:List Str):(if X2 out=false then ([],140) else K3 out)=if (K3 out).2=2 then (([]:Str),(140:Int)) else K3 out:=by
 unfold K3
 by_cases hlo:X2 out=false
 ·rw [if_pos hlo,if_pos hlo,if_pos rfl]
 ·rw [if_neg hlo,if_neg hlo]
  by_cases hc:out.flatten.length > 1048576∨out.length > 4096
  ·rw [if_pos hc,if_neg (by decide)]
  ·rw [if_neg hc];exact (if_neg (by show ¬((0:Int)=2);decide)).symm
theorem G14 (hs:List PatchHunk) (x:List Str):E04 hs x=if (K3 (u7 hs x hs.length++x.drop (j6 hs hs.length).toNat)).2=2 then (([]:Str),(140:Int)) else K3 (u7 hs x hs.length++x.drop (j6 hs hs.length).toNat):=J33 _
theorem G82 (p:Patch) (blob:Str) (hp:szP p.Hunks≤134217728) (hb:blob.length≤134217728):FnOk Tryz.prog 19 [pPatch p,M9 blob] (fun rs=>rs=[M9 (A71 p blob).1,G5 (A71 p blob).2]):=by
 have hsl:=E03 p.Hunks
 have hf0:=G13 p blob
 refine FnOk.intro Tryz.func19 (by decide) Z Z Z Z ?_
 refine k2 ?_
 refine A4 (C5 (Q1 2 Z Z Z) Z (A3 (A6 Z Z) Z (A3 (A6 Z Z) Z (A7 ?_))))
 refine k1 (k2 ?_)
 refine A4 (A3 (D1 Z Z Z) Z (A3 (A5 Z Z) Z (C9 (G80 p blob (by omega) (by omega)) Z Z Z ?_)));rintro _ rfl;refine A3 (A5 Z Z) Z (A3 (C1 Z Z) Z (A3 (C1 Z Z) Z (A3 (A6 Z Z) Z (A3 (A6 Z Z) Z (A7 ?_)))))
 refine k1 (k2 (k2 ?_))
 refine A4 (A3 (A5 Z Z) Z (A3 (K2 Z Z) Z (A7 ?_)))
 refine k1 ?_
 refine B6 rfl (fun ht=>?_) (fun ht=>?_)
 ·have h1:(U2 p blob).2≠0:=A0 ht
  refine k2 ?_
  refine A4 (A3 (A5 Z Z) Z (A3 (A6 Z Z) Z (A3 (A6 Z Z) Z (A7 ?_))))
  refine k1 (k10 (k11 ?_))
  exact B7 (p9 rfl rfl rfl rfl rfl) (by rw [hf0,if_pos h1])
 have h1:¬(U2 p blob).2≠0:=A1 ht
 rw [if_neg h1] at hf0
 obtain ⟨hg,hxs,hxl,_⟩:=D55 h1
 have hr:=C91 hg
 have hxf:(U2 p blob).1.flatten.length=blob.length:=by rw [hxs,l5]
 obtain ⟨x,hx⟩:∃x,x=(U2 p blob).1:=⟨_,rfl⟩
 rw [←hx] at hxl hf0 hxf ⊢
 have hord0:∀k,k < p.Hunks.length→0≤j6 p.Hunks k∧j6 p.Hunks k≤(hAt p.Hunks k).Old:=by
  unfold u6 at hg
  rw [K08] at hg
  have hord:=B28 p.Hunks 0 0 hg.1
  refine fun k hk=>⟨?_,hord k hk⟩
  unfold j6
  split
  ·omega
  ·have:=hr _ (I37 (hs:=p.Hunks) (k:=k - 1) (by omega))
   have:=C93 (hAt p.Hunks (k - 1))
   omega
 refine k5 (k1 (k2 ?_))
 refine A4 (C5 (A02 8 _ K6 Z) Z (A7 ?_))
 refine k1 (k2 ?_)
 refine A4 (A3 (A6 Z Z) Z (A7 ?_))
 refine k1 (k2 (k2 ?_))
 refine A4 (A3 (A8 Z) Z (A3 (A9 Z Z Z) Z (A3 (E3 Z (.pure _ _ _ _)) Z (A3 (A5 Z Z) Z (A7 ?_)))))
 refine k1 (k3 ?_)
 refine E2 (X:=Nat) (fun k=>([(2,.s (.one (.ref 2 0))),(6,C7 Str 1 K6 x),(8,.s (.one (.buf 8 Str 1 K6 (u7 p.Hunks x k)))),(9,C0 (j6 p.Hunks k)),(25,C7 PatchHunk 3 phunkC p.Hunks),(26,C0 p.Hunks.length),(27,C0 k)],[(2,.box (pPatch p).s1.cells),(8,.spare (u7 p.Hunks x k).length 1 9)])) (fun k=>k≤p.Hunks.length∧F38 p.Hunks x=k+F38 (p.Hunks.drop k) x∧(∀j,j < k→A47 (hAt p.Hunks j) x=true)) (fun k=>p.Hunks.length - k) 0 ⟨Nat.zero_le _,by simp,fun j hj=>absurd hj (by omega)⟩ (J70 ⟨le1 rfl,le1 rfl,le1 rfl,le1 rfl,le1 rfl,le1 rfl,le1 rfl,trivial⟩ ⟨rfl,rfl,trivial⟩) ?_
 rintro k ⟨hk,hf,hall⟩
 dsimp only at hk hf hall ⊢
 have hlk:(u7 p.Hunks x k).length≤(j6 p.Hunks k).toNat+szP (p.Hunks.take k)∧(u7 p.Hunks x k).flatten.length≤(x.take (j6 p.Hunks k).toNat).flatten.length+szP (p.Hunks.take k):=by
  refine E70 k hk (fun j hj=>?_)
  obtain ⟨q1,q2⟩:=hord0 j (by omega)
  exact ⟨q1,q2,D34 (hall j hj)⟩
 have hst:=E68 p.Hunks k
 refine k2 ?_
 refine A4 (A3 (F0 Z Z) Z (A7 ?_))
 refine k1 (k2 ?_)
 refine B6 rfl (fun ht=>?_) (fun ht=>?_)
 ·have hlt:k < p.Hunks.length:=by have:=A0 ht;omega
  have hv:p.Hunks[k]?=some (hAt p.Hunks k):=G29 hlt
  have hmem:=I37 hlt
  have hdr:p.Hunks.drop k=hAt p.Hunks k::p.Hunks.drop (k+1):=by
   rw [K11 hlt]
   rw [K06 hlt] at hv
   rw [Option.some.inj hv]
  rw [hdr,F38] at hf
  obtain ⟨o1,o2⟩:=hord0 k hlt
  obtain ⟨h,hh⟩:∃h,h=hAt p.Hunks k:=⟨_,rfl⟩
  rw [←hh] at hv hmem hf o2
  have h3:=E02 hmem
  have h4:=B25 h.Lines
  have h5:=N9 h.Lines 45
  have h6:=N9 h.Lines 43
  have h7:=C93 h
  have h8:=A70 x (j6 p.Hunks k) h.Old
  unfold szH at h3
  have hr1:=hr h hmem
  refine k5 (k1 (k2 (k3 (k2 ?_))))
  refine A4 (A3 (B4 Z (.pure _ _ _ _) Z (by omega) hv) Z (A3 (D6 Z Z) Z (C5 (E8 11 Z) Z (E7 (B2 TySz.out Z Z Z Z Z Z) (A7 ?_)))))
  refine k1 (k2 ?_)
  refine A4 (A3 (D1 Z Z Z) Z (C9 (I64 h (by omega)) Z Z Z ?_));rintro _ rfl;refine A3 (A5 Z Z) Z (A3 (C1 Z Z) Z (A3 (C1 Z Z) Z (A3 (A6 Z Z) Z (A3 (A6 Z Z) Z (A7 ?_)))))
  refine k1 (k2 (k2 ?_))
  refine A4 (A3 (A5 Z Z) Z (A3 (A8 Z) Z (A3 (A9 Z Z Z) Z (A3 (A5 Z Z) Z (C9 (I63 h x (by omega) hr1.1 (by omega)) Z Z Z ?_)))));rintro _ rfl;refine A3 (I7 Z) Z (A7 ?_)
  refine k1 ?_
  refine B6 rfl (fun ht=>?_) (fun ht=>?_)
  ·have h5:A47 h x=false:=by simpa using ht
   rw [if_neg (by rw [h5];decide)] at hf
   refine k2 ?_
   refine A4 (A3 (A6 Z Z) Z (A3 (A6 Z Z) Z (A7 ?_)))
   refine k1 (k10 (k11 (k12 (k11 (k11 (k12 (k11 ?_)))))))
   exact B7 (p9 rfl rfl rfl rfl rfl) (by rw [hf0,if_pos (by omega)])
  ·have h9:A47 h x=true:=by simpa using ht
   rw [if_pos h9] at hf
   have h10:=D34 h9
   refine k5 (k1 (k2 ?_))
   refine A4 (A3 (A5 Z Z) Z (A3 (A5 Z Z) Z (A3 (A5 Z Z) Z (A3 (A8 Z) Z (A3 (A9 Z Z Z) Z (A3 (O8 Z (.pure _ _ _ _) Z Z (by (first | omega | (unfold sub at h8;omega))) (by (first | omega | (unfold sub at h8;omega))) (by (first | omega | (unfold sub at h8;omega)))) Z (C5 (I9 Z Z Z (.pure _ _ _ _) (by (unfold sub at h8;omega)) Z) Z ?_)))))));refine A3 (A5 Z Z) Z (C5 (I9 Z Z Z (.pure _ _ _ _) (by (simp only [K05];unfold sub at h8;omega)) Z) Z (A3 (A6 Z Z) Z (A7 ?_)))
   refine k1 ?_
   refine A4 (A3 (A8 Z) Z (A3 (A9 Z Z Z) Z (A3 (A5 Z Z) Z (A3 (E3 Z (.pure _ _ _ _)) Z (A3 (C6 Z Z (by omega)) Z (A3 (A6 Z Z) Z (A7 ?_)))))))
   refine k4 (k1 ?_)
   refine A4 (A3 (C6 Z Z (by omega)) Z (A3 (A5 Z Z) Z (A7 ?_)))
   refine k1 ?_
   have e:u7 p.Hunks x (k+1)=u7 p.Hunks x k++sub x (j6 p.Hunks k) h.Old++C4 h.Lines 45:=by rw [hh];rfl
   have e2:j6 p.Hunks (k+1)=h.Old+((C4 h.Lines 43).length:Int):=by rw [hh];unfold j6;rw [if_neg (by omega)];rfl
   refine ⟨k+1,⟨by omega,by omega,fun j hj=>?_⟩,by omega,?_⟩
   ·rcases Nat.lt_or_ge j k with hjk | hjk
    ·exact hall j hjk
    ·rw [show j=k by omega,←hh];exact h9
   rw [e,e2]
   exact J70 ⟨le1 rfl,le1 rfl,le1 rfl,le1 rfl,le1 rfl,le1 rfl,le1 rfl,trivial⟩ ⟨rfl,rfl,trivial⟩
 ·have hk':k=p.Hunks.length:=by have:=A1 ht;omega
  subst hk'
  rw [K15 (Nat.le_refl _),F38] at hf
  rw [if_neg (by omega)] at hf0
  have hat:0≤j6 p.Hunks p.Hunks.length∧j6 p.Hunks p.Hunks.length≤x.length:=by
   unfold j6
   split
   ·omega
   ·obtain ⟨o1,o2⟩:=hord0 (p.Hunks.length - 1) (by omega)
    have o3:=D34 (hall (p.Hunks.length - 1) (by omega))
    have:=C93 (hAt p.Hunks (p.Hunks.length - 1))
    omega
  obtain ⟨out,hout⟩:∃out,out=u7 p.Hunks x p.Hunks.length++x.drop (j6 p.Hunks p.Hunks.length).toNat:=⟨_,rfl⟩
  have hfl:out.flatten.length≤268435456:=by
   have h9:(x.take (j6 p.Hunks p.Hunks.length).toNat).flatten.length+(x.drop (j6 p.Hunks p.Hunks.length).toNat).flatten.length=x.flatten.length:=by
    rw [←K05,←K21,K38]
   rw [hout,K21,K05];omega
  have hol:out.length≤536870911:=by rw [hout,K05,K24];omega
  have hap:=G14 p.Hunks x
  rw [←hout] at hap
  have hfl2:=hfl
  have hol2:=hol
  rw [hout] at hfl2 hol2
  refine k6 (k2 ?_)
  refine A4 (A3 (A5 Z Z) Z (A3 (A5 Z Z) Z (A3 (A5 Z Z) Z (A3 (B91 Z (.pure _ _ _ _) Z (by (first | omega | (unfold sub at *;omega))) (by (first | omega | (unfold sub at *;omega)))) Z (C5 (I9 Z Z Z (.pure _ _ _ _) (by (simp only [K24];omega)) Z) Z (C9 (G72 _ (Nat.le_trans hfl2 (by decide)) hol2) Z Z Z ?_))))));rintro _ rfl;refine A3 (A5 Z Z) Z (A3 (C1 Z Z) Z (A3 (C1 Z Z) Z (A3 (A6 Z Z) Z (A3 (A6 Z Z) Z (A7 ?_)))))
  rw [←hout]
  refine k1 (k2 (k2 ?_))
  refine A4 (A3 (A5 Z Z) Z (A3 (Q0 Z Z) Z (A7 ?_)))
  refine k1 ?_
  refine B6 rfl (fun ht=>?_) (fun ht=>?_)
  ·have h8:(K3 out).2=2:=A0 ht
   refine k2 ?_
   refine A4 (A3 (A6 Z Z) Z (A3 (A6 Z Z) Z (A7 ?_)))
   refine k1 (k10 (k11 ?_))
   exact B7 (p9 rfl rfl rfl rfl rfl) (by rw [hf0,hap,if_pos h8])
  ·have h8:¬(K3 out).2=2:=A1 ht
   refine k5 (k1 (k2 ?_))
   refine A4 (A3 (A5 Z Z) Z (A3 (A5 Z Z) Z (A3 (A6 Z Z) Z (A3 (A6 Z Z) Z (A7 ?_)))))
   refine k1 (k10 ?_)
   exact B7 (p9 rfl rfl rfl rfl rfl) (by rw [hf0,hap,if_neg h8])
end Go.Proofs.YtbiadkkamhpdnaaGreatDoor
namespace Go.Proofs.YtbiadkkamhpdnaaGreatDoor
open Go Go.AL
set_option maxRecDepth 100000
end Go.Proofs.YtbiadkkamhpdnaaGreatDoor
namespace Go.Proofs.YtbiadkkamhpdnaaGreatDoor
open Go Go.AL
set_option maxRecDepth 100000
end Go.Proofs.YtbiadkkamhpdnaaGreatDoor
namespace Go.Proofs.YtbiadkkamhpdnaaGreatDoor
open Go Go.AL
set_option maxRecDepth 100000
theorem Y8 (n:Int):FnOk Tryz.prog 232 [G5 n] (fun rs=>rs=[O9 (decide (H5 n))]):=by
 refine FnOk.intro Tryz.func232 (by decide) Z Z Z Z ?_
 refine k2 ?_
 refine A4 (A3 (A6 Z Z) Z (A7 ?_))
 refine k1 (k2 ?_)
 refine A4 (A3 (A5 Z Z) Z (A3 (A88 Z Z) Z (A3 (A5 Z Z) Z (B1 Z Z Z Z (fun hg=>by rw [hg];exact A5 Z Z) ?_))));refine B1 Z Z Z Z (fun hg=>by rw [hg];exact A57 Z Z) ?_;refine A3 (B5 Z (fun h=>by first | rfl | (rw [h];rfl)) (fun h=>by first | rfl | (rw [h];rfl))) Z ?_;refine A3 (A6 Z Z) Z (A7 ?_)
 refine k1 (k10 ?_)
 refine B7 (H6 Z Z Z) ?_
 simp only [L8]
 rfl
theorem F64 (l:List Change) (m n:Int) (hl:l.length≤1073741824):FnOk Tryz.prog 194 [pChanges l,G5 m,G5 n] (fun rs=>rs=[G5 (d9 l m n)]):=by
 refine FnOk.intro Tryz.func194 (by decide) Z Z Z Z ?_
 refine k2 ?_
 refine A4 (A3 (A6 Z Z) Z (A7 ?_))
 refine k1 (k2 (k2 ?_))
 refine A4 (A3 (A5 Z Z) Z (C9 (Y8 m) Z Z Z ?_));rintro _ rfl;refine A3 (I7 Z) Z (A3 (A5 Z Z) Z (B1 Z Z Z Z (fun hg=>by rw [hg];exact A5 Z Z) ?_));refine B1 Z Z Z Z (fun hg=>by have hq:=hg;(try simp at hq);rw [hg];exact I0 (Y8 n) Z Z) ?_;refine B1 Z Z Z Z (fun hg=>by rw [hg];exact I7 Z) ?_;refine A3 (B5 Z (fun h=>by first | rfl | (rw [h];rfl)) (fun h=>by first | rfl | (rw [h];rfl))) Z ?_;refine A7 ?_
 refine k1 ?_
 refine B6 rfl (fun ht=>?_) (fun ht=>?_)
 ·simp only [←decide_not,or_pick] at ht
  have h:¬H5 m∨¬H5 n:=A0 ht
  refine k2 ?_
  refine A4 (A3 (A6 Z Z) Z (A7 ?_))
  refine k1 (k10 (k11 ?_))
  exact B7 (H6 rfl rfl rfl) (by rw [d9,if_pos h])
 simp only [←decide_not,or_pick] at ht
 have h:¬(¬H5 m∨¬H5 n):=A1 ht
 have hm:0≤m∧m≤4096:=by by_cases hm:H5 m;exact hm;exact absurd (.inl hm) h
 have hn:0≤n∧n≤4096:=by by_cases hn:H5 n;exact hn;exact absurd (.inr hn) h
 refine k5 (k1 (k2 ?_))
 refine A4 (A3 (A6 Z Z) Z (A3 (A6 Z Z) Z (A7 ?_)))
 refine k1 (k2 (k2 ?_))
 refine A4 (A3 (A5 Z Z) Z (A3 (E3 Z (.pure _ _ _ _)) Z (A3 (A5 Z Z) Z (A7 ?_))))
 refine k1 (k3 ?_)
 refine E2 (X:=Nat × Int × Int) (fun x=>([(1,C0 m),(2,C0 n),(7,C0 x.2.1),(8,C0 x.2.2),(20,C7 Change 4 changeC l),(21,C0 l.length),(22,C0 x.1)],[])) (fun x=>x.1≤l.length∧J1 0 0 0 l m n=J1 x.1 x.2.1 x.2.2 (l.drop x.1) m n∧0≤x.2.1∧x.2.1≤8192∧0≤x.2.2∧x.2.2≤8192) (fun x=>l.length - x.1) (0,0,0) ⟨Nat.zero_le _,rfl,by decide,by decide,by decide,by decide⟩ (J70 ⟨le1 rfl,le1 rfl,le1 rfl,le1 rfl,le1 rfl,le1 rfl,le1 rfl,trivial⟩ trivial) ?_
 rintro ⟨k,i,j⟩ ⟨hk,hp,hi,hi2,hj,hj2⟩
 dsimp only at hk hp hi hi2 hj hj2 ⊢
 refine k2 ?_
 refine A4 (A3 (F0 Z Z) Z (A7 ?_))
 refine k1 (k2 ?_)
 refine B6 rfl (fun ht=>?_) (fun ht=>?_)
 ·have hlt:k < l.length:=by have:=A0 ht;omega
  have hv:l[k]?=some l[k]:=by simp [hlt]
  obtain ⟨c,hc⟩:∃c,c=l[k]:=⟨_,rfl⟩
  rw [K11 hlt,J1] at hp
  rw [←hc] at hv hp
  refine k5 (k1 (k2 (k3 (k2 ?_))))
  refine A4 (A3 (A5 Z Z) Z (A3 (B4 Z (.pure _ _ _ _) Z (by omega) hv) Z (A3 (D6 Z Z) Z (C5 (E8 10 Z) Z (A3 (A6 Z Z) Z (E7 (B2 TySz.out Z Z Z Z Z Z) (A7 ?_)))))))
  refine k1 (k2 (k2 ?_))
  refine A4 (A3 (A8 Z) Z (A3 (A9 Z Z Z) Z (C9 (Y8 c.Old) Z Z Z ?_)));rintro _ rfl;refine A3 (I7 Z) Z (A3 (A5 Z Z) Z (B1 Z Z Z Z (fun hg=>by rw [hg];exact A8 Z) ?_));refine B1 Z Z Z Z (fun hg=>by rw [hg];exact A9 Z Z Z) ?_;refine B1 Z Z Z Z (fun hg=>by have hq:=hg;(try simp at hq);rw [hg];exact I0 (Y8 c.OldLen) Z Z) ?_;refine B1 Z Z Z Z (fun hg=>by rw [hg];exact I7 Z) ?_;refine A3 (B5 Z (fun h=>by first | rfl | (rw [h];rfl)) (fun h=>by first | rfl | (rw [h];rfl))) Z ?_;refine A3 (A5 Z Z) Z (B1 Z Z Z Z (fun hg=>by rw [hg];exact A8 Z) ?_);refine B1 Z Z Z Z (fun hg=>by rw [hg];exact A9 Z Z Z) ?_;refine B1 Z Z Z Z (fun hg=>by have hq:=hg;(try simp at hq);rw [hg];exact I0 (Y8 c.New) Z Z) ?_;refine B1 Z Z Z Z (fun hg=>by rw [hg];exact I7 Z) ?_;refine A3 (B5 Z (fun h=>by first | rfl | (rw [h];rfl)) (fun h=>by first | rfl | (rw [h];rfl))) Z ?_;refine A3 (A5 Z Z) Z (B1 Z Z Z Z (fun hg=>by rw [hg];exact A8 Z) ?_);refine B1 Z Z Z Z (fun hg=>by rw [hg];exact A9 Z Z Z) ?_;refine B1 Z Z Z Z (fun hg=>by have hq:=hg;(try simp at hq);rw [hg];exact I0 (Y8 c.NewLen) Z Z) ?_;refine B1 Z Z Z Z (fun hg=>by rw [hg];exact I7 Z) ?_;refine A3 (B5 Z (fun h=>by first | rfl | (rw [h];rfl)) (fun h=>by first | rfl | (rw [h];rfl))) Z ?_;refine A3 (A5 Z Z) Z (B1 Z Z Z Z (fun hg=>by rw [hg];exact A8 Z) ?_);refine B1 Z Z Z Z (fun hg=>by rw [hg];exact A9 Z Z Z) ?_;refine B1 Z Z Z Z (fun hg=>by rw [hg];exact A8 Z) ?_;refine B1 Z Z Z Z (fun hg=>by rw [hg];exact A9 Z Z Z) ?_;refine B1 Z Z Z Z (fun hg=>by have hq:=hg;(try simp at hq);simp [H5] at hq;rw [hg];exact C6 Z Z (by omega)) ?_;refine B1 Z Z Z Z (fun hg=>by rw [hg];exact Q0 Z Z) ?_;refine A3 (B5 Z (fun h=>by first | rfl | (rw [h];rfl)) (fun h=>by first | rfl | (rw [h];rfl))) Z ?_;refine A7 ?_
  refine k1 ?_
  refine B6 rfl (fun ht=>?_) (fun ht=>?_)
  ·simp only [←decide_not,or_pick,L8] at ht
   have h0:=A0 ht
   have hb:D89 k i j c:=.inl (.inl (.inl h0))
   refine k2 ?_
   refine A4 (A3 (A6 Z Z) Z (A7 ?_))
   refine k1 (k10 (k11 (k12 (k11 (k11 (k12 (k11 ?_)))))))
   exact B7 (H6 rfl rfl rfl) (by rw [d9,if_neg ‹¬(¬H5 m∨¬H5 n)›,hp,decide_eq_false (fun hh=>hh hb)];rfl)
  simp only [←decide_not,or_pick,L8] at ht
  have h0:=A1 ht
  have hr:(0≤c.Old∧c.Old≤4096)∧(0≤c.OldLen∧c.OldLen≤4096)∧(0≤c.New∧c.New≤4096)∧(0≤c.NewLen∧c.NewLen≤4096)∧c.OldLen+c.NewLen≠0:=by
   by_cases a1:H5 c.Old<;>by_cases a2:H5 c.OldLen<;>by_cases a3:H5 c.New<;>by_cases a4:H5 c.NewLen<;>simp [a1,a2,a3,a4] at h0
   exact ⟨a1,a2,a3,a4,h0⟩
  refine k5 (k1 (k2 ?_))
  refine A4 (A3 (A8 Z) Z (A3 (A9 Z Z Z) Z (A3 (A5 Z Z) Z (A3 (N5 Z Z (by omega)) Z (A3 (A6 Z Z) Z (A7 ?_))))))
  refine k1 (k2 (k2 ?_))
  refine A4 (A3 (A5 Z Z) Z (A3 (A8 Z) Z (A3 (A9 Z Z Z) Z (A3 (A5 Z Z) Z (A3 (N5 Z Z (by omega)) Z (A3 (K2 Z Z) Z (A3 (A5 Z Z) Z (B1 Z Z Z Z (fun hg=>by rw [hg];exact A5 Z Z) ?_))))))));refine B1 Z Z Z Z (fun hg=>by rw [hg];exact A5 Z Z) ?_;refine B1 Z Z Z Z (fun hg=>by rw [hg];exact G54 Z Z) ?_;refine B1 Z Z Z Z (fun hg=>by rw [hg];exact F0 Z Z) ?_;refine A3 (B5 Z (fun h=>by first | rfl | (rw [h];rfl)) (fun h=>by first | rfl | (rw [h];rfl))) Z ?_;refine A7 ?_
  refine k1 ?_
  have hmin:∀b:Int,(c.Old - i < if (1:Int) < (k:Int) then 1 else (k:Int))↔(c.Old < i∨(0 < (k:Int)∧c.Old=i)):=by intro _;split<;>omega
  refine B6 rfl (fun ht=>?_) (fun ht=>?_)
  ·simp only [or_pick] at ht
   have h1:=A0 ht
   have hb:D89 k i j c:=by
    rcases h1 with h1 | h1
    ·exact .inl (.inl (.inr h1))
    ·rcases (hmin 0).1 h1 with h2 | h2
     ·exact .inl (.inr h2)
     ·exact .inr h2
   refine k2 ?_
   refine A4 (A3 (A6 Z Z) Z (A7 ?_))
   refine k1 (k10 (k11 (k12 (k11 (k11 (k12 (k11 ?_)))))))
   exact B7 (H6 rfl rfl rfl) (by rw [d9,if_neg ‹¬(¬H5 m∨¬H5 n)›,hp,decide_eq_false (fun hh=>hh hb)];rfl)
  ·simp only [or_pick] at ht
   have h1:=A1 ht
   have hb:¬D89 k i j c:=by
    rintro (((q | q) | q) | q)
    ·exact h0 q
    ·exact h1 (.inl q)
    ·exact h1 (.inr ((hmin 0).2 (.inl q)))
    ·exact h1 (.inr ((hmin 0).2 (.inr q)))
   rw [decide_eq_true hb,Bool.true_and] at hp
   refine k5 (k1 ?_)
   refine E1 (by kernel_rfl) (by kernel_rfl) (B0 (A8 Z) Z Z (B0 (A9 Z Z Z) Z Z (B0 (A8 Z) Z Z (B0 (A9 Z Z Z) Z Z (B0 (C6 Z Z (by omega)) Z Z (B0 (A8 Z) Z Z (B0 (A9 Z Z Z) Z Z (B0 (A8 Z) Z Z (B0 (A9 Z Z Z) Z Z (B0 (C6 Z Z (by omega)) Z Z (B0 (A6 Z Z) Z Z (B0 (A6 Z Z) Z Z (L4 ?_)))))))))))))
   refine k4 (k1 ?_)
   refine A4 (A3 (C6 Z Z (by omega)) Z (A3 (A5 Z Z) Z (A7 ?_)))
   refine k1 ?_
   exact ⟨(k+1,c.Old+c.OldLen,c.New+c.NewLen),⟨by dsimp only;omega,hp,by dsimp only;omega,by dsimp only;omega,by dsimp only;omega,by dsimp only;omega⟩,by dsimp only;omega,J70 ⟨le1 rfl,le1 rfl,le1 rfl,le1 rfl,le1 rfl,le1 rfl,le1 rfl,trivial⟩ trivial⟩
 ·have hk':k=l.length:=by have:=A1 ht;omega
  rw [hk',K15 (Nat.le_refl _),J1] at hp
  refine k6 (k2 (k2 ?_))
  refine A4 (A3 (A5 Z Z) Z (A3 (A5 Z Z) Z (A3 (N5 Z Z (by omega)) Z (A3 (A5 Z Z) Z (A3 (A5 Z Z) Z (A3 (N5 Z Z (by omega)) Z (A3 (K2 Z Z) Z (A3 (A5 Z Z) Z (B1 Z Z Z Z (fun hg=>by rw [hg];exact A5 Z Z) ?_)))))))));refine B1 Z Z Z Z (fun hg=>by rw [hg];exact A5 Z Z) ?_;refine B1 Z Z Z Z (fun hg=>by rw [hg];exact F0 Z Z) ?_;refine A3 (B5 Z (fun h=>by first | rfl | (rw [h];rfl)) (fun h=>by first | rfl | (rw [h];rfl))) Z ?_;refine A7 ?_
  refine k1 ?_
  refine B6 rfl (fun ht=>?_) (fun ht=>?_)
  ·have h2:=A0 (or_pick.symm.trans ht)
   refine k2 ?_
   refine A4 (A3 (A6 Z Z) Z (A7 ?_))
   refine k1 (k10 (k11 ?_))
   exact B7 (H6 rfl rfl rfl) (by rw [d9,if_neg h,hp,decide_eq_false (fun hh=>hh h2)];rfl)
  ·have h2:=A1 (or_pick.symm.trans ht)
   refine k5 (k1 (k2 ?_))
   refine A4 (A3 (A6 Z Z) Z (A7 ?_))
   refine k1 (k10 ?_)
   exact B7 (H6 rfl rfl rfl) (by rw [d9,if_neg h,hp,decide_eq_true h2];rfl)
theorem I66 {gf:Fr} {ob:Obs} (p:List Span):AL.Met Tryz.prog 261 [.one (.p (.list Span 2 spanC p))] gf ob [] (fun rs ob'=>rs=[.one (.full Span 2 spanC p)]∧ob'=ob):=by
 refine AL.Met.intro Tryz.func261 (by decide) Z Z Z ?_
 refine k2 ?_
 refine A4 (A3 (A6 Z Z) Z (A7 ?_))
 refine k1 (k2 ?_)
 refine A4 (A3 (A5 Z Z) Z (A3 (A5 Z Z) Z (A3 (E3 Z (.pure _ _ _ _)) Z (A3 (A5 Z Z) Z (A3 (E3 Z (.pure _ _ _ _)) Z (A3 (H61 Z (.pure _ _ _ _) Z Z (by omega) (by omega) (by first | rfl | omega)) Z ?_))))));refine A3 (A6 Z Z) Z (A7 ?_)
 rw [show p.take (p.length:Int).toNat=p by simp]
 refine k1 (k10 ?_)
 exact K8 (Y6 rfl rfl) (by repeat (first | exact D5 | refine D4 rfl ?_ | refine F4 _ ?_)) (fun _ _ h=>h) ⟨rfl,rfl⟩
def A63 (i j:Int):List Span→List Change
 | []=>[]
 | x::r=>(if x.From > i∨x.To > j then [⟨i,x.From - i,j,x.To - j⟩] else [])++A63 (x.From+1) (x.To+1) r
theorem D56 (m n:Int):∀(p:List Span) (i j:Int),A63 i j (p++[⟨m,n⟩])=N3 i j p m n
 | [],i,j=>by simp [A63,N3]
 | x::r,i,j=>by
  rw [K40,A63,N3,D56 m n r]
theorem F28 (p:List Span) (m n:Int) (hp:p.length≤536870912) (hm:-1099511627776≤m∧m≤1099511627776) (hn:-1099511627776≤n∧n≤1099511627776) (hb:∀s∈p,-1099511627776≤s.From∧s.From≤1099511627776 ∧ -1099511627776≤s.To∧s.To≤1099511627776) :
  FnOk Tryz.prog 233 [pSpans p,G5 m,G5 n] (fun rs=>rs=[pChanges (A23 p m n)]):=by
 refine FnOk.intro Tryz.func233 (by decide) Z Z Z Z ?_
 refine k2 ?_
 refine A4 (A3 (A6 Z Z) Z (A7 ?_))
 refine k1 (k2 ?_)
 refine A4 (C5 (A02 7 _ changeC Z) Z (A7 ?_))
 refine k1 (k2 ?_)
 refine A4 (A3 (A6 Z Z) Z (A3 (A6 Z Z) Z (A7 ?_)))
 refine k1 (k2 (k2 ?_))
 refine A4 (A3 (A5 Z Z) Z (X9 (I66 p) Z Z Z ?_));rintro _ _ ⟨rfl,rfl⟩;refine A3 (A5 Z Z) Z (A3 (A5 Z Z) Z (A3 (F9 Z) Z (A3 (E6 (c:=spanC) (ys:=[⟨m,n⟩]) (F3 Z Z Z Z I6) Z Z Z) Z (C5 (F23 18 Z Z (.pure _ _ _ _) (by simp;omega) (by simp) Z) Z (A3 (E3 Z (.buf _ _ _ _ _)) Z (A3 (A5 Z Z) Z (A7 ?_)))))))
 obtain ⟨q,hq⟩:∃q,q=p++[(⟨m,n⟩:Span)]:=⟨_,rfl⟩
 have hql:q.length=p.length+1:=by rw [hq];simp
 have hqb:∀s∈q,-1099511627776≤s.From∧s.From≤1099511627776 ∧ -1099511627776≤s.To∧s.To≤1099511627776:=by
  intro s hs
  rw [hq] at hs
  rcases List.mem_append.1 hs with h | h
  ·exact hb s h
  ·simp at h;subst h;exact ⟨hm.1,hm.2,hn.1,hn.2⟩
 have hres:A23 p m n=A63 0 0 q:=by rw [hq,D56];rfl
 rw [←hq]
 refine k1 (k3 ?_)
 refine E2 (X:=Nat × Int × Int × List Change) (fun x=>([(7,.s (.one (.buf 7 Change 4 changeC x.2.2.2))),(8,C0 x.2.1),(9,C0 x.2.2.1),(18,.s (.one (.buf 18 Span 2 spanC q))),(19,C0 q.length),(20,C0 x.1)],[(7,.spare x.2.2.2.length 4 146)])) (fun x=>x.1≤q.length∧x.2.2.2++A63 x.2.1 x.2.2.1 (q.drop x.1)=A23 p m n∧(-1099511627777≤x.2.1∧x.2.1≤1099511627777)∧(-1099511627777≤x.2.2.1∧x.2.2.1≤1099511627777)∧x.2.2.2.length≤x.1) (fun x=>q.length - x.1) (0,0,0,[]) ⟨Nat.zero_le _,hres.symm,by decide,by decide,Nat.le_refl _⟩ (J70 ⟨le1 rfl,le1 rfl,le1 rfl,le1 rfl,le1 rfl,le1 rfl,trivial⟩ ⟨rfl,trivial⟩) ?_
 rintro ⟨k,i,j,out⟩ ⟨hk,he,hi,hj,hol⟩
 dsimp only at hk he hi hj hol ⊢
 refine k2 ?_
 refine A4 (A3 (F0 Z Z) Z (A7 ?_))
 refine k1 (k2 ?_)
 refine B6 rfl (fun ht=>?_) (fun ht=>?_)
 ·have hlt:k < q.length:=by have:=A0 ht;omega
  have hv:q[k]?=some q[k]:=by simp [hlt]
  have hbk:=hqb _ (K17 hlt)
  obtain ⟨c,hc⟩:∃c,c=q[k]:=⟨_,rfl⟩
  rw [K11 hlt,A63] at he
  rw [←hc] at hv he hbk
  refine k5 (k1 (k2 (k3 (k2 ?_))))
  refine A4 (A3 (B4 Z (.buf _ _ _ _ _) Z (by omega) hv) Z (A3 (D6 Z Z) Z (C5 (E8 11 Z) Z (E7 (B2 TySz.out Z Z Z Z Z Z) (A7 ?_)))))
  refine L1 ?_
  obtain ⟨out',hout'⟩:∃out',out'=out++(if c.From > i∨c.To > j then [⟨i,c.From - i,j,c.To - j⟩] else []):=⟨_,rfl⟩
  have hol':out'.length≤k+1:=by rw [hout',K05];split<;>simp<;>omega
  rw [←K23,←hout'] at he
  refine A77 [(7,.s (.one (.buf 7 Change 4 changeC out'))),(8,C0 i),(9,C0 j),(11,.s (.one (.ref 11 0))),(18,.s (.one (.buf 18 Span 2 spanC q))),(19,C0 q.length),(20,C0 k)] [(7,.spare out'.length 4 146),(11,.box [.p (.v (.int .i64 c.From)),.p (.v (.int .i64 c.To))])] ?_ ?_
  ·refine k2 ?_
   refine A4 (A3 (A8 Z) Z (A3 (A9 Z Z Z) Z (A3 (A5 Z Z) Z (A3 (R5 Z Z) Z (A3 (A5 Z Z) Z (B1 Z Z Z Z (fun hg=>by rw [hg];exact A8 Z) ?_))))));refine B1 Z Z Z Z (fun hg=>by rw [hg];exact A9 Z Z Z) ?_;refine B1 Z Z Z Z (fun hg=>by rw [hg];exact A5 Z Z) ?_;refine B1 Z Z Z Z (fun hg=>by rw [hg];exact R5 Z Z) ?_;refine A3 (B5 Z (fun h=>by first | rfl | (rw [h];rfl)) (fun h=>by first | rfl | (rw [h];rfl))) Z ?_;refine A7 ?_
   refine k1 ?_
   refine B6 rfl (fun ht=>?_) (fun ht=>?_)
   ·simp only [or_pick] at ht
    have h1:=A0 ht
    rw [if_pos h1] at hout'
    skip
    refine A4 (A3 (A5 Z Z) Z (A3 (A5 Z Z) Z (A3 (A8 Z) Z (A3 (A9 Z Z Z) Z (A3 (A5 Z Z) Z (A3 (N5 Z Z (by omega)) Z (A3 (A5 Z Z) Z (A3 (A8 Z) Z (A3 (A9 Z Z Z) Z (A3 (A5 Z Z) Z (A3 (N5 Z Z (by omega)) Z (A3 (F9 Z) Z (A3 (E6 (c:=changeC) (ys:=[⟨i,c.From - i,j,c.To - j⟩]) (F3 Z Z Z Z I6) Z Z Z) Z (C5 (I9 Z Z Z (.pure _ _ _ _) (by (simp only [K07,K10];omega)) Z) Z (A3 (A6 Z Z) Z (A7 ?_))))))))))))))))
    refine k1 ?_
    rw [hout']
    exact J70 ⟨le1 rfl,le1 rfl,le1 rfl,le1 rfl,le1 rfl,le1 rfl,le1 rfl,trivial⟩ ⟨rfl,rfl,trivial⟩
   ·simp only [or_pick] at ht
    have h1:=A1 ht
    rw [if_neg h1,K27] at hout'
    refine k5 (k1 ?_)
    rw [hout']
    exact J70 ⟨le1 rfl,le1 rfl,le1 rfl,le1 rfl,le1 rfl,le1 rfl,le1 rfl,trivial⟩ ⟨rfl,rfl,trivial⟩
  ·skip
   refine E1 (by kernel_rfl) (by kernel_rfl) (B0 (A8 Z) Z Z (B0 (A9 Z Z Z) Z Z (B0 (C6 Z Z (by omega)) Z Z (B0 (A8 Z) Z Z (B0 (A9 Z Z Z) Z Z (B0 (C6 Z Z (by omega)) Z Z (B0 (A6 Z Z) Z Z (B0 (A6 Z Z) Z Z (L4 ?_)))))))))
   refine k4 (k1 ?_)
   refine A4 (A3 (C6 Z Z (by omega)) Z (A3 (A5 Z Z) Z (A7 ?_)))
   refine k1 ?_
   exact ⟨(k+1,c.From+1,c.To+1,out'),⟨by dsimp only;omega,he,⟨by dsimp only;omega,by dsimp only;omega⟩,⟨by dsimp only;omega,by dsimp only;omega⟩,by dsimp only;omega⟩,by dsimp only;omega,J70 ⟨le1 rfl,le1 rfl,le1 rfl,le1 rfl,le1 rfl,le1 rfl,trivial⟩ ⟨rfl,trivial⟩⟩
 ·have hk':k=q.length:=by have:=A1 ht;omega
  rw [hk',K15 (Nat.le_refl _),A63,K27] at he
  refine k6 (k2 ?_)
  refine A4 (A3 (A5 Z Z) Z (A3 (A6 Z Z) Z (A7 ?_)))
  refine k1 (k10 ?_)
  exact B7 (H6 rfl rfl rfl) (by rw [←he])
theorem G83 {m n:Int}:∀{p:List Span} {i j:Int},Asc m n i j p→∀k (h:k < p.length),(k=0→i≤p[k].From∧j≤p[k].To)∧(∀h0:0 < k,p[k - 1].From < p[k].From∧p[k - 1].To < p[k].To)∧p[k].From < m∧p[k].To < n
 | [],_,_,_,k,h=>by simp at h
 | x::r,i,j,ha,k,h=>by
  obtain ⟨h1,h2,h3⟩:=ha
  cases k with
  | zero=>have:=h3.le;exact ⟨fun _=>⟨h1,h2⟩,fun h0=>absurd h0 (by omega),by show x.From < m;omega,by show x.To < n;omega⟩
  | succ k =>
   obtain ⟨g1,g2,g3,g4⟩:=G83 h3 k (by simpa using h)
   refine ⟨fun h0=>absurd h0 (by omega),fun _=>?_,by simpa using g3,by simpa using g4⟩
   cases k with
   | zero =>
    obtain ⟨q1,q2⟩:=g1 rfl
    have hr:0 < r.length:=by simpa using h
    show x.From < r[0].From∧x.To < r[0].To
    omega
   | succ k=>simpa using g2 (by omega)
theorem F29 (p:List Span) (m n:Int) (hm:H5 m) (hn:H5 n) (ha:Asc m n 0 0 p) (hp:p.length≤536870912) :
  FnOk Tryz.prog 189 [pSpans p,G5 m,G5 n] (fun rs=>rs=[pChanges (A23 p m n),G5 0]):=by
 obtain ⟨hm1,hm2⟩:=hm
 obtain ⟨hn1,hn2⟩:=hn
 have hst:=G83 ha
 have hb:∀s∈p,0≤s.From∧s.From≤4096∧0≤s.To∧s.To≤4096:=by
  have key:∀(p:List Span) (i j:Int),Asc m n i j p→0≤i→0≤j→∀s∈p,0≤s.From∧s.From≤4096∧0≤s.To∧s.To≤4096:=by
   intro p
   induction p with
   | nil=>intro _ _ _ _ _ s hs;simp at hs
   | cons x r ih =>
    rintro i j ⟨h1,h2,h3⟩ h4 h5 s hs
    have:=h3.le
    rcases List.mem_cons.1 hs with rfl | hs
    ·omega
    ·exact ih _ _ h3 (by omega) (by omega) s hs
  exact key p 0 0 ha (by omega) (by omega)
 refine FnOk.intro Tryz.func189 (by decide) Z Z Z Z ?_
 refine k2 ?_
 refine A4 (A3 (A6 Z Z) Z (A3 (A6 Z Z) Z (A7 ?_)))
 refine k1 (k2 (k2 ?_))
 refine A4 (A3 (A5 Z Z) Z (C9 (Y8 m) Z Z Z ?_));rintro _ rfl;refine A3 (I7 Z) Z (A3 (A5 Z Z) Z (B1 Z Z Z Z (fun hg=>by rw [hg];exact A5 Z Z) ?_));refine B1 Z Z Z Z (fun hg=>by have hq:=hg;(try simp at hq);rw [hg];exact I0 (Y8 n) Z Z) ?_;refine B1 Z Z Z Z (fun hg=>by rw [hg];exact I7 Z) ?_;refine A3 (B5 Z (fun h=>by first | rfl | (rw [h];rfl)) (fun h=>by first | rfl | (rw [h];rfl))) Z ?_;refine A7 ?_
 refine k1 ?_
 refine B6 rfl (fun ht=>?_) (fun ht=>?_)
 ·exfalso
  simp only [←decide_not,or_pick] at ht
  have h:¬H5 m∨¬H5 n:=A0 ht
  rcases h with h | h
  ·exact h ⟨hm1,hm2⟩
  ·exact h ⟨hn1,hn2⟩
 refine M7 [(0,C7 Span 2 spanC p),(1,C0 m),(2,C0 n)] [] (J70 ⟨le1 rfl,le1 rfl,le1 rfl,trivial⟩ trivial) ?_
 refine k5 (k1 (k2 ?_))
 refine A4 (A3 (F9 Z) Z (C5 (E8 8 Z) Z (E7 (B2 TySz.out Z Z Z Z Z Z) (A7 ?_))))
 refine k1 (k2 (k2 ?_))
 refine A4 (A3 (A5 Z Z) Z (A3 (E3 Z (.pure _ _ _ _)) Z (A3 (A5 Z Z) Z (A7 ?_))))
 refine k1 (k3 ?_)
 obtain ⟨lastOf,hlast⟩:∃lastOf:Nat→Span,lastOf=fun k=>if k=0 then ⟨-1,-1⟩ else p.getD (k - 1) ⟨0,0⟩:=⟨_,rfl⟩
 refine E2 (X:=Nat) (fun k=>([(0,C7 Span 2 spanC p),(1,C0 m),(2,C0 n),(8,.s (.one (.ref 8 0))),(20,C7 Span 2 spanC p),(21,C0 p.length),(22,C0 k)],[(8,.box [.p (.v (.int .i64 (lastOf k).From)),.p (.v (.int .i64 (lastOf k).To))])])) (fun k=>k≤p.length) (fun k=>p.length - k) 0 (Nat.zero_le _) ?_ ?_
 ·rw [show lastOf 0=⟨-1,-1⟩ by rw [hlast];rfl]
  exact J70 ⟨le1 rfl,le1 rfl,le1 rfl,le1 rfl,le1 rfl,le1 rfl,le1 rfl,trivial⟩ ⟨rfl,trivial⟩
 intro k hk
 dsimp only at hk ⊢
 refine k2 ?_
 refine A4 (A3 (F0 Z Z) Z (A7 ?_))
 refine k1 (k2 ?_)
 refine B6 rfl (fun ht=>?_) (fun ht=>?_)
 ·have hlt:k < p.length:=by have:=A0 ht;omega
  have hv:p[k]?=some p[k]:=by simp [hlt]
  obtain ⟨g1,g2,g3,g4⟩:=hst k hlt
  have hnext:lastOf (k+1)=p[k]:=by rw [hlast];simp [hlt]
  have hless:(lastOf k).From < p[k].From∧(lastOf k).To < p[k].To:=by
   rw [hlast]
   by_cases h0:k=0
   ·have:=g1 h0
    simp only [h0,if_true] at this ⊢
    omega
   ·have:=g2 (by omega)
    simp only [h0,if_false]
    have e:p.getD (k - 1) ⟨0,0⟩=p[k - 1]:=by simp [show k - 1 < p.length by omega]
    rw [e];exact this
  obtain ⟨c,hc⟩:∃c,c=p[k]:=⟨_,rfl⟩
  rw [←hc] at hv g3 g4 hnext hless
  obtain ⟨la,hla⟩:∃la,la=lastOf k:=⟨_,rfl⟩
  rw [←hla] at hless ⊢
  refine k5 (k1 (k2 (k3 (k2 ?_))))
  refine A4 (A3 (B4 Z (.pure _ _ _ _) Z (by omega) hv) Z (A3 (D6 Z Z) Z (C5 (E8 10 Z) Z (E7 (B2 TySz.out Z Z Z Z Z Z) (A7 ?_)))))
  refine k1 (k2 (k2 ?_))
  refine A4 (A3 (A8 Z) Z (A3 (A9 Z Z Z) Z (A3 (A8 Z) Z (A3 (A9 Z Z Z) Z (A3 (A57 Z Z) Z (A3 (A5 Z Z) Z (B1 Z Z Z Z (fun hg=>by rw [hg];exact A8 Z) ?_)))))));refine B1 Z Z Z Z (fun hg=>by rw [hg];exact A9 Z Z Z) ?_;refine B1 Z Z Z Z (fun hg=>by rw [hg];exact A5 Z Z) ?_;refine B1 Z Z Z Z (fun hg=>by rw [hg];exact A88 Z Z) ?_;refine A3 (B5 Z (fun h=>by first | rfl | (rw [h];rfl)) (fun h=>by first | rfl | (rw [h];rfl))) Z ?_;refine A3 (A5 Z Z) Z (B1 Z Z Z Z (fun hg=>by rw [hg];exact A8 Z) ?_);refine B1 Z Z Z Z (fun hg=>by rw [hg];exact A9 Z Z Z) ?_;refine B1 Z Z Z Z (fun hg=>by rw [hg];exact A8 Z) ?_;refine B1 Z Z Z Z (fun hg=>by rw [hg];exact A9 Z Z Z) ?_;refine B1 Z Z Z Z (fun hg=>by rw [hg];exact A57 Z Z) ?_;refine A3 (B5 Z (fun h=>by first | rfl | (rw [h];rfl)) (fun h=>by first | rfl | (rw [h];rfl))) Z ?_;refine A3 (A5 Z Z) Z (B1 Z Z Z Z (fun hg=>by rw [hg];exact A8 Z) ?_);refine B1 Z Z Z Z (fun hg=>by rw [hg];exact A9 Z Z Z) ?_;refine B1 Z Z Z Z (fun hg=>by rw [hg];exact A5 Z Z) ?_;refine B1 Z Z Z Z (fun hg=>by rw [hg];exact A88 Z Z) ?_;refine A3 (B5 Z (fun h=>by first | rfl | (rw [h];rfl)) (fun h=>by first | rfl | (rw [h];rfl))) Z ?_;refine A7 ?_
  refine k1 ?_
  refine B6 rfl (fun ht=>?_) (fun ht=>?_)
  ·exfalso
   simp only [or_pick] at ht
   have:=A0 ht
   omega
  ·refine k5 (k1 ?_)
   refine A4 (A3 (D1 Z Z Z) Z (E7 (B2 TySz.out Z Z Z Z Z Z) (A7 ?_)))
   refine k4 (k1 ?_)
   refine A4 (A3 (C6 Z Z (by omega)) Z (A3 (A5 Z Z) Z (A7 ?_)))
   refine k1 ?_
   refine ⟨k+1,by omega,by omega,?_⟩
   rw [hnext]
   exact J70 ⟨le1 rfl,le1 rfl,le1 rfl,le1 rfl,le1 rfl,le1 rfl,le1 rfl,trivial⟩ ⟨rfl,trivial⟩
 ·refine k6 (k2 ?_)
  refine A4 (A3 (A5 Z Z) Z (A3 (A5 Z Z) Z (A3 (A5 Z Z) Z (C9 (F28 p m n hp (by omega) (by omega) (fun s hs=>by have:=hb s hs;omega)) Z Z Z ?_))));rintro _ rfl;refine A3 (A6 Z Z) Z (A3 (A6 Z Z) Z (A7 ?_))
  refine k1 (k10 ?_)
  exact B7 (p9 rfl rfl rfl rfl rfl) rfl
theorem C76 {l:List Int} {i:Nat} (h:i < l.length):l[i]?=some (l.getD i 0):=by simp [h]
theorem G84 (a b:List Int):FnOk Tryz.prog 188 [P7 a,P7 b] (fun rs=>rs=[O9 (decide ((a.length:Int)≤4096∧(b.length:Int)≤4096))]):=by
 refine FnOk.intro Tryz.func188 (by decide) Z Z Z Z ?_
 refine k2 ?_
 refine A4 (A3 (A6 Z Z) Z (A7 ?_))
 refine k1 (k2 ?_)
 refine A4 (A3 (A5 Z Z) Z (A3 (E3 Z (.pure _ _ _ _)) Z (A3 (A57 Z Z) Z (A3 (A5 Z Z) Z (B1 Z Z Z Z (fun hg=>by rw [hg];exact A5 Z Z) ?_)))));refine B1 Z Z Z Z (fun hg=>by rw [hg];exact E3 Z (.pure _ _ _ _)) ?_;refine B1 Z Z Z Z (fun hg=>by rw [hg];exact A57 Z Z) ?_;refine A3 (B5 Z (fun h=>by first | rfl | (rw [h];rfl)) (fun h=>by first | rfl | (rw [h];rfl))) Z ?_;refine A3 (A6 Z Z) Z (A7 ?_)
 refine k1 (k10 ?_)
 exact B7 (H6 rfl rfl rfl) (by simp only [L8])
theorem F30 (a b:List Int) (ha:a.length≤1073741824):FnOk Tryz.prog 234 [P7 a,P7 b] (fun rs=>rs=[G5 (V6 a b)]):=by
 refine FnOk.intro Tryz.func234 (by decide) Z Z Z Z ?_
 refine k2 ?_
 refine A4 (A3 (A6 Z Z) Z (A7 ?_))
 refine k1 (k2 ?_)
 refine A4 (A3 (A6 Z Z) Z (A7 ?_))
 refine k1 (k2 (k3 ?_))
 refine E2 (X:=Nat) (fun k=>([(0,C7 Int 1 G7 a),(1,C7 Int 1 G7 b),(5,C0 k)],[])) (fun k=>k≤a.length∧k≤b.length∧V6 a b=k+V6 (a.drop k) (b.drop k)) (fun k=>a.length - k) 0 ⟨Nat.zero_le _,Nat.zero_le _,by simp⟩ (J70 ⟨le1 rfl,le1 rfl,le1 rfl,trivial⟩ trivial) ?_
 rintro k ⟨hk,hk2,he⟩
 dsimp only at hk hk2 he ⊢
 refine k2 (k2 ?_)
 refine E1 (by kernel_rfl) (by kernel_rfl) (B0 (A5 Z Z) Z Z (B0 (A5 Z Z) Z Z (B0 (E3 Z (.pure _ _ _ _)) Z Z (B0 (F0 Z Z) Z Z (B0 (A5 Z Z) Z Z (D7 Z Z (fun hg=>by rw [hg];exact A5 Z Z) Z Z ?_))))));refine D7 Z Z (fun hg=>by rw [hg];exact A5 Z Z) Z Z ?_;refine D7 Z Z (fun hg=>by rw [hg];exact E3 Z (.pure _ _ _ _)) Z Z ?_;refine D7 Z Z (fun hg=>by rw [hg];exact F0 Z Z) Z Z ?_;refine B0 (B5 Z (fun h=>by first | rfl | (rw [h];rfl)) (fun h=>by first | rfl | (rw [h];rfl))) Z Z ?_;refine B0 (A5 Z Z) Z Z (D7 Z Z (fun hg=>by rw [hg];exact A5 Z Z) Z Z ?_);refine D7 Z Z (fun hg=>by rw [hg];exact A5 Z Z) Z Z ?_;refine D7 Z Z (fun hg=>by have hq:=hg;(try simp at hq);rw [hg];exact B4 Z (.pure _ _ _ _) Z (by omega) (C76 (by omega))) Z Z ?_;refine D7 Z Z (fun hg=>by rw [hg];exact C8 Z Z) Z Z ?_;refine D7 Z Z (fun hg=>by rw [hg];exact A5 Z Z) Z Z ?_;refine D7 Z Z (fun hg=>by rw [hg];exact A5 Z Z) Z Z ?_;refine D7 Z Z (fun hg=>by have hq:=hg;(try simp at hq);rw [hg];exact B4 Z (.pure _ _ _ _) Z (by omega) (C76 (by omega))) Z Z ?_;refine D7 Z Z (fun hg=>by rw [hg];exact C8 Z Z) Z Z ?_;refine D7 Z Z (fun hg=>by rw [hg];exact Q0 Z Z) Z Z ?_;refine B0 (B5 Z (fun h=>by first | rfl | (rw [h];rfl)) (fun h=>by first | rfl | (rw [h];rfl))) Z Z ?_;refine L4 ?_
 refine k1 ?_
 refine B6 rfl (fun ht=>?_) (fun ht=>?_)
 ·simp only [L8] at ht
  obtain ⟨⟨h1,h2⟩,h3⟩:=A0 ht
  have h1:k < a.length:=by omega
  have h2:k < b.length:=by omega
  rw [E80 a b k h1 h2,if_pos (by simpa [h1,h2] using h3)] at he
  refine k5 (k1 (k3 ?_))
  refine A4 (A3 (A5 Z Z) Z (A3 (C6 Z Z (by omega)) Z (A3 (A6 Z Z) Z (A7 ?_))))
  refine k4 (k1 ?_)
  exact ⟨k+1,⟨by omega,by omega,by omega⟩,by omega,J70 ⟨le1 rfl,le1 rfl,le1 rfl,trivial⟩ trivial⟩
 ·simp only [L8] at ht
  have h:=A1 ht
  have h0:V6 (a.drop k) (b.drop k)=0:=by
   by_cases hc:k < a.length∧k < b.length
   ·obtain ⟨h1,h2⟩:=hc
    rw [E80 a b k h1 h2,if_neg]
    intro h3
    exact h ⟨⟨by omega,by omega⟩,by simpa [h1,h2] using h3⟩
   ·exact J00 a b k hc
  rw [h0] at he
  refine k6 (k2 ?_)
  refine A4 (A3 (A5 Z Z) Z (A3 (A6 Z Z) Z (A7 ?_)))
  refine k1 (k10 ?_)
  exact B7 (H6 rfl rfl rfl) (by rw [he];rfl)
theorem F31 (a b:List Int) (ha:a.length≤4096) (hb:b.length≤4096):FnOk Tryz.prog 235 [P7 a,P7 b] (fun rs=>rs=[pU16s (flat a b (fun _ _=>true))]):=by
 obtain ⟨W,hW⟩:∃W,W=b.length+1:=⟨_,rfl⟩
 have hmul:∀i:Nat,i≤a.length+1→0≤(i:Int)*(W:Int)∧(i:Int)*(W:Int)≤16789506:=by
  intro i hi
  have h1:i*W≤4098*4097:=Nat.mul_le_mul (by omega) (by omega)
  have h2:((i*W:Nat):Int)=(i:Int)*W:=by push_cast;rfl
  omega
 have hcast:∀i:Nat,(i:Int)*(W:Int)=((i*W:Nat):Int):=fun i=>by push_cast;rfl
 have hlen:∀done,(flat a b done).length=(a.length+1)*W:=fun done=>by rw [D73,hW]
 have hdl:∀i j,dist (a.drop i) (b.drop j)≤8192:=fun i j=>by
  have:=G19 (a.drop i) (b.drop j)
  simp only [K24] at this
  omega
 have hin:∀i j:Nat,i≤a.length→j≤b.length→i*W+j < (a.length+1)*W:=fun i j hi hj=>by rw [hW];exact (E06 hi hj).1
 refine FnOk.intro Tryz.func235 (by decide) Z Z Z Z ?_
 refine k2 ?_
 refine A4 (A3 (A6 Z Z) Z (A7 ?_))
 refine k1 (k2 ?_)
 refine A4 (A3 (A5 Z Z) Z (A3 (E3 Z (.pure _ _ _ _)) Z (A3 (C6 Z Z (by omega)) Z (A3 (A6 Z Z) Z (A7 ?_)))))
 refine L1 ?_
 refine M7 [(0,C7 Int 1 G7 a),(1,C7 Int 1 G7 b),(5,C0 W)] [] (J70 ⟨⟨_,rfl,.same _⟩,⟨_,rfl,.same _⟩,⟨_,rfl,.eq (by rw [hW];simp)⟩,trivial⟩ trivial) ?_
 have hm1:=hmul (a.length+1) (Nat.le_refl _)
 have e1:((a.length:Int)+1)=((a.length+1:Nat):Int):=by omega
 refine k2 ?_
 refine A4 (A3 (A5 Z Z) Z (A3 (E3 Z (.pure _ _ _ _)) Z (A3 (C6 Z Z (by omega)) Z (A3 (A5 Z Z) Z (A3 (C16 Z Z (by (rw [e1];omega))) Z ?_)))));refine C5 (A59 20 Int C49 0 Z Z (by (rw [e1];omega)) (by (rw [e1];omega)) (fun _=>by first | exact ⟨⟨rfl,rfl⟩,trivial⟩ | exact ⟨S2 _ _ _,trivial⟩) Z) Z ?_;refine A3 (A6 Z Z) Z (A7 ?_)
 refine L1 ?_
 refine M7 [(0,C7 Int 1 G7 a),(1,C7 Int 1 G7 b),(5,C0 W),(6,.s (.one (.mut 20)))] [(20,.arr Int 1 C49 (flat a b (fun _ _=>false)))] ?_ ?_
 ·refine J70 ⟨⟨_,rfl,.same _⟩,⟨_,rfl,.same _⟩,⟨_,rfl,.same _⟩,⟨_,rfl,.same _⟩,trivial⟩ ⟨?_,trivial⟩
  rw [←I99,e1,hcast,K12,hW];rfl
 refine k2 (k2 ?_)
 refine A4 (A3 (A5 Z Z) Z (A3 (E3 Z (.pure _ _ _ _)) Z (A3 (A5 Z Z) Z (A7 ?_))))
 refine k1 (k3 ?_)
 refine E2 (X:=Nat) (fun j=>([(0,C7 Int 1 G7 a),(1,C7 Int 1 G7 b),(5,C0 W),(6,.s (.one (.mut 20))),(22,C0 b.length),(23,C0 j)],[(20,.arr Int 1 C49 (flat a b (fun r q=>decide (r=a.length∧q < j))))])) (fun j=>j≤b.length) (fun j=>b.length - j) 0 (Nat.zero_le _) ?_ ?_
 ·rw [show flat a b (fun r q=>decide (r=a.length∧q < 0))=flat a b (fun _ _=>false) from B34 fun r q _ _=>.inl (by simp)]
  exact J70 ⟨le1 rfl,le1 rfl,le1 rfl,le1 rfl,le1 rfl,le1 rfl,trivial⟩ ⟨rfl,trivial⟩
 intro j hj
 dsimp only at hj ⊢
 refine k2 ?_
 refine A4 (A3 (F0 Z Z) Z (A7 ?_))
 refine k1 (k2 ?_)
 refine B6 rfl (fun ht=>?_) (fun ht=>?_)
 ·have hlt:j < b.length:=by have:=A0 ht;omega
  have hmm:=hmul a.length (by omega)
  have hix:=hin a.length j (Nat.le_refl _) (by omega)
  have hc1:=hcast a.length
  have hL:=hlen (fun r q=>decide (r=a.length∧q < j))
  have hst:(flat a b (fun r q=>decide (r=a.length∧q < j))).set (((a.length:Int)*(W:Int)+(j:Int)).toNat) (IntKind.u16.wrap ((b.length:Int) - j))=flat a b (fun r q=>decide (r=a.length∧q < j+1)):=by
   rw [show ((a.length:Int)*(W:Int)+(j:Int)).toNat=a.length*(b.length+1)+j by rw [hc1,hW];omega,H94 _ (by omega)]
   refine H19 (Nat.le_refl _) (by omega) ?_ (by simp) (fun r q hr hq hne=>?_)
   ·rw [K15 (Nat.le_refl a.length),dist,K24];omega
   ·rw [decide_eq_decide];omega
  refine k5 (k1 (k2 (k3 (k2 ?_))))
  refine A4 (A3 (A5 Z Z) Z (A3 (A6 Z Z) Z (A7 ?_)))
  refine k1 ?_
  refine A4 (A3 (A5 Z Z) Z (A3 (A5 Z Z) Z (A3 (E3 Z (.pure _ _ _ _)) Z (A3 (A5 Z Z) Z (A3 (C16 Z Z (by omega)) Z (A3 (A5 Z Z) Z (A3 (C6 Z Z (by omega)) Z (A3 (A5 Z Z) Z (A3 (E3 Z (.pure _ _ _ _)) Z (A3 (A5 Z Z) Z (A3 (N5 Z Z (by omega)) Z (A3 (b9 Z) Z (A3 (H9 Z Z Z (by omega) (by (rw [hL];omega))) Z ?_)))))))))))));refine E7 (L2 TySz.out Z Z (by (rw [hL];omega)) Z Z) ?_;refine A7 ?_
  refine k4 (k1 ?_)
  refine A4 (A3 (C6 Z Z (by omega)) Z (A3 (A5 Z Z) Z (A7 ?_)))
  refine k1 ?_
  refine ⟨j+1,by omega,by omega,?_⟩
  rw [←hst]
  exact J70 ⟨le1 rfl,le1 rfl,le1 rfl,le1 rfl,le1 rfl,le1 rfl,trivial⟩ ⟨rfl,trivial⟩
 ·have hj':j=b.length:=by have:=A1 ht;omega
  subst hj'
  rw [show flat a b (fun r q=>decide (r=a.length∧q < b.length))=flat a b (fun r _=>decide (a.length≤r)) from B34 fun r q hr hq=>by
   by_cases h:r=a.length∧q=b.length
   ·right;rw [h.1,h.2,K15 (Nat.le_refl _),K15 (Nat.le_refl _)];exact C81 []
   ·left;rw [decide_eq_decide];omega]
  refine k6 (k2 (k2 ?_))
  refine A4 (A3 (A5 Z Z) Z (A3 (E3 Z (.pure _ _ _ _)) Z (A3 (N5 Z Z (by omega)) Z (A3 (A6 Z Z) Z (A7 ?_)))))
  refine k1 (k3 ?_)
  refine E2 (X:=Nat) (fun i=>([(0,C7 Int 1 G7 a),(1,C7 Int 1 G7 b),(5,C0 W),(6,.s (.one (.mut 20))),(8,C0 ((i:Int) - 1))],[(20,.arr Int 1 C49 (flat a b (fun r _=>decide (i≤r))))])) (fun i=>i≤a.length) (fun i=>i) a.length (Nat.le_refl _) (J70 ⟨le1 rfl,le1 rfl,le1 rfl,le1 rfl,le1 rfl,trivial⟩ ⟨rfl,trivial⟩) ?_
  intro i hi
  dsimp only at hi ⊢
  refine k2 (k2 ?_)
  refine A4 (A3 (A5 Z Z) Z (A3 (A88 Z Z) Z (A7 ?_)))
  refine k1 ?_
  refine B6 rfl (fun ht=>?_) (fun ht=>?_)
  ·obtain ⟨i,rfl⟩:∃r,i=r+1:=⟨i - 1,by have:=A0 ht;omega⟩
   refine M7 [(0,C7 Int 1 G7 a),(1,C7 Int 1 G7 b),(5,C0 W),(6,.s (.one (.mut 20))),(8,C0 i)] [(20,.arr Int 1 C49 (flat a b (fun r _=>decide (i+1≤r))))] (J70 ⟨le1 rfl,le1 rfl,le1 rfl,le1 rfl,leE Z (by first | (simp;done) | (simp;omega)),trivial⟩ ⟨rfl,trivial⟩) ?_
   obtain ⟨P,hP⟩:∃P,P=i*W:=⟨_,rfl⟩
   obtain ⟨N,hN⟩:∃N,N=(a.length+1)*W:=⟨_,rfl⟩
   have c0:(i:Int)*(W:Int)=(P:Int):=by rw [hP];exact hcast i
   have c1:((i:Int)+1)*(W:Int)=(P:Int)+W:=by rw [Int.add_mul,Int.one_mul,c0]
   have c2:((i:Int)+2)*(W:Int)=(P:Int)+W+W:=by rw [Int.add_mul,c0];omega
   have hPN:P+W+W≤N:=by
    have h1:(i+2)*W≤(a.length+1)*W:=K20 _ (by omega)
    have h2:(i+2)*W=i*W+W+W:=by rw [K26];omega
    omega
   have hN2:N≤16789506:=by have:=hmul (a.length+1) (Nat.le_refl _);have:=hcast (a.length+1);omega
   have hL:∀done,(flat a b done).length=N:=fun done=>by rw [hlen,hN]
   refine k5 (k1 (k2 (k3 (k2 ?_))))
   refine E1 (by kernel_rfl) (by kernel_rfl) (B0 (A5 Z Z) Z Z (B0 (A5 Z Z) Z Z (B0 (A5 Z Z) Z Z (B0 (C16 Z Z (by (rw [c0];omega))) Z Z ?_))));refine B0 (A5 Z Z) Z Z (B0 (C6 Z Z (by omega)) Z Z (B0 (A5 Z Z) Z Z (B0 (C16 Z Z (by (rw [c1];omega))) Z Z ?_)));refine B0 (B60 Z Z Z Z (by (first | (rw [c0];omega) | (rw [c0,c1];omega) | (rw [c1,hL];omega))) (by (first | (rw [c0];omega) | (rw [c0,c1];omega) | (rw [c1,hL];omega))) (by (first | (rw [c0];omega) | (rw [c0,c1];omega) | (rw [c1,hL];omega)))) Z Z ?_;refine B0 (A5 Z Z) Z Z (B0 (A5 Z Z) Z Z (B0 (C6 Z Z (by omega)) Z Z (B0 (A5 Z Z) Z Z (B0 (C16 Z Z (by (rw [c1];omega))) Z Z ?_))));refine B0 (A5 Z Z) Z Z (B0 (C6 Z Z (by omega)) Z Z (B0 (A5 Z Z) Z Z (B0 (C16 Z Z (by (rw [c2];omega))) Z Z ?_)));refine B0 (B60 Z Z Z Z (by (first | (rw [c1];omega) | (rw [c1,c2];omega) | (rw [c2,hL];omega))) (by (first | (rw [c1];omega) | (rw [c1,c2];omega) | (rw [c2,hL];omega))) (by (first | (rw [c1];omega) | (rw [c1,c2];omega) | (rw [c2,hL];omega)))) Z Z ?_;refine B0 (A6 Z Z) Z Z (B0 (A6 Z Z) Z Z (L4 ?_))
   refine L1 ?_
   have hdone:∀j,j≤b.length→(flat a b (fun r q=>decide (i+1≤r∨(r=i∧j≤q))))[P+j]?=some (dist (a.drop i) (b.drop j):Int):=fun j hj=>by
    rw [hP,hW,E79 (by omega) hj,if_pos (by simp)]
   have hbelow:∀j j',j≤b.length→(flat a b (fun r q=>decide (i+1≤r∨(r=i∧j'≤q))))[P+W+j]?=some (dist (a.drop (i+1)) (b.drop j):Int):=fun j j' hj=>by
    rw [show P+W+j=(i+1)*(b.length+1)+j by rw [hP,hW,K26];omega,E79 (by omega) hj,if_pos (by simp)]
   refine M7 [(0,C7 Int 1 G7 a),(1,C7 Int 1 G7 b),(5,C0 W),(6,.s (.one (.mut 20))),(8,C0 i),(9,.s (.one (.msl 20 1 P W))),(10,.s (.one (.msl 20 1 (P+W) W)))] [(20,.arr Int 1 C49 (flat a b (fun r _=>decide (i+1≤r))))] ?_ ?_
   ·refine J70 ⟨⟨_,rfl,.same _⟩,⟨_,rfl,.same _⟩,⟨_,rfl,.same _⟩,⟨_,rfl,.same _⟩,⟨_,rfl,.same _⟩,⟨_,rfl,.eq ?_⟩,⟨_,rfl,.eq ?_⟩,trivial⟩ ⟨rfl,trivial⟩
    ·rw [c0,c1];congr 3<;>omega
    ·rw [c1,c2];congr 3<;>omega
   have hset:∀(done done':Nat→Nat→Bool) (j:Nat) (v:Int),j≤b.length→v=(dist (a.drop i) (b.drop j):Int)→done' i j=true→(∀r q,r≤a.length→q≤b.length→¬(r=i∧q=j)→done' r q=done r q)→(flat a b done).set (P+j) v=flat a b done':=by
    intro done done' j v hj hv h1 h2
    rw [hP,hW];exact H19 (by omega) hj hv h1 h2
   have hs0:(flat a b (fun r _=>decide (i+1≤r))).set (P+((b.length:Nat):Int).toNat) (IntKind.u16.wrap ((a.length:Int) - i))=flat a b (fun r q=>decide (i+1≤r∨(r=i∧b.length≤q))):=by
    rw [K12,H94 _ (by omega)]
    refine hset _ _ _ _ (Nat.le_refl _) ?_ (by simp) (fun r q hr hq hne=>?_)
    ·rw [K15 (Nat.le_refl b.length),C81,K24];omega
    ·rw [decide_eq_decide];omega
   refine k2 ?_
   refine A4 (A3 (A5 Z Z) Z (A3 (A5 Z Z) Z (A3 (E3 Z (.pure _ _ _ _)) Z (A3 (A5 Z Z) Z (A3 (E3 Z (.pure _ _ _ _)) Z (A3 (A5 Z Z) Z (A3 (N5 Z Z (by omega)) Z (A3 (b9 Z) Z (A3 (S6 Z Z (by omega) (by omega)) Z (E7 (L2 TySz.out Z Z (by (rw [hL];omega)) Z Z) ?_))))))))));refine A7 ?_
   rw [hs0]
   refine k1 (k2 ?_)
   refine A4 (A3 (A5 Z Z) Z (A3 (E3 Z (.pure _ _ _ _)) Z (A3 (N5 Z Z (by omega)) Z (A3 (A6 Z Z) Z (A7 ?_)))))
   refine k1 (k3 ?_)
   refine E2 (X:=Nat) (fun j=>([(0,C7 Int 1 G7 a),(1,C7 Int 1 G7 b),(5,C0 W),(6,.s (.one (.mut 20))),(8,C0 i),(9,.s (.one (.msl 20 1 P W))),(10,.s (.one (.msl 20 1 (P+W) W))),(11,C0 ((j:Int) - 1))],[(20,.arr Int 1 C49 (flat a b (fun r q=>decide (i+1≤r∨(r=i∧j≤q)))))])) (fun j=>j≤b.length) (fun j=>j) b.length (Nat.le_refl _) (J70 ⟨le1 rfl,le1 rfl,le1 rfl,le1 rfl,le1 rfl,le1 rfl,le1 rfl,le1 rfl,trivial⟩ ⟨rfl,trivial⟩) ?_
   intro j hj
   dsimp only at hj ⊢
   refine k2 (k2 ?_)
   refine A4 (A3 (A5 Z Z) Z (A3 (A88 Z Z) Z (A7 ?_)))
   refine k1 ?_
   refine B6 rfl (fun ht=>?_) (fun ht=>?_)
   ·obtain ⟨j,rfl⟩:∃r,j=r+1:=⟨j - 1,by have:=A0 ht;omega⟩
    have hva:a[i]?=some a[i]:=by simp [show i < a.length by omega]
    have hvb:b[j]?=some b[j]:=by simp [show j < b.length by omega]
    have hdd:=I89 a b i j (by omega) (by omega)
    have hd1:=hdl i j
    have hd2:=hdl (i+1) j
    have hd3:=hdl i (j+1)
    have hd4:=hdl (i+1) (j+1)
    obtain ⟨u,hu⟩:∃u,u=a[i]:=⟨_,rfl⟩
    obtain ⟨v,hv⟩:∃v,v=b[j]:=⟨_,rfl⟩
    rw [←hu] at hva hdd
    rw [←hv] at hvb hdd
    have hst:(flat a b (fun r q=>decide (i+1≤r∨(r=i∧j+1≤q)))).set (P+j) (dist (a.drop i) (b.drop j):Int)=flat a b (fun r q=>decide (i+1≤r∨(r=i∧j≤q))):=hset _ _ _ _ (by omega) rfl (by simp) (fun r q hr hq hne=>by rw [decide_eq_decide];omega)
    refine M7 [(0,C7 Int 1 G7 a),(1,C7 Int 1 G7 b),(5,C0 W),(6,.s (.one (.mut 20))),(8,C0 i),(9,.s (.one (.msl 20 1 P W))),(10,.s (.one (.msl 20 1 (P+W) W))),(11,C0 j)] [(20,.arr Int 1 C49 (flat a b (fun r q=>decide (i+1≤r∨(r=i∧j+1≤q)))))] (J70 ⟨le1 rfl,le1 rfl,le1 rfl,le1 rfl,le1 rfl,le1 rfl,le1 rfl,leE Z (by first | (simp;done) | (simp;omega)),trivial⟩ ⟨rfl,trivial⟩) ?_
    refine c_skip ?_
    refine L1 ?_
    refine A77 [(0,C7 Int 1 G7 a),(1,C7 Int 1 G7 b),(5,C0 W),(6,.s (.one (.mut 20))),(8,C0 i),(9,.s (.one (.msl 20 1 P W))),(10,.s (.one (.msl 20 1 (P+W) W))),(11,C0 j)] [(20,.arr Int 1 C49 (flat a b (fun r q=>decide (i+1≤r∨(r=i∧j≤q)))))] ?_ ?_
    ·refine k3 (k2 ?_)
     refine E1 (by kernel_rfl) (by kernel_rfl) (B0 (A5 Z Z) Z Z (B0 (A5 Z Z) Z Z (B0 (B4 Z (.pure _ _ _ _) Z (by omega) hva) Z Z (B0 (C8 Z Z) Z Z (B0 (A5 Z Z) Z Z (B0 (A5 Z Z) Z Z (B0 (B4 Z (.pure _ _ _ _) Z (by omega) hvb) Z Z (B0 (C8 Z Z) Z Z (B0 (Q0 Z Z) Z Z (L4 ?_))))))))))
     refine k1 ?_
     refine B6 rfl (fun ht=>?_) (fun ht=>?_)
     ·rw [if_pos (A0 ht)] at hdd
      rw [hdd] at hst
      have hg:=hbelow (j+1) (j+1) (by omega)
      have hgi:(flat a b (fun r q=>decide (i+1≤r∨(r=i∧j+1≤q))))[P+W+((j:Int)+1).toNat]?=some (dist (a.drop (i+1)) (b.drop (j+1)):Int):=by rw [show ((j:Int)+1).toNat=j+1 by omega];exact hg
      skip
      refine A4 (A3 (A5 Z Z) Z (A3 (A5 Z Z) Z (A3 (A5 Z Z) Z (A3 (A5 Z Z) Z (A3 (C6 Z Z (by omega)) Z (A3 (S6 Z Z (by omega) (by omega)) Z (A3 (V2 Z Z hgi Z) Z (A3 (S6 Z Z (by omega) (by omega)) Z (E7 (L2 TySz.out Z Z (by (rw [hL];omega)) Z Z) ?_)))))))));refine A7 ?_
      refine k4 (k1 ?_)
      rw [show P+((j:Nat):Int).toNat=P+j by omega,hst]
      exact J70 ⟨le1 rfl,le1 rfl,le1 rfl,le1 rfl,le1 rfl,le1 rfl,le1 rfl,le1 rfl,trivial⟩ ⟨rfl,trivial⟩
     ·rw [if_neg (A1 ht)] at hdd
      have hg1:=hbelow j (j+1) (by omega)
      have hg2:=hdone (j+1) (by omega)
      have hgi1:(flat a b (fun r q=>decide (i+1≤r∨(r=i∧j+1≤q))))[P+W+((j:Nat):Int).toNat]?=some (dist (a.drop (i+1)) (b.drop j):Int):=by rw [K12];exact hg1
      have hgi2:(flat a b (fun r q=>decide (i+1≤r∨(r=i∧j+1≤q))))[P+((j:Int)+1).toNat]?=some (dist (a.drop i) (b.drop (j+1)):Int):=by rw [show ((j:Int)+1).toNat=j+1 by omega];exact hg2
      have hval:IntKind.u16.wrap ((if (dist (a.drop i) (b.drop (j+1)):Int) < (dist (a.drop (i+1)) (b.drop j):Int) then (dist (a.drop i) (b.drop (j+1)):Int) else (dist (a.drop (i+1)) (b.drop j):Int))+1)=(dist (a.drop i) (b.drop j):Int):=by
       rw [H94 _ (by split<;>omega),hdd];split<;>omega
      skip
      refine E1 (by kernel_rfl) (by kernel_rfl) (B0 (A5 Z Z) Z Z (B0 (A5 Z Z) Z Z (B0 (A5 Z Z) Z Z (B0 (A5 Z Z) Z Z (B0 (S6 Z Z (by omega) (by omega)) Z Z (B0 (V2 Z Z hgi1 Z) Z Z (B0 (A5 Z Z) Z Z (B0 (A5 Z Z) Z Z (B0 (C6 Z Z (by omega)) Z Z (B0 (S6 Z Z (by omega) (by omega)) Z Z (B0 (V2 Z Z hgi2 Z) Z Z (B0 (G54 Z Z) Z Z (B0 (C57 Z Z) Z Z (B0 (S6 Z Z (by omega) (by omega)) Z Z (B39 (L2 TySz.out Z Z (by (rw [hL];omega)) Z Z) Z ?_)))))))))))))));refine L4 ?_
      refine k4 (k1 ?_)
      rw [hval,show P+((j:Nat):Int).toNat=P+j by omega,hst]
      exact J70 ⟨le1 rfl,le1 rfl,le1 rfl,le1 rfl,le1 rfl,le1 rfl,le1 rfl,le1 rfl,trivial⟩ ⟨rfl,trivial⟩
    ·skip
     refine A4 (A3 (A5 Z Z) Z (A3 (N5 Z Z (by omega)) Z (A3 (A6 Z Z) Z (A7 ?_))))
     refine k1 ?_
     exact ⟨j,by omega,by omega,J70 ⟨le1 rfl,le1 rfl,le1 rfl,le1 rfl,le1 rfl,le1 rfl,le1 rfl,le1 rfl,trivial⟩ ⟨rfl,trivial⟩⟩
   ·obtain rfl:j=0:=by have:=A1 ht;omega
    rw [show flat a b (fun r q=>decide (i+1≤r∨(r=i∧0≤q)))=flat a b (fun r _=>decide (i≤r)) from B34 fun r q _ _=>.inl (by rw [decide_eq_decide];omega)]
    refine k6 (k7 (k7 (k8 Z (k4 (k1 ?_)))))
    refine A4 (A3 (A5 Z Z) Z (A3 (N5 Z Z (by omega)) Z (A3 (A6 Z Z) Z (A7 ?_))))
    refine k1 ?_
    exact ⟨i,by omega,by omega,J70 ⟨le1 rfl,le1 rfl,le1 rfl,le1 rfl,le1 rfl,trivial⟩ ⟨rfl,trivial⟩⟩
  ·obtain rfl:i=0:=by have:=A1 ht;omega
   rw [show flat a b (fun r _=>decide (0≤r))=flat a b (fun _ _=>true) from B34 fun r q _ _=>.inl (by simp)]
   refine G6 (Sees.freeze (k:=20) Z) ?_
   refine k6 (k2 ?_)
   refine A4 (A3 (A5 Z Z) Z (A3 (A6 Z Z) Z (A7 ?_)))
   refine k1 (k10 ?_)
   exact B7 (H6 rfl rfl rfl) rfl
theorem i64_id {n:Int} (h:-9223372036854775808≤n∧n≤9223372036854775807):IntKind.i64.wrap n=n:=IntWalk.i64_in _ h
theorem I30 {gf:Fr} {ob:Obs} (a b:List Int) (i j:Nat) (ha:a.length≤4096) (hb:b.length≤4096) (hi:i≤a.length) (hj:j≤b.length) (h8:C3 ob 8=some (.box [.p (.list Int 1 C49 (flat a b (fun _ _=>true)))])) (h3:C3 ob 3=some (.box [.p (.list Int 1 G7 b)])) :
  AL.Met Tryz.prog 236 [.one (.p (.v (.int .i64 i))),.one (.p (.v (.int .i64 j))),.one (.ref 8 0),.one (.ref 3 0)] gf ob [] (fun rs ob'=>rs=[.one (.p (.v (.int .i64 (dist (a.drop i) (b.drop j):Int))))]∧ob'=ob):=by
 have hg:=E79 (a:=a) (b:=b) (done:=fun _ _=>true) hi hj
 rw [if_pos rfl] at hg
 have hin:=(E06 (a:=a) (b:=b) hi hj).1
 have hL:=D73 a b (fun _ _=>true)
 have e1:(i:Int)*((b.length:Int)+1)=((i*(b.length+1):Nat):Int):=by push_cast;rfl
 have hbd:i*(b.length+1)≤4096*4097:=Nat.mul_le_mul (by omega) (by omega)
 have hbd2:(a.length+1)*(b.length+1)≤4097*4097:=Nat.mul_le_mul (by omega) (by omega)
 have hgi:(flat a b (fun _ _=>true))[((i:Int)*((b.length:Int)+1)+j).toNat]?=some (dist (a.drop i) (b.drop j):Int):=by
  rw [e1,show (((i*(b.length+1):Nat):Int)+j).toNat=i*(b.length+1)+j by omega];exact hg
 have hd:=G19 (a.drop i) (b.drop j)
 simp only [K24] at hd
 refine AL.Met.intro Tryz.func236 (by decide) Z Z Z ?_
 refine k2 ?_
 refine A4 (A3 (A6 Z Z) Z (A7 ?_))
 refine k1 (k2 ?_)
 refine A4 (A3 (A9 Z h8 Z) Z (A3 (A5 Z Z) Z (A3 (A9 Z h3 Z) Z (A3 (E3 Z (.pure _ _ _ _)) Z (A3 (C6 Z Z (by omega)) Z (A3 (C16 Z Z (by (rw [e1];omega))) Z ?_))))));refine A3 (A5 Z Z) Z (A3 (C6 Z Z (by (rw [e1];omega))) Z ?_);refine A3 (B4 Z (.pure _ _ _ _) Z (by omega) hgi) Z (A3 (C8 Z Z) Z (A3 (b9 Z) Z (A3 (A6 Z Z) Z (A7 ?_))))
 rw [i64_id (by omega)]
 refine k1 (k10 ?_)
 exact K8 (Y6 rfl rfl) (by repeat (first | exact D5 | refine D4 rfl ?_ | refine F4 _ ?_)) (fun _ _ h=>h) ⟨rfl,rfl⟩
theorem J34 (a b:List Int) (ha:a.length≤4096) (hb:b.length≤4096):FnOk Tryz.prog 190 [P7 a,P7 b] (fun rs=>rs=[pSpans (G9 0 0 a b)]):=by
 obtain ⟨n,hn⟩:∃n,n=V6 a b:=⟨_,rfl⟩
 have hnl:=H20 a b
 rw [←hn] at hnl
 have hbeg:=E81 a b 0 0
 rw [←hn] at hbeg
 refine FnOk.intro Tryz.func190 (by decide) Z Z Z Z ?_
 refine k2 ?_
 refine A4 (C5 (Q1 3 Z Z Z) Z (A3 (A6 Z Z) Z (A7 ?_)))
 refine k1 (k2 ?_)
 refine A4 (C5 (A02 5 _ spanC Z) Z (A7 ?_))
 refine k1 (k2 ?_)
 refine A4 (A3 (A5 Z Z) Z (A3 (A9 Z Z Z) Z (C9 (F30 a b (by omega)) Z Z Z ?_)));rintro _ rfl;refine A3 (A6 Z Z) Z (A7 ?_)
 rw [←hn]
 refine k1 (k2 (k2 ?_))
 refine A4 (A3 (A5 Z Z) Z (A3 (A5 Z Z) Z (A7 ?_)))
 refine k1 (k3 ?_)
 refine E2 (X:=Nat) (fun k=>([(0,C7 Int 1 G7 a),(3,.s (.one (.ref 3 0))),(5,.s (.one (.buf 5 Span 2 spanC (M3 0 0 k)))),(6,C0 n),(15,C0 n),(16,C0 k)],[(3,.box [.p (.list Int 1 G7 b)]),(5,.spare (M3 0 0 k).length 2 88)])) (fun k=>k≤n) (fun k=>n - k) 0 (Nat.zero_le _) (J70 ⟨le1 rfl,le1 rfl,le1 rfl,le1 rfl,le1 rfl,le1 rfl,trivial⟩ ⟨rfl,rfl,trivial⟩) ?_
 intro k hk
 dsimp only at hk ⊢
 have hrl:=Z0 0 0 k
 refine k2 ?_
 refine A4 (A3 (F0 Z Z) Z (A7 ?_))
 refine k1 (k2 ?_)
 refine B6 rfl (fun ht=>?_) (fun ht=>?_)
 ·have hlt:k < n:=by have:=A0 ht;omega
  have hsn:=C82 0 0 k
  refine k5 (k1 (k2 (k3 (k2 ?_))))
  refine A4 (A3 (A5 Z Z) Z (A3 (A6 Z Z) Z (A7 ?_)))
  refine k1 ?_
  refine A4 (A3 (A5 Z Z) Z (A3 (A5 Z Z) Z (A3 (A5 Z Z) Z (A3 (F9 Z) Z (A3 (E6 (c:=spanC) (ys:=[⟨(k:Int),(k:Int)⟩]) (F3 Z Z Z Z I6) Z Z Z) Z (C5 (I9 Z Z Z (.pure _ _ _ _) (by (simp only [K07,K10];omega)) Z) Z (A3 (A6 Z Z) Z (A7 ?_))))))))
  refine k4 (k1 ?_)
  refine A4 (A3 (C6 Z Z (by omega)) Z (A3 (A5 Z Z) Z (A7 ?_)))
  refine k1 ?_
  refine ⟨k+1,by omega,by omega,?_⟩
  rw [hsn,show (0:Int)+(k:Int)=k by omega]
  exact J70 ⟨le1 rfl,le1 rfl,le1 rfl,le1 rfl,le1 rfl,le1 rfl,trivial⟩ ⟨rfl,rfl,trivial⟩
 have hk':k=n:=by have:=A1 ht;omega
 subst hk'
 obtain ⟨a',ha'⟩:∃a',a'=a.drop k:=⟨_,rfl⟩
 obtain ⟨b',hb'⟩:∃b',b'=b.drop k:=⟨_,rfl⟩
 have hal:a'.length≤4096:=by rw [ha',K24];omega
 have hbl:b'.length≤4096:=by rw [hb',K24];omega
 rw [Int.zero_add,←ha',←hb'] at hbeg
 refine k6 (k2 ?_)
 refine E1 (by kernel_rfl) (by kernel_rfl) (B0 (A5 Z Z) Z Z (B0 (A5 Z Z) Z Z (B0 (B91 Z (.pure _ _ _ _) Z (by omega) (by omega)) Z Z (B0 (A9 Z Z Z) Z Z (B0 (A5 Z Z) Z Z (B0 (B91 Z (.pure _ _ _ _) Z (by omega) (by omega)) Z Z (B0 (A6 Z Z) Z Z (B39 (B2 TySz.out Z Z Z Z Z Z) Z (L4 ?_)))))))))
 rw [K12,←ha',←hb']
 refine k1 (k2 ?_)
 refine A4 (A3 (A5 Z Z) Z (A3 (A9 Z Z Z) Z (C9 (F31 a' b' hal hbl) Z Z Z ?_)));rintro _ rfl;refine C5 (E8 8 Z) Z (E7 (B2 TySz.out Z Z Z Z Z Z) (A7 ?_))
 refine k1 (k2 ?_)
 refine A4 (A3 (A44 Z Z) Z (A3 (A6 Z Z) Z (A7 ?_)))
 refine k1 (k2 (k2 ?_))
 refine A4 (A3 (A6 Z Z) Z (A3 (A6 Z Z) Z (A7 ?_)))
 refine k1 (k3 ?_)
 refine E2 (X:=Nat × Nat × List Span) (fun x=>([(0,C7 Int 1 G7 a'),(3,.s (.one (.ref 3 0))),(5,.s (.one (.buf 5 Span 2 spanC x.2.2))),(6,C0 k),(8,.s (.one (.ref 8 0))),(9,.s (.one (.clo 236 [] [(8,0),(3,0)]))),(10,C0 x.1),(11,C0 x.2.1)],[(3,.box [.p (.list Int 1 G7 b')]),(5,.spare x.2.2.length 2 88),(8,.box [.p (.list Int 1 C49 (flat a' b' (fun _ _=>true)))])])) (fun x=>x.1≤a'.length∧x.2.1≤b'.length∧x.2.2.length≤k+x.1∧G9 0 0 a b=x.2.2++G9 (k+x.1) (k+x.2.1) (a'.drop x.1) (b'.drop x.2.1)) (fun x=>(a'.length - x.1)+(b'.length - x.2.1)) (0,0,M3 0 0 k) ⟨Nat.zero_le _,Nat.zero_le _,by rw [hrl];exact Nat.le_refl _,by simpa using hbeg⟩ (J70 ⟨le1 rfl,le1 rfl,le1 rfl,le1 rfl,le1 rfl,le1 rfl,le1 rfl,le1 rfl,trivial⟩ ⟨rfl,rfl,rfl,trivial⟩) ?_
 rintro ⟨i,j,out⟩ ⟨hi,hj,hol,he⟩
 dsimp only at hi hj hol he ⊢
 refine k2 (k2 ?_)
 refine A4 (A3 (A5 Z Z) Z (A3 (A5 Z Z) Z (A3 (E3 Z (.pure _ _ _ _)) Z (A3 (F0 Z Z) Z (A3 (A5 Z Z) Z (B1 Z Z Z Z (fun hg=>by rw [hg];exact A5 Z Z) ?_))))));refine B1 Z Z Z Z (fun hg=>by rw [hg];exact A9 Z Z Z) ?_;refine B1 Z Z Z Z (fun hg=>by rw [hg];exact E3 Z (.pure _ _ _ _)) ?_;refine B1 Z Z Z Z (fun hg=>by rw [hg];exact F0 Z Z) ?_;refine A3 (B5 Z (fun h=>by first | rfl | (rw [h];rfl)) (fun h=>by first | rfl | (rw [h];rfl))) Z ?_;refine A7 ?_
 refine k1 ?_
 refine B6 rfl (fun ht=>?_) (fun ht=>?_)
 ·simp only [or_pick] at ht
  have hcond:=A0 ht
  refine M7 [(0,C7 Int 1 G7 a'),(3,.s (.one (.ref 3 0))),(5,.s (.one (.buf 5 Span 2 spanC out))),(6,C0 k),(8,.s (.one (.ref 8 0))),(9,.s (.one (.clo 236 [] [(8,0),(3,0)]))),(10,C0 i),(11,C0 j)] [(3,.box [.p (.list Int 1 G7 b')]),(5,.spare out.length 2 88),(8,.box [.p (.list Int 1 C49 (flat a' b' (fun _ _=>true)))])] (J70 ⟨le1 rfl,le1 rfl,le1 rfl,le1 rfl,le1 rfl,le1 rfl,le1 rfl,le1 rfl,trivial⟩ ⟨rfl,rfl,rfl,trivial⟩) ?_
  refine k5 (k1 (k3 (k3 (k2 ?_))))
  refine E1 (by kernel_rfl) (by kernel_rfl) (B0 (A5 Z Z) Z Z (B0 (A5 Z Z) Z Z (B0 (E3 Z (.pure _ _ _ _)) Z Z (B0 (F0 Z Z) Z Z (B0 (A5 Z Z) Z Z (D7 Z Z (fun hg=>by rw [hg];exact A5 Z Z) Z Z ?_))))));refine D7 Z Z (fun hg=>by rw [hg];exact A9 Z Z Z) Z Z ?_;refine D7 Z Z (fun hg=>by rw [hg];exact E3 Z (.pure _ _ _ _)) Z Z ?_;refine D7 Z Z (fun hg=>by rw [hg];exact F0 Z Z) Z Z ?_;refine B0 (B5 Z (fun h=>by first | rfl | (rw [h];rfl)) (fun h=>by first | rfl | (rw [h];rfl))) Z Z ?_;refine B0 (A5 Z Z) Z Z (D7 Z Z (fun hg=>by rw [hg];exact A5 Z Z) Z Z ?_);refine D7 Z Z (fun hg=>by rw [hg];exact A5 Z Z) Z Z ?_;refine D7 Z Z (fun hg=>by have hq:=hg;(try simp at hq);rw [hg];exact B4 Z (.pure _ _ _ _) Z (by omega) (C76 (by omega))) Z Z ?_;refine D7 Z Z (fun hg=>by rw [hg];exact C8 Z Z) Z Z ?_;refine D7 Z Z (fun hg=>by rw [hg];exact A9 Z Z Z) Z Z ?_;refine D7 Z Z (fun hg=>by rw [hg];exact A5 Z Z) Z Z ?_;refine D7 Z Z (fun hg=>by have hq:=hg;(try simp at hq);rw [hg];exact B4 Z (.pure _ _ _ _) Z (by omega) (C76 (by omega))) Z Z ?_;refine D7 Z Z (fun hg=>by rw [hg];exact C8 Z Z) Z Z ?_;refine D7 Z Z (fun hg=>by rw [hg];exact Q0 Z Z) Z Z ?_;refine B0 (B5 Z (fun h=>by first | rfl | (rw [h];rfl)) (fun h=>by first | rfl | (rw [h];rfl))) Z Z ?_;refine B0 (A6 Z Z) Z Z (L4 ?_)
  refine k1 ?_
  refine B6 rfl (fun ht=>?_) (fun ht=>?_)
  ·simp only [L8] at ht
   obtain ⟨⟨h1,h2⟩,h3⟩:=A0 ht
   have h1:i < a'.length:=by omega
   have h2:j < b'.length:=by omega
   rw [D66 a' b' i j h1 h2,if_pos (by simpa [h1,h2] using h3)] at he
   refine M7 [(0,C7 Int 1 G7 a'),(3,.s (.one (.ref 3 0))),(5,.s (.one (.buf 5 Span 2 spanC out))),(6,C0 k),(8,.s (.one (.ref 8 0))),(9,.s (.one (.clo 236 [] [(8,0),(3,0)]))),(10,C0 i),(11,C0 j)] [(3,.box [.p (.list Int 1 G7 b')]),(5,.spare out.length 2 88),(8,.box [.p (.list Int 1 C49 (flat a' b' (fun _ _=>true)))])] (J70 ⟨le1 rfl,le1 rfl,le1 rfl,le1 rfl,le1 rfl,le1 rfl,le1 rfl,le1 rfl,trivial⟩ ⟨rfl,rfl,rfl,trivial⟩) ?_
   refine k2 ?_
   refine A4 (A3 (A5 Z Z) Z (A3 (A5 Z Z) Z (A3 (A5 Z Z) Z (A3 (C6 Z Z (by omega)) Z (A3 (A5 Z Z) Z (A3 (A5 Z Z) Z (A3 (C6 Z Z (by omega)) Z (A3 (F9 Z) Z (A3 (E6 (c:=spanC) (ys:=[⟨(k:Int)+i,(k:Int)+j⟩]) (F3 Z Z Z Z I6) Z Z Z) Z (C5 (I9 Z Z Z (.pure _ _ _ _) (by (simp only [K07,K10];omega)) Z) Z (A3 (A6 Z Z) Z (A7 ?_))))))))))))
   refine k1 ?_
   refine A4 (A3 (A5 Z Z) Z (A3 (C6 Z Z (by omega)) Z (A3 (A5 Z Z) Z (A3 (C6 Z Z (by omega)) Z (A3 (A6 Z Z) Z (A3 (A6 Z Z) Z (A7 ?_)))))))
   refine k4 (k4 (k1 ?_))
   refine ⟨(i+1,j+1,out++[⟨(k:Int)+i,(k:Int)+j⟩]),⟨by dsimp only;omega,by dsimp only;omega,by simp;omega,?_⟩,by dsimp only;omega,J70 ⟨le1 rfl,le1 rfl,le1 rfl,le1 rfl,le1 rfl,le1 rfl,le1 rfl,le1 rfl,trivial⟩ ⟨rfl,rfl,rfl,trivial⟩⟩
   dsimp only
   rw [he,K23]
   congr 2
  ·simp only [L8] at ht
   have hno:=A1 ht
   refine M7 [(0,C7 Int 1 G7 a'),(3,.s (.one (.ref 3 0))),(5,.s (.one (.buf 5 Span 2 spanC out))),(6,C0 k),(8,.s (.one (.ref 8 0))),(9,.s (.one (.clo 236 [] [(8,0),(3,0)]))),(10,C0 i),(11,C0 j)] [(3,.box [.p (.list Int 1 G7 b')]),(5,.spare out.length 2 88),(8,.box [.p (.list Int 1 C49 (flat a' b' (fun _ _=>true)))])] (J70 ⟨le1 rfl,le1 rfl,le1 rfl,le1 rfl,le1 rfl,le1 rfl,le1 rfl,le1 rfl,trivial⟩ ⟨rfl,rfl,rfl,trivial⟩) ?_
   by_cases h1:i < a'.length
   ·have hr:decide ((i:Int) < (a'.length:Int))=true:=decide_eq_true (by omega)
    have hd1:=G19 (a'.drop (i+1)) (b'.drop j)
    simp only [K24] at hd1
    have hstep:¬j < b'.length→dist (a'.drop (i+1)) (b'.drop j)+1=dist (a'.drop i) (b'.drop j)∧G9 (k+i) (k+j) (a'.drop i) (b'.drop j)=G9 (k+i+1) (k+j) (a'.drop (i+1)) (b'.drop j):=by
     intro hj2
     rw [show b'.drop j=[] from K15 (by omega),C81,C81,K24,K24,y2,y2]
     exact ⟨by omega,rfl⟩
    have hgo:j < b'.length→G9 (k+i) (k+j) (a'.drop i) (b'.drop j)=if dist (a'.drop (i+1)) (b'.drop j)+1=dist (a'.drop i) (b'.drop j) then G9 (k+i+1) (k+j) (a'.drop (i+1)) (b'.drop j) else G9 (k+i) (k+j+1) (a'.drop i) (b'.drop (j+1)):=by
     intro h2
     rw [D66 a' b' i j h1 h2,if_neg]
     intro h3
     exact hno ⟨⟨by omega,by omega⟩,by simpa [h1,h2] using h3⟩
    refine k2 ?_
    refine A4 (A3 (A5 Z Z) Z (A3 (A5 Z Z) Z (A3 (E3 Z (.pure _ _ _ _)) Z (A3 (F0 Z Z) Z (A3 (A5 Z Z) Z (H3 Z Z Z hr (A3 (A5 Z Z) Z (H3 Z Z Z hr (A3 (A5 Z Z) Z (H3 Z Z Z hr (A3 (C6 Z Z (by omega)) Z (H3 Z Z Z hr (A3 (A5 Z Z) Z (H3 Z Z Z hr (B11 (I30 a' b' (i+1) j hal hbl (by omega) hj Z Z) Z Z Z Z ?_)))))))))))))));rintro _ _ ⟨rfl,rfl⟩;refine H3 Z Z Z hr (A3 (C6 Z Z (by omega)) Z (H3 Z Z Z hr (A3 (A5 Z Z) Z (H3 Z Z Z hr (A3 (A5 Z Z) Z (H3 Z Z Z hr (A3 (A5 Z Z) Z (H3 Z Z Z hr (B11 (I30 a' b' i j hal hbl hi hj Z Z) Z Z Z Z ?_)))))))));rintro _ _ ⟨rfl,rfl⟩;refine H3 Z Z Z hr (A3 (Q0 Z Z) Z (A3 (B5 Z (fun h=>by first | rfl | (rw [h];rfl)) (fun h=>by first | rfl | (rw [h];rfl))) Z ?_));refine A3 (A6 Z Z) Z (A7 ?_)
    refine k1 ?_
    refine B6 rfl (fun ht=>?_) (fun ht=>?_)
    ·simp only [L8] at ht
     obtain ⟨_,h3⟩:=A0 ht
     have h3:dist (a'.drop (i+1)) (b'.drop j)+1=dist (a'.drop i) (b'.drop j):=by omega
     have hnext:G9 (k+i) (k+j) (a'.drop i) (b'.drop j)=G9 (k+i+1) (k+j) (a'.drop (i+1)) (b'.drop j):=by
      by_cases h2:j < b'.length
      ·rw [hgo h2,if_pos h3]
      ·exact (hstep h2).2
     rw [hnext] at he
     skip
     refine A4 (A3 (A5 Z Z) Z (A3 (C6 Z Z (by omega)) Z (A3 (A6 Z Z) Z (A7 ?_))))
     refine k4 (k4 (k1 ?_))
     refine ⟨(i+1,j,out),⟨by dsimp only;omega,by dsimp only;omega,by dsimp only;omega,?_⟩,by dsimp only;omega,J70 ⟨le1 rfl,le1 rfl,le1 rfl,le1 rfl,le1 rfl,le1 rfl,le1 rfl,le1 rfl,trivial⟩ ⟨rfl,rfl,rfl,trivial⟩⟩
     dsimp only
     rw [he,show (k:Int)+(i:Int)+1=(k:Int)+((i+1:Nat):Int) by omega]
    ·simp only [L8] at ht
     have h3:=A1 ht
     have h3:¬dist (a'.drop (i+1)) (b'.drop j)+1=dist (a'.drop i) (b'.drop j):=fun q=>h3 ⟨by omega,by omega⟩
     have h2:j < b'.length:=by
      by_cases h2:j < b'.length
      ·exact h2
      ·exact absurd (hstep h2).1 h3
     rw [hgo h2,if_neg h3] at he
     skip
     refine A4 (A3 (A5 Z Z) Z (A3 (C6 Z Z (by omega)) Z (A3 (A6 Z Z) Z (A7 ?_))))
     refine k4 (k4 (k1 ?_))
     refine ⟨(i,j+1,out),⟨by dsimp only;omega,by dsimp only;omega,by dsimp only;omega,?_⟩,by dsimp only;omega,J70 ⟨le1 rfl,le1 rfl,le1 rfl,le1 rfl,le1 rfl,le1 rfl,le1 rfl,le1 rfl,trivial⟩ ⟨rfl,rfl,rfl,trivial⟩⟩
     dsimp only
     rw [he,show (k:Int)+(j:Int)+1=(k:Int)+((j+1:Nat):Int) by omega]
   ·have hrf:decide ((i:Int) < (a'.length:Int))=false:=decide_eq_false (by omega)
    have h2:j < b'.length:=by omega
    refine k2 ?_
    refine A4 (A3 (A5 Z Z) Z (A3 (A5 Z Z) Z (A3 (E3 Z (.pure _ _ _ _)) Z (A3 (F0 Z Z) Z (A3 (A5 Z Z) Z (J5 Z Z Z (by rw [hrf];decide) Z ?_))))));refine J5 Z Z Z (by rw [hrf];decide) Z ?_;refine J5 Z Z Z (by rw [hrf];decide) Z ?_;refine J5 Z Z Z (by rw [hrf];decide) Z ?_;refine J5 Z Z Z (by rw [hrf];decide) Z ?_;refine J5 Z Z Z (by rw [hrf];decide) Z ?_;refine J5 Z Z Z (by rw [hrf];decide) Z ?_;refine J5 Z Z Z (by rw [hrf];decide) Z ?_;refine J5 Z Z Z (by rw [hrf];decide) Z ?_;refine J5 Z Z Z (by rw [hrf];decide) Z ?_;refine J5 Z Z Z (by rw [hrf];decide) Z ?_;refine A3 (B57 Z (hrf) Z) Z (A3 (A6 Z Z) Z (A7 ?_))
    refine k1 ?_
    refine B6 rfl (fun ht=>?_) (fun ht=>?_)
    ·cases ht
    ·skip
     refine A4 (A3 (A5 Z Z) Z (A3 (C6 Z Z (by omega)) Z (A3 (A6 Z Z) Z (A7 ?_))))
     refine k4 (k4 (k1 ?_))
     refine ⟨(i,j+1,out),⟨by dsimp only;omega,by dsimp only;omega,by dsimp only;omega,?_⟩,by dsimp only;omega,J70 ⟨le1 rfl,le1 rfl,le1 rfl,le1 rfl,le1 rfl,le1 rfl,le1 rfl,le1 rfl,trivial⟩ ⟨rfl,rfl,rfl,trivial⟩⟩
     dsimp only
     rw [he,show a'.drop i=[] from K15 (by omega),l8,l8]
 ·simp only [or_pick] at ht
  have hcond:=A1 ht
  rw [show a'.drop i=[] from K15 (by omega),l8,K27] at he
  refine k6 (k2 ?_)
  refine A4 (A3 (A5 Z Z) Z (A3 (A6 Z Z) Z (A7 ?_)))
  refine k1 (k10 ?_)
  exact B7 (H6 rfl rfl rfl) (by rw [he])
theorem C44 (a b:List Int) (ha:a.length≤4096) (hb:b.length≤4096):FnOk Tryz.prog 130 [P7 a,P7 b] (fun rs=>rs=[pChanges (M5 a b),G5 0]):=by
 have hA:=U4 a b 0 0
 rw [Int.zero_add,Int.zero_add] at hA
 have hl:=A04 0 0 a b
 refine FnOk.intro Tryz.func130 (by decide) Z Z Z Z ?_
 refine k2 ?_
 refine A4 (A3 (A6 Z Z) Z (A3 (A6 Z Z) Z (A7 ?_)))
 refine k1 (k2 (k2 ?_))
 refine A4 (A3 (A5 Z Z) Z (A3 (A5 Z Z) Z (C9 (G84 a b) Z Z Z ?_)));rintro _ rfl;refine A3 (I7 Z) Z (A7 ?_)
 refine k1 ?_
 refine B6 rfl (fun ht=>?_) (fun ht=>?_)
 ·exfalso
  have h:decide ((a.length:Int)≤4096∧(b.length:Int)≤4096)=true:=decide_eq_true ⟨by omega,by omega⟩
  rw [h] at ht;cases ht
 refine k5 (k1 (k2 ?_))
 refine A4 (A3 (A5 Z Z) Z (A3 (A5 Z Z) Z (C9 (J34 a b ha hb) Z Z Z ?_)));rintro _ rfl;refine A3 (A5 Z Z) Z (A3 (E3 Z (.pure _ _ _ _)) Z (A3 (A5 Z Z) Z (A3 (E3 Z (.pure _ _ _ _)) Z (C9 (F29 (G9 0 0 a b) a.length b.length ⟨by omega,by omega⟩ ⟨by omega,by omega⟩ hA (by omega)) Z Z Z ?_))));rintro _ rfl;refine A3 (C1 Z Z) Z (A3 (C1 Z Z) Z (A3 (A6 Z Z) Z (A3 (A6 Z Z) Z (A7 ?_))))
 refine k1 (k10 ?_)
 exact B7 (p9 rfl rfl rfl rfl rfl) rfl
theorem G85 (l:List Merged) (hl:l.length≤536870912):FnOk Tryz.prog 253 [pMerged l] (fun rs=>rs=[P7 (H8 l)]):=by
 refine FnOk.intro Tryz.func253 (by decide) Z Z Z Z ?_
 refine k2 ?_
 refine A4 (A3 (A6 Z Z) Z (A7 ?_))
 refine k1 (k2 ?_)
 refine A4 (C5 (A02 756 _ G7 Z) Z (A7 ?_))
 refine k1 (k2 (k2 ?_))
 refine A4 (A3 (A5 Z Z) Z (A3 (E3 Z (.pure _ _ _ _)) Z (A3 (A5 Z Z) Z (A7 ?_))))
 refine k1 (k3 ?_)
 refine E2 (X:=Nat) (fun i=>([(3,.s (.one (.buf 756 Int 1 G7 (H8 (l.take i))))),(6,C7 Merged 2 mergedC l),(7,C0 l.length),(8,C0 i)],[(756,.spare (H8 (l.take i)).length 1 3)])) (fun i=>i≤l.length) (fun i=>l.length - i) 0 (Nat.zero_le _) (J70 ⟨le1 rfl,le1 rfl,le1 rfl,le1 rfl,trivial⟩ ⟨rfl,trivial⟩) ?_
 intro i hi
 dsimp only at hi ⊢
 have hml:(H8 (l.take i)).length=i:=by simp [H8];omega
 refine k2 ?_
 refine A4 (A3 (F0 Z Z) Z (A7 ?_))
 refine k1 (k2 ?_)
 refine B6 rfl (fun ht=>?_) (fun ht=>?_)
 ·have hlt:i < l.length:=by have:=A0 ht;omega
  have hv:l[i]?=some l[i]:=by simp [hlt]
  have hst:H8 (l.take (i+1))=H8 (l.take i)++[l[i].Line]:=by unfold H8;rw [K14 hlt];simp only [K19,K13,K46]
  obtain ⟨m,hm⟩:∃m,m=l[i]:=⟨_,rfl⟩
  rw [←hm] at hv hst
  refine k5 (k1 (k2 (k3 (k2 ?_))))
  refine A4 (A3 (B4 Z (.pure _ _ _ _) Z (by omega) hv) Z (A3 (D6 Z Z) Z (C5 (E8 757 Z) Z (E7 (B2 TySz.out Z Z Z Z Z Z) (A7 ?_)))))
  refine k1 ?_
  refine A4 (A3 (A5 Z Z) Z (A3 (A8 Z) Z (A3 (A9 Z Z Z) Z (A3 (E6 (c:=G7) (ys:=[m.Line]) (F3 Z Z Z Z I6) Z Z Z) Z (C5 (I9 Z Z Z (.pure _ _ _ _) (by (rw [hml];simp only [K07,K10];omega)) Z) Z ?_)))));refine A3 (A6 Z Z) Z (A7 ?_)
  refine k4 (k1 ?_)
  refine A4 (A3 (C6 Z Z (by omega)) Z (A3 (A5 Z Z) Z (A7 ?_)))
  refine k1 ?_
  refine ⟨i+1,by omega,by omega,?_⟩
  rw [hst]
  exact J70 ⟨le1 rfl,le1 rfl,le1 rfl,le1 rfl,trivial⟩ ⟨rfl,trivial⟩
 ·have hil:i=l.length:=by have:=A1 ht;omega
  rw [hil,K28]
  refine k6 (k2 ?_)
  refine A4 (A3 (A5 Z Z) Z (A3 (A6 Z Z) Z (A7 ?_)))
  refine k1 (k10 ?_)
  exact B7 (H6 rfl rfl rfl) rfl
theorem H66 (l:List Merged) (bit:Int) {a t:Nat} (h:a+t < l.length):j8 l bit a (a+(t+1))=j8 l bit a (a+t)++[⟨l[a+t].Line,M6 l[a+t].Parents bit⟩]:=by
 rw [D74 l bit (show a≤a+t by omega) (show a+t≤a+(t+1) by omega),show a+(t+1)=a+t+1 by omega,D38 l bit h,K06 h];rfl
theorem C77 (l:List Merged) (bit:Int) (a b:Nat):(j8 l bit a b).length≤b - a:=by unfold j8;rw [K29,K22];omega
abbrev t8 (i:Int):Ob:=.box [.p (.v (.int .i64 i))]
abbrev C45 (i:Int):Ob:=.box [.p (.v (.int .u32 i))]
abbrev lBox (l:List Merged):Ob:=.box [.p (.list Merged 2 mergedC l)]
theorem D57 {gf:Fr} {ob:Obs} (l out:List Merged) (bit:Int) (a e:Nat) (he:e≤l.length) (ha:a≤e) (hl:l.length≤536870912) (ho:out.length≤268435456) (hl2:l.length≤268435456)
  (h11:C3 ob 11=some (t8 a)) (h10:C3 ob 10=some (.box [.buf 20 Merged 2 mergedC out])) (h3:C3 ob 3=some (lBox l)) (h5:C3 ob 5=some (C45 bit)) (h20:C3 ob 20=some (.spare out.length 2 151)) :
  AL.Met Tryz.prog 254 [.one (.p (.v (.int .i64 e))),.one (.ref 11 0),.one (.ref 10 0),.one (.ref 3 0),.one (.ref 5 0)] gf ob [20]
   (fun rs ob'=>rs=[]∧ob'=(10,.box [.buf 20 Merged 2 mergedC (out++j8 l bit a e)])::(11,t8 e)::(3,lBox l)::(5,C45 bit)::(20,.spare (out++j8 l bit a e).length 2 151)::Obs.forget 20 ob):=by
 refine AL.Met.introH Tryz.func254 (by decide) rfl rfl rfl (fun hH=>?_)
 refine k3 ?_
 refine E2 (X:=Nat) (fun t=>([(0,C0 e),(1,.s (.one (.ref 11 0))),(2,.s (.one (.ref 10 0))),(3,.s (.one (.ref 3 0))),(4,.s (.one (.ref 5 0)))]++Fr.forget 20 gf,(10,.box [.buf 20 Merged 2 mergedC (out++j8 l bit a (a+t))])::(11,t8 ((a+t:Nat):Int))::(3,lBox l)::(5,C45 bit)::(20,.spare (out++j8 l bit a (a+t)).length 2 151)::Obs.forget 20 ob)) (fun t=>a+t≤e) (fun t=>e - (a+t)) 0 (by omega) ?_ ?_
 ·rw [Nat.add_zero,D37,K27]
  exact J84 20 (l:=[(0,C0 e),(1,.s (.one (.ref 11 0))),(2,.s (.one (.ref 10 0))),(3,.s (.one (.ref 3 0))),(4,.s (.one (.ref 5 0)))]) (L:=[(10,_),(11,_),(3,_),(5,_),(20,_)]) ⟨le1 rfl,le1 rfl,le1 rfl,le1 rfl,le1 rfl,trivial⟩ hH (by repeat (first | exact D5 | refine D4 rfl ?_)) ⟨h10,h11,h3,h5,h20,trivial⟩
 intro t ht0
 dsimp only at ht0 ⊢
 have hpl:=C77 l bit a (a+t)
 refine k2 (k2 ?_)
 refine A4 (A3 (A9 Z Z Z) Z (A3 (A5 Z Z) Z (A3 (F0 Z Z) Z (A7 ?_))))
 refine k1 ?_
 refine B6 rfl (fun ht=>?_) (fun ht=>?_)
 ·have h1:a+t < l.length:=by have:=A0 ht;omega
  have hv:l[a+t]?=some l[a+t]:=by simp [h1]
  have hst:=H66 l bit h1
  obtain ⟨m,hm⟩:∃m,m=l[a+t]:=⟨_,rfl⟩
  rw [←hm] at hv hst
  refine k5 (k1 (k2 (k3 ?_)))
  refine E1 (by kernel_rfl) (by kernel_rfl) (B0 (A9 Z Z Z) Z Z (B0 (A9 Z Z Z) Z Z (B0 (A9 Z Z Z) Z Z (B0 (B4 Z (.pure _ _ _ _) Z (by omega) hv) Z Z (B0 (s5 Z) Z Z (B0 (C8 Z Z) Z Z (B0 (A9 Z Z Z) Z Z (B0 (A9 Z Z Z) Z Z (B0 (B4 Z (.pure _ _ _ _) Z (by omega) hv) Z Z (B0 (s5 Z) Z Z (B0 (C8 Z Z) Z Z (B0 (A9 Z Z Z) Z Z (B0 (A75 Z Z Z (fun _=>rfl)) Z Z (B0 (F9 Z) Z Z (B0 (E6 (c:=mergedC) (ys:=[⟨m.Line,M6 m.Parents bit⟩]) (F3 Z Z Z Z I6) Z Z Z) Z Z (H52 (I9 Z Z Z (.pure _ _ _ _) (by (simp only [K05,K07,K10];omega)) Z) Z Z (B39 (B2 TySz.out Z Z Z Z Z Z) Z (L4 ?_))))))))))))))))))
  refine k4 (k1 ?_)
  refine A4 (A3 (A9 Z Z Z) Z (A3 (C6 Z Z (by omega)) Z (E7 (B2 TySz.out Z Z Z Z Z Z) (A7 ?_))))
  refine k1 ?_
  refine ⟨t+1,by have:=A0 ht;omega,by have:=A0 ht;omega,?_⟩
  rw [hst,←K23,show ((a+(t+1):Nat):Int)=((a+t:Nat):Int)+1 by omega]
  exact J71 ⟨le1 rfl,le1 rfl,le1 rfl,le1 rfl,le1 rfl,trivial⟩ (R2 hH) (by repeat (first | exact D5 | refine tail_drop rfl ?_ | refine D4 rfl ?_ | refine K5 _ ?_)) (B12 (L:=[(10,_),(11,_),(3,_),(5,_),(20,_)]) ⟨rfl,rfl,rfl,rfl,rfl,trivial⟩ (by repeat (first | exact A94 | refine A95 rfl ?_ | refine I24 _ ?_)))
 ·have h2:a+t=e:=by have:=A1 ht;omega
  rw [h2]
  refine k6 (k7 (k7 (k8 Z ?_)))
  exact C35 (rets0 rfl) (by repeat (first | exact D5 | refine D4 rfl ?_ | refine F4 _ ?_)) (fun _ _ h=>h) ⟨rfl,rfl⟩
def D24 (l:List Merged) (list:List Int) (bit:Int):List Merged:=Z1 l list bit 0 0 (G9 0 0 (H8 l) list)
theorem I67 (list:List Int) (bit:Int) {a t:Nat} (h:a+t < list.length):C97 list bit a (t+1)=C97 list bit a t++[⟨list[a+t],bit⟩]:=by
 unfold C97;rw [E59 list a t h,K19];rfl
theorem D58 (list:List Int) (bit:Int) (a n:Nat):(C97 list bit a n).length≤n:=by unfold C97;rw [K29,K22];omega
theorem walk_sc (l:List Merged) (list:List Int) (hl:l.length≤4096) (hn:list.length≤4096):ScOk 0 0 (M5 (H8 l) list) l.length list.length:=by
 have hasc:=U4 (H8 l) list 0 0
 rw [Int.zero_add,Int.zero_add] at hasc
 have h:=B00 (m:=(H8 l).length) (n:=list.length) ⟨by omega,by simp [H8];omega⟩ ⟨by omega,by omega⟩ (G9 0 0 (H8 l) list) 0 0 0 0 0 hasc (by omega) (by omega) (by omega) (by omega) (by omega)
 have:=Z5 _ _ _ _ _ _ h
 unfold M5 A23
 rwa [show (H8 l).length=l.length by simp [H8]] at this ⊢
set_option maxHeartbeats 1000000
theorem I68 (l:List Merged) (list:List Int) (bit:Int) (hl:l.length≤4096) (hn:list.length≤4096) :
  FnOk Tryz.prog 219 [pMerged l,P7 list,.one (.v (.int .u32 bit))] (fun rs=>rs=[pMerged (D24 l list bit),G5 0]):=by
 have hll:(H8 l).length=l.length:=by simp [H8]
 have hsc:=walk_sc l list hl hn
 have hmi:=J55 l list bit
 obtain ⟨W,hW⟩:∃W,W=D24 l list bit:=⟨_,rfl⟩
 obtain ⟨cs,hcs⟩:∃cs,cs=M5 (H8 l) list:=⟨_,rfl⟩
 have hS:=C44 (H8 l) list (by omega) hn
 have hmi:v6 l list bit 0 cs=W:=by rw [hcs,hmi,hW];rfl
 rw [←hcs] at hsc hS
 rw [←hW]
 refine FnOk.intro Tryz.func219 (by decide) Z Z Z Z ?_
 refine k2 ?_
 refine A4 (C5 (Q1 3 Z Z Z) Z (C5 (Q1 5 Z Z Z) Z (A3 (A6 Z Z) Z (A3 (A6 Z Z) Z (A7 ?_)))))
 refine k1 (k2 ?_)
 refine A4 (A3 (A9 Z Z Z) Z (C9 (G85 l (by omega)) Z Z Z ?_));rintro _ rfl;refine A3 (A5 Z Z) Z (C9 (hS) Z Z Z ?_);rintro _ rfl;refine A3 (A5 Z Z) Z (A3 (C1 Z Z) Z (A3 (C1 Z Z) Z (A3 (A6 Z Z) Z (A3 (A6 Z Z) Z (A7 ?_)))))
 refine k1 (k2 (k2 ?_))
 refine A4 (A3 (A5 Z Z) Z (A3 (K2 Z Z) Z (A7 ?_)))
 refine k1 ?_
 refine B6 rfl (fun ht=>?_) (fun ht=>?_)
 ·cases ht
 refine k5 (k1 (k2 ?_))
 refine A4 (C5 (E8 10 Z) Z (A7 ?_))
 refine G6 (J75 20 Merged 2 mergedC 151 (kb:=10) (o:=0) Z Z Z) ?_
 refine k2 ?_
 refine A4 (C5 (E8 11 Z) Z (E7 (B2 TySz.out Z Z Z Z Z Z) (A7 ?_)))
 refine k1 (k2 ?_)
 refine A4 (A3 (A44 Z Z) Z (A3 (A6 Z Z) Z (A7 ?_)))
 refine k1 (k2 (k2 ?_))
 refine A4 (A3 (A5 Z Z) Z (A3 (E3 Z (.pure _ _ _ _)) Z (A3 (A5 Z Z) Z (A7 ?_))))
 refine k1 (k3 ?_)
 refine E2 (X:=Nat × Nat × Nat × List Merged) (fun x=>([(1,C7 Int 1 G7 list),(3,.s (.one (.ref 3 0))),(5,.s (.one (.ref 5 0))),(10,.s (.one (.ref 10 0))),(11,.s (.one (.ref 11 0))),(12,.s (.one (.clo 254 [] [(11,0),(10,0),(3,0),(5,0)]))),(28,C7 Change 4 changeC cs),(29,C0 cs.length),(30,C0 x.1)],[(3,lBox l),(5,C45 bit),(10,.box [.buf 20 Merged 2 mergedC x.2.2.2]),(11,t8 x.2.1),(20,.spare x.2.2.2.length 2 151)]))
  (fun x=>x.1≤cs.length∧ScOk x.2.1 x.2.2.1 (cs.drop x.1) l.length list.length∧x.2.2.2.length≤x.2.1+x.2.2.1∧x.2.2.2++v6 l list bit x.2.1 (cs.drop x.1)=W) (fun x=>cs.length - x.1) (0,0,0,[]) ⟨Nat.zero_le _,hsc,(by simp),hmi⟩ (J70 ⟨le1 rfl,le1 rfl,le1 rfl,le1 rfl,le1 rfl,le1 rfl,le1 rfl,le1 rfl,le1 rfl,trivial⟩ ⟨rfl,rfl,rfl,rfl,rfl,trivial⟩) ?_
 rintro ⟨i,k,j,out⟩ ⟨hi,hok,hol,hp⟩
 dsimp only at hi hok hol hp ⊢
 refine k2 ?_
 refine A4 (A3 (F0 Z Z) Z (A7 ?_))
 refine k1 (k2 ?_)
 refine B6 rfl (fun ht=>?_) (fun ht=>?_)
 rotate_left
 ·have hil:i=cs.length:=by have:=A1 ht;omega
  rw [hil,K15 (Nat.le_refl _)] at hp hok
  have hend:(k:Int)≤l.length∧(j:Int)≤list.length:=hok
  have hp:out++j8 l bit k l.length=W:=hp
  refine k6 (k2 ?_)
  refine A4 (A3 (A5 Z Z) Z (A3 (A9 Z Z Z) Z (A3 (E3 Z (.pure _ _ _ _)) Z (B11 (D57 l out bit k l.length (by omega) (by omega) (by omega) (by omega) (by omega) Z Z Z Z Z) Z Z Z Z ?_))));rintro _ _ ⟨rfl,rfl⟩;refine A7 ?_
  refine k1 (k2 ?_)
  rw [hp]
  refine G6 (Sees.forget 20) ?_
  refine A4 (A3 (A9 Z Z Z) Z (A3 (A6 Z Z) Z (A3 (A6 Z Z) Z (A7 ?_))))
  refine k1 (k10 ?_)
  exact B7 (p9 rfl rfl rfl rfl rfl) rfl
 have hlt:i < cs.length:=by have:=A0 ht;omega
 have hv:cs[i]?=some cs[i]:=by simp [hlt]
 rw [K11 hlt] at hp hok
 obtain ⟨c,hc⟩:∃c,c=cs[i]:=⟨_,rfl⟩
 rw [←hc] at hv hp hok
 obtain ⟨⟨o1,o2⟩,⟨o3,o4⟩,⟨o5,o6⟩,⟨o7,o8⟩,o9,o10,hok⟩:=hok
 have hend:=hok.end_le
 obtain ⟨co,col,cn,cnl⟩:=c
 dsimp only at o1 o2 o3 o4 o5 o6 o7 o8 o9 o10 hok hend
 obtain ⟨A,rfl⟩:∃A:Nat,co=A:=⟨co.toNat,by omega⟩
 obtain ⟨B,rfl⟩:∃B:Nat,col=B:=⟨col.toNat,by omega⟩
 obtain ⟨C,rfl⟩:∃C:Nat,cn=C:=⟨cn.toNat,by omega⟩
 obtain ⟨D,rfl⟩:∃D:Nat,cnl=D:=⟨cnl.toNat,by omega⟩
 rw [v6] at hp
 dsimp only at hp
 simp only [K12] at hp
 have hpl:=C77 l bit k A
 have hsl:((l.drop A).take B).length=B:=by rw [K22,K24];omega
 refine k5 (k1 (k2 (k3 (k2 ?_))))
 refine A4 (A3 (B4 Z (.pure _ _ _ _) Z (by omega) hv) Z (A3 (D6 Z Z) Z (C5 (E8 14 Z) Z (E7 (B2 TySz.out Z Z Z Z Z Z) (A7 ?_)))))
 refine M7 [(1,C7 Int 1 G7 list),(3,.s (.one (.ref 3 0))),(5,.s (.one (.ref 5 0))),(10,.s (.one (.ref 10 0))),(11,.s (.one (.ref 11 0))),(12,.s (.one (.clo 254 [] [(11,0),(10,0),(3,0),(5,0)]))),(14,.s (.one (.ref 14 0))),(28,C7 Change 4 changeC cs),(29,C0 cs.length),(30,C0 i)] [(3,lBox l),(5,C45 bit),(10,.box [.buf 20 Merged 2 mergedC out]),(11,t8 k),(20,.spare out.length 2 151),(14,.box [.p (.v (.int .i64 A)),.p (.v (.int .i64 B)),.p (.v (.int .i64 C)),.p (.v (.int .i64 D))])] (J70 ⟨le1 rfl,le1 rfl,le1 rfl,le1 rfl,le1 rfl,le1 rfl,le1 rfl,le1 rfl,le1 rfl,le1 rfl,trivial⟩ ⟨rfl,rfl,rfl,rfl,rfl,rfl,trivial⟩) ?_
 refine k2 ?_
 refine A4 (A3 (A5 Z Z) Z (A3 (A8 Z) Z (A3 (A9 Z Z Z) Z (B11 (D57 l out bit k A (by omega) (by omega) (by omega) (by omega) (by omega) Z Z Z Z Z) Z Z Z Z ?_))));rintro _ _ ⟨rfl,rfl⟩;refine A7 ?_
 obtain ⟨o1',ho1⟩:∃o',o'=out++j8 l bit k A:=⟨_,rfl⟩
 have hp:o1'++((l.drop A).take B++C97 list bit C D++v6 l list bit (A+B) (cs.drop (i+1)))=W:=by rw [ho1,←hp];simp only [K23]
 have hol':o1'.length≤k+j+(A - k):=by rw [ho1,K05];omega
 rw [←ho1]
 refine M7 [(1,C7 Int 1 G7 list),(3,.s (.one (.ref 3 0))),(5,.s (.one (.ref 5 0))),(10,.s (.one (.ref 10 0))),(11,.s (.one (.ref 11 0))),(12,.s (.one (.clo 254 [] [(11,0),(10,0),(3,0),(5,0)]))),(14,.s (.one (.ref 14 0))),(28,C7 Change 4 changeC cs),(29,C0 cs.length),(30,C0 i)] [(3,lBox l),(5,C45 bit),(10,.box [.buf 20 Merged 2 mergedC o1']),(11,t8 A),(20,.spare o1'.length 2 151),(14,.box [.p (.v (.int .i64 A)),.p (.v (.int .i64 B)),.p (.v (.int .i64 C)),.p (.v (.int .i64 D))])] (J70 ⟨le1 rfl,le1 rfl,le1 rfl,le1 rfl,le1 rfl,le1 rfl,le1 rfl,le1 rfl,le1 rfl,le1 rfl,trivial⟩ ⟨rfl,rfl,rfl,rfl,rfl,rfl,trivial⟩) ?_
 refine k2 ?_
 have eAB:((A:Int)+B).toNat - (A:Int).toNat=B:=by omega
 refine E1 (by kernel_rfl) (by kernel_rfl) (B0 (A9 Z Z Z) Z Z (B0 (A9 Z Z Z) Z Z (B0 (A9 Z Z Z) Z Z (B0 (A9 Z Z Z) Z Z (B0 (A8 Z) Z Z (B0 (A9 Z Z Z) Z Z (B0 (C6 Z Z (by omega)) Z Z (B0 (O8 Z (.pure _ _ _ _) Z Z (by omega) (by omega) (by omega)) Z Z (H52 (I9 Z Z Z (.pure _ _ _ _) (by (rw [eAB,K12,hsl];omega)) Z) Z Z ?_)))))))));refine B39 (B2 TySz.out Z Z Z Z Z Z) Z (L4 ?_)
 rw [eAB,K12]
 refine k1 (k2 ?_)
 refine A4 (A3 (A9 Z Z Z) Z (A3 (A8 Z) Z (A3 (A9 Z Z Z) Z (A3 (C6 Z Z (by omega)) Z (E7 (B2 TySz.out Z Z Z Z Z Z) (A7 ?_))))))
 refine k1 (k2 ?_)
 have eCD:((C:Int)+D).toNat - (C:Int).toNat=D:=by omega
 have hLl:((list.drop C).take D).length=D:=by rw [K22,K24];omega
 refine A4 (A3 (A5 Z Z) Z (A3 (A8 Z) Z (A3 (A9 Z Z Z) Z (A3 (A8 Z) Z (A3 (A9 Z Z Z) Z (A3 (A8 Z) Z (A3 (A9 Z Z Z) Z (A3 (C6 Z Z (by omega)) Z (A3 (O8 Z (.pure _ _ _ _) Z Z (by omega) (by omega) (by omega)) Z (A3 (E3 Z (.pure _ _ _ _)) Z (A3 (A5 Z Z) Z (A7 ?_))))))))))))
 rw [eCD,K12]
 refine k1 (k3 ?_)
 obtain ⟨o2',ho2⟩:∃o',o'=o1'++(l.drop A).take B:=⟨_,rfl⟩
 have hp:o2'++(C97 list bit C D++v6 l list bit (A+B) (cs.drop (i+1)))=W:=by rw [ho2,←hp];simp only [K23]
 have hol2:o2'.length≤k+j+(A - k)+B:=by rw [ho2,K05,hsl];omega
 rw [←ho2]
 obtain ⟨NL,hNL⟩:∃NL,NL=(list.drop C).take D:=⟨_,rfl⟩
 rw [←hNL] at hLl ⊢
 refine E2 (X:=Nat) (fun t=>([(1,C7 Int 1 G7 list),(3,.s (.one (.ref 3 0))),(5,.s (.one (.ref 5 0))),(10,.s (.one (.ref 10 0))),(11,.s (.one (.ref 11 0))),(12,.s (.one (.clo 254 [] [(11,0),(10,0),(3,0),(5,0)]))),(28,C7 Change 4 changeC cs),(29,C0 cs.length),(30,C0 i),(59,C7 Int 1 G7 NL),(60,C0 NL.length),(61,C0 t)],[(3,lBox l),(5,C45 bit),(10,.box [.buf 20 Merged 2 mergedC (o2'++C97 list bit C t)]),(11,t8 ((A:Int)+B)),(20,.spare (o2'++C97 list bit C t).length 2 151)])) (fun t=>t≤D) (fun t=>D - t) 0 (Nat.zero_le _) (by rw [show C97 list bit C 0=[] by unfold C97;simp,K27];exact J70 ⟨le1 rfl,le1 rfl,le1 rfl,le1 rfl,le1 rfl,le1 rfl,le1 rfl,le1 rfl,le1 rfl,le1 rfl,le1 rfl,le1 rfl,trivial⟩ ⟨rfl,rfl,rfl,rfl,rfl,trivial⟩) ?_
 intro t ht1
 dsimp only at ht1 ⊢
 have hnl:=D58 list bit C t
 refine k2 ?_
 refine A4 (A3 (F0 Z Z) Z (A7 ?_))
 refine k1 (k2 ?_)
 refine B6 rfl (fun ht=>?_) (fun ht=>?_)
 ·have hltD:t < D:=by have:=A0 ht;omega
  have hltL:C+t < list.length:=by omega
  have hv2:NL[t]?=some list[C+t]:=by rw [hNL,K33 hltD,K42,K06 hltL]
  have hst:=I67 list bit hltL
  obtain ⟨v,hvv⟩:∃v,v=list[C+t]:=⟨_,rfl⟩
  rw [←hvv] at hv2 hst
  refine k5 (k1 (k2 (k3 (k2 ?_))))
  refine A4 (A3 (B4 Z (.pure _ _ _ _) Z (by omega) hv2) Z (A3 (C8 Z Z) Z (A3 (A6 Z Z) Z (A7 ?_))))
  refine k1 ?_
  refine A4 (A3 (A9 Z Z Z) Z (A3 (A5 Z Z) Z (A3 (A9 Z Z Z) Z (A3 (F9 Z) Z (A3 (E6 (c:=mergedC) (ys:=[⟨v,bit⟩]) (F3 Z Z Z Z I6) Z Z Z) Z (C5 (I9 Z Z Z (.pure _ _ _ _) (by (simp only [K05,K07,K10];omega)) Z) Z (E7 (B2 TySz.out Z Z Z Z Z Z) (A7 ?_))))))))
  refine k4 (k1 ?_)
  refine A4 (A3 (C6 Z Z (by omega)) Z (A3 (A5 Z Z) Z (A7 ?_)))
  refine k1 ?_
  refine ⟨t+1,by omega,by omega,?_⟩
  rw [hst,←K23]
  exact J70 ⟨le1 rfl,le1 rfl,le1 rfl,le1 rfl,le1 rfl,le1 rfl,le1 rfl,le1 rfl,le1 rfl,le1 rfl,le1 rfl,le1 rfl,trivial⟩ ⟨rfl,rfl,rfl,rfl,rfl,trivial⟩
 have htD:t=D:=by have:=A1 ht;omega
 have hcsl:cs.length≤4097:=by rw [hcs];have:=A82 (G9 0 0 (H8 l) list) 0 0 (H8 l).length list.length;have:=A04 0 0 (H8 l) list;unfold M5 A23;omega
 rw [htD]
 refine k6 (k7 (k7 (k8 Z (k4 (k1 ?_)))))
 refine A4 (A3 (C6 Z Z (by omega)) Z (A3 (A5 Z Z) Z (A7 ?_)))
 refine k1 ?_
 have hnl2:=D58 list bit C D
 exact ⟨(i+1,A+B,C+D,o2'++C97 list bit C D),⟨by dsimp only;omega,by dsimp only;exact hok,by dsimp only;rw [K05];omega,by dsimp only;rw [K23];exact hp⟩,by dsimp only;omega,J70 ⟨le1 rfl,le1 rfl,le1 rfl,le1 rfl,le1 rfl,le1 rfl,le1 rfl,le1 rfl,le1 rfl,trivial⟩ ⟨rfl,rfl,rfl,rfl,rfl,trivial⟩⟩
abbrev pHunk (h:Hunk):PV:=.agg [.v (.int .i64 h.First),.v (.int .i64 h.Last),.v (.int .i64 h.Old.From),.v (.int .i64 h.Old.To),.v (.int .i64 h.New.From),.v (.int .i64 h.New.To)]
theorem H67 (l:List Change) (f z:Nat) (m ctx:Int) (hl:l.length≤1073741824) (hf:f < z) (hz:z≤l.length) (hc:0≤ctx∧ctx≤1048576) (hm:0≤m∧m≤4096)
  (hb:∀k,k < l.length→H5 (cAt l k).Old∧H5 (cAt l k).OldLen∧H5 (cAt l k).New∧H5 (cAt l k).NewLen) :
  FnOk Tryz.prog 195 [pChanges l,G5 f,G5 z,G5 m,G5 ctx] (fun rs=>rs=[pHunk (mkH l m ctx f z)]):=by
 have hva:l[((f:Nat):Int).toNat]?=some (cAt l f):=by rw [K12];exact A32 (by omega)
 have hvz:l[((z:Nat):Int).toNat - 1]?=some (cAt l (z - 1)):=by rw [K12];exact A32 (by omega)
 have hvz2:l[(((z:Nat):Int) - 1).toNat]?=some (cAt l (z - 1)):=by rw [show (((z:Nat):Int) - 1).toNat=z - 1 by omega];exact A32 (by omega)
 obtain ⟨⟨a1,a2⟩,⟨a3,a4⟩,⟨a5,a6⟩,⟨a7,a8⟩⟩:=hb f (by omega)
 obtain ⟨⟨z1,z2⟩,⟨z3,z4⟩,⟨z5,z6⟩,⟨z7,z8⟩⟩:=hb (z - 1) (by omega)
 obtain ⟨a,ha⟩:∃a,a=cAt l f:=⟨_,rfl⟩
 obtain ⟨y,hy⟩:∃y,y=cAt l (z - 1):=⟨_,rfl⟩
 have hres:mkH l m ctx f z=⟨f,z,⟨a.Old - r5 ctx a.Old,y.Old+y.OldLen+r5 ctx (m - y.Old - y.OldLen)⟩,⟨a.New - r5 ctx a.Old,y.New+y.NewLen+r5 ctx (m - y.Old - y.OldLen)⟩⟩:=by
  unfold mkH A69 T6
  dsimp only
  rw [←ha,←hy,show m - (y.Old+y.OldLen)=m - y.Old - y.OldLen by omega,show (((z - 1:Nat):Int)+1)=z by omega]
 rw [←ha] at hva a1 a2 a3 a4 a5 a6 a7 a8
 rw [←hy] at hvz hvz2 z1 z2 z3 z4 z5 z6 z7 z8
 rw [hres]
 have n1:-4096≤r5 ctx a.Old∧r5 ctx a.Old≤4096:=by unfold r5;split<;>omega
 have n2:-8192≤r5 ctx (m - y.Old - y.OldLen)∧r5 ctx (m - y.Old - y.OldLen)≤1048576:=by unfold r5;split<;>omega
 refine FnOk.intro Tryz.func195 (by decide) Z Z Z Z ?_
 refine k2 ?_
 refine A4 (C5 (E8 10 Z) Z (A7 ?_))
 refine k1 (k2 ?_)
 refine B10 [12,11,10,9] [[],[9],[10],[10,9],[11,10,9],[12,11,10,9]] [(0,[9]),(0,[10]),(0,[10,9]),(1,[9]),(1,[10]),(1,[10,9]),(2,[9]),(2,[10]),(2,[10,9]),(3,[9]),(3,[10]),(3,[10,9]),(4,[9]),(4,[10]),(4,[10,9]),(4,[11,10,9]),(5,[9]),(5,[10]),(5,[10,9]),(5,[11,10,9]),(6,[9]),(6,[10]),(6,[10,9]),(6,[11,10,9]),(7,[9]),(7,[10]),(7,[10,9]),(7,[11,10,9]),(8,[9]),(8,[10]),(8,[10,9]),(8,[11,10,9]),(9,[10]),(10,[])] (by kernel_rfl) (by kernel_rfl) (V5 Z (A5 Z Z) (V5 Z (A5 Z Z) (V5 Z (B4 Z (.pure _ _ _ _) Z (by omega) hva) (V5 Z (D6 Z Z) (V5 Z (A5 Z Z) (V5 Z (A5 Z Z) (V5 Z (N5 Z Z (by omega)) (V5 Z (B4 Z (.pure _ _ _ _) Z (by omega) hvz2) (V5 Z (D6 Z Z) (G07 11 Z Z (G07 12 Z Z (C69 (p7 TySz.out Z Z Z Z Z Z) (C69 (p7 TySz.out Z Z Z Z Z Z) ?_)))))))))))));refine a_nil rfl ?_ ?_
 ·refine L7 Z Z (A5 Z Z) (L7 Z Z (A5 Z Z) (L7 Z Z (A5 Z Z) (L7 Z Z (A5 Z Z) (L7 Z Z (A5 Z Z) (L7 Z Z (A5 Z Z) (L7 Z Z (B4 Z (.pure _ _ _ _) Z (by omega) hva) (L7 Z Z (B4 Z (.pure _ _ _ _) Z (by omega) hva) (L7 Z Z (B4 Z (.pure _ _ _ _) Z (by omega) hva) (L7 Z Z (D6 Z Z) (L7 Z Z (D6 Z Z) (L7 Z Z (D6 Z Z) (L7 Z Z (A5 Z Z) (L7 Z Z (A5 Z Z) (L7 Z Z (A5 Z Z) (L7 Z Z (A5 Z Z) (L7 Z Z (A5 Z Z) (L7 Z Z (A5 Z Z) (L7 Z Z (A5 Z Z) (L7 Z Z (A5 Z Z) (L7 Z Z (N5 Z Z (by omega)) (L7 Z Z (N5 Z Z (by omega)) (L7 Z Z (N5 Z Z (by omega)) (L7 Z Z (N5 Z Z (by omega)) ?_)))))))))))))))))))))));refine L7 Z Z (B4 Z (.pure _ _ _ _) Z (by omega) hvz2) (L7 Z Z (B4 Z (.pure _ _ _ _) Z (by omega) hvz2) (L7 Z Z (B4 Z (.pure _ _ _ _) Z (by omega) hvz2) (L7 Z Z (B4 Z (.pure _ _ _ _) Z (by omega) hvz2) (L7 Z Z (D6 Z Z) (L7 Z Z (D6 Z Z) (L7 Z Z (D6 Z Z) (L7 Z Z (D6 Z Z) (I22 Z Z Z Z Z (I22 Z Z Z Z Z ?_)))))))));exact o_nil
 refine k1 (k2 ?_)
 refine A4 (A3 (A5 Z Z) Z (A3 (A8 Z) Z (A3 (A9 Z Z Z) Z (A3 (G54 Z Z) Z (A3 (A6 Z Z) Z (A7 ?_))))))
 rw [show (if a.Old < ctx then a.Old else ctx)=r5 ctx a.Old from rfl]
 refine k1 (k2 ?_)
 refine A4 (A3 (A5 Z Z) Z (A3 (A5 Z Z) Z (A3 (A8 Z) Z (A3 (A9 Z Z Z) Z (A3 (N5 Z Z (by omega)) Z (A3 (A8 Z) Z (A3 (A9 Z Z Z) Z (A3 (N5 Z Z (by omega)) Z (A3 (G54 Z Z) Z (A3 (A6 Z Z) Z (A7 ?_)))))))))))
 rw [show (if m - y.Old - y.OldLen < ctx then m - y.Old - y.OldLen else ctx)=r5 ctx (m - y.Old - y.OldLen) from rfl]
 refine k1 (k2 ?_)
 refine A4 (A3 (A5 Z Z) Z (A3 (A5 Z Z) Z (A3 (A8 Z) Z (A3 (A9 Z Z Z) Z (A3 (A5 Z Z) Z (A3 (N5 Z Z (by omega)) Z (A3 (A8 Z) Z (A3 (A9 Z Z Z) Z (A3 (A8 Z) Z (A3 (A9 Z Z Z) Z (A3 (C6 Z Z (by omega)) Z (A3 (A5 Z Z) Z (A3 (C6 Z Z (by omega)) Z (A3 (F9 Z) Z (A3 (A8 Z) Z (A3 (A9 Z Z Z) Z (A3 (A5 Z Z) Z (A3 (N5 Z Z (by omega)) Z (A3 (A8 Z) Z (A3 (A9 Z Z Z) Z (A3 (A8 Z) Z (A3 (A9 Z Z Z) Z (A3 (C6 Z Z (by omega)) Z ?_)))))))))))))))))))))));refine A3 (A5 Z Z) Z (A3 (C6 Z Z (by omega)) Z (A3 (F9 Z) Z (A3 (F9 Z) Z (E7 (B2 TySz.out Z Z Z Z Z Z) (A7 ?_)))))
 refine k1 (k10 ?_)
 exact B7 (retc rfl rfl rfl rfl rfl) rfl
theorem I69 (l:List Change) (m n ctx:Int) (hl:l.length≤1073741824):FnOk Tryz.prog 132 [pChanges l,G5 m,G5 n,G5 ctx] (fun rs=>rs=[pHunks (B24 l m n ctx).1,G5 (B24 l m n ctx).2]):=by
 have hg0:B24 l m n ctx=if ctx < 0∨1048576 < ctx then ([],3) else if d9 l m n≠0 then ([],d9 l m n) else (H2 l m ctx l.length,0):=rfl
 refine FnOk.intro Tryz.func132 (by decide) Z Z Z Z ?_
 refine k2 ?_
 refine A4 (A3 (A6 Z Z) Z (A3 (A6 Z Z) Z (A7 ?_)))
 refine k1 (k2 (k2 ?_))
 refine A4 (A3 (A5 Z Z) Z (A3 (F0 Z Z) Z (A3 (A5 Z Z) Z (B1 Z Z Z Z (fun hg=>by rw [hg];exact A5 Z Z) ?_))));refine B1 Z Z Z Z (fun hg=>by rw [hg];exact R5 Z Z) ?_;refine A3 (B5 Z (fun h=>by first | rfl | (rw [h];rfl)) (fun h=>by first | rfl | (rw [h];rfl))) Z ?_;refine A7 ?_
 refine k1 ?_
 refine B6 rfl (fun ht=>?_) (fun ht=>?_)
 ·simp only [or_pick] at ht
  have h:=A0 ht
  rw [if_pos h] at hg0
  refine k2 ?_
  refine A4 (A3 (T0 _ 6 hunkC) Z (A3 (A6 Z Z) Z (A7 ?_)))
  refine k1 (k10 (k11 ?_))
  exact B7 (p9 rfl rfl rfl rfl rfl) (by rw [hg0])
 simp only [or_pick] at ht
 have hc:=A1 ht
 rw [if_neg hc] at hg0
 refine k5 (k1 (k2 (k2 ?_)))
 refine A4 (A3 (A5 Z Z) Z (A3 (A5 Z Z) Z (A3 (A5 Z Z) Z (C9 (F64 l m n hl) Z Z Z ?_))));rintro _ rfl;refine A3 (A6 Z Z) Z (A7 ?_)
 refine k1 (k2 ?_)
 refine A4 (A3 (A5 Z Z) Z (A3 (K2 Z Z) Z (A7 ?_)))
 refine k1 ?_
 refine B6 rfl (fun ht=>?_) (fun ht=>?_)
 ·have h:=A0 ht
  rw [if_pos h] at hg0
  refine k2 ?_
  refine A4 (A3 (A5 Z Z) Z (A3 (T0 _ 6 hunkC) Z (A3 (A6 Z Z) Z (A7 ?_))))
  refine k1 (k10 (k11 ?_))
  exact B7 (p9 rfl rfl rfl rfl rfl) (by rw [hg0])
 have h:=A1 ht
 rw [if_neg h] at hg0
 obtain ⟨hm,hn,hs⟩:=F74 (Decidable.not_not.1 h)
 have hb:∀k,k < l.length→H5 (cAt l k).Old∧H5 (cAt l k).OldLen∧H5 (cAt l k).New∧H5 (cAt l k).NewLen:=fun k hk=>by
  obtain ⟨b1,b2,b3,b4,_⟩:=hs.get k hk
  exact ⟨b1,b2,b3,b4⟩
 refine M7 [(0,C7 Change 4 changeC l),(1,C0 m),(2,C0 n),(3,C0 ctx)] [] (J70 ⟨le1 rfl,le1 rfl,le1 rfl,le1 rfl,trivial⟩ trivial) ?_
 refine k5 (k1 (k2 ?_))
 refine A4 (C5 (A02 11 _ hunkC Z) Z (A7 ?_))
 refine k1 (k2 ?_)
 refine A4 (A3 (A6 Z Z) Z (A7 ?_))
 refine k1 (k2 (k2 ?_))
 refine A4 (A3 (A5 Z Z) Z (A3 (E3 Z (.pure _ _ _ _)) Z (A3 (A5 Z Z) Z (A7 ?_))))
 refine k1 (k3 ?_)
 refine E2 (X:=Nat × Nat × List Hunk) (fun x=>([(0,C7 Change 4 changeC l),(1,C0 m),(3,C0 ctx),(11,.s (.one (.buf 11 Hunk 6 hunkC x.2.2))),(12,C0 x.2.1),(28,C7 Change 4 changeC l),(29,C0 l.length),(30,C0 x.1)],[(11,.spare x.2.2.length 6 175)])) (fun x=>x.1≤l.length∧x.2.1≤x.1∧GrX l m ctx 0 x.2.2 x.2.1∧(∀c,x.2.1 < c→c≤x.1→c < l.length→¬opens l ctx c)∧(x.2.1 < l.length→opens l ctx x.2.1)∧(x.1=l.length→x.2.1=l.length)) (fun x=>l.length - x.1) (0,0,[]) ⟨Nat.zero_le _,Nat.le_refl _,rfl,fun c h1 h2=>by omega,fun _=>.inl rfl,fun h=>h⟩ (J70 ⟨le1 rfl,le1 rfl,le1 rfl,le1 rfl,le1 rfl,le1 rfl,le1 rfl,le1 rfl,trivial⟩ ⟨rfl,trivial⟩) ?_
 rintro ⟨i,f,out⟩ ⟨hi,hfi,hx,hno,hof,hend⟩
 dsimp only at hi hfi hx hno hof hend ⊢
 have hxl:=hx.len
 refine k2 ?_
 refine A4 (A3 (F0 Z Z) Z (A7 ?_))
 refine k1 (k2 ?_)
 refine B6 rfl (fun ht=>?_) (fun ht=>?_)
 ·have hlt:i < l.length:=by have:=A0 ht;omega
  have hv:l[((i:Nat):Int).toNat]?=some (cAt l i):=by rw [K12];exact A32 hlt
  obtain ⟨⟨b1,b2⟩,⟨b3,b4⟩,_⟩:=hb i hlt
  obtain ⟨c,hcc⟩:∃c,c=cAt l i:=⟨_,rfl⟩
  have hopi:i+1 < l.length→(opens l ctx (i+1)↔2*ctx < (cAt l (i+1)).Old - c.Old - c.OldLen):=fun h1=>by
   unfold opens
   rw [show i+1 - 1=i by omega,←hcc]
   exact ⟨fun h=>h.resolve_left (by omega),fun h=>.inr h⟩
  rw [←hcc] at hv b1 b2 b3 b4
  have hnx:∀q:Int,q=(i:Int)+1→¬q=(l.length:Int)→l[q.toNat]?=some (cAt l (i+1)):=by
   intro q hq hne
   rw [hq,show ((i:Int)+1).toNat=i+1 by omega];exact A32 (by omega)
  have hbx:¬((i:Int)+1=(l.length:Int))→0≤(cAt l (i+1)).Old∧(cAt l (i+1)).Old≤4096:=by
   intro hne;exact (hb (i+1) (by omega)).1
  refine k5 (k1 (k2 (k3 (k2 ?_))))
  refine A4 (A3 (A5 Z Z) Z (A3 (B4 Z (.pure _ _ _ _) Z (by omega) hv) Z (A3 (D6 Z Z) Z (C5 (E8 14 Z) Z (A3 (A6 Z Z) Z (E7 (B2 TySz.out Z Z Z Z Z Z) (A7 ?_)))))))
  refine k1 (k2 ?_)
  refine E1 (by kernel_rfl) (by kernel_rfl) (B0 (A5 Z Z) Z Z (B0 (C6 Z Z (by omega)) Z Z (B0 (A5 Z Z) Z Z (B0 (E3 Z (.pure _ _ _ _)) Z Z (B0 (Q0 Z Z) Z Z (B0 (A5 Z Z) Z Z (D7 Z Z (fun hg=>by rw [hg];exact A5 Z Z) Z Z ?_)))))));refine D7 Z Z (fun hg=>by rw [hg];exact A5 Z Z) Z Z ?_;refine D7 Z Z (fun hg=>by have hq:=hg;(try simp at hq);skip;rw [hg];exact C6 Z Z (by omega)) Z Z ?_;refine D7 Z Z (fun hg=>by have hq:=hg;(try simp at hq);rw [hg];exact B4 Z (.pure _ _ _ _) Z (by omega) (hnx _ Z (by simpa using hq))) Z Z ?_;refine D7 Z Z (fun hg=>by rw [hg];exact s5 Z) Z Z ?_;refine D7 Z Z (fun hg=>by rw [hg];exact C8 Z Z) Z Z ?_;refine D7 Z Z (fun hg=>by rw [hg];exact A8 Z) Z Z ?_;refine D7 Z Z (fun hg=>by rw [hg];exact A9 Z Z Z) Z Z ?_;refine D7 Z Z (fun hg=>by have hq:=hg;(try simp at hq);rw [hg];exact N5 Z Z (by (have:=hbx (by simpa using hq);omega))) Z Z ?_;refine D7 Z Z (fun hg=>by rw [hg];exact A8 Z) Z Z ?_;refine D7 Z Z (fun hg=>by rw [hg];exact A9 Z Z Z) Z Z ?_;refine D7 Z Z (fun hg=>by have hq:=hg;(try simp at hq);rw [hg];exact N5 Z Z (by (have:=hbx (by simpa using hq);omega))) Z Z ?_;refine D7 Z Z (fun hg=>by rw [hg];exact A5 Z Z) Z Z ?_;refine D7 Z Z (fun hg=>by have hq:=hg;(try simp at hq);rw [hg];exact C16 Z Z (by omega)) Z Z ?_;refine D7 Z Z (fun hg=>by rw [hg];exact R5 Z Z) Z Z ?_;refine B0 (B5 Z (fun h=>by first | rfl | (rw [h];rfl)) (fun h=>by first | rfl | (rw [h];rfl))) Z Z ?_;refine L4 ?_
  refine k1 ?_
  refine B6 rfl (fun ht=>?_) (fun ht=>?_)
  ·simp only [or_pick] at ht
   have hcl:=A0 ht
   have hnext:i+1 < l.length→opens l ctx (i+1):=fun h1=>by
    rw [hopi h1]
    exact hcl.resolve_left (by omega)
   refine M7 [(0,C7 Change 4 changeC l),(1,C0 m),(3,C0 ctx),(11,.s (.one (.buf 11 Hunk 6 hunkC out))),(12,C0 f),(13,C0 i),(28,C7 Change 4 changeC l),(29,C0 l.length),(30,C0 i)] [(11,.spare out.length 6 175)] (J70 ⟨le1 rfl,le1 rfl,le1 rfl,le1 rfl,le1 rfl,le1 rfl,le1 rfl,le1 rfl,le1 rfl,trivial⟩ ⟨rfl,trivial⟩) ?_
   refine k2 ?_
   refine A4 (A3 (A5 Z Z) Z (A3 (A5 Z Z) Z (A3 (A5 Z Z) Z (A3 (A5 Z Z) Z (A3 (C6 Z Z (by omega)) Z (A3 (A5 Z Z) Z (A3 (A5 Z Z) Z (C9 (H67 l f (i+1) m ctx hl (by omega) (by omega) (by omega) hm hb) Z Z Z ?_))))))));rintro _ rfl;refine A3 (E6 (c:=hunkC) (ys:=[mkH l m ctx f (i+1)]) (F3 Z Z Z Z I6) Z Z Z) Z (C5 (I9 Z Z Z (.pure _ _ _ _) (by (simp only [K07,K10];omega)) Z) Z (A3 (A6 Z Z) Z (A7 ?_)))
   refine k1 ?_
   refine A4 (A3 (A5 Z Z) Z (A3 (C6 Z Z (by omega)) Z (A3 (A6 Z Z) Z (A7 ?_))))
   refine k4 (k1 ?_)
   refine A4 (A3 (C6 Z Z (by omega)) Z (A3 (A5 Z Z) Z (A7 ?_)))
   refine k1 ?_
   refine ⟨(i+1,i+1,out++[mkH l m ctx f (i+1)]),⟨by dsimp only;omega,Nat.le_refl _,?_,fun c h1 h2=>by dsimp only at h1 h2;omega,fun h1=>hnext h1,fun h1=>h1⟩,by dsimp only;omega,J70 ⟨le1 rfl,le1 rfl,le1 rfl,le1 rfl,le1 rfl,le1 rfl,le1 rfl,le1 rfl,trivial⟩ ⟨rfl,trivial⟩⟩
   exact hx.snoc (hof (by omega)) (by omega) (fun c h1 h2=>hno c h1 (by omega) (by omega))
  ·simp only [or_pick] at ht
   have hcl:=A1 ht
   have hne:¬(i:Int)+1=l.length:=fun q=>hcl (.inl q)
   have hnext:¬opens l ctx (i+1):=fun q=>by
    rw [hopi (by omega)] at q
    exact hcl (.inr q)
   refine k5 (k4 (k1 ?_))
   refine A4 (A3 (C6 Z Z (by omega)) Z (A3 (A5 Z Z) Z (A7 ?_)))
   refine k1 ?_
   refine ⟨(i+1,f,out),⟨by dsimp only;omega,by dsimp only;omega,hx,fun c h1 h2 h3=>?_,hof,fun h1=>by dsimp only at h1;omega⟩,by dsimp only;omega,J70 ⟨le1 rfl,le1 rfl,le1 rfl,le1 rfl,le1 rfl,le1 rfl,le1 rfl,le1 rfl,trivial⟩ ⟨rfl,trivial⟩⟩
   dsimp only at h1 h2
   by_cases hce:c=i+1
   ·rw [hce];exact hnext
   ·exact hno c h1 (by omega) h3
 ·have hi':i=l.length:=by have:=A1 ht;omega
  have hf':=hend hi'
  rw [hf'] at hx
  refine k6 (k2 ?_)
  refine A4 (A3 (A5 Z Z) Z (A3 (A6 Z Z) Z (A3 (A6 Z Z) Z (A7 ?_))))
  refine k1 (k10 ?_)
  exact B7 (p9 rfl rfl rfl rfl rfl) (by rw [hg0,GrX.unique hx (D75 l m ctx l.length)])
end Go.Proofs.YtbiadkkamhpdnaaGreatDoor
