/- Walks of the program's functions. -/
import Derived.Test.YtbiadkkamhpdnaaGreatDoorFb
import Derived.Test.YtbiadkkamhpdnaaGreatDoorFs
import Derived.Test.YtbiadkkamhpdnaaGreatDoorAn
set_option linter.unusedSimpArgs false
namespace Go.Proofs.YtbiadkkamhpdnaaGreatDoor
open Go Go.AL
set_option maxRecDepth 100000
def wTo (p:Patch) (k:Nat):Str:=(W5 p++((p.Hunks.take k).map R3).flatten).flatten
theorem E18 (p:Patch) (k:Nat) (h:k < p.Hunks.length):wTo p (k+1)=wTo p k++(R3 p.Hunks[k]).flatten:=by
 unfold wTo
 rw [B98 _ _ h];simp only [G20,G28]
def lTo (ls:List PatchLine) (n:Nat):Str:=((ls.take n).map P0).flatten.flatten
theorem E19 (ls:List PatchLine) (n:Nat) (h:n < ls.length):lTo ls (n+1)=lTo ls n++(P0 ls[n]).flatten:=by
 unfold lTo;rw [B99 _ _ h,G20]
theorem E20 (p:Patch) (hp:PFit p) (hrange:∀h∈p.Hunks,(-4611686018427387904≤h.Old∧h.Old≤4611686018427387904)∧(-4611686018427387904≤h.New∧h.New≤4611686018427387904)):FnOk Tryz.prog 77 [pPatch p] (fun rs=>rs=[I1 (O0 p)]):=by
 have hsl:=U4 p.Hunks
 have hpl:=hp.hunks
 have hpo:=hp.old
 have hpn:=hp.new
 have hq1:=Z1 p.OldName
 have hq2:=Z1 p.NewName
 have hnf:=Z3 p
 have hw0:wTo p 0=[45,45,45,32]++c4 p.OldName++[10,43,43,43,32]++c4 p.NewName++[10]:=by
  unfold wTo W5;simp
 have hwl:∀k,(wTo p k).length≤33554446+szP p.Hunks:=fun k=>by
  have h1:=W2 (p.Hunks.take k)
  have h2:=A09 p.Hunks k
  unfold wTo;rw [G20,G07];omega
 refine FnOk.intro Tryz.func77 (by decide) Z Z Z Z ?_
 refine k2 ?_
 refine A3 (C4 (U9 1 Z Z Z) Z (A2 (A5 Z Z) Z (A6 ?_)))
 refine k1 (k2 ?_)
 refine A3 (C4 (D96 700 Z) Z (A6 ?_))
 refine k1 (k2 ?_)
 refine K3 (F91 701 UInt8 1 u8C 5 (kb:=700) (o:=1) Z Z Z) ?_
 have hwl0:=hwl 0
 rw [hw0] at hwl0
 refine K8 10 (by kernel_rfl) (by kernel_rfl) Z (B0 (A7 Z) Z Z (B0 (A9 Z Z Z) Z Z (B0 (E9 (D23 p.OldName (by omega)) Z Z) Z Z (B0 (F2 Z Z (by (simp only [G10,G11];omega))) Z Z (B0 (F2 Z Z (by (simp only [G07,G10,G11];omega))) Z Z (B0 (A7 Z) Z Z (B0 (A9 Z Z Z) Z Z (B0 (E9 (D23 p.NewName (by omega)) Z Z) Z Z (B0 (F2 Z Z (by (simp only [G07,G10,G11];omega))) Z Z (B0 (F2 Z Z (by (simp only [G07,G10,G11];omega))) Z Z (H5 (a6 (T0 (xs:=[]) ⟨⟨_,.inl rfl,rfl⟩,rfl⟩ (by simp only [G11];omega)) Z Z Z ?_))))))))))));rintro _ _ ⟨rfl,rfl⟩;refine ⟨_,rfl,?_⟩;refine H5 ?_
 rw [←hw0]
 refine k1 (k2 (k2 ?_))
 refine A3 (A2 (A7 Z) Z (A2 (A9 Z Z Z) Z (A2 (E1 Z (.pure _ _ _ _)) Z (A2 (A4 Z Z) Z (A6 ?_)))))
 refine k1 (k3 ?_)
 refine D8 (X:=Nat) (fun k=>([(3,.s (.one (.ref 700 0))),(20,D5 PatchHunk 3 phunkC p.Hunks),(21,D2 p.Hunks.length),(22,D2 k)],[(700,.tbx 124 [.ref 700 0,.buf 701 UInt8 1 u8C (wTo p k)]),(701,.spare (wTo p k).length 1 5)])) (fun k=>k≤p.Hunks.length) (fun k=>p.Hunks.length - k) 0 (Nat.zero_le _) (F77 ⟨le1 rfl,le1 rfl,le1 rfl,le1 rfl,trivial⟩ ⟨rfl,rfl,trivial⟩) ?_
 intro k hk
 dsimp only at hk ⊢
 refine k2 ?_
 refine A3 (A2 (E5 Z Z) Z (A6 ?_))
 refine k1 (k2 ?_)
 refine B4 rfl (fun ht=>?_) (fun ht=>?_)
 ·have hlt:k < p.Hunks.length:=by have:=A0 ht;omega
  have hv:p.Hunks[k]?=some p.Hunks[k]:=by simp [hlt]
  have hmem:p.Hunks[k]∈p.Hunks:=G22 hlt
  have hsucc:=E18 p k hlt
  have hwk:=hwl k
  obtain ⟨h,hx⟩:∃x,x=p.Hunks[k]:=⟨_,rfl⟩
  rw [←hx] at hv hmem hsucc
  have h1:=U3 hmem
  have h3:=P1 h.Lines
  have h4:=B76 h
  have hr:=hrange h hmem
  unfold szH at h1
  obtain ⟨base,hbase⟩:∃base,base=wTo p k:=⟨_,rfl⟩
  rw [←hbase] at hsucc hwk ⊢
  refine k5 (k1 (k2 (k3 (k2 ?_))))
  refine A3 (A2 (B1 Z (.pure _ _ _ _) Z (by omega) hv) Z (A2 (D3 Z Z) Z (C4 (F7 5 Z) Z (F3 (B8 TySz.out Z Z Z Z Z Z) (A6 ?_)))))
  refine k1 (k2 ?_)
  refine A3 (A2 (C1 Z Z Z) Z (C2 (C53 h (by omega) hr.1 hr.2) Z Z Z ?_));rintro _ rfl;refine t6 (T0 (xs:=base) (s:=R9 h) ⟨⟨_,.inr rfl,rfl⟩,rfl⟩ (by omega)) Z Z Z ?_;rintro _ _ ⟨rfl,rfl⟩;refine A6 ?_
  refine k1 (k2 ?_)
  refine A3 (A2 (A7 Z) Z (A2 (A9 Z Z Z) Z (A2 (E1 Z (.pure _ _ _ _)) Z (A2 (A4 Z Z) Z (A6 ?_)))))
  refine k1 (k3 ?_)
  refine D8 (X:=Nat) (fun n=>([(3,.s (.one (.ref 700 0))),(20,D5 PatchHunk 3 phunkC p.Hunks),(21,D2 p.Hunks.length),(22,D2 k),(30,D5 PatchLine 2 plineC h.Lines),(31,D2 h.Lines.length),(32,D2 n)],[(700,.tbx 124 [.ref 700 0,.buf 701 UInt8 1 u8C (base++R9 h++lTo h.Lines n)]),(701,.spare (base++R9 h++lTo h.Lines n).length 1 5)])) (fun n=>n≤h.Lines.length) (fun n=>h.Lines.length - n) 0 (Nat.zero_le _) ?_ ?_
  ·have e:base++R9 h++lTo h.Lines 0=base++R9 h:=by simp [lTo]
   rw [e]
   exact F77 ⟨le1 rfl,le1 rfl,le1 rfl,le1 rfl,le1 rfl,le1 rfl,le1 rfl,trivial⟩ ⟨rfl,rfl,trivial⟩
  intro n hn1
  dsimp only at hn1 ⊢
  have hll:=A32 (h.Lines.take n)
  have hl2:=E40 h.Lines n
  have hlt0:(lTo h.Lines n).length≤(h.Lines.map szL).sum:=by unfold lTo;omega
  refine k2 ?_
  refine A3 (A2 (E5 Z Z) Z (A6 ?_))
  refine k1 (k2 ?_)
  refine B4 rfl (fun ht=>?_) (fun ht=>?_)
  ·have hlt2:n < h.Lines.length:=by have:=A0 ht;omega
   have hv2:h.Lines[n]?=some h.Lines[n]:=by simp [hlt2]
   have hmem2:=x8 (G22 hlt2)
   have hsucc2:=E19 h.Lines n hlt2
   obtain ⟨x,hx2⟩:∃x,x=h.Lines[n]:=⟨_,rfl⟩
   rw [←hx2] at hv2 hmem2 hsucc2
   obtain ⟨bs,hbs⟩:∃bs,bs=base++R9 h++lTo h.Lines n:=⟨_,rfl⟩
   have hbl:bs.length≤33554446+szP p.Hunks+52+szP p.Hunks:=by rw [hbs,G07,G07];omega
   rw [←hbs]
   have hm29:markS.length=29:=rfl
   refine k5 (k1 (k2 (k3 (k2 ?_))))
   refine A3 (A2 (B1 Z (.pure _ _ _ _) Z (by omega) hv2) Z (A2 (D3 Z Z) Z (C4 (F7 7 Z) Z (F3 (B8 TySz.out Z Z Z Z Z Z) (A6 ?_)))))
   refine k1 (k2 ?_)
   refine A3 (A2 (A7 Z) Z (A2 (A9 Z Z Z) Z (t6 (y7 (xs:=bs) (c:=x.Kind) ⟨⟨_,.inr rfl,rfl⟩,rfl⟩ (by omega)) Z Z Z ?_)));rintro _ _ ⟨rfl,rfl⟩;refine A6 ?_
   refine k1 (k2 ?_)
   refine A3 (A2 (A7 Z) Z (A2 (A9 Z Z Z) Z (t6 (T0 (xs:=bs++[x.Kind]) (s:=x.Text) ⟨⟨_,.inr rfl,rfl⟩,rfl⟩ (by simp only [G07,G10,G11];omega)) Z Z Z ?_)));rintro _ _ ⟨rfl,rfl⟩;refine A6 ?_
   refine k1 (k2 ?_)
   refine A3 (A2 (A7 Z) Z (A2 (A9 Z Z Z) Z (C2 (A80 x.Text (by omega)) Z Z Z ?_)));rintro _ rfl;refine A2 (L2 Z) Z (A6 ?_)
   refine k1 ?_
   refine B4 rfl (fun ht=>?_) (fun ht=>?_)
   ·have h2:ended x.Text=false:=by simpa using ht
    have e:base++R9 h++lTo h.Lines (n+1)=bs++[x.Kind]++x.Text++markS:=by
     rw [hsucc2,hbs,P0,h2];simp
    skip
    refine A3 (t6 (T0 (xs:=bs++[x.Kind]++x.Text) (s:=markS) ⟨⟨_,.inr rfl,rfl⟩,rfl⟩ (by simp only [G07,G10,G11];omega)) Z Z Z ?_);rintro _ _ ⟨rfl,rfl⟩;refine A6 ?_
    refine k4 (k1 ?_)
    refine A3 (A2 (C3 Z Z (by omega)) Z (A2 (A4 Z Z) Z (A6 ?_)))
    refine k1 ?_
    refine ⟨n+1,by omega,by omega,?_⟩
    rw [e]
    exact F77 ⟨le1 rfl,le1 rfl,le1 rfl,le1 rfl,le1 rfl,le1 rfl,le1 rfl,trivial⟩ ⟨rfl,rfl,trivial⟩
   ·have h2:ended x.Text=true:=by simpa using ht
    have e:base++R9 h++lTo h.Lines (n+1)=bs++[x.Kind]++x.Text:=by
     rw [hsucc2,hbs,P0,h2];simp
    refine k5 (k4 (k1 ?_))
    refine A3 (A2 (C3 Z Z (by omega)) Z (A2 (A4 Z Z) Z (A6 ?_)))
    refine k1 ?_
    refine ⟨n+1,by omega,by omega,?_⟩
    rw [e]
    exact F77 ⟨le1 rfl,le1 rfl,le1 rfl,le1 rfl,le1 rfl,le1 rfl,le1 rfl,trivial⟩ ⟨rfl,rfl,trivial⟩
  ·have hn':n=h.Lines.length:=by have:=A1 ht;omega
   subst hn'
   have e:wTo p (k+1)=base++R9 h++lTo h.Lines h.Lines.length:=by
    rw [hsucc,R3,lTo,G23];simp
   rw [←e]
   refine k6 (k7 (k7 (k8 Z (k4 (k1 ?_)))))
   refine A3 (A2 (C3 Z Z (by omega)) Z (A2 (A4 Z Z) Z (A6 ?_)))
   refine k1 ?_
   exact ⟨k+1,by omega,by omega,F77 ⟨le1 rfl,le1 rfl,le1 rfl,le1 rfl,trivial⟩ ⟨rfl,rfl,trivial⟩⟩
 ·have hk':k=p.Hunks.length:=by have:=A1 ht;omega
  subst hk'
  have e:wTo p p.Hunks.length=O0 p:=by unfold wTo O0 A31;rw [G23]
  rw [e]
  refine k6 (k2 ?_)
  refine A3 (D09 (k:=700) (k':=701) ⟨_,rfl,rfl,rfl⟩ A98 Z Z Z Z Z (.inr Z) Z (A2 (A5 Z Z) Z (A6 ?_)))
  refine k1 (k10 ?_)
  exact B5 (F5 rfl rfl rfl) rfl
theorem F65 (p:Patch) (hp:PFit p) (hrange:∀h∈p.Hunks,(-4611686018427387904≤h.Old∧h.Old≤4611686018427387904)∧(-4611686018427387904≤h.New∧h.New≤4611686018427387904)):FnOk Tryz.prog 81 [pPatch p] (fun rs=>rs=[I8 (O0 p).length]):=by
 have hsl:=U4 p.Hunks
 have hpl:=hp.hunks
 have hpo:=hp.old
 have hpn:=hp.new
 have hnf:=Z3 p
 have hw0:(O0 ⟨p.OldName,p.NewName,[]⟩).length=(wTo p 0).length:=by
  unfold O0 wTo A31 W5;simp
 have hwl:∀k,(wTo p k).length≤33554446+szP p.Hunks:=fun k=>by
  have h1:=W2 (p.Hunks.take k)
  have h2:=A09 p.Hunks k
  unfold wTo;rw [G20,G07];omega
 refine FnOk.intro Tryz.func81 (by decide) Z Z Z Z ?_
 refine k2 ?_
 refine A3 (C4 (U9 1 Z Z Z) Z (A2 (A5 Z Z) Z (A6 ?_)))
 refine k1 (k2 ?_)
 refine A3 (A2 (A7 Z) Z (A2 (A9 Z Z Z) Z (A2 (A7 Z) Z (A2 (A9 Z Z Z) Z (A2 (J2 Z) Z (l_sees (F99 PatchHunk 3 phunkC 12 2 Z Z) (C2 (E20 ⟨p.OldName,p.NewName,[]⟩ ⟨by dsimp only;omega,by dsimp only;omega,by simp [szP]⟩ (by simp)) Z Z Z ?_)))))));rintro _ rfl;refine A2 (H7 Z) Z (A2 (A5 Z Z) Z (A6 ?_))
 rw [hw0]
 refine k1 (k2 (k2 ?_))
 refine A3 (A2 (A7 Z) Z (A2 (A9 Z Z Z) Z (A2 (E1 Z (.pure _ _ _ _)) Z (A2 (A4 Z Z) Z (A6 ?_)))))
 refine k1 (k3 ?_)
 refine D8 (X:=Nat) (fun k=>([(3,D2 (wTo p k).length),(16,D5 PatchHunk 3 phunkC p.Hunks),(17,D2 p.Hunks.length),(18,D2 k)],[])) (fun k=>k≤p.Hunks.length) (fun k=>p.Hunks.length - k) 0 (Nat.zero_le _) (F77 ⟨le1 rfl,le1 rfl,le1 rfl,le1 rfl,trivial⟩ trivial) ?_
 intro k hk
 dsimp only at hk ⊢
 have hwk:=hwl k
 refine k2 ?_
 refine A3 (A2 (E5 Z Z) Z (A6 ?_))
 refine k1 (k2 ?_)
 refine B4 rfl (fun ht=>?_) (fun ht=>?_)
 ·have hlt:k < p.Hunks.length:=by have:=A0 ht;omega
  have hv:p.Hunks[k]?=some p.Hunks[k]:=by simp [hlt]
  have hmem:p.Hunks[k]∈p.Hunks:=G22 hlt
  have hsucc:=E18 p k hlt
  obtain ⟨h,hx⟩:∃x,x=p.Hunks[k]:=⟨_,rfl⟩
  rw [←hx] at hv hmem hsucc
  have h1:=U3 hmem
  have h3:=P1 h.Lines
  have h4:=B76 h
  have hr:=hrange h hmem
  unfold szH at h1
  obtain ⟨base,hbase⟩:∃base,base=(wTo p k).length:=⟨_,rfl⟩
  rw [←hbase] at hwk ⊢
  have hsl2:(wTo p (k+1)).length=base+(R9 h).length+(lTo h.Lines h.Lines.length).length:=by
   rw [hsucc,R3,lTo,G23,hbase];simp;omega
  refine k5 (k1 (k2 (k3 (k2 ?_))))
  refine A3 (A2 (B1 Z (.pure _ _ _ _) Z (by omega) hv) Z (A2 (D3 Z Z) Z (C4 (F7 5 Z) Z (F3 (B8 TySz.out Z Z Z Z Z Z) (A6 ?_)))))
  refine k1 (k2 ?_)
  refine A3 (A2 (A4 Z Z) Z (A2 (C1 Z Z Z) Z (C2 (C53 h (by omega) hr.1 hr.2) Z Z Z ?_)));rintro _ rfl;refine A2 (H7 Z) Z (A2 (C3 Z Z (by omega)) Z (A2 (A5 Z Z) Z (A6 ?_)))
  refine k1 (k2 ?_)
  refine A3 (A2 (A7 Z) Z (A2 (A9 Z Z Z) Z (A2 (E1 Z (.pure _ _ _ _)) Z (A2 (A4 Z Z) Z (A6 ?_)))))
  refine k1 (k3 ?_)
  refine D8 (X:=Nat) (fun n=>([(3,D2 (base+(R9 h).length+(lTo h.Lines n).length:Nat)),(16,D5 PatchHunk 3 phunkC p.Hunks),(17,D2 p.Hunks.length),(18,D2 k),(28,D5 PatchLine 2 plineC h.Lines),(29,D2 h.Lines.length),(30,D2 n)],[])) (fun n=>n≤h.Lines.length) (fun n=>h.Lines.length - n) 0 (Nat.zero_le _) ?_ ?_
  ·have e:((base+(R9 h).length+(lTo h.Lines 0).length:Nat):Int)=(base:Int)+((R9 h).length:Int):=by simp [lTo]
   rw [e]
   exact F77 ⟨le1 rfl,le1 rfl,le1 rfl,le1 rfl,le1 rfl,le1 rfl,le1 rfl,trivial⟩ trivial
  intro n hn1
  dsimp only at hn1 ⊢
  have hll:=A32 (h.Lines.take n)
  have hl2:=E40 h.Lines n
  have hlt0:(lTo h.Lines n).length≤(h.Lines.map szL).sum:=by unfold lTo;omega
  refine k2 ?_
  refine A3 (A2 (E5 Z Z) Z (A6 ?_))
  refine k1 (k2 ?_)
  refine B4 rfl (fun ht=>?_) (fun ht=>?_)
  ·have hlt2:n < h.Lines.length:=by have:=A0 ht;omega
   have hv2:h.Lines[n]?=some h.Lines[n]:=by simp [hlt2]
   have hmem2:=x8 (G22 hlt2)
   have hsucc2:=E19 h.Lines n hlt2
   obtain ⟨x,hx2⟩:∃x,x=h.Lines[n]:=⟨_,rfl⟩
   rw [←hx2] at hv2 hmem2 hsucc2
   have hm29:markS.length=29:=rfl
   refine k5 (k1 (k2 (k3 (k2 ?_))))
   refine A3 (A2 (B1 Z (.pure _ _ _ _) Z (by omega) hv2) Z (A2 (D3 Z Z) Z (C4 (F7 7 Z) Z (F3 (B8 TySz.out Z Z Z Z Z Z) (A6 ?_)))))
   refine k1 (k2 ?_)
   refine A3 (A2 (A4 Z Z) Z (A2 (A7 Z) Z (A2 (A9 Z Z Z) Z (A2 (H7 Z) Z (A2 (C3 Z Z (by omega)) Z (A2 (C3 Z Z (by omega)) Z (A2 (A5 Z Z) Z (A6 ?_))))))))
   refine k1 (k2 ?_)
   refine A3 (A2 (A7 Z) Z (A2 (A9 Z Z Z) Z (C2 (A80 x.Text (by omega)) Z Z Z ?_)));rintro _ rfl;refine A2 (L2 Z) Z (A6 ?_)
   refine k1 ?_
   refine B4 rfl (fun ht=>?_) (fun ht=>?_)
   ·have h2:ended x.Text=false:=by simpa using ht
    have e:((base+(R9 h).length+(lTo h.Lines (n+1)).length:Nat):Int)=((base+(R9 h).length+(lTo h.Lines n).length:Nat):Int)+(1+(x.Text.length:Int))+29:=by
     rw [hsucc2,P0,h2];simp [hm29];omega
    skip
    refine A3 (A2 (A4 Z Z) Z (A2 (C3 Z Z (by omega)) Z (A2 (A5 Z Z) Z (A6 ?_))))
    refine k4 (k1 ?_)
    refine A3 (A2 (C3 Z Z (by omega)) Z (A2 (A4 Z Z) Z (A6 ?_)))
    refine k1 ?_
    refine ⟨n+1,by omega,by omega,?_⟩
    rw [e]
    exact F77 ⟨le1 rfl,le1 rfl,le1 rfl,le1 rfl,le1 rfl,le1 rfl,le1 rfl,trivial⟩ trivial
   ·have h2:ended x.Text=true:=by simpa using ht
    have e:((base+(R9 h).length+(lTo h.Lines (n+1)).length:Nat):Int)=((base+(R9 h).length+(lTo h.Lines n).length:Nat):Int)+(1+(x.Text.length:Int)):=by
     rw [hsucc2,P0,h2];simp;omega
    refine k5 (k4 (k1 ?_))
    refine A3 (A2 (C3 Z Z (by omega)) Z (A2 (A4 Z Z) Z (A6 ?_)))
    refine k1 ?_
    refine ⟨n+1,by omega,by omega,?_⟩
    rw [e]
    exact F77 ⟨le1 rfl,le1 rfl,le1 rfl,le1 rfl,le1 rfl,le1 rfl,le1 rfl,trivial⟩ trivial
  ·have hn':n=h.Lines.length:=by have:=A1 ht;omega
   subst hn'
   rw [←hsl2]
   refine k6 (k7 (k7 (k8 Z (k4 (k1 ?_)))))
   refine A3 (A2 (C3 Z Z (by omega)) Z (A2 (A4 Z Z) Z (A6 ?_)))
   refine k1 ?_
   exact ⟨k+1,by omega,by omega,F77 ⟨le1 rfl,le1 rfl,le1 rfl,le1 rfl,trivial⟩ trivial⟩
 ·have hk':k=p.Hunks.length:=by have:=A1 ht;omega
  subst hk'
  have e:wTo p p.Hunks.length=O0 p:=by unfold wTo O0 A31;rw [G23]
  rw [e]
  refine k6 (k2 ?_)
  refine A3 (A2 (A4 Z Z) Z (A2 (A5 Z Z) Z (A6 ?_)))
  refine k1 (k10 ?_)
  exact B5 (F5 rfl rfl rfl) rfl
abbrev U2 (e:Int) (o:Bool):Ob:=.box [.p (.v (.int .i64 e)),.p (.v (.bool o))]
theorem E21 {gf:Fr} (h h':PatchHunk) (i j:Int) (o n:Bool) (hl:(h.Lines.map szL).sum≤268435456) (hi:0≤i∧i≤8192) (hj:0≤j∧j≤8192) (hf3:G8 3 gf=true) (hf8:G8 8 gf=true) :
  AL.Met Tryz.prog 141 [(pPhunk h).s1,.one (.ref 710 0),.one (.ref 711 0)] gf [(6,.box (pPhunk h').s1.cells),(710,U2 i o),(711,U2 j n)] []
   (fun rs ob'=>∃b,rs=[.one (.p (.v (.bool b)))]∧b=(decide (¬R4 i j h)&&match c5 o n h.Lines with
    | none=>false
    | some _=>decide (h.Old+H9 h≤4096∧h.New+M3 h≤4096)) ∧
    (b=true→∃o' n',c5 o n h.Lines=some (o',n')∧ob'=[(6,.box (pPhunk h').s1.cells),(710,U2 (h.Old+H9 h) o'),(711,U2 (h.New+M3 h) n')])):=by
 refine AL.Met.introH Tryz.func141 (by decide) rfl rfl rfl (fun hH=>?_)
 refine k2 ?_
 refine A3 (C4 (U9 3 Z Z (show ((G8 3 gf&&true)&&true)=true by rw [hf3];rfl)) Z ?_);refine A2 (A5 Z Z) Z (A6 ?_)
 refine k1 (k2 (k2 ?_))
 refine D7 (by kernel_rfl) (by kernel_rfl) (B0 (A7 Z) Z Z (B0 (A9 Z Z Z) Z Z (B0 (E5 Z Z) Z Z (B0 (A4 Z Z) Z Z (C7 Z Z (fun hg=>by rw [hg];exact A7 Z) Z Z ?_)))));refine C7 Z Z (fun hg=>by rw [hg];exact A9 Z Z Z) Z Z ?_;refine C7 Z Z (fun hg=>by rw [hg];exact E5 Z Z) Z Z ?_;refine B0 (B2 Z (fun h=>by first | rfl | (rw [h];rfl)) (fun h=>by first | rfl | (rw [h];rfl))) Z Z ?_;refine B0 (A4 Z Z) Z Z (C7 Z Z (fun hg=>by rw [hg];exact A7 Z) Z Z ?_);refine C7 Z Z (fun hg=>by rw [hg];exact A9 Z Z Z) Z Z ?_;refine C7 Z Z (fun hg=>by rw [hg];exact L1 Z Z) Z Z ?_;refine B0 (B2 Z (fun h=>by first | rfl | (rw [h];rfl)) (fun h=>by first | rfl | (rw [h];rfl))) Z Z ?_;refine B0 (A4 Z Z) Z Z (C7 Z Z (fun hg=>by rw [hg];exact A7 Z) Z Z ?_);refine C7 Z Z (fun hg=>by rw [hg];exact A9 Z Z Z) Z Z ?_;refine C7 Z Z (fun hg=>by rw [hg];exact L1 Z Z) Z Z ?_;refine B0 (B2 Z (fun h=>by first | rfl | (rw [h];rfl)) (fun h=>by first | rfl | (rw [h];rfl))) Z Z ?_;refine B0 (A4 Z Z) Z Z (C7 Z Z (fun hg=>by rw [hg];exact A7 Z) Z Z ?_);refine C7 Z Z (fun hg=>by rw [hg];exact A9 Z Z Z) Z Z ?_;refine C7 Z Z (fun hg=>by rw [hg];exact A4 Z Z) Z Z ?_;refine C7 Z Z (fun hg=>by rw [hg];exact G5 Z) Z Z ?_;refine C7 Z Z (fun hg=>by rw [hg];exact A7 Z) Z Z ?_;refine C7 Z Z (fun hg=>by rw [hg];exact A9 Z Z Z) Z Z ?_;refine C7 Z Z (fun hg=>by rw [hg];exact E5 Z Z) Z Z ?_;refine B0 (B2 Z (fun h=>by first | rfl | (rw [h];rfl)) (fun h=>by first | rfl | (rw [h];rfl))) Z Z ?_;refine B0 (A4 Z Z) Z Z (C7 Z Z (fun hg=>by rw [hg];exact A7 Z) Z Z ?_);refine C7 Z Z (fun hg=>by rw [hg];exact A9 Z Z Z) Z Z ?_;refine C7 Z Z (fun hg=>by rw [hg];exact A4 Z Z) Z Z ?_;refine C7 Z Z (fun hg=>by rw [hg];exact G5 Z) Z Z ?_;refine C7 Z Z (fun hg=>by rw [hg];exact A7 Z) Z Z ?_;refine C7 Z Z (fun hg=>by rw [hg];exact A9 Z Z Z) Z Z ?_;refine C7 Z Z (fun hg=>by have hq:=hg;(try simp at hq);rw [hg];exact N6 Z Z (by omega)) Z Z ?_;refine C7 Z Z (fun hg=>by rw [hg];exact A7 Z) Z Z ?_;refine C7 Z Z (fun hg=>by rw [hg];exact A9 Z Z Z) Z Z ?_
 refine C7 Z Z (fun hg=>by rw [hg];exact A4 Z Z) Z Z ?_;refine C7 Z Z (fun hg=>by rw [hg];exact G5 Z) Z Z ?_;refine C7 Z Z (fun hg=>by rw [hg];exact A7 Z) Z Z ?_;refine C7 Z Z (fun hg=>by rw [hg];exact A9 Z Z Z) Z Z ?_;refine C7 Z Z (fun hg=>by have hq:=hg;(try simp at hq);rw [hg];exact N6 Z Z (by omega)) Z Z ?_;refine C7 Z Z (fun hg=>by rw [hg];exact H8 Z Z) Z Z ?_;refine B0 (B2 Z (fun h=>by first | rfl | (rw [h];rfl)) (fun h=>by first | rfl | (rw [h];rfl))) Z Z ?_;refine H5 ?_
 refine k1 ?_
 refine B4 rfl (fun ht=>?_) (fun ht=>?_)
 ·simp only [or_pick] at ht
  have hb:R4 i j h:=A0 ht
  refine k2 ?_
  refine A3 (A2 (A5 Z Z) Z (A6 ?_))
  refine k1 (k10 (k11 ?_))
  refine X4 (B32 rfl rfl) (by repeat (first | exact I4 | refine I5 rfl ?_ | refine K6 _ ?_)) (fun _ _ h=>h) ⟨false,rfl,by rw [decide_eq_false (fun hh=>hh hb)];rfl,fun hh=>by cases hh⟩
 ·simp only [or_pick] at ht
  have hb:¬R4 i j h:=A1 ht
  have hln:=P1 h.Lines
  refine k5 (k1 (k2 (k2 ?_)))
  refine A3 (A2 (A7 Z) Z (A2 (A9 Z Z Z) Z (A2 (E1 Z (.pure _ _ _ _)) Z (A2 (A4 Z Z) Z (A6 ?_)))))
  refine k1 (k3 ?_)
  refine D8 (X:=Nat × Bool × Bool) (fun z=>([(1,.s (.one (.ref 710 0))),(2,.s (.one (.ref 711 0))),(3,.s (.one (.ref 3 0))),(56,D5 PatchLine 2 plineC h.Lines),(57,D2 h.Lines.length),(58,D2 z.1)]++gf,[(3,.box (pPhunk h).s1.cells),(6,.box (pPhunk h').s1.cells),(710,U2 i z.2.1),(711,U2 j z.2.2)])) (fun z=>z.1≤h.Lines.length∧c5 o n h.Lines=c5 z.2.1 z.2.2 (h.Lines.drop z.1)) (fun z=>h.Lines.length - z.1) (0,o,n) ⟨Nat.zero_le _,rfl⟩ ?_ ?_
  ·exact F80 ⟨le1 rfl,le1 rfl,le1 rfl,le1 rfl,le1 rfl,le1 rfl,trivial⟩ hH (by repeat (first | exact I4 | refine I5 rfl ?_)) (fun _ _ hh=>hh)
  rintro ⟨k,ok,nk⟩ ⟨hk,hp⟩
  dsimp only at hk hp ⊢
  refine k2 ?_
  refine A3 (A2 (E5 Z Z) Z (A6 ?_))
  refine k1 (k2 ?_)
  refine B4 rfl (fun ht=>?_) (fun ht=>?_)
  ·have hlt:k < h.Lines.length:=by have:=A0 ht;omega
   have hv:h.Lines[k]?=some h.Lines[k]:=by simp [hlt]
   have hmem2:=x8 (G22 hlt)
   rw [G12 hlt,c5] at hp
   obtain ⟨x,hx⟩:∃x,x=h.Lines[k]:=⟨_,rfl⟩
   rw [←hx] at hv hmem2 hp
   refine k5 (k1 (k2 (k3 (k2 ?_))))
   refine A3 (A2 (B1 Z (.pure _ _ _ _) Z (by omega) hv) Z (A2 (D3 Z Z) Z (C4 (F7 8 (show ((G8 8 gf&&true)=true) by rw [hf8];rfl)) Z ?_)));refine F3 (B8 TySz.out Z Z Z Z Z Z) (A6 ?_)
   refine k1 (k2 ?_)
   refine A51 ([(1,.s (.one (.ref 710 0))),(2,.s (.one (.ref 711 0))),(3,.s (.one (.ref 3 0))),(8,.s (.one (.ref 8 0))),(56,D5 PatchLine 2 plineC h.Lines),(57,D2 h.Lines.length),(58,D2 k)]++gf) [(8,.box [.p (.v (.int .u8 x.Kind.toNat)),.p (.v (.string ⟨x.Text.toArray⟩))]),(3,.box (pPhunk h).s1.cells),(6,.box (pPhunk h').s1.cells),(710,U2 i ok),(711,U2 j nk)] (F80 ⟨le1 rfl,le1 rfl,le1 rfl,le1 rfl,le1 rfl,le1 rfl,le1 rfl,trivial⟩ hH (by repeat (first | exact I4 | refine I5 rfl ?_ | refine V9 _ ?_)) (ObIn.spec ⟨rfl,rfl,rfl,rfl,rfl,trivial⟩)) ?_
   have hneg:∀{b:Bool},b=(decide (¬R4 i j h)&&match c5 o n h.Lines with
    | none=>false
    | some _=>decide (h.Old+H9 h≤4096∧h.New+M3 h≤4096))→c5 o n h.Lines=none→b=false:=fun h1 h2=>by rw [h1,h2];simp
   by_cases c1:x.Kind≠43
   ·have c1n:(x.Kind.toNat:Int)≠43:=(decide_eq_decide.1 (j1 x.Kind 43)).2 c1
    cases ok with
    | true =>
     rw [if_pos ⟨c1,rfl⟩] at hp
     refine A3 (A2 (A7 Z) Z (A2 (A9 Z Z Z) Z (A2 (H8 Z Z) Z (A2 (A4 Z Z) Z (J7 Z Z Z (by simp [c1n]) (A2 (A4 Z Z) Z (J7 Z Z Z (by simp [c1n]) (A2 (A7 Z) Z (J7 Z Z Z (by simp [c1n]) (A2 (A9 Z Z Z) Z (J7 Z Z Z (by simp [c1n]) (t6 (A06 (k:=710) (e:=i) (o:=true) Z (by omega)) Z Z Z ?_))))))))))));rintro _ _ ⟨rfl,rfl⟩;refine J7 Z Z Z (by simp [c1n]) (A2 (L2 Z) Z (A2 (B2 Z (fun h=>by first | rfl | (rw [h];rfl)) (fun h=>by first | rfl | (rw [h];rfl))) Z ?_));refine A2 (A4 Z Z) Z (S2 Z Z Z (by simp [c1n]) Z (S2 Z Z Z (by simp [c1n]) Z (S2 Z Z Z (by simp [c1n]) Z (S2 Z Z Z (by simp [c1n]) Z (I0 (s:=.any) Z Z Z .un Z (fun h=>absurd h (by decide)) (I0 (s:=.any) Z Z Z .un Z (fun h=>absurd h (by decide)) (I0 (s:=.any) Z Z Z .un Z (fun h=>absurd h (by decide)) (I0 (s:=.any) Z Z Z .un Z (fun h=>absurd h (by decide)) (I0 (s:=.any) Z Z Z .un Z (fun h=>absurd h (by decide)) (S2 Z Z Z (by simp [c1n]) Z (A2 (E03 Z ((by simp [c1n])) Z) Z (A6 ?_))))))))))))
     refine k1 ?_
     refine B4 rfl (fun ht=>?_) (fun ht=>?_)
     ·refine k2 ?_
      refine A3 (A2 (A5 Z Z) Z (A6 ?_))
      refine k1 (k10 (k12 (k11 (k11 (k12 (k11 ?_))))))
      refine X4 (B32 rfl rfl) (by repeat (first | exact I4 | refine I5 rfl ?_ | refine K6 _ ?_)) (fun _ _ h=>h) ⟨false,rfl,by rw [hp];simp,fun hh=>by cases hh⟩
     ·cases ht
    | false =>
     rw [if_neg (by simp)] at hp
     by_cases c2:x.Kind≠45
     ·have c2n:(x.Kind.toNat:Int)≠45:=(decide_eq_decide.1 (j1 x.Kind 45)).2 c2
      refine A3 (A2 (A7 Z) Z (A2 (A9 Z Z Z) Z (A2 (H8 Z Z) Z (A2 (A4 Z Z) Z (J7 Z Z Z (by simp [c1n]) (A2 (A4 Z Z) Z (J7 Z Z Z (by simp [c1n]) (A2 (A7 Z) Z (J7 Z Z Z (by simp [c1n]) (A2 (A9 Z Z Z) Z (J7 Z Z Z (by simp [c1n]) (t6 (A06 (k:=710) (e:=i) (o:=false) Z (by omega)) Z Z Z ?_))))))))))));rintro _ _ ⟨rfl,rfl⟩;refine J7 Z Z Z (by simp [c1n]) (A2 (L2 Z) Z (A2 (B2 Z (fun h=>by first | rfl | (rw [h];rfl)) (fun h=>by first | rfl | (rw [h];rfl))) Z ?_));refine A2 (A4 Z Z) Z (J7 Z Z Z (by simp [c1n]) (A2 (A7 Z) Z (J7 Z Z Z (by simp [c1n]) (A2 (A9 Z Z Z) Z (J7 Z Z Z (by simp [c1n]) (A2 (H8 Z Z) Z (J7 Z Z Z (by simp [c1n]) (A2 (A4 Z Z) Z (J7 Z Z Z (by simp [c1n,c2n]) (A2 (A4 Z Z) Z (J7 Z Z Z (by simp [c1n,c2n]) (A2 (A7 Z) Z (J7 Z Z Z (by simp [c1n,c2n]) (A2 (A9 Z Z Z) Z (J7 Z Z Z (by simp [c1n,c2n]) (t6 (A06 (k:=711) (e:=j) (o:=nk) Z (by omega)) Z Z Z ?_))))))))))))))));rintro _ _ ⟨rfl,rfl⟩;refine J7 Z Z Z (by simp [c1n,c2n]) (A2 (L2 Z) Z (J7 Z Z Z (by simp [c1n]) (A2 (B2 Z (fun h=>by first | rfl | (rw [h];rfl)) (fun h=>by first | rfl | (rw [h];rfl))) Z ?_)));refine A2 (B2 Z (fun h=>by first | rfl | (rw [h];rfl)) (fun h=>by first | rfl | (rw [h];rfl))) Z ?_;refine A6 ?_
      refine k1 ?_
      refine B4 rfl (fun ht=>?_) (fun ht=>?_)
      ·have hnk:nk=true:=by revert ht;simp [c1n,c2n]
       rw [if_pos ⟨c2,hnk⟩] at hp
       refine k2 ?_
       refine A3 (A2 (A5 Z Z) Z (A6 ?_))
       refine k1 (k10 (k12 (k11 (k11 (k12 (k11 ?_))))))
       refine X4 (B32 rfl rfl) (by repeat (first | exact I4 | refine I5 rfl ?_ | refine K6 _ ?_)) (fun _ _ h=>h) ⟨false,rfl,by rw [hp];simp,fun hh=>by cases hh⟩
      ·have hnk:nk=false:=by revert ht;simp [c1n,c2n]
       rw [if_neg (by simp [hnk]),if_pos c1,if_pos c2] at hp
       refine k5 (k4 (k1 ?_))
       refine A3 (A2 (C3 Z Z (by omega)) Z (A2 (A4 Z Z) Z (A6 ?_)))
       refine k1 ?_
       exact ⟨(k+1,!ended x.Text,!ended x.Text),⟨by dsimp only;omega,hp⟩,by dsimp only;omega,F80 ⟨le1 rfl,le1 rfl,le1 rfl,le1 rfl,le1 rfl,le1 rfl,trivial⟩ hH (by repeat (first | exact I4 | refine I5 rfl ?_ | refine V9 _ ?_)) (ObIn.spec ⟨rfl,rfl,rfl,rfl,trivial⟩)⟩
     ·have c2n:(x.Kind.toNat:Int)=45:=Decidable.not_not.1 (fun hh=>c2 ((decide_eq_decide.1 (j1 x.Kind 45)).1 hh))
      refine A3 (A2 (A7 Z) Z (A2 (A9 Z Z Z) Z (A2 (H8 Z Z) Z (A2 (A4 Z Z) Z (J7 Z Z Z (by simp [c1n]) (A2 (A4 Z Z) Z (J7 Z Z Z (by simp [c1n]) (A2 (A7 Z) Z (J7 Z Z Z (by simp [c1n]) (A2 (A9 Z Z Z) Z (J7 Z Z Z (by simp [c1n]) (t6 (A06 (k:=710) (e:=i) (o:=false) Z (by omega)) Z Z Z ?_))))))))))));rintro _ _ ⟨rfl,rfl⟩;refine J7 Z Z Z (by simp [c1n]) (A2 (L2 Z) Z (A2 (B2 Z (fun h=>by first | rfl | (rw [h];rfl)) (fun h=>by first | rfl | (rw [h];rfl))) Z ?_));refine A2 (A4 Z Z) Z (J7 Z Z Z (by simp [c1n]) (A2 (A7 Z) Z (J7 Z Z Z (by simp [c1n]) (A2 (A9 Z Z Z) Z (J7 Z Z Z (by simp [c1n]) (A2 (H8 Z Z) Z (J7 Z Z Z (by simp [c1n]) (A2 (A4 Z Z) Z (S2 Z Z Z (by simp [c1n,c2n]) Z (S2 Z Z Z (by simp [c1n,c2n]) Z (S2 Z Z Z (by simp [c1n,c2n]) Z (S2 Z Z Z (by simp [c1n,c2n]) Z (S2 Z Z Z (by simp [c1n,c2n]) Z (J7 Z Z Z (by simp [c1n]) (A2 (C36 Z ((by simp [c1n,c2n])) Z) Z (A2 (B2 Z (fun h=>by first | rfl | (rw [h];rfl)) (fun h=>by first | rfl | (rw [h];rfl))) Z ?_))))))))))))))));refine A6 ?_
      refine k1 ?_
      refine B4 rfl (fun ht=>?_) (fun ht=>?_)
      ·exfalso;revert ht;simp [c1n,c2n]
      ·rw [if_neg (by simp [c2]),if_pos c1,if_neg c2] at hp
       refine k5 (k4 (k1 ?_))
       refine A3 (A2 (C3 Z Z (by omega)) Z (A2 (A4 Z Z) Z (A6 ?_)))
       refine k1 ?_
       exact ⟨(k+1,!ended x.Text,nk),⟨by dsimp only;omega,hp⟩,by dsimp only;omega,F80 ⟨le1 rfl,le1 rfl,le1 rfl,le1 rfl,le1 rfl,le1 rfl,trivial⟩ hH (by repeat (first | exact I4 | refine I5 rfl ?_ | refine V9 _ ?_)) (ObIn.spec ⟨rfl,rfl,rfl,rfl,trivial⟩)⟩
   ·have c2:x.Kind≠45:=by rw [Decidable.not_not.1 c1];decide
    have c1n:(x.Kind.toNat:Int)=43:=Decidable.not_not.1 (fun hh=>c1 ((decide_eq_decide.1 (j1 x.Kind 43)).1 hh))
    have c2n:(x.Kind.toNat:Int)≠45:=(decide_eq_decide.1 (j1 x.Kind 45)).2 c2
    rw [if_neg (by simp [c1])] at hp
    refine A3 (A2 (A7 Z) Z (A2 (A9 Z Z Z) Z (A2 (H8 Z Z) Z (A2 (A4 Z Z) Z (S2 Z Z Z (by simp [c1n]) Z (S2 Z Z Z (by simp [c1n]) Z (S2 Z Z Z (by simp [c1n]) Z (S2 Z Z Z (by simp [c1n]) Z (S2 Z Z Z (by simp [c1n]) Z (A2 (C36 Z ((by simp [c1n])) Z) Z (A2 (A4 Z Z) Z (J7 Z Z Z (by simp [c1n]) (A2 (A7 Z) Z (J7 Z Z Z (by simp [c1n]) (A2 (A9 Z Z Z) Z (J7 Z Z Z (by simp [c1n]) (A2 (H8 Z Z) Z (J7 Z Z Z (by simp [c1n]) (A2 (A4 Z Z) Z (J7 Z Z Z (by simp [c1n,c2n]) (A2 (A4 Z Z) Z (J7 Z Z Z (by simp [c1n,c2n]) (A2 (A7 Z) Z ?_)))))))))))))))))))))));refine J7 Z Z Z (by simp [c1n,c2n]) (A2 (A9 Z Z Z) Z (J7 Z Z Z (by simp [c1n,c2n]) (t6 (A06 (k:=711) (e:=j) (o:=nk) Z (by omega)) Z Z Z ?_)));rintro _ _ ⟨rfl,rfl⟩;refine J7 Z Z Z (by simp [c1n,c2n]) (A2 (L2 Z) Z (J7 Z Z Z (by simp [c1n]) (A2 (B2 Z (fun h=>by first | rfl | (rw [h];rfl)) (fun h=>by first | rfl | (rw [h];rfl))) Z ?_)));refine A2 (B2 Z (fun h=>by first | rfl | (rw [h];rfl)) (fun h=>by first | rfl | (rw [h];rfl))) Z ?_;refine A6 ?_
    refine k1 ?_
    refine B4 rfl (fun ht=>?_) (fun ht=>?_)
    ·have hnk:nk=true:=by revert ht;simp [c1n,c2n]
     rw [if_pos ⟨c2,hnk⟩] at hp
     refine k2 ?_
     refine A3 (A2 (A5 Z Z) Z (A6 ?_))
     refine k1 (k10 (k12 (k11 (k11 (k12 (k11 ?_))))))
     refine X4 (B32 rfl rfl) (by repeat (first | exact I4 | refine I5 rfl ?_ | refine K6 _ ?_)) (fun _ _ h=>h) ⟨false,rfl,by rw [hp];simp,fun hh=>by cases hh⟩
    ·have hnk:nk=false:=by revert ht;simp [c1n,c2n]
     rw [if_neg (by simp [hnk]),if_neg c1,if_pos c2] at hp
     refine k5 (k4 (k1 ?_))
     refine A3 (A2 (C3 Z Z (by omega)) Z (A2 (A4 Z Z) Z (A6 ?_)))
     refine k1 ?_
     exact ⟨(k+1,ok,!ended x.Text),⟨by dsimp only;omega,hp⟩,by dsimp only;omega,F80 ⟨le1 rfl,le1 rfl,le1 rfl,le1 rfl,le1 rfl,le1 rfl,trivial⟩ hH (by repeat (first | exact I4 | refine I5 rfl ?_ | refine V9 _ ?_)) (ObIn.spec ⟨rfl,rfl,rfl,rfl,trivial⟩)⟩
  ·have hk':k=h.Lines.length:=by have:=A1 ht;omega
   subst hk'
   rw [G18 (Nat.le_refl _),c5] at hp
   have hbb:(0≤h.Old∧h.Old≤4096)∧(0≤h.New∧h.New≤4096):=by unfold R4 at hb;simp only [not_or] at hb;omega
   have hon:=F0 h.Lines 43
   have hnn:=F0 h.Lines 45
   have hon2:H9 h≤h.Lines.length∧0≤H9 h:=by unfold H9;omega
   have hnn2:M3 h≤h.Lines.length∧0≤M3 h:=by unfold M3;omega
   refine k6 (k2 ?_)
   refine A3 (A2 (C1 Z Z Z) Z (C2 (D26 h (by omega)) Z Z Z ?_));rintro _ rfl;refine A2 (A4 Z Z) Z (A2 (C5 Z Z) Z (A2 (C5 Z Z) Z (A2 (A5 Z Z) Z (A2 (A5 Z Z) Z (A6 ?_)))))
   refine k1 (k2 ?_)
   have hbx:decide (¬R4 i j h)=true:=decide_eq_true hb
   refine C35 12 [(101,.s (.one (.ref 710 0))),(95,D2 (h.Old+H9 h))] (by kernel_rfl) (by kernel_rfl) Z (v8 TySz.out Z Z Z Z Z Z) Z Z (A44 (A4 Z Z) Z (A4 Z Z) (A44 (A4 Z Z) Z (A4 Z Z) (A44 (A7 Z) Z (A7 Z) (A44 (A9 Z Z Z) Z (A9 Z Z Z) (A44 (A4 Z Z) Z (A4 Z Z) (A44 (C3 Z Z (by omega)) Z (C3 Z Z (by omega)) (A44 (A7 Z) Z (A7 Z) (A44 (A9 Z Z Z) Z (A9 Z Z Z) (A44 (A4 Z Z) Z (A4 Z Z) (A44 (C3 Z Z (by omega)) Z (C3 Z Z (by omega)) (A44 (G5 Z) Z (G5 Z) (A44 (A7 Z) Z (A7 Z) (s_nil ⟨rfl,rfl,trivial⟩ (B0 (G5 Z) Z Z (B0 (A7 Z) Z Z (v6 (B8 TySz.out Z Z Z Z Z Z) Z (H5 ?_)))))))))))))))))
   refine k1 (k2 ?_)
   refine A3 (A2 (A4 Z Z) Z (A2 (G5 Z) Z (A2 (A7 Z) Z (A2 (A9 Z Z Z) Z (A2 (A93 Z Z) Z (A2 (A4 Z Z) Z (A8 Z Z Z Z (fun hg=>by rw [hg];exact A4 Z Z) ?_)))))));refine A8 Z Z Z Z (fun hg=>by rw [hg];exact G5 Z) ?_;refine A8 Z Z Z Z (fun hg=>by rw [hg];exact A7 Z) ?_;refine A8 Z Z Z Z (fun hg=>by rw [hg];exact A9 Z Z Z) ?_;refine A8 Z Z Z Z (fun hg=>by rw [hg];exact A93 Z Z) ?_;refine A2 (B2 Z (fun h=>by first | rfl | (rw [h];rfl)) (fun h=>by first | rfl | (rw [h];rfl))) Z ?_;refine A2 (A5 Z Z) Z (A6 ?_)
   refine k1 (k10 ?_)
   refine X4 (ob':=[(6,.box (pPhunk h').s1.cells),(710,U2 (h.Old+H9 h) ok),(711,U2 (h.New+M3 h) nk)]) (B32 rfl rfl) (by repeat (first | exact I4 | refine I5 rfl ?_ | refine K6 _ ?_)) (ObIn.spec ⟨rfl,rfl,rfl,trivial⟩) ⟨_,rfl,?_,fun hh=>⟨ok,nk,hp,rfl⟩⟩
   rw [hp,hbx]
   simp only [J6,Bool.true_and]
theorem F66 (hs:List PatchHunk) (hsz:szP hs≤268435456):FnOk Tryz.prog 80 [pPhunks hs] (fun rs=>rs=[O8 (M5 hs)]):=by
 have hsl:=U4 hs
 rw [←F46]
 refine FnOk.intro Tryz.func80 (by decide) Z Z Z Z ?_
 refine k2 ?_
 refine A3 (A2 (A5 Z Z) Z (A6 ?_))
 refine k1 (k2 ?_)
 refine A3 (C4 (F7 710 Z) Z (C4 (F7 711 Z) Z (A6 ?_)))
 refine k1 (k2 (k2 ?_))
 refine A3 (A2 (A4 Z Z) Z (A2 (E1 Z (.pure _ _ _ _)) Z (A2 (A4 Z Z) Z (A6 ?_))))
 refine k1 (k3 ?_)
 refine D8 (X:=Nat × (Int × Int) × Bool × Bool) (fun z=>([(3,.s (.one (.ref 710 0))),(4,.s (.one (.ref 711 0))),(7,D5 PatchHunk 3 phunkC hs),(8,D2 hs.length),(9,D2 z.1)],[(710,U2 z.2.1.1 z.2.2.1),(711,U2 z.2.1.2 z.2.2.2)])) (fun z=>z.1≤hs.length∧((0≤z.2.1.1∧z.2.1.1≤8192)∧(0≤z.2.1.2∧z.2.1.2≤8192))∧y9 0 0 false false hs=y9 z.2.1.1 z.2.1.2 z.2.2.1 z.2.2.2 (hs.drop z.1)) (fun z=>hs.length - z.1) (0,(0,0),false,false) ⟨Nat.zero_le _,by decide,rfl⟩ (F77 ⟨le1 rfl,le1 rfl,le1 rfl,le1 rfl,le1 rfl,trivial⟩ ⟨rfl,rfl,trivial⟩) ?_
 rintro ⟨k,⟨i,j⟩,o,n⟩ ⟨hk,⟨hi,hj⟩,hp⟩
 dsimp only at hk hi hj hp ⊢
 refine k2 ?_
 refine A3 (A2 (E5 Z Z) Z (A6 ?_))
 refine k1 (k2 ?_)
 refine B4 rfl (fun ht=>?_) (fun ht=>?_)
 ·have hlt:k < hs.length:=by have:=A0 ht;omega
  have hv:hs[k]?=some hs[k]:=by simp [hlt]
  have hmem:hs[k]∈hs:=G22 hlt
  rw [G12 hlt,y9] at hp
  obtain ⟨h,hx⟩:∃x,x=hs[k]:=⟨_,rfl⟩
  rw [←hx] at hv hmem hp
  have h1:=U3 hmem
  have h3:=P1 h.Lines
  unfold szH at h1
  refine k5 (k1 (k2 (k3 (k2 ?_))))
  refine A3 (A2 (B1 Z (.pure _ _ _ _) Z (by omega) hv) Z (A2 (D3 Z Z) Z (C4 (F7 6 Z) Z (F3 (B8 TySz.out Z Z Z Z Z Z) (A6 ?_)))))
  refine k1 (k2 ?_)
  refine A51 [(3,.s (.one (.ref 710 0))),(4,.s (.one (.ref 711 0))),(6,.s (.one (.ref 6 0))),(7,D5 PatchHunk 3 phunkC hs),(8,D2 hs.length),(9,D2 k)] [(6,.box (pPhunk h).s1.cells),(710,U2 i o),(711,U2 j n)] (F77 ⟨le1 rfl,le1 rfl,le1 rfl,le1 rfl,le1 rfl,le1 rfl,trivial⟩ ⟨rfl,rfl,rfl,trivial⟩) ?_
  cases hpr:(h.Lines.all S7&&Q6 h.Lines) with
  | false =>
   rw [hpr] at hp
   refine A3 (A2 (C1 Z Z Z) Z (C2 (C54 h (by omega)) Z Z Z ?_));rintro _ rfl;refine A2 (L2 Z) Z (A2 (A4 Z Z) Z (S2 Z Z Z (by rw [hpr];decide) Z ?_));refine S2 Z Z Z (by rw [hpr];decide) Z ?_;refine S2 Z Z Z (by rw [hpr];decide) Z ?_;refine A2 (E03 Z ((by rw [hpr];rfl)) Z) Z ?_;refine A6 ?_
   refine k1 ?_
   refine B4 rfl (fun ht=>?_) (fun ht=>?_)
   ·refine k2 ?_
    refine A3 (A2 (A5 Z Z) Z (A6 ?_))
    refine k1 (k10 (k12 (k11 (k11 (k12 (k11 ?_))))))
    exact B5 (F5 rfl rfl rfl) (by rw [hp];rfl)
   ·cases ht
  | true =>
   rw [hpr] at hp
   refine A3 (A2 (C1 Z Z Z) Z (C2 (C54 h (by omega)) Z Z Z ?_));rintro _ rfl;refine A2 (L2 Z) Z (A2 (A4 Z Z) Z (J7 Z Z Z (by rw [hpr];rfl) ?_));refine A2 (C1 Z Z Z) Z (J7 Z Z Z (by rw [hpr];rfl) ?_);refine t6 (E21 h h i j o n (by omega) hi hj Z Z) Z Z Z ?_;rintro _ _ ⟨b,rfl,hb,hpost⟩;refine J7 Z Z Z (by rw [hpr];rfl) ?_;refine A2 (L2 Z) Z (A2 (C36 Z ((by rw [hpr];rfl)) Z) Z ?_);refine A6 ?_
   refine k1 ?_
   refine B4 rfl (fun ht=>?_) (fun ht=>?_)
   ·have hbf:b=false:=by simpa using ht
    refine k2 ?_
    refine A3 (A2 (A5 Z Z) Z (A6 ?_))
    refine k1 (k10 (k12 (k11 (k11 (k12 (k11 ?_))))))
    refine B5 (F5 Z Z Z) ?_
    subst hbf
    rw [hp]
    cases hbp:decide (¬R4 i j h) with
    | false=>rfl
    | true =>
     rw [hbp] at hb
     cases hop:c5 o n h.Lines with
     | none=>rfl
     | some q =>
      rw [hop] at hb
      obtain ⟨q1,q2⟩:=q
      have hb2:decide (h.Old+H9 h≤4096∧h.New+M3 h≤4096)=false:=hb.symm
      show [O8 false]=[O8 (decide (h.Old+H9 h≤4096∧h.New+M3 h≤4096)&&y9 (h.Old+H9 h) (h.New+M3 h) q1 q2 (List.drop (k+1) hs))]
      rw [hb2];rfl
   ·have hbt:b=true:=by simpa using ht
    obtain ⟨o',n',e1,rfl⟩:=hpost hbt
    rw [hbt,e1] at hb
    have hb2:=(G08 _ _ ▸ hb.symm:_∧_)
    have hb1:=A0 hb2.1
    have hb3:=A0 hb2.2
    rw [e1,hb2.1] at hp
    simp only [Bool.true_and] at hp
    rw [decide_eq_true hb3,Bool.true_and] at hp
    have hbb:(0≤h.Old∧h.Old≤4096)∧(0≤h.New∧h.New≤4096):=by unfold R4 at hb1;simp only [not_or] at hb1;omega
    have hon2:0≤H9 h:=by unfold H9;omega
    have hnn2:0≤M3 h:=by unfold M3;omega
    refine k5 (k4 (k1 ?_))
    refine A3 (A2 (C3 Z Z (by omega)) Z (A2 (A4 Z Z) Z (A6 ?_)))
    refine k1 ?_
    exact ⟨(k+1,(h.Old+H9 h,h.New+M3 h),o',n'),⟨by dsimp only;omega,by dsimp only;omega,hp⟩,by dsimp only;omega,F77 ⟨le1 rfl,le1 rfl,le1 rfl,le1 rfl,le1 rfl,trivial⟩ ⟨rfl,rfl,trivial⟩⟩
 ·have hk':k=hs.length:=by have:=A1 ht;omega
  subst hk'
  rw [G18 (Nat.le_refl _),y9] at hp
  refine k6 (k2 ?_)
  refine A3 (A2 (A5 Z Z) Z (A6 ?_))
  refine k1 (k10 ?_)
  exact B5 (F5 rfl rfl rfl) (by rw [hp])
theorem D27 (p:Patch) (hp:szP p.Hunks≤268435456):FnOk Tryz.prog 33 [pPatch p] (fun rs=>rs=[I8 (D9 p)]):=by
 refine FnOk.intro Tryz.func33 (by decide) Z Z Z Z ?_
 refine k2 ?_
 refine A3 (C4 (U9 1 Z Z Z) Z (A2 (A5 Z Z) Z (A6 ?_)))
 refine k1 (k2 (k3 (k2 ?_)))
 refine A3 (A2 (A7 Z) Z (A2 (A9 Z Z Z) Z (C2 (D25 p.OldName) Z Z Z ?_)));rintro _ rfl;refine A2 (L2 Z) Z (A2 (A4 Z Z) Z (A8 Z Z Z Z (fun hg=>by rw [hg];exact A7 Z) ?_));refine A8 Z Z Z Z (fun hg=>by rw [hg];exact A9 Z Z Z) ?_;refine A8 Z Z Z Z (fun hg=>by have hq:=hg;(try simp at hq);rw [hg];exact E9 (D25 p.NewName) Z Z) ?_;refine A8 Z Z Z Z (fun hg=>by rw [hg];exact L2 Z) ?_;refine A2 (B2 Z (fun h=>by first | rfl | (rw [h];rfl)) (fun h=>by first | rfl | (rw [h];rfl))) Z ?_;refine A2 (A5 Z Z) Z (A6 ?_)
 refine k1 ?_
 refine B4 rfl (fun ht=>?_) (fun ht=>?_)
 ·simp only [B42,or_pick] at ht
  have h:=A0 ht
  refine k2 ?_
  refine A3 (A2 (A5 Z Z) Z (A6 ?_))
  refine k1 (k10 (k12 (k11 ?_)))
  exact B5 (F5 rfl rfl rfl) (by rw [D9,if_pos h])
 ·simp only [B42,or_pick] at ht
  have h:=A1 ht
  refine k2 ?_
  refine A3 (A2 (A7 Z) Z (A2 (A9 Z Z Z) Z (C2 (F66 p.Hunks hp) Z Z Z ?_)));rintro _ rfl;refine A2 (L2 Z) Z (A2 (A5 Z Z) Z (A6 ?_))
  refine k1 ?_
  refine B4 rfl (fun ht=>?_) (fun ht=>?_)
  ·have h2:M5 p.Hunks=false:=by simpa using ht
   refine k2 ?_
   refine A3 (A2 (A5 Z Z) Z (A6 ?_))
   refine k1 (k10 (k12 (k11 ?_)))
   exact B5 (F5 rfl rfl rfl) (by rw [D9,if_neg h,if_pos h2])
  ·have h2:M5 p.Hunks=true:=by simpa using ht
   have hr:=W3 h2
   have hn1:J0 p.OldName=true:=by by_cases hh:J0 p.OldName=true;exact hh;exact absurd (.inl (by simpa using hh)) h
   have hn2:J0 p.NewName=true:=by by_cases hh:J0 p.NewName=true;exact hh;exact absurd (.inr (by simpa using hh)) h
   have hn3:=A0 hn1
   have hn4:=A0 hn2
   have hpf:PFit p:=⟨by omega,by omega,hp⟩
   refine k2 ?_
   refine A3 (A2 (C1 Z Z Z) Z (C2 (F65 p hpf (fun x hx=>by have:=hr x hx;omega)) Z Z Z ?_));rintro _ rfl;refine A2 (L1 Z Z) Z (A2 (A5 Z Z) Z (A6 ?_))
   refine k1 ?_
   refine B4 rfl (fun ht=>?_) (fun ht=>?_)
   ·have h3:=A0 ht
    refine k2 ?_
    refine A3 (A2 (A5 Z Z) Z (A6 ?_))
    refine k1 (k10 (k12 (k11 ?_)))
    exact B5 (F5 rfl rfl rfl) (by rw [D9,if_neg h,if_neg (by rw [h2];decide),if_pos (by omega)])
   ·have h3:=A1 ht
    refine k5 (k2 ?_)
    refine A3 (A2 (A5 Z Z) Z (A6 ?_))
    refine k1 (k10 ?_)
    exact B5 (F5 rfl rfl rfl) (by rw [D9,if_neg h,if_neg (by rw [h2];decide),if_neg (by omega)])
theorem check12_good {p:Patch} (h1:¬D9 p≠0):M5 p.Hunks=true:=by
 by_cases hg:M5 p.Hunks=true
 ·exact hg
 ·exfalso;apply h1;unfold D9;split
  ·decide
  ·rw [if_pos (by simpa using hg)];decide
def Q5 (p:Patch) (blob:Str):List Str × Int:=if D9 p≠0 then ([],D9 p) else D4 blob
theorem E22 (p:Patch) (blob:Str) (hp:szP p.Hunks≤268435456) (hb:blob.length≤536870912):FnOk Tryz.prog 65 [pPatch p,I1 blob] (fun rs=>rs=[T9 (Q5 p blob).1,I8 (Q5 p blob).2]):=by
 refine FnOk.intro Tryz.func65 (by decide) Z Z Z Z ?_
 refine k2 ?_
 refine A3 (C4 (U9 2 Z Z Z) Z (A2 (A5 Z Z) Z (A2 (A5 Z Z) Z (A6 ?_))))
 refine k1 (k2 (k2 ?_))
 refine A3 (A2 (C1 Z Z Z) Z (C2 (D27 p hp) Z Z Z ?_));rintro _ rfl;refine A2 (A5 Z Z) Z (A6 ?_)
 refine k1 (k2 ?_)
 refine A3 (A2 (A4 Z Z) Z (A2 (H8 Z Z) Z (A6 ?_)))
 refine k1 ?_
 refine B4 rfl (fun ht=>?_) (fun ht=>?_)
 ·have h1:D9 p≠0:=A0 ht
  refine k2 ?_
  refine A3 (A2 (A4 Z Z) Z (A2 (Z7 _ 1 H0) Z (A2 (A5 Z Z) Z (A6 ?_))))
  refine k1 (k10 (k11 ?_))
  exact B5 (Z9 rfl rfl rfl rfl rfl) (by rw [Q5,if_pos h1])
 have h1:¬D9 p≠0:=A1 ht
 refine k5 (k1 (k2 ?_))
 refine A3 (A2 (A4 Z Z) Z (C2 (F33 blob hb) Z Z Z ?_));rintro _ rfl;refine A2 (C5 Z Z) Z (A2 (C5 Z Z) Z (A2 (A5 Z Z) Z (A2 (A5 Z Z) Z (A6 ?_))))
 refine k1 (k10 ?_)
 exact B5 (Z9 rfl rfl rfl rfl rfl) (by rw [Q5,if_neg h1])
theorem E23 (p:Patch) (blob:Str):W6 p blob=if (Q5 p blob).2≠0 then ((0:Int),(Q5 p blob).2) else (((A34 p.Hunks (Q5 p blob).1:Nat):Int),(0:Int)):=by
 unfold W6 Q5
 by_cases h:D9 p≠0
 ·simp only [if_pos h]
 ·simp only [if_neg h]
theorem B87 {p:Patch} {blob:Str} (h:¬(Q5 p blob).2≠0):M5 p.Hunks=true∧(Q5 p blob).1=B6 blob∧(Q5 p blob).1.length≤4096∧¬D9 p≠0:=by
 unfold Q5 at h ⊢
 by_cases h1:D9 p≠0
 ·rw [if_pos h1] at h;exact absurd h1 h
 rw [if_neg h1] at h ⊢
 refine ⟨check12_good h1,?_,x6 blob,h1⟩
 unfold D4 at h ⊢
 split
 ·rename_i c3;rw [if_pos c3] at h;exact absurd (by decide) h
 ·rfl
theorem D64 (p:Patch) (blob:Str):S9 p blob=if (Q5 p blob).2≠0 then (([]:Str),(Q5 p blob).2) else if A34 p.Hunks (Q5 p blob).1 < p.Hunks.length then ([],140) else B49 p.Hunks (Q5 p blob).1:=by
 unfold S9
 rw [E23]
 by_cases h:(Q5 p blob).2≠0
 ·simp only [if_pos h]
 ·obtain ⟨_,h2,_⟩:=B87 h
  simp only [if_neg h]
  rw [h2]
  simp
theorem F67 (out:List Str):(if P5 out=false then ([],140) else S6 out)=if (S6 out).2=2 then (([]:Str),(140:Int)) else S6 out:=by
 unfold S6
 by_cases hlo:P5 out=false
 ·rw [if_pos hlo,if_pos hlo,if_pos rfl]
 ·rw [if_neg hlo,if_neg hlo]
  by_cases hc:out.flatten.length > 1048576∨out.length > 4096
  ·rw [if_pos hc,if_neg (by decide)]
  ·rw [if_neg hc];exact (if_neg (by show ¬((0:Int)=2);decide)).symm
theorem D65 (hs:List PatchHunk) (x:List Str):B49 hs x=if (S6 (S0 hs x hs.length++x.drop (M6 hs hs.length).toNat)).2=2 then (([]:Str),(140:Int)) else S6 (S0 hs x hs.length++x.drop (M6 hs hs.length).toNat):=F67 _
theorem x5 (p:Patch) (blob:Str) (hp:szP p.Hunks≤134217728) (hb:blob.length≤134217728):FnOk Tryz.prog 19 [pPatch p,I1 blob] (fun rs=>rs=[I1 (S9 p blob).1,I8 (S9 p blob).2]):=by
 have hsl:=U4 p.Hunks
 have hf0:=D64 p blob
 refine FnOk.intro Tryz.func19 (by decide) Z Z Z Z ?_
 refine k2 ?_
 refine A3 (C4 (U9 2 Z Z Z) Z (A2 (A5 Z Z) Z (A2 (A5 Z Z) Z (A6 ?_))))
 refine k1 (k2 ?_)
 refine A3 (A2 (C1 Z Z Z) Z (A2 (A4 Z Z) Z (C2 (E22 p blob (by omega) (by omega)) Z Z Z ?_)));rintro _ rfl;refine A2 (A4 Z Z) Z (A2 (C5 Z Z) Z (A2 (C5 Z Z) Z (A2 (A5 Z Z) Z (A2 (A5 Z Z) Z (A6 ?_)))))
 refine k1 (k2 (k2 ?_))
 refine A3 (A2 (A4 Z Z) Z (A2 (H8 Z Z) Z (A6 ?_)))
 refine k1 ?_
 refine B4 rfl (fun ht=>?_) (fun ht=>?_)
 ·have h1:(Q5 p blob).2≠0:=A0 ht
  refine k2 ?_
  refine A3 (A2 (A4 Z Z) Z (A2 (A5 Z Z) Z (A2 (A5 Z Z) Z (A6 ?_))))
  refine k1 (k10 (k11 ?_))
  exact B5 (Z9 rfl rfl rfl rfl rfl) (by rw [hf0,if_pos h1])
 have h1:¬(Q5 p blob).2≠0:=A1 ht
 rw [if_neg h1] at hf0
 obtain ⟨hg,hxs,hxl,_⟩:=B87 h1
 have hr:=W3 hg
 have hxf:(Q5 p blob).1.flatten.length=blob.length:=by rw [hxs,X5]
 obtain ⟨x,hx⟩:∃x,x=(Q5 p blob).1:=⟨_,rfl⟩
 rw [←hx] at hxl hf0 hxf ⊢
 have hord0:∀k,k < p.Hunks.length→0≤M6 p.Hunks k∧M6 p.Hunks k≤(hAt p.Hunks k).Old:=by
  unfold M5 at hg
  rw [G08] at hg
  have hord:=o9 p.Hunks 0 0 hg.1
  refine fun k hk=>⟨?_,hord k hk⟩
  unfold M6
  split
  ·omega
  ·have:=hr _ (B48 (hs:=p.Hunks) (k:=k - 1) (by omega))
   have:=p6 (hAt p.Hunks (k - 1))
   omega
 refine k5 (k1 (k2 ?_))
 refine A3 (C4 (X3 8 _ H0 Z) Z (A6 ?_))
 refine k1 (k2 ?_)
 refine A3 (A2 (A5 Z Z) Z (A6 ?_))
 refine k1 (k2 (k2 ?_))
 refine A3 (A2 (A7 Z) Z (A2 (A9 Z Z Z) Z (A2 (E1 Z (.pure _ _ _ _)) Z (A2 (A4 Z Z) Z (A6 ?_)))))
 refine k1 (k3 ?_)
 refine D8 (X:=Nat) (fun k=>([(2,.s (.one (.ref 2 0))),(6,D5 Str 1 H0 x),(8,.s (.one (.buf 8 Str 1 H0 (S0 p.Hunks x k)))),(9,D2 (M6 p.Hunks k)),(25,D5 PatchHunk 3 phunkC p.Hunks),(26,D2 p.Hunks.length),(27,D2 k)],[(2,.box (pPatch p).s1.cells),(8,.spare (S0 p.Hunks x k).length 1 9)])) (fun k=>k≤p.Hunks.length∧A34 p.Hunks x=k+A34 (p.Hunks.drop k) x∧(∀j,j < k→V4 (hAt p.Hunks j) x=true)) (fun k=>p.Hunks.length - k) 0 ⟨Nat.zero_le _,by simp,fun j hj=>absurd hj (by omega)⟩ (F77 ⟨le1 rfl,le1 rfl,le1 rfl,le1 rfl,le1 rfl,le1 rfl,le1 rfl,trivial⟩ ⟨rfl,rfl,trivial⟩) ?_
 rintro k ⟨hk,hf,hall⟩
 dsimp only at hk hf hall ⊢
 have hlk:(S0 p.Hunks x k).length≤(M6 p.Hunks k).toNat+szP (p.Hunks.take k)∧(S0 p.Hunks x k).flatten.length≤(x.take (M6 p.Hunks k).toNat).flatten.length+szP (p.Hunks.take k):=by
  refine C66 k hk (fun j hj=>?_)
  obtain ⟨q1,q2⟩:=hord0 j (by omega)
  exact ⟨q1,q2,A84 (hall j hj)⟩
 have hst:=A09 p.Hunks k
 refine k2 ?_
 refine A3 (A2 (E5 Z Z) Z (A6 ?_))
 refine k1 (k2 ?_)
 refine B4 rfl (fun ht=>?_) (fun ht=>?_)
 ·have hlt:k < p.Hunks.length:=by have:=A0 ht;omega
  have hv:p.Hunks[k]?=some (hAt p.Hunks k):=C14 hlt
  have hmem:=B48 hlt
  have hdr:p.Hunks.drop k=hAt p.Hunks k::p.Hunks.drop (k+1):=by
   rw [G12 hlt]
   rw [G09 hlt] at hv
   rw [Option.some.inj hv]
  rw [hdr,A34] at hf
  obtain ⟨o1,o2⟩:=hord0 k hlt
  obtain ⟨h,hh⟩:∃h,h=hAt p.Hunks k:=⟨_,rfl⟩
  rw [←hh] at hv hmem hf o2
  have h3:=U3 hmem
  have h4:=P1 h.Lines
  have h5:=F0 h.Lines 45
  have h6:=F0 h.Lines 43
  have h7:=p6 h
  have h8:=U5 x (M6 p.Hunks k) h.Old
  unfold szH at h3
  have hr1:=hr h hmem
  refine k5 (k1 (k2 (k3 (k2 ?_))))
  refine A3 (A2 (B1 Z (.pure _ _ _ _) Z (by omega) hv) Z (A2 (D3 Z Z) Z (C4 (F7 11 Z) Z (F3 (B8 TySz.out Z Z Z Z Z Z) (A6 ?_)))))
  refine k1 (k2 ?_)
  refine A3 (A2 (C1 Z Z Z) Z (C2 (F37 h (by omega)) Z Z Z ?_));rintro _ rfl;refine A2 (A4 Z Z) Z (A2 (C5 Z Z) Z (A2 (C5 Z Z) Z (A2 (A5 Z Z) Z (A2 (A5 Z Z) Z (A6 ?_)))))
  refine k1 (k2 (k2 ?_))
  refine A3 (A2 (A4 Z Z) Z (A2 (A7 Z) Z (A2 (A9 Z Z Z) Z (A2 (A4 Z Z) Z (C2 (F36 h x (by omega) hr1.1 (by omega)) Z Z Z ?_)))));rintro _ rfl;refine A2 (L2 Z) Z (A6 ?_)
  refine k1 ?_
  refine B4 rfl (fun ht=>?_) (fun ht=>?_)
  ·have h5:V4 h x=false:=by simpa using ht
   rw [if_neg (by rw [h5];decide)] at hf
   refine k2 ?_
   refine A3 (A2 (A5 Z Z) Z (A2 (A5 Z Z) Z (A6 ?_)))
   refine k1 (k10 (k11 (k12 (k11 (k11 (k12 (k11 ?_)))))))
   exact B5 (Z9 rfl rfl rfl rfl rfl) (by rw [hf0,if_pos (by omega)])
  ·have h9:V4 h x=true:=by simpa using ht
   rw [if_pos h9] at hf
   have h10:=A84 h9
   refine k5 (k1 (k2 ?_))
   refine A3 (A2 (A4 Z Z) Z (A2 (A4 Z Z) Z (A2 (A4 Z Z) Z (A2 (A7 Z) Z (A2 (A9 Z Z Z) Z (A2 (O7 Z (.pure _ _ _ _) Z Z (by (first | omega | (unfold sub at h8;omega))) (by (first | omega | (unfold sub at h8;omega))) (by (first | omega | (unfold sub at h8;omega)))) Z (C4 (F4 Z Z Z (.pure _ _ _ _) (by (unfold sub at h8;omega)) Z) Z ?_)))))));refine A2 (A4 Z Z) Z (C4 (F4 Z Z Z (.pure _ _ _ _) (by (simp only [G07];unfold sub at h8;omega)) Z) Z (A2 (A5 Z Z) Z (A6 ?_)))
   refine k1 ?_
   refine A3 (A2 (A7 Z) Z (A2 (A9 Z Z Z) Z (A2 (A4 Z Z) Z (A2 (E1 Z (.pure _ _ _ _)) Z (A2 (C3 Z Z (by omega)) Z (A2 (A5 Z Z) Z (A6 ?_)))))))
   refine k4 (k1 ?_)
   refine A3 (A2 (C3 Z Z (by omega)) Z (A2 (A4 Z Z) Z (A6 ?_)))
   refine k1 ?_
   have e:S0 p.Hunks x (k+1)=S0 p.Hunks x k++sub x (M6 p.Hunks k) h.Old++B9 h.Lines 45:=by rw [hh];rfl
   have e2:M6 p.Hunks (k+1)=h.Old+((B9 h.Lines 43).length:Int):=by rw [hh];unfold M6;rw [if_neg (by omega)];rfl
   refine ⟨k+1,⟨by omega,by omega,fun j hj=>?_⟩,by omega,?_⟩
   ·rcases Nat.lt_or_ge j k with hjk | hjk
    ·exact hall j hjk
    ·rw [show j=k by omega,←hh];exact h9
   rw [e,e2]
   exact F77 ⟨le1 rfl,le1 rfl,le1 rfl,le1 rfl,le1 rfl,le1 rfl,le1 rfl,trivial⟩ ⟨rfl,rfl,trivial⟩
 ·have hk':k=p.Hunks.length:=by have:=A1 ht;omega
  subst hk'
  rw [G18 (Nat.le_refl _),A34] at hf
  rw [if_neg (by omega)] at hf0
  have hat:0≤M6 p.Hunks p.Hunks.length∧M6 p.Hunks p.Hunks.length≤x.length:=by
   unfold M6
   split
   ·omega
   ·obtain ⟨o1,o2⟩:=hord0 (p.Hunks.length - 1) (by omega)
    have o3:=A84 (hall (p.Hunks.length - 1) (by omega))
    have:=p6 (hAt p.Hunks (p.Hunks.length - 1))
    omega
  obtain ⟨out,hout⟩:∃out,out=S0 p.Hunks x p.Hunks.length++x.drop (M6 p.Hunks p.Hunks.length).toNat:=⟨_,rfl⟩
  have hfl:out.flatten.length≤268435456:=by
   have h9:(x.take (M6 p.Hunks p.Hunks.length).toNat).flatten.length+(x.drop (M6 p.Hunks p.Hunks.length).toNat).flatten.length=x.flatten.length:=by
    rw [←G07,←G20,G40]
   rw [hout,G20,G07];omega
  have hol:out.length≤536870911:=by rw [hout,G07,G25];omega
  have hap:=D65 p.Hunks x
  rw [←hout] at hap
  have hfl2:=hfl
  have hol2:=hol
  rw [hout] at hfl2 hol2
  refine k6 (k2 ?_)
  refine A3 (A2 (A4 Z Z) Z (A2 (A4 Z Z) Z (A2 (A4 Z Z) Z (A2 (D06 Z (.pure _ _ _ _) Z (by (first | omega | (unfold sub at *;omega))) (by (first | omega | (unfold sub at *;omega)))) Z (C4 (F4 Z Z Z (.pure _ _ _ _) (by (simp only [G25];omega)) Z) Z (C2 (F62 _ (Nat.le_trans hfl2 (by decide)) hol2) Z Z Z ?_))))));rintro _ rfl;refine A2 (A4 Z Z) Z (A2 (C5 Z Z) Z (A2 (C5 Z Z) Z (A2 (A5 Z Z) Z (A2 (A5 Z Z) Z (A6 ?_)))))
  rw [←hout]
  refine k1 (k2 (k2 ?_))
  refine A3 (A2 (A4 Z Z) Z (A2 (J9 Z Z) Z (A6 ?_)))
  refine k1 ?_
  refine B4 rfl (fun ht=>?_) (fun ht=>?_)
  ·have h8:(S6 out).2=2:=A0 ht
   refine k2 ?_
   refine A3 (A2 (A5 Z Z) Z (A2 (A5 Z Z) Z (A6 ?_)))
   refine k1 (k10 (k11 ?_))
   exact B5 (Z9 rfl rfl rfl rfl rfl) (by rw [hf0,hap,if_pos h8])
  ·have h8:¬(S6 out).2=2:=A1 ht
   refine k5 (k1 (k2 ?_))
   refine A3 (A2 (A4 Z Z) Z (A2 (A4 Z Z) Z (A2 (A5 Z Z) Z (A2 (A5 Z Z) Z (A6 ?_)))))
   refine k1 (k10 ?_)
   exact B5 (Z9 rfl rfl rfl rfl rfl) (by rw [hf0,hap,if_neg h8])
theorem B15:FnOk Tryz.prog 16 [] (fun rs=>rs=[O8 true]):=by
 have hsz:=A47 [97,10,98] [97,10,99,10] 1 (by decide) (by decide)
 have hmk:=C52 [120] [120] [97,10,98] [97,10,99,10] 1 (by decide) (by decide) (Nat.le_trans hsz (by decide))
 rw [E88] at hmk
 have h1:=x5 awakeP [97,10,98] (by decide) (by decide)
 have h2:=x5 awakeP [97,10,98,10] (by decide) (by decide)
 rw [awake_apply.1] at h1
 rw [awake_apply.2] at h2
 refine FnOk.intro Tryz.func16 (by decide) Z Z Z Z ?_
 refine k2 ?_
 refine A3 (A2 (A5 Z Z) Z (A6 ?_))
 refine k1 (k2 ?_)
 refine A3 (C2 (hmk) Z Z Z ?_);rintro _ rfl;refine A2 (A4 Z Z) Z (A2 (C5 Z Z) Z (A2 (C5 Z Z) Z (C4 (F7 1 Z) Z (F3 (B8 TySz.out Z Z Z Z Z Z) (A2 (A5 Z Z) Z (A6 ?_))))))
 refine k1 (k2 ?_)
 refine A3 (A2 (C1 Z Z Z) Z (C2 (h1) Z Z Z ?_));rintro _ rfl;refine A2 (A4 Z Z) Z (A2 (C5 Z Z) Z (A2 (C5 Z Z) Z (A2 (A5 Z Z) Z (A2 (A5 Z Z) Z (A6 ?_)))))
 refine k1 (k2 ?_)
 refine A3 (A2 (C1 Z Z Z) Z (C2 (h2) Z Z Z ?_));rintro _ rfl;refine A2 (A4 Z Z) Z (A2 (C5 Z Z) Z (A2 (C5 Z Z) Z (A2 (A5 Z Z) Z (A2 (A5 Z Z) Z (A6 ?_)))))
 refine k1 (k2 ?_)
 refine A3 (A2 (A4 Z Z) Z (A2 (J9 Z Z) Z (A2 (A4 Z Z) Z (A8 Z Z Z Z (fun hg=>by rw [hg];exact A4 Z Z) ?_))));refine A8 Z Z Z Z (fun hg=>by rw [hg];exact u7 Z Z) ?_;refine A2 (B2 Z (fun h=>by first | rfl | (rw [h];rfl)) (fun h=>by first | rfl | (rw [h];rfl))) Z ?_;refine A2 (A4 Z Z) Z (A8 Z Z Z Z (fun hg=>by rw [hg];exact A4 Z Z) ?_);refine A8 Z Z Z Z (fun hg=>by rw [hg];exact J9 Z Z) ?_;refine A2 (B2 Z (fun h=>by first | rfl | (rw [h];rfl)) (fun h=>by first | rfl | (rw [h];rfl))) Z ?_;refine A2 (A5 Z Z) Z (A6 ?_)
 refine k1 (k10 ?_)
 exact B5 (F5 rfl rfl rfl) (by simp)
def P3 (raw:List Int):Str:=B13 raw 0 9 5
def T3 (raw:List Int):Str:=B14 (P3 raw) raw 100
def E24 (raw:List Int) (ctx:Int):Patch × Int:=A33 [111] [110] (P3 raw) (T3 raw) (M2 ctx 4)
theorem s5 (raw:List Int):(P3 raw).length≤36:=by
 have:=E68 raw 0 9 5 (by omega)
 unfold P3;omega
theorem F68 (b:Str) (raw:List Int) (f:Int):(B14 b raw f).length≤5*b.length:=by
 unfold B14
 have h1:=A19 raw f (B6 b) 0 []
 have h2:=O9 b
 rw [X5] at h1
 simp at h1;omega
theorem A82 (raw:List Int):(T3 raw).length≤180:=by
 have:=F68 (P3 raw) raw 100
 have:=s5 raw
 unfold T3;omega
theorem D28 (raw:List Int):P3 raw=B13 raw 0 9 5:=rfl
theorem D29 (raw:List Int):T3 raw=B14 (P3 raw) raw 100:=rfl
theorem F38 (raw:List Int) (ctx:Int):FnOk Tryz.prog 17 [A43 raw,I8 ctx] (fun rs=>rs=[pPatch (E24 raw ctx).1,I1 (P3 raw),I1 (T3 raw)]):=by
 have ha:=s5 raw
 have hb:=A82 raw
 have hsz:=A47 (P3 raw) (T3 raw) (M2 ctx 4) ha (by omega)
 have hmk:=C52 [111] [110] (P3 raw) (T3 raw) (M2 ctx 4) (by omega) (by omega) (by omega)
 obtain ⟨q,hq⟩:∃q,q=A33 [111] [110] (P3 raw) (T3 raw) (M2 ctx 4):=⟨_,rfl⟩
 have hP:E24 raw ctx=q:=by unfold E24;rw [hq]
 rw [←hq] at hmk
 rw [hP]
 refine FnOk.intro Tryz.func17 (by decide) Z Z Z Z ?_
 refine k2 ?_
 refine A3 (C4 (F7 4 Z) Z (A2 (A5 Z Z) Z (A2 (A5 Z Z) Z (A6 ?_))))
 refine k1 (k2 ?_)
 refine A3 (A2 (A4 Z Z) Z (C2 (F13 raw 0 9 5 (by omega) (by omega) (by omega)) Z Z Z ?_));rintro _ rfl;refine A2 (A5 Z Z) Z (A6 ?_)
 rw [←D28]
 refine k1 (k2 ?_)
 refine A3 (A2 (A4 Z Z) Z (A2 (A4 Z Z) Z (C2 (F14 (P3 raw) raw 100 (by omega) (by omega)) Z Z Z ?_)));rintro _ rfl;refine A2 (A5 Z Z) Z (A6 ?_)
 rw [←D29]
 refine k1 (k2 ?_)
 refine A3 (A2 (A4 Z Z) Z (A2 (A4 Z Z) Z (A2 (A4 Z Z) Z (C2 (A60 ctx 4 (by omega) (by omega)) Z Z Z ?_))));rintro _ rfl;refine C2 (hmk) Z Z Z ?_;rintro _ rfl;refine A2 (A4 Z Z) Z (A2 (C5 Z Z) Z (A2 (C5 Z Z) Z (C4 (F7 9 Z) Z (F3 (B8 TySz.out Z Z Z Z Z Z) (A2 (A5 Z Z) Z (A6 ?_))))))
 refine k1 (k2 ?_)
 refine A3 (A2 (C1 Z Z Z) Z (A2 (A4 Z Z) Z (A2 (A4 Z Z) Z (F3 (B8 TySz.out Z Z Z Z Z Z) (A2 (A5 Z Z) Z (A2 (A5 Z Z) Z (A6 ?_)))))))
 refine k1 (k10 ?_)
 exact B5 (rs:=[pPatch q.1,I1 (P3 raw),I1 (T3 raw)]) (retc3 rfl rfl rfl rfl rfl rfl rfl rfl rfl) rfl
theorem ke_of (c k:UInt8):decide ((c.toNat:Int)=(k.toNat:Int))=decide (c=k):=by
 rw [decide_eq_decide]
 constructor
 ·intro h;exact UInt8.toNat_inj.1 (by omega)
 ·rintro rfl;rfl
theorem ke45 (c:UInt8):decide ((c.toNat:Int)=45)=decide (c=45):=ke_of c 45
theorem ke43 (c:UInt8):decide ((c.toNat:Int)=43)=decide (c=43):=ke_of c 43
theorem E73 (c:UInt8):FnOk Tryz.prog 74 [.one (.v (.int .u8 c.toNat))] (fun rs=>rs=[.one (.v (.int .u8 (C04 c).toNat))]):=by
 refine FnOk.intro Tryz.func74 (by decide) Z Z Z Z ?_
 refine k2 ?_
 refine A3 (A2 (A5 Z Z) Z (A6 ?_))
 refine k1 (k2 (k2 ?_))
 refine A3 (A2 (A4 Z Z) Z (A6 ?_))
 refine k1 (k3 (k2 ?_))
 refine A3 (A2 (J9 Z Z) Z (A2 (A5 Z Z) Z (A6 ?_)))
 refine k1 ?_
 refine B4 rfl (fun ht=>?_) (fun ht=>?_)
 ·simp only [ke45] at ht
  have h:=A0 ht
  refine k2 ?_
  refine A3 (A2 (A5 Z Z) Z (A6 ?_))
  refine k1 (k10 (k12 (k11 ?_)))
  exact B5 (F5 rfl rfl rfl) (by unfold C04;rw [if_pos h];rfl)
 simp only [ke45] at ht
 have h:=A1 ht
 refine k2 ?_
 refine A3 (A2 (J9 Z Z) Z (A2 (A5 Z Z) Z (A6 ?_)))
 refine k1 ?_
 refine B4 rfl (fun ht=>?_) (fun ht=>?_)
 ·simp only [ke43] at ht
  have h2:=A0 ht
  refine k2 ?_
  refine A3 (A2 (A5 Z Z) Z (A6 ?_))
  refine k1 (k10 (k12 (k11 ?_)))
  exact B5 (F5 rfl rfl rfl) (by unfold C04;rw [if_neg h,if_pos h2];rfl)
 simp only [ke43] at ht
 have h2:=A1 ht
 refine k5 (k2 ?_)
 refine A3 (A2 (A4 Z Z) Z (A2 (A5 Z Z) Z (A6 ?_)))
 refine k1 (k10 ?_)
 exact B5 (F5 rfl rfl rfl) (by unfold C04;rw [if_neg h,if_neg h2])
theorem B88 (p:Patch) (hp:szP p.Hunks≤268435456):FnOk Tryz.prog 21 [pPatch p] (fun rs=>rs=[pPatch (L7 p).1,I8 (L7 p).2]):=by
 have hsl:=U4 p.Hunks
 have hf0:L7 p=if D9 p≠0 then (O1,D9 p) else (revP p,0):=rfl
 refine FnOk.intro Tryz.func21 (by decide) Z Z Z Z ?_
 refine k2 ?_
 refine A3 (C4 (U9 1 Z Z Z) Z (C4 (F7 2 Z) Z (A2 (A5 Z Z) Z (A6 ?_))))
 refine k1 (k2 (k2 ?_))
 refine A3 (A2 (C1 Z Z Z) Z (C2 (D27 p (by omega)) Z Z Z ?_));rintro _ rfl;refine A2 (A5 Z Z) Z (A6 ?_)
 refine k1 (k2 ?_)
 refine A3 (A2 (A4 Z Z) Z (A2 (H8 Z Z) Z (A6 ?_)))
 refine k1 ?_
 refine B4 rfl (fun ht=>?_) (fun ht=>?_)
 ·have h1:D9 p≠0:=A0 ht
  refine k2 ?_
  refine A3 (A2 (J2 Z) Z (A2 (A4 Z Z) Z (F3 (B8 TySz.out Z Z Z Z Z Z) (A2 (A5 Z Z) Z (A6 ?_)))))
  refine k1 ?_
  refine K3 (F82 PatchHunk 3 phunkC 2 2 Z Z) ?_
  refine k10 (k11 ?_)
  exact B5 (rs:=[pPatch O1,I8 (D9 p)]) (A94 rfl rfl rfl rfl rfl rfl rfl) (by rw [hf0,if_pos h1])
 have h1:¬D9 p≠0:=A1 ht
 rw [if_neg h1] at hf0
 refine k5 (k1 (k2 ?_))
 refine A3 (A2 (A7 Z) Z (A2 (A9 Z Z Z) Z (A2 (A7 Z) Z (A2 (A9 Z Z Z) Z (A2 (J2 Z) Z (C4 (F7 5 Z) Z (F3 (B8 TySz.out Z Z Z Z Z Z) (A6 ?_))))))))
 refine k1 (k2 (k2 ?_))
 refine K3 (F83 702 PatchHunk 3 phunkC 29 (kb:=5) (o:=2) Z Z Z) ?_
 skip
 refine A3 (A2 (A7 Z) Z (A2 (A9 Z Z Z) Z (A2 (E1 Z (.pure _ _ _ _)) Z (A2 (A4 Z Z) Z (A6 ?_)))))
 refine k1 (k3 ?_)
 refine D8 (X:=Nat) (fun k=>([(2,.s (.one (.ref 2 0))),(5,.s (.one (.ref 5 0))),(23,D5 PatchHunk 3 phunkC p.Hunks),(24,D2 p.Hunks.length),(25,D2 k)],[(2,.box [.p (.v (.string ⟨#[]⟩)),.p (.v (.string ⟨#[]⟩)),.p (.v (.slice none 0 0))]),(5,.box [.p (.v (.string ⟨p.NewName.toArray⟩)),.p (.v (.string ⟨p.OldName.toArray⟩)),.buf 702 PatchHunk 3 phunkC ((p.Hunks.take k).map z6)]),(702,.spare ((p.Hunks.take k).map z6).length 3 29)])) (fun k=>k≤p.Hunks.length) (fun k=>p.Hunks.length - k) 0 (Nat.zero_le _) (F77 ⟨le1 rfl,le1 rfl,le1 rfl,le1 rfl,le1 rfl,trivial⟩ ⟨rfl,rfl,rfl,trivial⟩) ?_
 intro k hk
 dsimp only at hk ⊢
 refine k2 ?_
 refine A3 (A2 (E5 Z Z) Z (A6 ?_))
 refine k1 (k2 ?_)
 refine B4 rfl (fun ht=>?_) (fun ht=>?_)
 ·have hlt:k < p.Hunks.length:=by have:=A0 ht;omega
  have hv:p.Hunks[k]?=some p.Hunks[k]:=by simp [hlt]
  have hmem:=G22 hlt
  have htk:(p.Hunks.take (k+1)).map z6=(p.Hunks.take k).map z6++[z6 p.Hunks[k]]:=by rw [G14 hlt,G27];rfl
  obtain ⟨h,hh⟩:∃h,h=p.Hunks[k]:=⟨_,rfl⟩
  rw [←hh] at hv hmem htk
  have h3:=U3 hmem
  have h4:=P1 h.Lines
  unfold szH at h3
  obtain ⟨hs,hhs⟩:∃hs,hs=(p.Hunks.take k).map z6:=⟨_,rfl⟩
  have hhl:hs.length=k:=by rw [hhs,G35,G17];omega
  rw [←hhs] at htk ⊢
  refine k5 (k1 (k2 (k3 (k2 ?_))))
  refine A3 (A2 (B1 Z (.pure _ _ _ _) Z (by omega) hv) Z (A2 (D3 Z Z) Z (C4 (F7 7 Z) Z (F3 (B8 TySz.out Z Z Z Z Z Z) (A6 ?_)))))
  refine k1 (k2 ?_)
  refine A3 (A2 (A7 Z) Z (A2 (A9 Z Z Z) Z (A2 (A7 Z) Z (A2 (A9 Z Z Z) Z (A2 (J2 Z) Z (C4 (F7 8 Z) Z (F3 (B8 TySz.out Z Z Z Z Z Z) (A6 ?_))))))))
  refine k1 (k2 (k2 ?_))
  refine K3 (F83 701 PatchLine 2 plineC 36 (kb:=8) (o:=2) Z Z Z) ?_
  skip
  refine A3 (A2 (A7 Z) Z (A2 (A9 Z Z Z) Z (A2 (E1 Z (.pure _ _ _ _)) Z (A2 (A4 Z Z) Z (A6 ?_)))))
  refine k1 (k3 ?_)
  refine D8 (X:=Nat) (fun i=>([(2,.s (.one (.ref 2 0))),(5,.s (.one (.ref 5 0))),(23,D5 PatchHunk 3 phunkC p.Hunks),(24,D2 p.Hunks.length),(25,D2 k),(8,.s (.one (.ref 8 0))),(35,D5 PatchLine 2 plineC h.Lines),(36,D2 h.Lines.length),(37,D2 i)],[(2,.box [.p (.v (.string ⟨#[]⟩)),.p (.v (.string ⟨#[]⟩)),.p (.v (.slice none 0 0))]),(5,.box [.p (.v (.string ⟨p.NewName.toArray⟩)),.p (.v (.string ⟨p.OldName.toArray⟩)),.buf 702 PatchHunk 3 phunkC hs]),(702,.spare hs.length 3 29),(8,.box [.p (.v (.int .i64 h.New)),.p (.v (.int .i64 h.Old)),.buf 701 PatchLine 2 plineC ((h.Lines.take i).map n7)]),(701,.spare ((h.Lines.take i).map n7).length 2 36)])) (fun i=>i≤h.Lines.length) (fun i=>h.Lines.length - i) 0 (Nat.zero_le _) (F77 ⟨le1 rfl,le1 rfl,le1 rfl,le1 rfl,le1 rfl,le1 rfl,le1 rfl,le1 rfl,le1 rfl,trivial⟩ ⟨rfl,rfl,rfl,rfl,rfl,trivial⟩) ?_
  intro i hi
  dsimp only at hi ⊢
  refine k2 ?_
  refine A3 (A2 (E5 Z Z) Z (A6 ?_))
  refine k1 (k2 ?_)
  refine B4 rfl (fun ht=>?_) (fun ht=>?_)
  ·have hlt2:i < h.Lines.length:=by have:=A0 ht;omega
   have hv2:h.Lines[i]?=some h.Lines[i]:=by simp [hlt2]
   have htk2:(h.Lines.take (i+1)).map n7=(h.Lines.take i).map n7++[n7 h.Lines[i]]:=by rw [G14 hlt2,G27];rfl
   obtain ⟨q,hq⟩:∃q,q=h.Lines[i]:=⟨_,rfl⟩
   rw [←hq] at hv2 htk2
   obtain ⟨ls,hls⟩:∃ls,ls=(h.Lines.take i).map n7:=⟨_,rfl⟩
   have hll:ls.length=i:=by rw [hls,G35,G17];omega
   rw [←hls] at htk2 ⊢
   refine k5 (k1 (k2 (k3 (k2 ?_))))
   refine A3 (A2 (B1 Z (.pure _ _ _ _) Z (by omega) hv2) Z (A2 (D3 Z Z) Z (C4 (F7 10 Z) Z (F3 (B8 TySz.out Z Z Z Z Z Z) (A6 ?_)))))
   refine k1 ?_
   refine D7 (by kernel_rfl) (by kernel_rfl) (B0 (A7 Z) Z Z (B0 (A9 Z Z Z) Z Z (B0 (A7 Z) Z Z (B0 (A9 Z Z Z) Z Z (B0 (E9 (E73 q.Kind) Z Z) Z Z (B0 (A7 Z) Z Z (B0 (A9 Z Z Z) Z Z (B0 (J2 Z) Z Z (B0 (E3 (c:=plineC) (ys:=[n7 q]) (E6 Z Z Z Z I9) Z Z Z) Z Z (T7 (F4 Z Z Z (.pure _ _ _ _) (by (simp only [G10,G11];omega)) Z) Z Z (B0 (A7 Z) Z Z (v6 (B8 TySz.out Z Z Z Z Z Z) Z (H5 ?_)))))))))))))
   refine k4 (k1 ?_)
   refine A3 (A2 (C3 Z Z (by omega)) Z (A2 (A4 Z Z) Z (A6 ?_)))
   refine k1 ?_
   refine ⟨i+1,by omega,by omega,?_⟩
   rw [htk2]
   exact F77 ⟨le1 rfl,le1 rfl,le1 rfl,le1 rfl,le1 rfl,le1 rfl,le1 rfl,le1 rfl,le1 rfl,trivial⟩ ⟨rfl,rfl,rfl,rfl,rfl,trivial⟩
  ·have hi':i=h.Lines.length:=by have:=A1 ht;omega
   rw [show (h.Lines.take i).map n7=h.Lines.map n7 by rw [hi',G23]]
   refine k6 (k7 (k7 (k8 Z (k1 ?_))))
   refine A3 (A2 (A7 Z) Z (A2 (A9 Z Z Z) Z (A2 (C1 Z Z Z) Z (A2 (E3 (c:=phunkC) (ys:=[z6 h]) (E6 Z Z Z Z I9) Z Z Z) Z (C4 (F4 Z Z Z (.pure _ _ _ _) (by (simp only [G10,G11];omega)) Z) Z (A2 (A7 Z) Z (F3 (B8 TySz.out Z Z Z Z Z Z) (A6 ?_))))))))
   refine k4 (k1 ?_)
   refine A3 (A2 (C3 Z Z (by omega)) Z (A2 (A4 Z Z) Z (A6 ?_)))
   refine k1 ?_
   refine ⟨k+1,by omega,by omega,?_⟩
   rw [htk]
   exact F77 ⟨le1 rfl,le1 rfl,le1 rfl,le1 rfl,le1 rfl,trivial⟩ ⟨rfl,rfl,rfl,trivial⟩
 ·have hk':k=p.Hunks.length:=by have:=A1 ht;omega
  rw [show (p.Hunks.take k).map z6=p.Hunks.map z6 by rw [hk',G23]]
  refine k6 (k2 ?_)
  refine A3 (A2 (C1 Z Z Z) Z (F3 (B8 TySz.out Z Z Z Z Z Z) (A2 (A5 Z Z) Z (A6 ?_))))
  refine k1 (k10 ?_)
  exact B5 (rs:=[pPatch (revP p),I8 0]) (A94 rfl rfl rfl rfl rfl rfl rfl) (by rw [hf0])
abbrev D66 (q:PatchLine):List Value:=[.int .u8 q.Kind.toNat,.string ⟨q.Text.toArray⟩]
theorem F69 (q q':PatchLine):D53 (D66 q) (D66 q')=decide (q=q'):=by
 rw [Bool.eq_iff_iff]
 simp only [D53,eqV,ByteArray.toList_mk,G08,beq_iff_eq,decide_eq_true_eq,Bool.and_true]
 constructor
 ·rintro ⟨h1,h2⟩
  obtain ⟨k,t⟩:=q
  obtain ⟨k',t'⟩:=q'
  obtain rfl:k=k':=UInt8.toNat_inj.1 (by have h1:(k.toNat:Int)=k'.toNat:=h1;omega)
  obtain rfl:t=t':=h2
  rfl
 ·rintro rfl;exact ⟨rfl,rfl⟩
theorem B89 {α:Type} {a b:List α} {k:Nat} (hl:a.length=b.length) (hk:k=a.length) (h:a.take k=b.take k):a=b:=by
 subst hk;rw [G23,hl,G23] at h;exact h
theorem B44 {α:Type} {a b:List α} {k:Nat} (h1:k < a.length) (h2:k < b.length) (h:a.take k=b.take k) (he:a[k]=b[k]):a.take (k+1)=b.take (k+1):=by
 rw [G14 h1,G14 h2,h,he]
theorem D30 (a b:Patch) (ha:szP a.Hunks≤1099511627776):FnOk Tryz.prog 23 [pPatch a,pPatch b] (fun rs=>rs=[O8 (decide (a=b))]):=by
 have hsl:=U4 a.Hunks
 refine FnOk.intro Tryz.func23 (by decide) Z Z Z Z ?_
 refine k2 ?_
 refine A3 (C4 (U9 2 Z Z Z) Z (C4 (U9 3 Z Z Z) Z (A2 (A5 Z Z) Z (A6 ?_))))
 refine k1 (k2 (k2 ?_))
 refine A3 (A2 (A7 Z) Z (A2 (A9 Z Z Z) Z (A2 (A7 Z) Z (A2 (A9 Z Z Z) Z (A2 (i6 Z Z) Z (A2 (A4 Z Z) Z (A8 Z Z Z Z (fun hg=>by rw [hg];exact A7 Z) ?_)))))));refine A8 Z Z Z Z (fun hg=>by rw [hg];exact A9 Z Z Z) ?_;refine A8 Z Z Z Z (fun hg=>by rw [hg];exact A7 Z) ?_;refine A8 Z Z Z Z (fun hg=>by rw [hg];exact A9 Z Z Z) ?_;refine A8 Z Z Z Z (fun hg=>by rw [hg];exact i6 Z Z) ?_;refine A2 (B2 Z (fun h=>by first | rfl | (rw [h];rfl)) (fun h=>by first | rfl | (rw [h];rfl))) Z ?_;refine A2 (A4 Z Z) Z (A8 Z Z Z Z (fun hg=>by rw [hg];exact A7 Z) ?_);refine A8 Z Z Z Z (fun hg=>by rw [hg];exact A9 Z Z Z) ?_;refine A8 Z Z Z Z (fun hg=>by rw [hg];exact E1 Z (.pure _ _ _ _)) ?_;refine A8 Z Z Z Z (fun hg=>by rw [hg];exact A7 Z) ?_;refine A8 Z Z Z Z (fun hg=>by rw [hg];exact A9 Z Z Z) ?_;refine A8 Z Z Z Z (fun hg=>by rw [hg];exact E1 Z (.pure _ _ _ _)) ?_;refine A8 Z Z Z Z (fun hg=>by rw [hg];exact H8 Z Z) ?_;refine A2 (B2 Z (fun h=>by first | rfl | (rw [h];rfl)) (fun h=>by first | rfl | (rw [h];rfl))) Z ?_;refine A6 ?_
 refine k1 ?_
 refine B4 rfl (fun ht=>?_) (fun ht=>?_)
 ·simp only [or_pick] at ht
  have h:=A0 ht
  refine k2 ?_
  refine A3 (A2 (A5 Z Z) Z (A6 ?_))
  refine k1 (k10 (k11 ?_))
  refine B5 (rs:=[O8 false]) (F5 Z Z Z) ?_
  rw [decide_eq_false]
  rintro rfl
  simp at h
 simp only [or_pick] at ht
 have h:=A1 ht
 have h1:a.OldName=b.OldName:=Decidable.not_not.1 fun q=>h (.inl (.inl q))
 have h2:a.NewName=b.NewName:=Decidable.not_not.1 fun q=>h (.inl (.inr q))
 have h3:a.Hunks.length=b.Hunks.length:=by
  have:(a.Hunks.length:Int)=b.Hunks.length:=Decidable.not_not.1 fun q=>h (.inr q)
  omega
 refine k5 (k1 (k2 (k2 ?_)))
 refine A3 (A2 (A5 Z Z) Z (A6 ?_))
 refine k1 (k3 ?_)
 refine D8 (X:=Nat) (fun k=>([(2,.s (.one (.ref 2 0))),(3,.s (.one (.ref 3 0))),(5,D2 k)],[(2,.box (pPatch a).s1.cells),(3,.box (pPatch b).s1.cells)])) (fun k=>k≤a.Hunks.length∧a.Hunks.take k=b.Hunks.take k) (fun k=>a.Hunks.length - k) 0 ⟨Nat.zero_le _,rfl⟩ (F77 ⟨le1 rfl,le1 rfl,le1 rfl,trivial⟩ ⟨rfl,rfl,trivial⟩) ?_
 rintro k ⟨hk,he⟩
 dsimp only at hk he ⊢
 refine k2 (k2 ?_)
 refine A3 (A2 (A4 Z Z) Z (A2 (A7 Z) Z (A2 (A9 Z Z Z) Z (A2 (E1 Z (.pure _ _ _ _)) Z (A2 (E5 Z Z) Z (A6 ?_))))))
 refine k1 ?_
 refine B4 rfl (fun ht=>?_) (fun ht=>?_)
 ·have hlt:k < a.Hunks.length:=by have:=A0 ht;omega
  have hlt':k < b.Hunks.length:=by omega
  have hv:a.Hunks[k]?=some a.Hunks[k]:=by simp [hlt]
  have hv':b.Hunks[k]?=some b.Hunks[k]:=by simp [hlt']
  have hszx:64*(a.Hunks[k].Lines.length)≤szP a.Hunks:=by
   have h3:=U3 (G22 hlt)
   have h4:=P1 a.Hunks[k].Lines
   unfold szH at h3;omega
  have hnext:=fun q=>B44 hlt hlt' he q
  have hno:a.Hunks[k]≠b.Hunks[k]→decide (a=b)=false:=fun q=>by
   rw [decide_eq_false];rintro rfl;exact q rfl
  obtain ⟨x,hx⟩:∃x,x=a.Hunks[k]:=⟨_,rfl⟩
  obtain ⟨y,hy⟩:∃y,y=b.Hunks[k]:=⟨_,rfl⟩
  rw [←hx] at hv hszx
  rw [←hy] at hv'
  rw [←hx,←hy] at hnext hno
  refine k5 (k1 (k2 (k3 (k2 ?_))))
  refine B37 [13,12,11,10] [[],[10],[11],[11,10],[12,11,10],[13,12,11,10]] [(0,[10]),(0,[11]),(0,[11,10]),(1,[10]),(1,[11]),(1,[11,10]),(2,[10]),(2,[11]),(2,[11,10]),(3,[10]),(3,[11]),(3,[11,10]),(4,[10]),(4,[11]),(4,[11,10]),(5,[10]),(5,[11]),(5,[11,10]),(5,[12,11,10]),(6,[10]),(6,[11]),(6,[11,10]),(6,[12,11,10]),(7,[10]),(7,[11]),(7,[11,10]),(7,[12,11,10]),(8,[10]),(8,[11]),(8,[11,10]),(8,[12,11,10]),(9,[10]),(9,[11]),(9,[11,10]),(9,[12,11,10]),(10,[11]),(11,[])] (by kernel_rfl) (by kernel_rfl) (V0 Z (A7 Z) (V0 Z (A9 Z Z Z) (V0 Z (A4 Z Z) (V0 Z (B1 Z (.pure _ _ _ _) Z (by omega) hv) (V0 Z (D3 Z Z) (V0 Z (A7 Z) (V0 Z (A9 Z Z Z) (V0 Z (A4 Z Z) (V0 Z (B1 Z (.pure _ _ _ _) Z (by omega) hv') (V0 Z (D3 Z Z) (D57 6 Z Z (D57 7 Z Z (D58 (v8 TySz.out Z Z Z Z Z Z) (D58 (v8 TySz.out Z Z Z Z Z Z) ?_))))))))))))));refine a_nil rfl ?_ ?_
  ·refine J1 Z Z (A7 Z) (J1 Z Z (A7 Z) (J1 Z Z (A7 Z) (J1 Z Z (A9 Z Z Z) (J1 Z Z (A9 Z Z Z) (J1 Z Z (A9 Z Z Z) (J1 Z Z (A4 Z Z) (J1 Z Z (A4 Z Z) (J1 Z Z (A4 Z Z) (J1 Z Z (B1 Z (.pure _ _ _ _) Z (by omega) hv) (J1 Z Z (B1 Z (.pure _ _ _ _) Z (by omega) hv) (J1 Z Z (B1 Z (.pure _ _ _ _) Z (by omega) hv) (J1 Z Z (D3 Z Z) (J1 Z Z (D3 Z Z) (J1 Z Z (D3 Z Z) (J1 Z Z (A7 Z) (J1 Z Z (A7 Z) (J1 Z Z (A7 Z) (J1 Z Z (A7 Z) (J1 Z Z (A9 Z Z Z) (J1 Z Z (A9 Z Z Z) (J1 Z Z (A9 Z Z Z) (J1 Z Z (A9 Z Z Z) (J1 Z Z (A4 Z Z) ?_)))))))))))))))))))))));refine J1 Z Z (A4 Z Z) (J1 Z Z (A4 Z Z) (J1 Z Z (A4 Z Z) (J1 Z Z (B1 Z (.pure _ _ _ _) Z (by omega) hv') (J1 Z Z (B1 Z (.pure _ _ _ _) Z (by omega) hv') (J1 Z Z (B1 Z (.pure _ _ _ _) Z (by omega) hv') (J1 Z Z (B1 Z (.pure _ _ _ _) Z (by omega) hv') (J1 Z Z (D3 Z Z) (J1 Z Z (D3 Z Z) (J1 Z Z (D3 Z Z) (J1 Z Z (D3 Z Z) (F08 Z Z Z Z Z (F08 Z Z Z Z Z ?_))))))))))));exact o_nil
  refine k1 (k2 (k2 ?_))
  refine A3 (A2 (A7 Z) Z (A2 (A9 Z Z Z) Z (A2 (A7 Z) Z (A2 (A9 Z Z Z) Z (A2 (H8 Z Z) Z (A2 (A4 Z Z) Z (A8 Z Z Z Z (fun hg=>by rw [hg];exact A7 Z) ?_)))))));refine A8 Z Z Z Z (fun hg=>by rw [hg];exact A9 Z Z Z) ?_;refine A8 Z Z Z Z (fun hg=>by rw [hg];exact A7 Z) ?_;refine A8 Z Z Z Z (fun hg=>by rw [hg];exact A9 Z Z Z) ?_;refine A8 Z Z Z Z (fun hg=>by rw [hg];exact H8 Z Z) ?_;refine A2 (B2 Z (fun h=>by first | rfl | (rw [h];rfl)) (fun h=>by first | rfl | (rw [h];rfl))) Z ?_;refine A2 (A4 Z Z) Z (A8 Z Z Z Z (fun hg=>by rw [hg];exact A7 Z) ?_);refine A8 Z Z Z Z (fun hg=>by rw [hg];exact A9 Z Z Z) ?_;refine A8 Z Z Z Z (fun hg=>by rw [hg];exact E1 Z (.pure _ _ _ _)) ?_;refine A8 Z Z Z Z (fun hg=>by rw [hg];exact A7 Z) ?_;refine A8 Z Z Z Z (fun hg=>by rw [hg];exact A9 Z Z Z) ?_;refine A8 Z Z Z Z (fun hg=>by rw [hg];exact E1 Z (.pure _ _ _ _)) ?_;refine A8 Z Z Z Z (fun hg=>by rw [hg];exact H8 Z Z) ?_;refine A2 (B2 Z (fun h=>by first | rfl | (rw [h];rfl)) (fun h=>by first | rfl | (rw [h];rfl))) Z ?_;refine A6 ?_
  refine k1 ?_
  refine B4 rfl (fun ht=>?_) (fun ht=>?_)
  ·simp only [or_pick] at ht
   have h:=A0 ht
   refine k2 ?_
   refine A3 (A2 (A5 Z Z) Z (A6 ?_))
   refine k1 (k10 (k11 (k12 (k11 (k11 (k12 (k11 ?_)))))))
   refine B5 (rs:=[O8 false]) (F5 Z Z Z) ?_
   rw [hno]
   rintro rfl
   simp at h
  simp only [or_pick] at ht
  have g:=A1 ht
  have g1:x.Old=y.Old:=Decidable.not_not.1 fun q=>g (.inl (.inl q))
  have g2:x.New=y.New:=Decidable.not_not.1 fun q=>g (.inl (.inr q))
  have g3:x.Lines.length=y.Lines.length:=by
   have:(x.Lines.length:Int)=y.Lines.length:=Decidable.not_not.1 fun q=>g (.inr q)
   omega
  refine k5 (k1 (k2 ?_))
  refine A3 (A2 (A5 Z Z) Z (A6 ?_))
  refine k1 (k3 ?_)
  refine D8 (X:=Nat) (fun i=>([(2,.s (.one (.ref 2 0))),(3,.s (.one (.ref 3 0))),(5,D2 k),(6,.s (.one (.ref 6 0))),(7,.s (.one (.ref 7 0))),(8,D2 i)],[(2,.box (pPatch a).s1.cells),(3,.box (pPatch b).s1.cells),(6,.box (pPhunk x).s1.cells),(7,.box (pPhunk y).s1.cells)])) (fun i=>i≤x.Lines.length∧x.Lines.take i=y.Lines.take i) (fun i=>x.Lines.length - i) 0 ⟨Nat.zero_le _,rfl⟩ (F77 ⟨le1 rfl,le1 rfl,le1 rfl,le1 rfl,le1 rfl,le1 rfl,trivial⟩ ⟨rfl,rfl,rfl,rfl,trivial⟩) ?_
  rintro i ⟨hi,hie⟩
  dsimp only at hi hie ⊢
  refine k2 (k2 ?_)
  refine A3 (A2 (A4 Z Z) Z (A2 (A7 Z) Z (A2 (A9 Z Z Z) Z (A2 (E1 Z (.pure _ _ _ _)) Z (A2 (E5 Z Z) Z (A6 ?_))))))
  refine k1 ?_
  refine B4 rfl (fun ht=>?_) (fun ht=>?_)
  ·have hlt2:i < x.Lines.length:=by have:=A0 ht;omega
   have hlt2':i < y.Lines.length:=by omega
   have w:x.Lines[i]?=some x.Lines[i]:=by simp [hlt2]
   have w':y.Lines[i]?=some y.Lines[i]:=by simp [hlt2']
   have inext:=fun q=>B44 hlt2 hlt2' hie q
   have ino:x.Lines[i]≠y.Lines[i]→x≠y:=fun q e=>by subst e;exact q rfl
   obtain ⟨u,hu⟩:∃u,u=x.Lines[i]:=⟨_,rfl⟩
   obtain ⟨v,hv2⟩:∃v,v=y.Lines[i]:=⟨_,rfl⟩
   rw [←hu] at w
   rw [←hv2] at w'
   rw [←hu,←hv2] at inext ino
   refine k5 (k1 (k2 (k3 (k2 ?_))))
   refine D7 (by kernel_rfl) (by kernel_rfl) (B0 (A7 Z) Z Z (B0 (A9 Z Z Z) Z Z (B0 (A4 Z Z) Z Z (B0 (B1 Z (.pure _ _ _ _) Z (by omega) w) Z Z (B0 (D3 Z Z) Z Z (B0 (A7 Z) Z Z (B0 (A9 Z Z Z) Z Z (B0 (A4 Z Z) Z Z (B0 (B1 Z (.pure _ _ _ _) Z (by omega) w') Z Z (B0 (D3 Z Z) Z Z (B0 (F54 (D66 u) (D66 v) Z Z Z Z (F69 u v)) Z Z (H5 ?_))))))))))))
   refine k1 ?_
   refine B4 rfl (fun ht=>?_) (fun ht=>?_)
   ·have e:u≠v:=by simpa using ht
    refine k2 ?_
    refine A3 (A2 (A5 Z Z) Z (A6 ?_))
    refine k1 (k10 (k12 (k11 (k11 (k12 (k12 (k11 (k11 (k12 (k11 ?_))))))))))
    exact B5 (rs:=[O8 false]) (F5 rfl rfl rfl) (by rw [hno (ino e)])
   ·have e:u=v:=by simpa using ht
    refine k5 (k4 (k1 ?_))
    refine A3 (A2 (A4 Z Z) Z (A2 (C3 Z Z (by omega)) Z (A2 (A5 Z Z) Z (A6 ?_))))
    refine k1 ?_
    exact ⟨i+1,⟨by omega,inext e⟩,by omega,F77 ⟨le1 rfl,le1 rfl,le1 rfl,le1 rfl,le1 rfl,le1 rfl,trivial⟩ ⟨rfl,rfl,rfl,rfl,trivial⟩⟩
  ·have hi':i=x.Lines.length:=by have:=A1 ht;omega
   have hxy:x=y:=by
    have h5:=B89 g3 hi' hie
    clear hno hnext hv hv' hx hy
    obtain ⟨x1,x2,x3⟩:=x
    obtain ⟨y1,y2,y3⟩:=y
    simp only at g1 g2 h5
    subst g1 g2 h5
    rfl
   refine k6 (k7 (k7 (k8 Z (k4 (k1 ?_)))))
   refine A3 (A2 (A4 Z Z) Z (A2 (C3 Z Z (by omega)) Z (A2 (A5 Z Z) Z (A6 ?_))))
   refine k1 ?_
   exact ⟨k+1,⟨by omega,hnext hxy⟩,by omega,F77 ⟨le1 rfl,le1 rfl,le1 rfl,trivial⟩ ⟨rfl,rfl,trivial⟩⟩
 ·have hk':k=a.Hunks.length:=by have:=A1 ht;omega
  have hab:a=b:=by
   have h5:=B89 h3 hk' he
   obtain ⟨a1,a2,a3⟩:=a
   obtain ⟨b1,b2,b3⟩:=b
   simp only at h1 h2 h5
   subst h1 h2 h5
   rfl
  refine k6 (k2 ?_)
  refine A3 (A2 (A5 Z Z) Z (A6 ?_))
  refine k1 (k10 ?_)
  exact B5 (rs:=[O8 true]) (F5 rfl rfl rfl) (by rw [decide_eq_true hab])
end Go.Proofs.YtbiadkkamhpdnaaGreatDoor
namespace Go.Proofs.YtbiadkkamhpdnaaGreatDoor
open Go Go.AL
set_option maxRecDepth 100000
end Go.Proofs.YtbiadkkamhpdnaaGreatDoor
namespace Go.Proofs.YtbiadkkamhpdnaaGreatDoor
open Go Go.AL
set_option maxRecDepth 100000
end Go.Proofs.YtbiadkkamhpdnaaGreatDoor
namespace Go.Proofs.YtbiadkkamhpdnaaGreatDoor
open Go Go.AL
set_option maxRecDepth 100000
end Go.Proofs.YtbiadkkamhpdnaaGreatDoor
