/- Walks of the program's functions. -/
import Derived.Test.YtbiadkkamhpdnaaGreatDoorFb
import Derived.Test.YtbiadkkamhpdnaaGreatDoorFs
import Derived.Test.YtbiadkkamhpdnaaGreatDoorAn
set_option linter.unusedSimpArgs false
namespace Go.Proofs.YtbiadkkamhpdnaaGreatDoor
open Go Go.AL
set_option maxRecDepth 100000
def wTo (p:Patch) (k:Nat):Str:=(Y4 p++((p.Hunks.take k).map T3).flatten).flatten
theorem E66 (p:Patch) (k:Nat) (h:k < p.Hunks.length):wTo p (k+1)=wTo p k++(T3 p.Hunks[k]).flatten:=by
 unfold wTo
 rw [C45 _ _ h];simp only [G99,G91]
def lTo (ls:List PatchLine) (n:Nat):Str:=((ls.take n).map R5).flatten.flatten
theorem E67 (ls:List PatchLine) (n:Nat) (h:n < ls.length):lTo ls (n+1)=lTo ls n++(R5 ls[n]).flatten:=by
 unfold lTo;rw [C46 _ _ h,G99]
theorem C35 (p:Patch) (hp:PFit p) (hrange:∀h∈p.Hunks,(-4611686018427387904≤h.Old∧h.Old≤4611686018427387904)∧(-4611686018427387904≤h.New∧h.New≤4611686018427387904)):FnOk Tryz.prog 77 [pPatch p] (fun rs=>rs=[K6 (M1 p)]):=by
 have hsl:=n8 p.Hunks
 have hpl:=hp.hunks
 have hpo:=hp.old
 have hpn:=hp.new
 have hq1:=d5 p.OldName
 have hq2:=d5 p.NewName
 have hnf:=d8 p
 have hw0:wTo p 0=[45,45,45,32]++j5 p.OldName++[10,43,43,43,32]++j5 p.NewName++[10]:=by
  unfold wTo Y4;simp
 have hwl:∀k,(wTo p k).length≤33554446+szP p.Hunks:=fun k=>by
  have h1:=Y1 (p.Hunks.take k)
  have h2:=B86 p.Hunks k
  unfold wTo;rw [G99,G79];omega
 refine FnOk.intro Tryz.func77 (by decide) Z Z Z Z ?_
 refine k2 ?_
 refine A4 (D1 (Y6 1 Z Z Z) Z (A2 (A5 Z Z) Z (A6 ?_)))
 refine k1 (k2 ?_)
 refine A4 (D1 (E45 700 Z) Z (A6 ?_))
 refine k1 (k2 ?_)
 refine J3 (G63 701 UInt8 1 u8C 5 (kb:=700) (o:=1) Z Z Z) ?_
 have hwl0:=hwl 0
 rw [hw0] at hwl0
 refine J9 10 (by kernel_rfl) (by kernel_rfl) Z (A7 (A8 Z) Z Z (A7 (A9 Z Z Z) Z Z (A7 (F5 (D80 p.OldName (by omega)) Z Z) Z Z (A7 (G3 Z Z (by (simp only [G81,G83];omega))) Z Z (A7 (G3 Z Z (by (simp only [G79,G81,G83];omega))) Z Z (A7 (A8 Z) Z Z (A7 (A9 Z Z Z) Z Z (A7 (F5 (D80 p.NewName (by omega)) Z Z) Z Z (A7 (G3 Z Z (by (simp only [G79,G81,G83];omega))) Z Z (A7 (G3 Z Z (by (simp only [G79,G81,G83];omega))) Z Z (F4 (T8 (V2 (xs:=[]) ⟨⟨_,.inl rfl,rfl⟩,rfl⟩ (by simp only [G83];omega)) Z Z Z ?_))))))))))));rintro _ _ ⟨rfl,rfl⟩;refine ⟨_,rfl,?_⟩;refine F4 ?_
 rw [←hw0]
 refine k1 (k2 (k2 ?_))
 refine A4 (A2 (A8 Z) Z (A2 (A9 Z Z Z) Z (A2 (E0 Z (.pure _ _ _ _)) Z (A2 (A3 Z Z) Z (A6 ?_)))))
 refine k1 (k3 ?_)
 refine D9 (X:=Nat) (fun k=>([(3,.s (.one (.ref 700 0))),(20,C4 PatchHunk 3 phunkC p.Hunks),(21,C1 p.Hunks.length),(22,C1 k)],[(700,.tbx 124 [.ref 700 0,.buf 701 UInt8 1 u8C (wTo p k)]),(701,.spare (wTo p k).length 1 5)])) (fun k=>k≤p.Hunks.length) (fun k=>p.Hunks.length - k) 0 (Nat.zero_le _) (G48 ⟨le1 rfl,le1 rfl,le1 rfl,le1 rfl,trivial⟩ ⟨rfl,rfl,trivial⟩) ?_
 intro k hk
 dsimp only at hk ⊢
 refine k2 ?_
 refine A4 (A2 (E9 Z Z) Z (A6 ?_))
 refine k1 (k2 ?_)
 refine B5 rfl (fun ht=>?_) (fun ht=>?_)
 ·have hlt:k < p.Hunks.length:=by have:=A0 ht;omega
  have hv:p.Hunks[k]?=some p.Hunks[k]:=by simp [hlt]
  have hmem:p.Hunks[k]∈p.Hunks:=G97 hlt
  have hsucc:=E66 p k hlt
  have hwk:=hwl k
  obtain ⟨h,hx⟩:∃x,x=p.Hunks[k]:=⟨_,rfl⟩
  rw [←hx] at hv hmem hsucc
  have h1:=n7 hmem
  have h3:=W3 h.Lines
  have h4:=C20 h
  have hr:=hrange h hmem
  unfold szH at h1
  obtain ⟨base,hbase⟩:∃base,base=wTo p k:=⟨_,rfl⟩
  rw [←hbase] at hsucc hwk ⊢
  refine k5 (k1 (k2 (k3 (k2 ?_))))
  refine A4 (A2 (B1 Z (.pure _ _ _ _) Z (by omega) hv) Z (A2 (E3 Z Z) Z (D1 (G5 5 Z) Z (F3 (B9 TySz.out Z Z Z Z Z Z) (A6 ?_)))))
  refine k1 (k2 ?_)
  refine A4 (A2 (D4 Z Z Z) Z (C8 (D03 h (by omega) hr.1 hr.2) Z Z Z ?_));rintro _ rfl;refine Y8 (V2 (xs:=base) (s:=T4 h) ⟨⟨_,.inr rfl,rfl⟩,rfl⟩ (by omega)) Z Z Z ?_;rintro _ _ ⟨rfl,rfl⟩;refine A6 ?_
  refine k1 (k2 ?_)
  refine A4 (A2 (A8 Z) Z (A2 (A9 Z Z Z) Z (A2 (E0 Z (.pure _ _ _ _)) Z (A2 (A3 Z Z) Z (A6 ?_)))))
  refine k1 (k3 ?_)
  refine D9 (X:=Nat) (fun n=>([(3,.s (.one (.ref 700 0))),(20,C4 PatchHunk 3 phunkC p.Hunks),(21,C1 p.Hunks.length),(22,C1 k),(30,C4 PatchLine 2 plineC h.Lines),(31,C1 h.Lines.length),(32,C1 n)],[(700,.tbx 124 [.ref 700 0,.buf 701 UInt8 1 u8C (base++T4 h++lTo h.Lines n)]),(701,.spare (base++T4 h++lTo h.Lines n).length 1 5)])) (fun n=>n≤h.Lines.length) (fun n=>h.Lines.length - n) 0 (Nat.zero_le _) ?_ ?_
  ·have e:base++T4 h++lTo h.Lines 0=base++T4 h:=by simp [lTo]
   rw [e]
   exact G48 ⟨le1 rfl,le1 rfl,le1 rfl,le1 rfl,le1 rfl,le1 rfl,le1 rfl,trivial⟩ ⟨rfl,rfl,trivial⟩
  intro n hn1
  dsimp only at hn1 ⊢
  have hll:=A59 (h.Lines.take n)
  have hl2:=E86 h.Lines n
  have hlt0:(lTo h.Lines n).length≤(h.Lines.map szL).sum:=by unfold lTo;omega
  refine k2 ?_
  refine A4 (A2 (E9 Z Z) Z (A6 ?_))
  refine k1 (k2 ?_)
  refine B5 rfl (fun ht=>?_) (fun ht=>?_)
  ·have hlt2:n < h.Lines.length:=by have:=A0 ht;omega
   have hv2:h.Lines[n]?=some h.Lines[n]:=by simp [hlt2]
   have hmem2:=A16 (G97 hlt2)
   have hsucc2:=E67 h.Lines n hlt2
   obtain ⟨x,hx2⟩:∃x,x=h.Lines[n]:=⟨_,rfl⟩
   rw [←hx2] at hv2 hmem2 hsucc2
   obtain ⟨bs,hbs⟩:∃bs,bs=base++T4 h++lTo h.Lines n:=⟨_,rfl⟩
   have hbl:bs.length≤33554446+szP p.Hunks+52+szP p.Hunks:=by rw [hbs,G79,G79];omega
   rw [←hbs]
   have hm29:markS.length=29:=rfl
   refine k5 (k1 (k2 (k3 (k2 ?_))))
   refine A4 (A2 (B1 Z (.pure _ _ _ _) Z (by omega) hv2) Z (A2 (E3 Z Z) Z (D1 (G5 7 Z) Z (F3 (B9 TySz.out Z Z Z Z Z Z) (A6 ?_)))))
   refine k1 (k2 ?_)
   refine A4 (A2 (A8 Z) Z (A2 (A9 Z Z Z) Z (Y8 (A23 (xs:=bs) (c:=x.Kind) ⟨⟨_,.inr rfl,rfl⟩,rfl⟩ (by omega)) Z Z Z ?_)));rintro _ _ ⟨rfl,rfl⟩;refine A6 ?_
   refine k1 (k2 ?_)
   refine A4 (A2 (A8 Z) Z (A2 (A9 Z Z Z) Z (Y8 (V2 (xs:=bs++[x.Kind]) (s:=x.Text) ⟨⟨_,.inr rfl,rfl⟩,rfl⟩ (by simp only [G79,G81,G83];omega)) Z Z Z ?_)));rintro _ _ ⟨rfl,rfl⟩;refine A6 ?_
   refine k1 (k2 ?_)
   refine A4 (A2 (A8 Z) Z (A2 (A9 Z Z Z) Z (C8 (B04 x.Text (by omega)) Z Z Z ?_)));rintro _ rfl;refine A2 (J8 Z) Z (A6 ?_)
   refine k1 ?_
   refine B5 rfl (fun ht=>?_) (fun ht=>?_)
   ·have h2:ended x.Text=false:=by simpa using ht
    have e:base++T4 h++lTo h.Lines (n+1)=bs++[x.Kind]++x.Text++markS:=by
     rw [hsucc2,hbs,R5,h2];simp
    skip
    refine A4 (Y8 (V2 (xs:=bs++[x.Kind]++x.Text) (s:=markS) ⟨⟨_,.inr rfl,rfl⟩,rfl⟩ (by simp only [G79,G81,G83];omega)) Z Z Z ?_);rintro _ _ ⟨rfl,rfl⟩;refine A6 ?_
    refine k4 (k1 ?_)
    refine A4 (A2 (C0 Z Z (by omega)) Z (A2 (A3 Z Z) Z (A6 ?_)))
    refine k1 ?_
    refine ⟨n+1,by omega,by omega,?_⟩
    rw [e]
    exact G48 ⟨le1 rfl,le1 rfl,le1 rfl,le1 rfl,le1 rfl,le1 rfl,le1 rfl,trivial⟩ ⟨rfl,rfl,trivial⟩
   ·have h2:ended x.Text=true:=by simpa using ht
    have e:base++T4 h++lTo h.Lines (n+1)=bs++[x.Kind]++x.Text:=by
     rw [hsucc2,hbs,R5,h2];simp
    refine k5 (k4 (k1 ?_))
    refine A4 (A2 (C0 Z Z (by omega)) Z (A2 (A3 Z Z) Z (A6 ?_)))
    refine k1 ?_
    refine ⟨n+1,by omega,by omega,?_⟩
    rw [e]
    exact G48 ⟨le1 rfl,le1 rfl,le1 rfl,le1 rfl,le1 rfl,le1 rfl,le1 rfl,trivial⟩ ⟨rfl,rfl,trivial⟩
  ·have hn':n=h.Lines.length:=by have:=A1 ht;omega
   subst hn'
   have e:wTo p (k+1)=base++T4 h++lTo h.Lines h.Lines.length:=by
    rw [hsucc,T3,lTo,G95];simp
   rw [←e]
   refine k6 (k7 (k7 (k8 Z (k4 (k1 ?_)))))
   refine A4 (A2 (C0 Z Z (by omega)) Z (A2 (A3 Z Z) Z (A6 ?_)))
   refine k1 ?_
   exact ⟨k+1,by omega,by omega,G48 ⟨le1 rfl,le1 rfl,le1 rfl,le1 rfl,trivial⟩ ⟨rfl,rfl,trivial⟩⟩
 ·have hk':k=p.Hunks.length:=by have:=A1 ht;omega
  subst hk'
  have e:wTo p p.Hunks.length=M1 p:=by unfold wTo M1 A15;rw [G95]
  rw [e]
  refine k6 (k2 ?_)
  refine A4 (D66 (k:=700) (k':=701) ⟨_,rfl,rfl,rfl⟩ B24 Z Z Z Z Z (.inr Z) Z (A2 (A5 Z Z) Z (A6 ?_)))
  refine k1 (k10 ?_)
  exact B6 (G4 rfl rfl rfl) rfl
theorem E68 (p:Patch) (hp:PFit p) (hrange:∀h∈p.Hunks,(-4611686018427387904≤h.Old∧h.Old≤4611686018427387904)∧(-4611686018427387904≤h.New∧h.New≤4611686018427387904)):FnOk Tryz.prog 81 [pPatch p] (fun rs=>rs=[G2 (M1 p).length]):=by
 have hsl:=n8 p.Hunks
 have hpl:=hp.hunks
 have hpo:=hp.old
 have hpn:=hp.new
 have hnf:=d8 p
 have hw0:(M1 ⟨p.OldName,p.NewName,[]⟩).length=(wTo p 0).length:=by
  unfold M1 wTo A15 Y4;simp
 have hwl:∀k,(wTo p k).length≤33554446+szP p.Hunks:=fun k=>by
  have h1:=Y1 (p.Hunks.take k)
  have h2:=B86 p.Hunks k
  unfold wTo;rw [G99,G79];omega
 refine FnOk.intro Tryz.func81 (by decide) Z Z Z Z ?_
 refine k2 ?_
 refine A4 (D1 (Y6 1 Z Z Z) Z (A2 (A5 Z Z) Z (A6 ?_)))
 refine k1 (k2 ?_)
 refine A4 (A2 (A8 Z) Z (A2 (A9 Z Z Z) Z (A2 (A8 Z) Z (A2 (A9 Z Z Z) Z (A2 (I6 Z) Z (l_sees (G72 PatchHunk 3 phunkC 12 2 Z Z) (C8 (C35 ⟨p.OldName,p.NewName,[]⟩ ⟨by dsimp only;omega,by dsimp only;omega,by simp [szP]⟩ (by simp)) Z Z Z ?_)))))));rintro _ rfl;refine A2 (K9 Z) Z (A2 (A5 Z Z) Z (A6 ?_))
 rw [hw0]
 refine k1 (k2 (k2 ?_))
 refine A4 (A2 (A8 Z) Z (A2 (A9 Z Z Z) Z (A2 (E0 Z (.pure _ _ _ _)) Z (A2 (A3 Z Z) Z (A6 ?_)))))
 refine k1 (k3 ?_)
 refine D9 (X:=Nat) (fun k=>([(3,C1 (wTo p k).length),(16,C4 PatchHunk 3 phunkC p.Hunks),(17,C1 p.Hunks.length),(18,C1 k)],[])) (fun k=>k≤p.Hunks.length) (fun k=>p.Hunks.length - k) 0 (Nat.zero_le _) (G48 ⟨le1 rfl,le1 rfl,le1 rfl,le1 rfl,trivial⟩ trivial) ?_
 intro k hk
 dsimp only at hk ⊢
 have hwk:=hwl k
 refine k2 ?_
 refine A4 (A2 (E9 Z Z) Z (A6 ?_))
 refine k1 (k2 ?_)
 refine B5 rfl (fun ht=>?_) (fun ht=>?_)
 ·have hlt:k < p.Hunks.length:=by have:=A0 ht;omega
  have hv:p.Hunks[k]?=some p.Hunks[k]:=by simp [hlt]
  have hmem:p.Hunks[k]∈p.Hunks:=G97 hlt
  have hsucc:=E66 p k hlt
  obtain ⟨h,hx⟩:∃x,x=p.Hunks[k]:=⟨_,rfl⟩
  rw [←hx] at hv hmem hsucc
  have h1:=n7 hmem
  have h3:=W3 h.Lines
  have h4:=C20 h
  have hr:=hrange h hmem
  unfold szH at h1
  obtain ⟨base,hbase⟩:∃base,base=(wTo p k).length:=⟨_,rfl⟩
  rw [←hbase] at hwk ⊢
  have hsl2:(wTo p (k+1)).length=base+(T4 h).length+(lTo h.Lines h.Lines.length).length:=by
   rw [hsucc,T3,lTo,G95,hbase];simp;omega
  refine k5 (k1 (k2 (k3 (k2 ?_))))
  refine A4 (A2 (B1 Z (.pure _ _ _ _) Z (by omega) hv) Z (A2 (E3 Z Z) Z (D1 (G5 5 Z) Z (F3 (B9 TySz.out Z Z Z Z Z Z) (A6 ?_)))))
  refine k1 (k2 ?_)
  refine A4 (A2 (A3 Z Z) Z (A2 (D4 Z Z Z) Z (C8 (D03 h (by omega) hr.1 hr.2) Z Z Z ?_)));rintro _ rfl;refine A2 (K9 Z) Z (A2 (C0 Z Z (by omega)) Z (A2 (A5 Z Z) Z (A6 ?_)))
  refine k1 (k2 ?_)
  refine A4 (A2 (A8 Z) Z (A2 (A9 Z Z Z) Z (A2 (E0 Z (.pure _ _ _ _)) Z (A2 (A3 Z Z) Z (A6 ?_)))))
  refine k1 (k3 ?_)
  refine D9 (X:=Nat) (fun n=>([(3,C1 (base+(T4 h).length+(lTo h.Lines n).length:Nat)),(16,C4 PatchHunk 3 phunkC p.Hunks),(17,C1 p.Hunks.length),(18,C1 k),(28,C4 PatchLine 2 plineC h.Lines),(29,C1 h.Lines.length),(30,C1 n)],[])) (fun n=>n≤h.Lines.length) (fun n=>h.Lines.length - n) 0 (Nat.zero_le _) ?_ ?_
  ·have e:((base+(T4 h).length+(lTo h.Lines 0).length:Nat):Int)=(base:Int)+((T4 h).length:Int):=by simp [lTo]
   rw [e]
   exact G48 ⟨le1 rfl,le1 rfl,le1 rfl,le1 rfl,le1 rfl,le1 rfl,le1 rfl,trivial⟩ trivial
  intro n hn1
  dsimp only at hn1 ⊢
  have hll:=A59 (h.Lines.take n)
  have hl2:=E86 h.Lines n
  have hlt0:(lTo h.Lines n).length≤(h.Lines.map szL).sum:=by unfold lTo;omega
  refine k2 ?_
  refine A4 (A2 (E9 Z Z) Z (A6 ?_))
  refine k1 (k2 ?_)
  refine B5 rfl (fun ht=>?_) (fun ht=>?_)
  ·have hlt2:n < h.Lines.length:=by have:=A0 ht;omega
   have hv2:h.Lines[n]?=some h.Lines[n]:=by simp [hlt2]
   have hmem2:=A16 (G97 hlt2)
   have hsucc2:=E67 h.Lines n hlt2
   obtain ⟨x,hx2⟩:∃x,x=h.Lines[n]:=⟨_,rfl⟩
   rw [←hx2] at hv2 hmem2 hsucc2
   have hm29:markS.length=29:=rfl
   refine k5 (k1 (k2 (k3 (k2 ?_))))
   refine A4 (A2 (B1 Z (.pure _ _ _ _) Z (by omega) hv2) Z (A2 (E3 Z Z) Z (D1 (G5 7 Z) Z (F3 (B9 TySz.out Z Z Z Z Z Z) (A6 ?_)))))
   refine k1 (k2 ?_)
   refine A4 (A2 (A3 Z Z) Z (A2 (A8 Z) Z (A2 (A9 Z Z Z) Z (A2 (K9 Z) Z (A2 (C0 Z Z (by omega)) Z (A2 (C0 Z Z (by omega)) Z (A2 (A5 Z Z) Z (A6 ?_))))))))
   refine k1 (k2 ?_)
   refine A4 (A2 (A8 Z) Z (A2 (A9 Z Z Z) Z (C8 (B04 x.Text (by omega)) Z Z Z ?_)));rintro _ rfl;refine A2 (J8 Z) Z (A6 ?_)
   refine k1 ?_
   refine B5 rfl (fun ht=>?_) (fun ht=>?_)
   ·have h2:ended x.Text=false:=by simpa using ht
    have e:((base+(T4 h).length+(lTo h.Lines (n+1)).length:Nat):Int)=((base+(T4 h).length+(lTo h.Lines n).length:Nat):Int)+(1+(x.Text.length:Int))+29:=by
     rw [hsucc2,R5,h2];simp [hm29];omega
    skip
    refine A4 (A2 (A3 Z Z) Z (A2 (C0 Z Z (by omega)) Z (A2 (A5 Z Z) Z (A6 ?_))))
    refine k4 (k1 ?_)
    refine A4 (A2 (C0 Z Z (by omega)) Z (A2 (A3 Z Z) Z (A6 ?_)))
    refine k1 ?_
    refine ⟨n+1,by omega,by omega,?_⟩
    rw [e]
    exact G48 ⟨le1 rfl,le1 rfl,le1 rfl,le1 rfl,le1 rfl,le1 rfl,le1 rfl,trivial⟩ trivial
   ·have h2:ended x.Text=true:=by simpa using ht
    have e:((base+(T4 h).length+(lTo h.Lines (n+1)).length:Nat):Int)=((base+(T4 h).length+(lTo h.Lines n).length:Nat):Int)+(1+(x.Text.length:Int)):=by
     rw [hsucc2,R5,h2];simp;omega
    refine k5 (k4 (k1 ?_))
    refine A4 (A2 (C0 Z Z (by omega)) Z (A2 (A3 Z Z) Z (A6 ?_)))
    refine k1 ?_
    refine ⟨n+1,by omega,by omega,?_⟩
    rw [e]
    exact G48 ⟨le1 rfl,le1 rfl,le1 rfl,le1 rfl,le1 rfl,le1 rfl,le1 rfl,trivial⟩ trivial
  ·have hn':n=h.Lines.length:=by have:=A1 ht;omega
   subst hn'
   rw [←hsl2]
   refine k6 (k7 (k7 (k8 Z (k4 (k1 ?_)))))
   refine A4 (A2 (C0 Z Z (by omega)) Z (A2 (A3 Z Z) Z (A6 ?_)))
   refine k1 ?_
   exact ⟨k+1,by omega,by omega,G48 ⟨le1 rfl,le1 rfl,le1 rfl,le1 rfl,trivial⟩ trivial⟩
 ·have hk':k=p.Hunks.length:=by have:=A1 ht;omega
  subst hk'
  have e:wTo p p.Hunks.length=M1 p:=by unfold wTo M1 A15;rw [G95]
  rw [e]
  refine k6 (k2 ?_)
  refine A4 (A2 (A3 Z Z) Z (A2 (A5 Z Z) Z (A6 ?_)))
  refine k1 (k10 ?_)
  exact B6 (G4 rfl rfl rfl) rfl
abbrev W2 (e:Int) (o:Bool):Ob:=.box [.p (.v (.int .i64 e)),.p (.v (.bool o))]
theorem E69 {gf:Fr} (h h':PatchHunk) (i j:Int) (o n:Bool) (hl:(h.Lines.map szL).sum≤268435456) (hi:0≤i∧i≤8192) (hj:0≤j∧j≤8192) (hf3:H2 3 gf=true) (hf8:H2 8 gf=true) :
  AL.Met Tryz.prog 141 [(pPhunk h).s1,.one (.ref 710 0),.one (.ref 711 0)] gf [(6,.box (pPhunk h').s1.cells),(710,W2 i o),(711,W2 j n)] []
   (fun rs ob'=>∃b,rs=[.one (.p (.v (.bool b)))]∧b=(decide (¬U0 i j h)&&match j7 o n h.Lines with
    | none=>false
    | some _=>decide (h.Old+M4 h≤4096∧h.New+N2 h≤4096)) ∧
    (b=true→∃o' n',j7 o n h.Lines=some (o',n')∧ob'=[(6,.box (pPhunk h').s1.cells),(710,W2 (h.Old+M4 h) o'),(711,W2 (h.New+N2 h) n')])):=by
 refine AL.Met.introH Tryz.func141 (by decide) rfl rfl rfl (fun hH=>?_)
 refine k2 ?_
 refine A4 (D1 (Y6 3 Z Z (show ((H2 3 gf&&true)&&true)=true by rw [hf3];rfl)) Z ?_);refine A2 (A5 Z Z) Z (A6 ?_)
 refine k1 (k2 (k2 ?_))
 refine C5 (by kernel_rfl) (by kernel_rfl) (A7 (A8 Z) Z Z (A7 (A9 Z Z Z) Z Z (A7 (E9 Z Z) Z Z (A7 (A3 Z Z) Z Z (B4 Z Z (fun hg=>by rw [hg];exact A8 Z) Z Z ?_)))));refine B4 Z Z (fun hg=>by rw [hg];exact A9 Z Z Z) Z Z ?_;refine B4 Z Z (fun hg=>by rw [hg];exact E9 Z Z) Z Z ?_;refine A7 (B2 Z (fun h=>by first | rfl | (rw [h];rfl)) (fun h=>by first | rfl | (rw [h];rfl))) Z Z ?_;refine A7 (A3 Z Z) Z Z (B4 Z Z (fun hg=>by rw [hg];exact A8 Z) Z Z ?_);refine B4 Z Z (fun hg=>by rw [hg];exact A9 Z Z Z) Z Z ?_;refine B4 Z Z (fun hg=>by rw [hg];exact N7 Z Z) Z Z ?_;refine A7 (B2 Z (fun h=>by first | rfl | (rw [h];rfl)) (fun h=>by first | rfl | (rw [h];rfl))) Z Z ?_;refine A7 (A3 Z Z) Z Z (B4 Z Z (fun hg=>by rw [hg];exact A8 Z) Z Z ?_);refine B4 Z Z (fun hg=>by rw [hg];exact A9 Z Z Z) Z Z ?_;refine B4 Z Z (fun hg=>by rw [hg];exact N7 Z Z) Z Z ?_;refine A7 (B2 Z (fun h=>by first | rfl | (rw [h];rfl)) (fun h=>by first | rfl | (rw [h];rfl))) Z Z ?_;refine A7 (A3 Z Z) Z Z (B4 Z Z (fun hg=>by rw [hg];exact A8 Z) Z Z ?_);refine B4 Z Z (fun hg=>by rw [hg];exact A9 Z Z Z) Z Z ?_;refine B4 Z Z (fun hg=>by rw [hg];exact A3 Z Z) Z Z ?_;refine B4 Z Z (fun hg=>by rw [hg];exact D3 Z) Z Z ?_;refine B4 Z Z (fun hg=>by rw [hg];exact A8 Z) Z Z ?_;refine B4 Z Z (fun hg=>by rw [hg];exact A9 Z Z Z) Z Z ?_;refine B4 Z Z (fun hg=>by rw [hg];exact E9 Z Z) Z Z ?_;refine A7 (B2 Z (fun h=>by first | rfl | (rw [h];rfl)) (fun h=>by first | rfl | (rw [h];rfl))) Z Z ?_;refine A7 (A3 Z Z) Z Z (B4 Z Z (fun hg=>by rw [hg];exact A8 Z) Z Z ?_);refine B4 Z Z (fun hg=>by rw [hg];exact A9 Z Z Z) Z Z ?_;refine B4 Z Z (fun hg=>by rw [hg];exact A3 Z Z) Z Z ?_;refine B4 Z Z (fun hg=>by rw [hg];exact D3 Z) Z Z ?_;refine B4 Z Z (fun hg=>by rw [hg];exact A8 Z) Z Z ?_;refine B4 Z Z (fun hg=>by rw [hg];exact A9 Z Z Z) Z Z ?_;refine B4 Z Z (fun hg=>by have hq:=hg;(try simp at hq);rw [hg];exact H8 Z Z (by omega)) Z Z ?_;refine B4 Z Z (fun hg=>by rw [hg];exact A8 Z) Z Z ?_;refine B4 Z Z (fun hg=>by rw [hg];exact A9 Z Z Z) Z Z ?_
 refine B4 Z Z (fun hg=>by rw [hg];exact A3 Z Z) Z Z ?_;refine B4 Z Z (fun hg=>by rw [hg];exact D3 Z) Z Z ?_;refine B4 Z Z (fun hg=>by rw [hg];exact A8 Z) Z Z ?_;refine B4 Z Z (fun hg=>by rw [hg];exact A9 Z Z Z) Z Z ?_;refine B4 Z Z (fun hg=>by have hq:=hg;(try simp at hq);rw [hg];exact H8 Z Z (by omega)) Z Z ?_;refine B4 Z Z (fun hg=>by rw [hg];exact J0 Z Z) Z Z ?_;refine A7 (B2 Z (fun h=>by first | rfl | (rw [h];rfl)) (fun h=>by first | rfl | (rw [h];rfl))) Z Z ?_;refine F4 ?_
 refine k1 ?_
 refine B5 rfl (fun ht=>?_) (fun ht=>?_)
 ·simp only [or_pick] at ht
  have hb:U0 i j h:=A0 ht
  refine k2 ?_
  refine A4 (A2 (A5 Z Z) Z (A6 ?_))
  refine k1 (k10 (k11 ?_))
  refine L1 (Y7 rfl rfl) (by repeat (first | exact E4 | refine E1 rfl ?_ | refine F1 _ ?_)) (fun _ _ h=>h) ⟨false,rfl,by rw [decide_eq_false (fun hh=>hh hb)];rfl,fun hh=>by cases hh⟩
 ·simp only [or_pick] at ht
  have hb:¬U0 i j h:=A1 ht
  have hln:=W3 h.Lines
  refine k5 (k1 (k2 (k2 ?_)))
  refine A4 (A2 (A8 Z) Z (A2 (A9 Z Z Z) Z (A2 (E0 Z (.pure _ _ _ _)) Z (A2 (A3 Z Z) Z (A6 ?_)))))
  refine k1 (k3 ?_)
  refine D9 (X:=Nat × Bool × Bool) (fun z=>([(1,.s (.one (.ref 710 0))),(2,.s (.one (.ref 711 0))),(3,.s (.one (.ref 3 0))),(56,C4 PatchLine 2 plineC h.Lines),(57,C1 h.Lines.length),(58,C1 z.1)]++gf,[(3,.box (pPhunk h).s1.cells),(6,.box (pPhunk h').s1.cells),(710,W2 i z.2.1),(711,W2 j z.2.2)])) (fun z=>z.1≤h.Lines.length∧j7 o n h.Lines=j7 z.2.1 z.2.2 (h.Lines.drop z.1)) (fun z=>h.Lines.length - z.1) (0,o,n) ⟨Nat.zero_le _,rfl⟩ ?_ ?_
  ·exact G49 ⟨le1 rfl,le1 rfl,le1 rfl,le1 rfl,le1 rfl,le1 rfl,trivial⟩ hH (by repeat (first | exact E4 | refine E1 rfl ?_)) (fun _ _ hh=>hh)
  rintro ⟨k,ok,nk⟩ ⟨hk,hp⟩
  dsimp only at hk hp ⊢
  refine k2 ?_
  refine A4 (A2 (E9 Z Z) Z (A6 ?_))
  refine k1 (k2 ?_)
  refine B5 rfl (fun ht=>?_) (fun ht=>?_)
  ·have hlt:k < h.Lines.length:=by have:=A0 ht;omega
   have hv:h.Lines[k]?=some h.Lines[k]:=by simp [hlt]
   have hmem2:=A16 (G97 hlt)
   rw [G86 hlt,j7] at hp
   obtain ⟨x,hx⟩:∃x,x=h.Lines[k]:=⟨_,rfl⟩
   rw [←hx] at hv hmem2 hp
   refine k5 (k1 (k2 (k3 (k2 ?_))))
   refine A4 (A2 (B1 Z (.pure _ _ _ _) Z (by omega) hv) Z (A2 (E3 Z Z) Z (D1 (G5 8 (show ((H2 8 gf&&true)=true) by rw [hf8];rfl)) Z ?_)));refine F3 (B9 TySz.out Z Z Z Z Z Z) (A6 ?_)
   refine k1 (k2 ?_)
   refine O5 ([(1,.s (.one (.ref 710 0))),(2,.s (.one (.ref 711 0))),(3,.s (.one (.ref 3 0))),(8,.s (.one (.ref 8 0))),(56,C4 PatchLine 2 plineC h.Lines),(57,C1 h.Lines.length),(58,C1 k)]++gf) [(8,.box [.p (.v (.int .u8 x.Kind.toNat)),.p (.v (.string ⟨x.Text.toArray⟩))]),(3,.box (pPhunk h).s1.cells),(6,.box (pPhunk h').s1.cells),(710,W2 i ok),(711,W2 j nk)] (G49 ⟨le1 rfl,le1 rfl,le1 rfl,le1 rfl,le1 rfl,le1 rfl,le1 rfl,trivial⟩ hH (by repeat (first | exact E4 | refine E1 rfl ?_ | refine K2 _ ?_)) (ObIn.spec ⟨rfl,rfl,rfl,rfl,rfl,trivial⟩)) ?_
   have hneg:∀{b:Bool},b=(decide (¬U0 i j h)&&match j7 o n h.Lines with
    | none=>false
    | some _=>decide (h.Old+M4 h≤4096∧h.New+N2 h≤4096))→j7 o n h.Lines=none→b=false:=fun h1 h2=>by rw [h1,h2];simp
   by_cases c1:x.Kind≠43
   ·have c1n:(x.Kind.toNat:Int)≠43:=(decide_eq_decide.1 (n4 x.Kind 43)).2 c1
    cases ok with
    | true =>
     rw [if_pos ⟨c1,rfl⟩] at hp
     refine A4 (A2 (A8 Z) Z (A2 (A9 Z Z Z) Z (A2 (J0 Z Z) Z (A2 (A3 Z Z) Z (J1 Z Z Z (by simp [c1n]) (A2 (A3 Z Z) Z (J1 Z Z Z (by simp [c1n]) (A2 (A8 Z) Z (J1 Z Z Z (by simp [c1n]) (A2 (A9 Z Z Z) Z (J1 Z Z Z (by simp [c1n]) (Y8 (A36 (k:=710) (e:=i) (o:=true) Z (by omega)) Z Z Z ?_))))))))))));rintro _ _ ⟨rfl,rfl⟩;refine J1 Z Z Z (by simp [c1n]) (A2 (J8 Z) Z (A2 (B2 Z (fun h=>by first | rfl | (rw [h];rfl)) (fun h=>by first | rfl | (rw [h];rfl))) Z ?_));refine A2 (A3 Z Z) Z (M3 Z Z Z (by simp [c1n]) Z (M3 Z Z Z (by simp [c1n]) Z (M3 Z Z Z (by simp [c1n]) Z (M3 Z Z Z (by simp [c1n]) Z (i6 (s:=.any) Z Z Z .un Z (fun h=>absurd h (by decide)) (i6 (s:=.any) Z Z Z .un Z (fun h=>absurd h (by decide)) (i6 (s:=.any) Z Z Z .un Z (fun h=>absurd h (by decide)) (i6 (s:=.any) Z Z Z .un Z (fun h=>absurd h (by decide)) (i6 (s:=.any) Z Z Z .un Z (fun h=>absurd h (by decide)) (M3 Z Z Z (by simp [c1n]) Z (A2 (B69 Z ((by simp [c1n])) Z) Z (A6 ?_))))))))))))
     refine k1 ?_
     refine B5 rfl (fun ht=>?_) (fun ht=>?_)
     ·refine k2 ?_
      refine A4 (A2 (A5 Z Z) Z (A6 ?_))
      refine k1 (k10 (k12 (k11 (k11 (k12 (k11 ?_))))))
      refine L1 (Y7 rfl rfl) (by repeat (first | exact E4 | refine E1 rfl ?_ | refine F1 _ ?_)) (fun _ _ h=>h) ⟨false,rfl,by rw [hp];simp,fun hh=>by cases hh⟩
     ·cases ht
    | false =>
     rw [if_neg (by simp)] at hp
     by_cases c2:x.Kind≠45
     ·have c2n:(x.Kind.toNat:Int)≠45:=(decide_eq_decide.1 (n4 x.Kind 45)).2 c2
      refine A4 (A2 (A8 Z) Z (A2 (A9 Z Z Z) Z (A2 (J0 Z Z) Z (A2 (A3 Z Z) Z (J1 Z Z Z (by simp [c1n]) (A2 (A3 Z Z) Z (J1 Z Z Z (by simp [c1n]) (A2 (A8 Z) Z (J1 Z Z Z (by simp [c1n]) (A2 (A9 Z Z Z) Z (J1 Z Z Z (by simp [c1n]) (Y8 (A36 (k:=710) (e:=i) (o:=false) Z (by omega)) Z Z Z ?_))))))))))));rintro _ _ ⟨rfl,rfl⟩;refine J1 Z Z Z (by simp [c1n]) (A2 (J8 Z) Z (A2 (B2 Z (fun h=>by first | rfl | (rw [h];rfl)) (fun h=>by first | rfl | (rw [h];rfl))) Z ?_));refine A2 (A3 Z Z) Z (J1 Z Z Z (by simp [c1n]) (A2 (A8 Z) Z (J1 Z Z Z (by simp [c1n]) (A2 (A9 Z Z Z) Z (J1 Z Z Z (by simp [c1n]) (A2 (J0 Z Z) Z (J1 Z Z Z (by simp [c1n]) (A2 (A3 Z Z) Z (J1 Z Z Z (by simp [c1n,c2n]) (A2 (A3 Z Z) Z (J1 Z Z Z (by simp [c1n,c2n]) (A2 (A8 Z) Z (J1 Z Z Z (by simp [c1n,c2n]) (A2 (A9 Z Z Z) Z (J1 Z Z Z (by simp [c1n,c2n]) (Y8 (A36 (k:=711) (e:=j) (o:=nk) Z (by omega)) Z Z Z ?_))))))))))))))));rintro _ _ ⟨rfl,rfl⟩;refine J1 Z Z Z (by simp [c1n,c2n]) (A2 (J8 Z) Z (J1 Z Z Z (by simp [c1n]) (A2 (B2 Z (fun h=>by first | rfl | (rw [h];rfl)) (fun h=>by first | rfl | (rw [h];rfl))) Z ?_)));refine A2 (B2 Z (fun h=>by first | rfl | (rw [h];rfl)) (fun h=>by first | rfl | (rw [h];rfl))) Z ?_;refine A6 ?_
      refine k1 ?_
      refine B5 rfl (fun ht=>?_) (fun ht=>?_)
      ·have hnk:nk=true:=by revert ht;simp [c1n,c2n]
       rw [if_pos ⟨c2,hnk⟩] at hp
       refine k2 ?_
       refine A4 (A2 (A5 Z Z) Z (A6 ?_))
       refine k1 (k10 (k12 (k11 (k11 (k12 (k11 ?_))))))
       refine L1 (Y7 rfl rfl) (by repeat (first | exact E4 | refine E1 rfl ?_ | refine F1 _ ?_)) (fun _ _ h=>h) ⟨false,rfl,by rw [hp];simp,fun hh=>by cases hh⟩
      ·have hnk:nk=false:=by revert ht;simp [c1n,c2n]
       rw [if_neg (by simp [hnk]),if_pos c1,if_pos c2] at hp
       refine k5 (k4 (k1 ?_))
       refine A4 (A2 (C0 Z Z (by omega)) Z (A2 (A3 Z Z) Z (A6 ?_)))
       refine k1 ?_
       exact ⟨(k+1,!ended x.Text,!ended x.Text),⟨by dsimp only;omega,hp⟩,by dsimp only;omega,G49 ⟨le1 rfl,le1 rfl,le1 rfl,le1 rfl,le1 rfl,le1 rfl,trivial⟩ hH (by repeat (first | exact E4 | refine E1 rfl ?_ | refine K2 _ ?_)) (ObIn.spec ⟨rfl,rfl,rfl,rfl,trivial⟩)⟩
     ·have c2n:(x.Kind.toNat:Int)=45:=Decidable.not_not.1 (fun hh=>c2 ((decide_eq_decide.1 (n4 x.Kind 45)).1 hh))
      refine A4 (A2 (A8 Z) Z (A2 (A9 Z Z Z) Z (A2 (J0 Z Z) Z (A2 (A3 Z Z) Z (J1 Z Z Z (by simp [c1n]) (A2 (A3 Z Z) Z (J1 Z Z Z (by simp [c1n]) (A2 (A8 Z) Z (J1 Z Z Z (by simp [c1n]) (A2 (A9 Z Z Z) Z (J1 Z Z Z (by simp [c1n]) (Y8 (A36 (k:=710) (e:=i) (o:=false) Z (by omega)) Z Z Z ?_))))))))))));rintro _ _ ⟨rfl,rfl⟩;refine J1 Z Z Z (by simp [c1n]) (A2 (J8 Z) Z (A2 (B2 Z (fun h=>by first | rfl | (rw [h];rfl)) (fun h=>by first | rfl | (rw [h];rfl))) Z ?_));refine A2 (A3 Z Z) Z (J1 Z Z Z (by simp [c1n]) (A2 (A8 Z) Z (J1 Z Z Z (by simp [c1n]) (A2 (A9 Z Z Z) Z (J1 Z Z Z (by simp [c1n]) (A2 (J0 Z Z) Z (J1 Z Z Z (by simp [c1n]) (A2 (A3 Z Z) Z (M3 Z Z Z (by simp [c1n,c2n]) Z (M3 Z Z Z (by simp [c1n,c2n]) Z (M3 Z Z Z (by simp [c1n,c2n]) Z (M3 Z Z Z (by simp [c1n,c2n]) Z (M3 Z Z Z (by simp [c1n,c2n]) Z (J1 Z Z Z (by simp [c1n]) (A2 (B70 Z ((by simp [c1n,c2n])) Z) Z (A2 (B2 Z (fun h=>by first | rfl | (rw [h];rfl)) (fun h=>by first | rfl | (rw [h];rfl))) Z ?_))))))))))))))));refine A6 ?_
      refine k1 ?_
      refine B5 rfl (fun ht=>?_) (fun ht=>?_)
      ·exfalso;revert ht;simp [c1n,c2n]
      ·rw [if_neg (by simp [c2]),if_pos c1,if_neg c2] at hp
       refine k5 (k4 (k1 ?_))
       refine A4 (A2 (C0 Z Z (by omega)) Z (A2 (A3 Z Z) Z (A6 ?_)))
       refine k1 ?_
       exact ⟨(k+1,!ended x.Text,nk),⟨by dsimp only;omega,hp⟩,by dsimp only;omega,G49 ⟨le1 rfl,le1 rfl,le1 rfl,le1 rfl,le1 rfl,le1 rfl,trivial⟩ hH (by repeat (first | exact E4 | refine E1 rfl ?_ | refine K2 _ ?_)) (ObIn.spec ⟨rfl,rfl,rfl,rfl,trivial⟩)⟩
   ·have c2:x.Kind≠45:=by rw [Decidable.not_not.1 c1];decide
    have c1n:(x.Kind.toNat:Int)=43:=Decidable.not_not.1 (fun hh=>c1 ((decide_eq_decide.1 (n4 x.Kind 43)).1 hh))
    have c2n:(x.Kind.toNat:Int)≠45:=(decide_eq_decide.1 (n4 x.Kind 45)).2 c2
    rw [if_neg (by simp [c1])] at hp
    refine A4 (A2 (A8 Z) Z (A2 (A9 Z Z Z) Z (A2 (J0 Z Z) Z (A2 (A3 Z Z) Z (M3 Z Z Z (by simp [c1n]) Z (M3 Z Z Z (by simp [c1n]) Z (M3 Z Z Z (by simp [c1n]) Z (M3 Z Z Z (by simp [c1n]) Z (M3 Z Z Z (by simp [c1n]) Z (A2 (B70 Z ((by simp [c1n])) Z) Z (A2 (A3 Z Z) Z (J1 Z Z Z (by simp [c1n]) (A2 (A8 Z) Z (J1 Z Z Z (by simp [c1n]) (A2 (A9 Z Z Z) Z (J1 Z Z Z (by simp [c1n]) (A2 (J0 Z Z) Z (J1 Z Z Z (by simp [c1n]) (A2 (A3 Z Z) Z (J1 Z Z Z (by simp [c1n,c2n]) (A2 (A3 Z Z) Z (J1 Z Z Z (by simp [c1n,c2n]) (A2 (A8 Z) Z ?_)))))))))))))))))))))));refine J1 Z Z Z (by simp [c1n,c2n]) (A2 (A9 Z Z Z) Z (J1 Z Z Z (by simp [c1n,c2n]) (Y8 (A36 (k:=711) (e:=j) (o:=nk) Z (by omega)) Z Z Z ?_)));rintro _ _ ⟨rfl,rfl⟩;refine J1 Z Z Z (by simp [c1n,c2n]) (A2 (J8 Z) Z (J1 Z Z Z (by simp [c1n]) (A2 (B2 Z (fun h=>by first | rfl | (rw [h];rfl)) (fun h=>by first | rfl | (rw [h];rfl))) Z ?_)));refine A2 (B2 Z (fun h=>by first | rfl | (rw [h];rfl)) (fun h=>by first | rfl | (rw [h];rfl))) Z ?_;refine A6 ?_
    refine k1 ?_
    refine B5 rfl (fun ht=>?_) (fun ht=>?_)
    ·have hnk:nk=true:=by revert ht;simp [c1n,c2n]
     rw [if_pos ⟨c2,hnk⟩] at hp
     refine k2 ?_
     refine A4 (A2 (A5 Z Z) Z (A6 ?_))
     refine k1 (k10 (k12 (k11 (k11 (k12 (k11 ?_))))))
     refine L1 (Y7 rfl rfl) (by repeat (first | exact E4 | refine E1 rfl ?_ | refine F1 _ ?_)) (fun _ _ h=>h) ⟨false,rfl,by rw [hp];simp,fun hh=>by cases hh⟩
    ·have hnk:nk=false:=by revert ht;simp [c1n,c2n]
     rw [if_neg (by simp [hnk]),if_neg c1,if_pos c2] at hp
     refine k5 (k4 (k1 ?_))
     refine A4 (A2 (C0 Z Z (by omega)) Z (A2 (A3 Z Z) Z (A6 ?_)))
     refine k1 ?_
     exact ⟨(k+1,ok,!ended x.Text),⟨by dsimp only;omega,hp⟩,by dsimp only;omega,G49 ⟨le1 rfl,le1 rfl,le1 rfl,le1 rfl,le1 rfl,le1 rfl,trivial⟩ hH (by repeat (first | exact E4 | refine E1 rfl ?_ | refine K2 _ ?_)) (ObIn.spec ⟨rfl,rfl,rfl,rfl,trivial⟩)⟩
  ·have hk':k=h.Lines.length:=by have:=A1 ht;omega
   subst hk'
   rw [G84 (Nat.le_refl _),j7] at hp
   have hbb:(0≤h.Old∧h.Old≤4096)∧(0≤h.New∧h.New≤4096):=by unfold U0 at hb;simp only [not_or] at hb;omega
   have hon:=L2 h.Lines 43
   have hnn:=L2 h.Lines 45
   have hon2:M4 h≤h.Lines.length∧0≤M4 h:=by unfold M4;omega
   have hnn2:N2 h≤h.Lines.length∧0≤N2 h:=by unfold N2;omega
   refine k6 (k2 ?_)
   refine A4 (A2 (D4 Z Z Z) Z (C8 (D84 h (by omega)) Z Z Z ?_));rintro _ rfl;refine A2 (A3 Z Z) Z (A2 (C6 Z Z) Z (A2 (C6 Z Z) Z (A2 (A5 Z Z) Z (A2 (A5 Z Z) Z (A6 ?_)))))
   refine k1 (k2 ?_)
   have hbx:decide (¬U0 i j h)=true:=decide_eq_true hb
   refine C84 12 [(101,.s (.one (.ref 710 0))),(95,C1 (h.Old+M4 h))] (by kernel_rfl) (by kernel_rfl) Z (o7 TySz.out Z Z Z Z Z Z) Z Z (A71 (A3 Z Z) Z (A3 Z Z) (A71 (A3 Z Z) Z (A3 Z Z) (A71 (A8 Z) Z (A8 Z) (A71 (A9 Z Z Z) Z (A9 Z Z Z) (A71 (A3 Z Z) Z (A3 Z Z) (A71 (C0 Z Z (by omega)) Z (C0 Z Z (by omega)) (A71 (A8 Z) Z (A8 Z) (A71 (A9 Z Z Z) Z (A9 Z Z Z) (A71 (A3 Z Z) Z (A3 Z Z) (A71 (C0 Z Z (by omega)) Z (C0 Z Z (by omega)) (A71 (D3 Z) Z (D3 Z) (A71 (A8 Z) Z (A8 Z) (s_nil ⟨rfl,rfl,trivial⟩ (A7 (D3 Z) Z Z (A7 (A8 Z) Z Z (Y5 (B9 TySz.out Z Z Z Z Z Z) Z (F4 ?_)))))))))))))))))
   refine k1 (k2 ?_)
   refine A4 (A2 (A3 Z Z) Z (A2 (D3 Z) Z (A2 (A8 Z) Z (A2 (A9 Z Z Z) Z (A2 (A28 Z Z) Z (A2 (A3 Z Z) Z (B0 Z Z Z Z (fun hg=>by rw [hg];exact A3 Z Z) ?_)))))));refine B0 Z Z Z Z (fun hg=>by rw [hg];exact D3 Z) ?_;refine B0 Z Z Z Z (fun hg=>by rw [hg];exact A8 Z) ?_;refine B0 Z Z Z Z (fun hg=>by rw [hg];exact A9 Z Z Z) ?_;refine B0 Z Z Z Z (fun hg=>by rw [hg];exact A28 Z Z) ?_;refine A2 (B2 Z (fun h=>by first | rfl | (rw [h];rfl)) (fun h=>by first | rfl | (rw [h];rfl))) Z ?_;refine A2 (A5 Z Z) Z (A6 ?_)
   refine k1 (k10 ?_)
   refine L1 (ob':=[(6,.box (pPhunk h').s1.cells),(710,W2 (h.Old+M4 h) ok),(711,W2 (h.New+N2 h) nk)]) (Y7 rfl rfl) (by repeat (first | exact E4 | refine E1 rfl ?_ | refine F1 _ ?_)) (ObIn.spec ⟨rfl,rfl,rfl,trivial⟩) ⟨_,rfl,?_,fun hh=>⟨ok,nk,hp,rfl⟩⟩
   rw [hp,hbx]
   simp only [I9,Bool.true_and]
theorem G31 (hs:List PatchHunk) (hsz:szP hs≤268435456):FnOk Tryz.prog 80 [pPhunks hs] (fun rs=>rs=[O4 (T9 hs)]):=by
 have hsl:=n8 hs
 rw [←G07]
 refine FnOk.intro Tryz.func80 (by decide) Z Z Z Z ?_
 refine k2 ?_
 refine A4 (A2 (A5 Z Z) Z (A6 ?_))
 refine k1 (k2 ?_)
 refine A4 (D1 (G5 710 Z) Z (D1 (G5 711 Z) Z (A6 ?_)))
 refine k1 (k2 (k2 ?_))
 refine A4 (A2 (A3 Z Z) Z (A2 (E0 Z (.pure _ _ _ _)) Z (A2 (A3 Z Z) Z (A6 ?_))))
 refine k1 (k3 ?_)
 refine D9 (X:=Nat × (Int × Int) × Bool × Bool) (fun z=>([(3,.s (.one (.ref 710 0))),(4,.s (.one (.ref 711 0))),(7,C4 PatchHunk 3 phunkC hs),(8,C1 hs.length),(9,C1 z.1)],[(710,W2 z.2.1.1 z.2.2.1),(711,W2 z.2.1.2 z.2.2.2)])) (fun z=>z.1≤hs.length∧((0≤z.2.1.1∧z.2.1.1≤8192)∧(0≤z.2.1.2∧z.2.1.2≤8192))∧A26 0 0 false false hs=A26 z.2.1.1 z.2.1.2 z.2.2.1 z.2.2.2 (hs.drop z.1)) (fun z=>hs.length - z.1) (0,(0,0),false,false) ⟨Nat.zero_le _,by decide,rfl⟩ (G48 ⟨le1 rfl,le1 rfl,le1 rfl,le1 rfl,le1 rfl,trivial⟩ ⟨rfl,rfl,trivial⟩) ?_
 rintro ⟨k,⟨i,j⟩,o,n⟩ ⟨hk,⟨hi,hj⟩,hp⟩
 dsimp only at hk hi hj hp ⊢
 refine k2 ?_
 refine A4 (A2 (E9 Z Z) Z (A6 ?_))
 refine k1 (k2 ?_)
 refine B5 rfl (fun ht=>?_) (fun ht=>?_)
 ·have hlt:k < hs.length:=by have:=A0 ht;omega
  have hv:hs[k]?=some hs[k]:=by simp [hlt]
  have hmem:hs[k]∈hs:=G97 hlt
  rw [G86 hlt,A26] at hp
  obtain ⟨h,hx⟩:∃x,x=hs[k]:=⟨_,rfl⟩
  rw [←hx] at hv hmem hp
  have h1:=n7 hmem
  have h3:=W3 h.Lines
  unfold szH at h1
  refine k5 (k1 (k2 (k3 (k2 ?_))))
  refine A4 (A2 (B1 Z (.pure _ _ _ _) Z (by omega) hv) Z (A2 (E3 Z Z) Z (D1 (G5 6 Z) Z (F3 (B9 TySz.out Z Z Z Z Z Z) (A6 ?_)))))
  refine k1 (k2 ?_)
  refine O5 [(3,.s (.one (.ref 710 0))),(4,.s (.one (.ref 711 0))),(6,.s (.one (.ref 6 0))),(7,C4 PatchHunk 3 phunkC hs),(8,C1 hs.length),(9,C1 k)] [(6,.box (pPhunk h).s1.cells),(710,W2 i o),(711,W2 j n)] (G48 ⟨le1 rfl,le1 rfl,le1 rfl,le1 rfl,le1 rfl,le1 rfl,trivial⟩ ⟨rfl,rfl,rfl,trivial⟩) ?_
  cases hpr:(h.Lines.all U9&&T0 h.Lines) with
  | false =>
   rw [hpr] at hp
   refine A4 (A2 (D4 Z Z Z) Z (C8 (D04 h (by omega)) Z Z Z ?_));rintro _ rfl;refine A2 (J8 Z) Z (A2 (A3 Z Z) Z (M3 Z Z Z (by rw [hpr];decide) Z ?_));refine M3 Z Z Z (by rw [hpr];decide) Z ?_;refine M3 Z Z Z (by rw [hpr];decide) Z ?_;refine A2 (B69 Z ((by rw [hpr];rfl)) Z) Z ?_;refine A6 ?_
   refine k1 ?_
   refine B5 rfl (fun ht=>?_) (fun ht=>?_)
   ·refine k2 ?_
    refine A4 (A2 (A5 Z Z) Z (A6 ?_))
    refine k1 (k10 (k12 (k11 (k11 (k12 (k11 ?_))))))
    exact B6 (G4 rfl rfl rfl) (by rw [hp];rfl)
   ·cases ht
  | true =>
   rw [hpr] at hp
   refine A4 (A2 (D4 Z Z Z) Z (C8 (D04 h (by omega)) Z Z Z ?_));rintro _ rfl;refine A2 (J8 Z) Z (A2 (A3 Z Z) Z (J1 Z Z Z (by rw [hpr];rfl) ?_));refine A2 (D4 Z Z Z) Z (J1 Z Z Z (by rw [hpr];rfl) ?_);refine Y8 (E69 h h i j o n (by omega) hi hj Z Z) Z Z Z ?_;rintro _ _ ⟨b,rfl,hb,hpost⟩;refine J1 Z Z Z (by rw [hpr];rfl) ?_;refine A2 (J8 Z) Z (A2 (B70 Z ((by rw [hpr];rfl)) Z) Z ?_);refine A6 ?_
   refine k1 ?_
   refine B5 rfl (fun ht=>?_) (fun ht=>?_)
   ·have hbf:b=false:=by simpa using ht
    refine k2 ?_
    refine A4 (A2 (A5 Z Z) Z (A6 ?_))
    refine k1 (k10 (k12 (k11 (k11 (k12 (k11 ?_))))))
    refine B6 (G4 Z Z Z) ?_
    subst hbf
    rw [hp]
    cases hbp:decide (¬U0 i j h) with
    | false=>rfl
    | true =>
     rw [hbp] at hb
     cases hop:j7 o n h.Lines with
     | none=>rfl
     | some q =>
      rw [hop] at hb
      obtain ⟨q1,q2⟩:=q
      have hb2:decide (h.Old+M4 h≤4096∧h.New+N2 h≤4096)=false:=hb.symm
      show [O4 false]=[O4 (decide (h.Old+M4 h≤4096∧h.New+N2 h≤4096)&&A26 (h.Old+M4 h) (h.New+N2 h) q1 q2 (List.drop (k+1) hs))]
      rw [hb2];rfl
   ·have hbt:b=true:=by simpa using ht
    obtain ⟨o',n',e1,rfl⟩:=hpost hbt
    rw [hbt,e1] at hb
    have hb2:=(G80 _ _ ▸ hb.symm:_∧_)
    have hb1:=A0 hb2.1
    have hb3:=A0 hb2.2
    rw [e1,hb2.1] at hp
    simp only [Bool.true_and] at hp
    rw [decide_eq_true hb3,Bool.true_and] at hp
    have hbb:(0≤h.Old∧h.Old≤4096)∧(0≤h.New∧h.New≤4096):=by unfold U0 at hb1;simp only [not_or] at hb1;omega
    have hon2:0≤M4 h:=by unfold M4;omega
    have hnn2:0≤N2 h:=by unfold N2;omega
    refine k5 (k4 (k1 ?_))
    refine A4 (A2 (C0 Z Z (by omega)) Z (A2 (A3 Z Z) Z (A6 ?_)))
    refine k1 ?_
    exact ⟨(k+1,(h.Old+M4 h,h.New+N2 h),o',n'),⟨by dsimp only;omega,by dsimp only;omega,hp⟩,by dsimp only;omega,G48 ⟨le1 rfl,le1 rfl,le1 rfl,le1 rfl,le1 rfl,trivial⟩ ⟨rfl,rfl,trivial⟩⟩
 ·have hk':k=hs.length:=by have:=A1 ht;omega
  subst hk'
  rw [G84 (Nat.le_refl _),A26] at hp
  refine k6 (k2 ?_)
  refine A4 (A2 (A5 Z Z) Z (A6 ?_))
  refine k1 (k10 ?_)
  exact B6 (G4 rfl rfl rfl) (by rw [hp])
theorem C12 (p:Patch) (hp:szP p.Hunks≤268435456):FnOk Tryz.prog 33 [pPatch p] (fun rs=>rs=[G2 (H1 p)]):=by
 refine FnOk.intro Tryz.func33 (by decide) Z Z Z Z ?_
 refine k2 ?_
 refine A4 (D1 (Y6 1 Z Z Z) Z (A2 (A5 Z Z) Z (A6 ?_)))
 refine k1 (k2 (k3 (k2 ?_)))
 refine A4 (A2 (A8 Z) Z (A2 (A9 Z Z Z) Z (C8 (B07 p.OldName) Z Z Z ?_)));rintro _ rfl;refine A2 (J8 Z) Z (A2 (A3 Z Z) Z (B0 Z Z Z Z (fun hg=>by rw [hg];exact A8 Z) ?_));refine B0 Z Z Z Z (fun hg=>by rw [hg];exact A9 Z Z Z) ?_;refine B0 Z Z Z Z (fun hg=>by have hq:=hg;(try simp at hq);rw [hg];exact F5 (B07 p.NewName) Z Z) ?_;refine B0 Z Z Z Z (fun hg=>by rw [hg];exact J8 Z) ?_;refine A2 (B2 Z (fun h=>by first | rfl | (rw [h];rfl)) (fun h=>by first | rfl | (rw [h];rfl))) Z ?_;refine A2 (A5 Z Z) Z (A6 ?_)
 refine k1 ?_
 refine B5 rfl (fun ht=>?_) (fun ht=>?_)
 ·simp only [B17,or_pick] at ht
  have h:=A0 ht
  refine k2 ?_
  refine A4 (A2 (A5 Z Z) Z (A6 ?_))
  refine k1 (k10 (k12 (k11 ?_)))
  exact B6 (G4 rfl rfl rfl) (by rw [H1,if_pos h])
 ·simp only [B17,or_pick] at ht
  have h:=A1 ht
  refine k2 ?_
  refine A4 (A2 (A8 Z) Z (A2 (A9 Z Z Z) Z (C8 (G31 p.Hunks hp) Z Z Z ?_)));rintro _ rfl;refine A2 (J8 Z) Z (A2 (A5 Z Z) Z (A6 ?_))
  refine k1 ?_
  refine B5 rfl (fun ht=>?_) (fun ht=>?_)
  ·have h2:T9 p.Hunks=false:=by simpa using ht
   refine k2 ?_
   refine A4 (A2 (A5 Z Z) Z (A6 ?_))
   refine k1 (k10 (k12 (k11 ?_)))
   exact B6 (G4 rfl rfl rfl) (by rw [H1,if_neg h,if_pos h2])
  ·have h2:T9 p.Hunks=true:=by simpa using ht
   have hr:=j6 h2
   have hn1:G7 p.OldName=true:=by by_cases hh:G7 p.OldName=true;exact hh;exact absurd (.inl (by simpa using hh)) h
   have hn2:G7 p.NewName=true:=by by_cases hh:G7 p.NewName=true;exact hh;exact absurd (.inr (by simpa using hh)) h
   have hn3:=A0 hn1
   have hn4:=A0 hn2
   have hpf:PFit p:=⟨by omega,by omega,hp⟩
   refine k2 ?_
   refine A4 (A2 (D4 Z Z Z) Z (C8 (E68 p hpf (fun x hx=>by have:=hr x hx;omega)) Z Z Z ?_));rintro _ rfl;refine A2 (N7 Z Z) Z (A2 (A5 Z Z) Z (A6 ?_))
   refine k1 ?_
   refine B5 rfl (fun ht=>?_) (fun ht=>?_)
   ·have h3:=A0 ht
    refine k2 ?_
    refine A4 (A2 (A5 Z Z) Z (A6 ?_))
    refine k1 (k10 (k12 (k11 ?_)))
    exact B6 (G4 rfl rfl rfl) (by rw [H1,if_neg h,if_neg (by rw [h2];decide),if_pos (by omega)])
   ·have h3:=A1 ht
    refine k5 (k2 ?_)
    refine A4 (A2 (A5 Z Z) Z (A6 ?_))
    refine k1 (k10 ?_)
    exact B6 (G4 rfl rfl rfl) (by rw [H1,if_neg h,if_neg (by rw [h2];decide),if_neg (by omega)])
theorem check12_good {p:Patch} (h1:¬H1 p≠0):T9 p.Hunks=true:=by
 by_cases hg:T9 p.Hunks=true
 ·exact hg
 ·exfalso;apply h1;unfold H1;split
  ·decide
  ·rw [if_pos (by simpa using hg)];decide
end Go.Proofs.YtbiadkkamhpdnaaGreatDoor
namespace Go.Proofs.YtbiadkkamhpdnaaGreatDoor
open Go Go.AL
set_option maxRecDepth 100000
end Go.Proofs.YtbiadkkamhpdnaaGreatDoor
namespace Go.Proofs.YtbiadkkamhpdnaaGreatDoor
open Go Go.AL
set_option maxRecDepth 100000
def Z0 (raw:List Int):Str:=B44 raw 0 9 5
def u0 (raw:List Int):Str:=C09 (Z0 raw) raw 100
theorem C13 (raw:List Int):(Z0 raw).length≤36:=by
 have:=F15 raw 0 9 5 (by omega)
 unfold Z0;omega
theorem G32 (b:Str) (raw:List Int) (f:Int):(C09 b raw f).length≤5*b.length:=by
 unfold C09
 have h1:=A49 raw f (B7 b) 0 []
 have h2:=X0 b
 rw [A72] at h1
 simp at h1;omega
theorem D85 (raw:List Int):(u0 raw).length≤180:=by
 have:=G32 (Z0 raw) raw 100
 have:=C13 raw
 unfold u0;omega
theorem F84 (raw:List Int):Z0 raw=B44 raw 0 9 5:=rfl
end Go.Proofs.YtbiadkkamhpdnaaGreatDoor
namespace Go.Proofs.YtbiadkkamhpdnaaGreatDoor
open Go Go.AL
set_option maxRecDepth 100000
end Go.Proofs.YtbiadkkamhpdnaaGreatDoor
namespace Go.Proofs.YtbiadkkamhpdnaaGreatDoor
open Go Go.AL
set_option maxRecDepth 100000
theorem W9 (n:Int):FnOk Tryz.prog 232 [G2 n] (fun rs=>rs=[O4 (decide (F7 n))]):=by
 refine FnOk.intro Tryz.func232 (by decide) Z Z Z Z ?_
 refine k2 ?_
 refine A4 (A2 (A5 Z Z) Z (A6 ?_))
 refine k1 (k2 ?_)
 refine A4 (A2 (A3 Z Z) Z (A2 (x5 Z Z) Z (A2 (A3 Z Z) Z (B0 Z Z Z Z (fun hg=>by rw [hg];exact A3 Z Z) ?_))));refine B0 Z Z Z Z (fun hg=>by rw [hg];exact A28 Z Z) ?_;refine A2 (B2 Z (fun h=>by first | rfl | (rw [h];rfl)) (fun h=>by first | rfl | (rw [h];rfl))) Z ?_;refine A2 (A5 Z Z) Z (A6 ?_)
 refine k1 (k10 ?_)
 refine B6 (G4 Z Z Z) ?_
 simp only [I9]
 rfl
theorem D86 (l:List Change) (m n:Int) (hl:l.length≤1073741824):FnOk Tryz.prog 194 [pChanges l,G2 m,G2 n] (fun rs=>rs=[G2 (P4 l m n)]):=by
 refine FnOk.intro Tryz.func194 (by decide) Z Z Z Z ?_
 refine k2 ?_
 refine A4 (A2 (A5 Z Z) Z (A6 ?_))
 refine k1 (k2 (k2 ?_))
 refine A4 (A2 (A3 Z Z) Z (C8 (W9 m) Z Z Z ?_));rintro _ rfl;refine A2 (J8 Z) Z (A2 (A3 Z Z) Z (B0 Z Z Z Z (fun hg=>by rw [hg];exact A3 Z Z) ?_));refine B0 Z Z Z Z (fun hg=>by have hq:=hg;(try simp at hq);rw [hg];exact F5 (W9 n) Z Z) ?_;refine B0 Z Z Z Z (fun hg=>by rw [hg];exact J8 Z) ?_;refine A2 (B2 Z (fun h=>by first | rfl | (rw [h];rfl)) (fun h=>by first | rfl | (rw [h];rfl))) Z ?_;refine A6 ?_
 refine k1 ?_
 refine B5 rfl (fun ht=>?_) (fun ht=>?_)
 ·simp only [←decide_not,or_pick] at ht
  have h:¬F7 m∨¬F7 n:=A0 ht
  refine k2 ?_
  refine A4 (A2 (A5 Z Z) Z (A6 ?_))
  refine k1 (k10 (k11 ?_))
  exact B6 (G4 rfl rfl rfl) (by rw [P4,if_pos h])
 simp only [←decide_not,or_pick] at ht
 have h:¬(¬F7 m∨¬F7 n):=A1 ht
 have hm:0≤m∧m≤4096:=by by_cases hm:F7 m;exact hm;exact absurd (.inl hm) h
 have hn:0≤n∧n≤4096:=by by_cases hn:F7 n;exact hn;exact absurd (.inr hn) h
 refine k5 (k1 (k2 ?_))
 refine A4 (A2 (A5 Z Z) Z (A2 (A5 Z Z) Z (A6 ?_)))
 refine k1 (k2 (k2 ?_))
 refine A4 (A2 (A3 Z Z) Z (A2 (E0 Z (.pure _ _ _ _)) Z (A2 (A3 Z Z) Z (A6 ?_))))
 refine k1 (k3 ?_)
 refine D9 (X:=Nat × Int × Int) (fun x=>([(1,C1 m),(2,C1 n),(7,C1 x.2.1),(8,C1 x.2.2),(20,C4 Change 4 changeC l),(21,C1 l.length),(22,C1 x.1)],[])) (fun x=>x.1≤l.length∧I4 0 0 0 l m n=I4 x.1 x.2.1 x.2.2 (l.drop x.1) m n∧0≤x.2.1∧x.2.1≤8192∧0≤x.2.2∧x.2.2≤8192) (fun x=>l.length - x.1) (0,0,0) ⟨Nat.zero_le _,rfl,by decide,by decide,by decide,by decide⟩ (G48 ⟨le1 rfl,le1 rfl,le1 rfl,le1 rfl,le1 rfl,le1 rfl,le1 rfl,trivial⟩ trivial) ?_
 rintro ⟨k,i,j⟩ ⟨hk,hp,hi,hi2,hj,hj2⟩
 dsimp only at hk hp hi hi2 hj hj2 ⊢
 refine k2 ?_
 refine A4 (A2 (E9 Z Z) Z (A6 ?_))
 refine k1 (k2 ?_)
 refine B5 rfl (fun ht=>?_) (fun ht=>?_)
 ·have hlt:k < l.length:=by have:=A0 ht;omega
  have hv:l[k]?=some l[k]:=by simp [hlt]
  obtain ⟨c,hc⟩:∃c,c=l[k]:=⟨_,rfl⟩
  rw [G86 hlt,I4] at hp
  rw [←hc] at hv hp
  refine k5 (k1 (k2 (k3 (k2 ?_))))
  refine A4 (A2 (A3 Z Z) Z (A2 (B1 Z (.pure _ _ _ _) Z (by omega) hv) Z (A2 (E3 Z Z) Z (D1 (G5 10 Z) Z (A2 (A5 Z Z) Z (F3 (B9 TySz.out Z Z Z Z Z Z) (A6 ?_)))))))
  refine k1 (k2 (k2 ?_))
  refine A4 (A2 (A8 Z) Z (A2 (A9 Z Z Z) Z (C8 (W9 c.Old) Z Z Z ?_)));rintro _ rfl;refine A2 (J8 Z) Z (A2 (A3 Z Z) Z (B0 Z Z Z Z (fun hg=>by rw [hg];exact A8 Z) ?_));refine B0 Z Z Z Z (fun hg=>by rw [hg];exact A9 Z Z Z) ?_;refine B0 Z Z Z Z (fun hg=>by have hq:=hg;(try simp at hq);rw [hg];exact F5 (W9 c.OldLen) Z Z) ?_;refine B0 Z Z Z Z (fun hg=>by rw [hg];exact J8 Z) ?_;refine A2 (B2 Z (fun h=>by first | rfl | (rw [h];rfl)) (fun h=>by first | rfl | (rw [h];rfl))) Z ?_;refine A2 (A3 Z Z) Z (B0 Z Z Z Z (fun hg=>by rw [hg];exact A8 Z) ?_);refine B0 Z Z Z Z (fun hg=>by rw [hg];exact A9 Z Z Z) ?_;refine B0 Z Z Z Z (fun hg=>by have hq:=hg;(try simp at hq);rw [hg];exact F5 (W9 c.New) Z Z) ?_;refine B0 Z Z Z Z (fun hg=>by rw [hg];exact J8 Z) ?_;refine A2 (B2 Z (fun h=>by first | rfl | (rw [h];rfl)) (fun h=>by first | rfl | (rw [h];rfl))) Z ?_;refine A2 (A3 Z Z) Z (B0 Z Z Z Z (fun hg=>by rw [hg];exact A8 Z) ?_);refine B0 Z Z Z Z (fun hg=>by rw [hg];exact A9 Z Z Z) ?_;refine B0 Z Z Z Z (fun hg=>by have hq:=hg;(try simp at hq);rw [hg];exact F5 (W9 c.NewLen) Z Z) ?_;refine B0 Z Z Z Z (fun hg=>by rw [hg];exact J8 Z) ?_;refine A2 (B2 Z (fun h=>by first | rfl | (rw [h];rfl)) (fun h=>by first | rfl | (rw [h];rfl))) Z ?_;refine A2 (A3 Z Z) Z (B0 Z Z Z Z (fun hg=>by rw [hg];exact A8 Z) ?_);refine B0 Z Z Z Z (fun hg=>by rw [hg];exact A9 Z Z Z) ?_;refine B0 Z Z Z Z (fun hg=>by rw [hg];exact A8 Z) ?_;refine B0 Z Z Z Z (fun hg=>by rw [hg];exact A9 Z Z Z) ?_;refine B0 Z Z Z Z (fun hg=>by have hq:=hg;(try simp at hq);simp [F7] at hq;rw [hg];exact C0 Z Z (by omega)) ?_;refine B0 Z Z Z Z (fun hg=>by rw [hg];exact I2 Z Z) ?_;refine A2 (B2 Z (fun h=>by first | rfl | (rw [h];rfl)) (fun h=>by first | rfl | (rw [h];rfl))) Z ?_;refine A6 ?_
  refine k1 ?_
  refine B5 rfl (fun ht=>?_) (fun ht=>?_)
  ·simp only [←decide_not,or_pick,I9] at ht
   have h0:=A0 ht
   have hb:B84 k i j c:=.inl (.inl (.inl h0))
   refine k2 ?_
   refine A4 (A2 (A5 Z Z) Z (A6 ?_))
   refine k1 (k10 (k11 (k12 (k11 (k11 (k12 (k11 ?_)))))))
   exact B6 (G4 rfl rfl rfl) (by rw [P4,if_neg ‹¬(¬F7 m∨¬F7 n)›,hp,decide_eq_false (fun hh=>hh hb)];rfl)
  simp only [←decide_not,or_pick,I9] at ht
  have h0:=A1 ht
  have hr:(0≤c.Old∧c.Old≤4096)∧(0≤c.OldLen∧c.OldLen≤4096)∧(0≤c.New∧c.New≤4096)∧(0≤c.NewLen∧c.NewLen≤4096)∧c.OldLen+c.NewLen≠0:=by
   by_cases a1:F7 c.Old<;>by_cases a2:F7 c.OldLen<;>by_cases a3:F7 c.New<;>by_cases a4:F7 c.NewLen<;>simp [a1,a2,a3,a4] at h0
   exact ⟨a1,a2,a3,a4,h0⟩
  refine k5 (k1 (k2 ?_))
  refine A4 (A2 (A8 Z) Z (A2 (A9 Z Z Z) Z (A2 (A3 Z Z) Z (A2 (H8 Z Z (by omega)) Z (A2 (A5 Z Z) Z (A6 ?_))))))
  refine k1 (k2 (k2 ?_))
  refine A4 (A2 (A3 Z Z) Z (A2 (A8 Z) Z (A2 (A9 Z Z Z) Z (A2 (A3 Z Z) Z (A2 (H8 Z Z (by omega)) Z (A2 (J0 Z Z) Z (A2 (A3 Z Z) Z (B0 Z Z Z Z (fun hg=>by rw [hg];exact A3 Z Z) ?_))))))));refine B0 Z Z Z Z (fun hg=>by rw [hg];exact A3 Z Z) ?_;refine B0 Z Z Z Z (fun hg=>by rw [hg];exact C29 Z Z) ?_;refine B0 Z Z Z Z (fun hg=>by rw [hg];exact E9 Z Z) ?_;refine A2 (B2 Z (fun h=>by first | rfl | (rw [h];rfl)) (fun h=>by first | rfl | (rw [h];rfl))) Z ?_;refine A6 ?_
  refine k1 ?_
  have hmin:∀b:Int,(c.Old - i < if (1:Int) < (k:Int) then 1 else (k:Int))↔(c.Old < i∨(0 < (k:Int)∧c.Old=i)):=by intro _;split<;>omega
  refine B5 rfl (fun ht=>?_) (fun ht=>?_)
  ·simp only [or_pick] at ht
   have h1:=A0 ht
   have hb:B84 k i j c:=by
    rcases h1 with h1 | h1
    ·exact .inl (.inl (.inr h1))
    ·rcases (hmin 0).1 h1 with h2 | h2
     ·exact .inl (.inr h2)
     ·exact .inr h2
   refine k2 ?_
   refine A4 (A2 (A5 Z Z) Z (A6 ?_))
   refine k1 (k10 (k11 (k12 (k11 (k11 (k12 (k11 ?_)))))))
   exact B6 (G4 rfl rfl rfl) (by rw [P4,if_neg ‹¬(¬F7 m∨¬F7 n)›,hp,decide_eq_false (fun hh=>hh hb)];rfl)
  ·simp only [or_pick] at ht
   have h1:=A1 ht
   have hb:¬B84 k i j c:=by
    rintro (((q | q) | q) | q)
    ·exact h0 q
    ·exact h1 (.inl q)
    ·exact h1 (.inr ((hmin 0).2 (.inl q)))
    ·exact h1 (.inr ((hmin 0).2 (.inr q)))
   rw [decide_eq_true hb,Bool.true_and] at hp
   refine k5 (k1 ?_)
   refine C5 (by kernel_rfl) (by kernel_rfl) (A7 (A8 Z) Z Z (A7 (A9 Z Z Z) Z Z (A7 (A8 Z) Z Z (A7 (A9 Z Z Z) Z Z (A7 (C0 Z Z (by omega)) Z Z (A7 (A8 Z) Z Z (A7 (A9 Z Z Z) Z Z (A7 (A8 Z) Z Z (A7 (A9 Z Z Z) Z Z (A7 (C0 Z Z (by omega)) Z Z (A7 (A5 Z Z) Z Z (A7 (A5 Z Z) Z Z (F4 ?_)))))))))))))
   refine k4 (k1 ?_)
   refine A4 (A2 (C0 Z Z (by omega)) Z (A2 (A3 Z Z) Z (A6 ?_)))
   refine k1 ?_
   exact ⟨(k+1,c.Old+c.OldLen,c.New+c.NewLen),⟨by dsimp only;omega,hp,by dsimp only;omega,by dsimp only;omega,by dsimp only;omega,by dsimp only;omega⟩,by dsimp only;omega,G48 ⟨le1 rfl,le1 rfl,le1 rfl,le1 rfl,le1 rfl,le1 rfl,le1 rfl,trivial⟩ trivial⟩
 ·have hk':k=l.length:=by have:=A1 ht;omega
  rw [hk',G84 (Nat.le_refl _),I4] at hp
  refine k6 (k2 (k2 ?_))
  refine A4 (A2 (A3 Z Z) Z (A2 (A3 Z Z) Z (A2 (H8 Z Z (by omega)) Z (A2 (A3 Z Z) Z (A2 (A3 Z Z) Z (A2 (H8 Z Z (by omega)) Z (A2 (J0 Z Z) Z (A2 (A3 Z Z) Z (B0 Z Z Z Z (fun hg=>by rw [hg];exact A3 Z Z) ?_)))))))));refine B0 Z Z Z Z (fun hg=>by rw [hg];exact A3 Z Z) ?_;refine B0 Z Z Z Z (fun hg=>by rw [hg];exact E9 Z Z) ?_;refine A2 (B2 Z (fun h=>by first | rfl | (rw [h];rfl)) (fun h=>by first | rfl | (rw [h];rfl))) Z ?_;refine A6 ?_
  refine k1 ?_
  refine B5 rfl (fun ht=>?_) (fun ht=>?_)
  ·have h2:=A0 (or_pick.symm.trans ht)
   refine k2 ?_
   refine A4 (A2 (A5 Z Z) Z (A6 ?_))
   refine k1 (k10 (k11 ?_))
   exact B6 (G4 rfl rfl rfl) (by rw [P4,if_neg h,hp,decide_eq_false (fun hh=>hh h2)];rfl)
  ·have h2:=A1 (or_pick.symm.trans ht)
   refine k5 (k1 (k2 ?_))
   refine A4 (A2 (A5 Z Z) Z (A6 ?_))
   refine k1 (k10 ?_)
   exact B6 (G4 rfl rfl rfl) (by rw [P4,if_neg h,hp,decide_eq_true h2];rfl)
theorem F85 {gf:Fr} {ob:Obs} (p:List Span):AL.Met Tryz.prog 261 [.one (.p (.list Span 2 spanC p))] gf ob [] (fun rs ob'=>rs=[.one (.full Span 2 spanC p)]∧ob'=ob):=by
 refine AL.Met.intro Tryz.func261 (by decide) Z Z Z ?_
 refine k2 ?_
 refine A4 (A2 (A5 Z Z) Z (A6 ?_))
 refine k1 (k2 ?_)
 refine A4 (A2 (A3 Z Z) Z (A2 (A3 Z Z) Z (A2 (E0 Z (.pure _ _ _ _)) Z (A2 (A3 Z Z) Z (A2 (E0 Z (.pure _ _ _ _)) Z (A2 (F11 Z (.pure _ _ _ _) Z Z (by omega) (by omega) (by first | rfl | omega)) Z ?_))))));refine A2 (A5 Z Z) Z (A6 ?_)
 rw [show p.take (p.length:Int).toNat=p by simp]
 refine k1 (k10 ?_)
 exact L1 (Y7 rfl rfl) (by repeat (first | exact E4 | refine E1 rfl ?_ | refine F1 _ ?_)) (fun _ _ h=>h) ⟨rfl,rfl⟩
def A13 (i j:Int):List Span→List Change
 | []=>[]
 | x::r=>(if x.From > i∨x.To > j then [⟨i,x.From - i,j,x.To - j⟩] else [])++A13 (x.From+1) (x.To+1) r
theorem C36 (m n:Int):∀(p:List Span) (i j:Int),A13 i j (p++[⟨m,n⟩])=Q8 i j p m n
 | [],i,j=>by simp [A13,Q8]
 | x::r,i,j=>by
  rw [H09,A13,Q8,C36 m n r]
theorem D44 (p:List Span) (m n:Int) (hp:p.length≤536870912) (hm:-1099511627776≤m∧m≤1099511627776) (hn:-1099511627776≤n∧n≤1099511627776) (hb:∀s∈p,-1099511627776≤s.From∧s.From≤1099511627776 ∧ -1099511627776≤s.To∧s.To≤1099511627776) :
  FnOk Tryz.prog 233 [pSpans p,G2 m,G2 n] (fun rs=>rs=[pChanges (m6 p m n)]):=by
 refine FnOk.intro Tryz.func233 (by decide) Z Z Z Z ?_
 refine k2 ?_
 refine A4 (A2 (A5 Z Z) Z (A6 ?_))
 refine k1 (k2 ?_)
 refine A4 (D1 (Z2 7 _ changeC Z) Z (A6 ?_))
 refine k1 (k2 ?_)
 refine A4 (A2 (A5 Z Z) Z (A2 (A5 Z Z) Z (A6 ?_)))
 refine k1 (k2 (k2 ?_))
 refine A4 (A2 (A3 Z Z) Z (Y8 (F85 p) Z Z Z ?_));rintro _ _ ⟨rfl,rfl⟩;refine A2 (A3 Z Z) Z (A2 (A3 Z Z) Z (A2 (I6 Z) Z (A2 (D8 (c:=spanC) (ys:=[⟨m,n⟩]) (E5 Z Z Z Z G8) Z Z Z) Z (D1 (D41 18 Z Z (.pure _ _ _ _) (by simp;omega) (by simp) Z) Z (A2 (E0 Z (.buf _ _ _ _ _)) Z (A2 (A3 Z Z) Z (A6 ?_)))))))
 obtain ⟨q,hq⟩:∃q,q=p++[(⟨m,n⟩:Span)]:=⟨_,rfl⟩
 have hql:q.length=p.length+1:=by rw [hq];simp
 have hqb:∀s∈q,-1099511627776≤s.From∧s.From≤1099511627776 ∧ -1099511627776≤s.To∧s.To≤1099511627776:=by
  intro s hs
  rw [hq] at hs
  rcases List.mem_append.1 hs with h | h
  ·exact hb s h
  ·simp at h;subst h;exact ⟨hm.1,hm.2,hn.1,hn.2⟩
 have hres:m6 p m n=A13 0 0 q:=by rw [hq,C36];rfl
 rw [←hq]
 refine k1 (k3 ?_)
 refine D9 (X:=Nat × Int × Int × List Change) (fun x=>([(7,.s (.one (.buf 7 Change 4 changeC x.2.2.2))),(8,C1 x.2.1),(9,C1 x.2.2.1),(18,.s (.one (.buf 18 Span 2 spanC q))),(19,C1 q.length),(20,C1 x.1)],[(7,.spare x.2.2.2.length 4 146)])) (fun x=>x.1≤q.length∧x.2.2.2++A13 x.2.1 x.2.2.1 (q.drop x.1)=m6 p m n∧(-1099511627777≤x.2.1∧x.2.1≤1099511627777)∧(-1099511627777≤x.2.2.1∧x.2.2.1≤1099511627777)∧x.2.2.2.length≤x.1) (fun x=>q.length - x.1) (0,0,0,[]) ⟨Nat.zero_le _,hres.symm,by decide,by decide,Nat.le_refl _⟩ (G48 ⟨le1 rfl,le1 rfl,le1 rfl,le1 rfl,le1 rfl,le1 rfl,trivial⟩ ⟨rfl,trivial⟩) ?_
 rintro ⟨k,i,j,out⟩ ⟨hk,he,hi,hj,hol⟩
 dsimp only at hk he hi hj hol ⊢
 refine k2 ?_
 refine A4 (A2 (E9 Z Z) Z (A6 ?_))
 refine k1 (k2 ?_)
 refine B5 rfl (fun ht=>?_) (fun ht=>?_)
 ·have hlt:k < q.length:=by have:=A0 ht;omega
  have hv:q[k]?=some q[k]:=by simp [hlt]
  have hbk:=hqb _ (G97 hlt)
  obtain ⟨c,hc⟩:∃c,c=q[k]:=⟨_,rfl⟩
  rw [G86 hlt,A13] at he
  rw [←hc] at hv he hbk
  refine k5 (k1 (k2 (k3 (k2 ?_))))
  refine A4 (A2 (B1 Z (.buf _ _ _ _ _) Z (by omega) hv) Z (A2 (E3 Z Z) Z (D1 (G5 11 Z) Z (F3 (B9 TySz.out Z Z Z Z Z Z) (A6 ?_)))))
  refine I1 ?_
  obtain ⟨out',hout'⟩:∃out',out'=out++(if c.From > i∨c.To > j then [⟨i,c.From - i,j,c.To - j⟩] else []):=⟨_,rfl⟩
  have hol':out'.length≤k+1:=by rw [hout',G79];split<;>simp<;>omega
  rw [←G91,←hout'] at he
  refine j1 [(7,.s (.one (.buf 7 Change 4 changeC out'))),(8,C1 i),(9,C1 j),(11,.s (.one (.ref 11 0))),(18,.s (.one (.buf 18 Span 2 spanC q))),(19,C1 q.length),(20,C1 k)] [(7,.spare out'.length 4 146),(11,.box [.p (.v (.int .i64 c.From)),.p (.v (.int .i64 c.To))])] ?_ ?_
  ·refine k2 ?_
   refine A4 (A2 (A8 Z) Z (A2 (A9 Z Z Z) Z (A2 (A3 Z Z) Z (A2 (N7 Z Z) Z (A2 (A3 Z Z) Z (B0 Z Z Z Z (fun hg=>by rw [hg];exact A8 Z) ?_))))));refine B0 Z Z Z Z (fun hg=>by rw [hg];exact A9 Z Z Z) ?_;refine B0 Z Z Z Z (fun hg=>by rw [hg];exact A3 Z Z) ?_;refine B0 Z Z Z Z (fun hg=>by rw [hg];exact N7 Z Z) ?_;refine A2 (B2 Z (fun h=>by first | rfl | (rw [h];rfl)) (fun h=>by first | rfl | (rw [h];rfl))) Z ?_;refine A6 ?_
   refine k1 ?_
   refine B5 rfl (fun ht=>?_) (fun ht=>?_)
   ·simp only [or_pick] at ht
    have h1:=A0 ht
    rw [if_pos h1] at hout'
    skip
    refine A4 (A2 (A3 Z Z) Z (A2 (A3 Z Z) Z (A2 (A8 Z) Z (A2 (A9 Z Z Z) Z (A2 (A3 Z Z) Z (A2 (H8 Z Z (by omega)) Z (A2 (A3 Z Z) Z (A2 (A8 Z) Z (A2 (A9 Z Z Z) Z (A2 (A3 Z Z) Z (A2 (H8 Z Z (by omega)) Z (A2 (I6 Z) Z (A2 (D8 (c:=changeC) (ys:=[⟨i,c.From - i,j,c.To - j⟩]) (E5 Z Z Z Z G8) Z Z Z) Z (D1 (J2 Z Z Z (.pure _ _ _ _) (by (simp only [G81,G83];omega)) Z) Z (A2 (A5 Z Z) Z (A6 ?_))))))))))))))))
    refine k1 ?_
    rw [hout']
    exact G48 ⟨le1 rfl,le1 rfl,le1 rfl,le1 rfl,le1 rfl,le1 rfl,le1 rfl,trivial⟩ ⟨rfl,rfl,trivial⟩
   ·simp only [or_pick] at ht
    have h1:=A1 ht
    rw [if_neg h1,H05] at hout'
    refine k5 (k1 ?_)
    rw [hout']
    exact G48 ⟨le1 rfl,le1 rfl,le1 rfl,le1 rfl,le1 rfl,le1 rfl,le1 rfl,trivial⟩ ⟨rfl,rfl,trivial⟩
  ·skip
   refine C5 (by kernel_rfl) (by kernel_rfl) (A7 (A8 Z) Z Z (A7 (A9 Z Z Z) Z Z (A7 (C0 Z Z (by omega)) Z Z (A7 (A8 Z) Z Z (A7 (A9 Z Z Z) Z Z (A7 (C0 Z Z (by omega)) Z Z (A7 (A5 Z Z) Z Z (A7 (A5 Z Z) Z Z (F4 ?_)))))))))
   refine k4 (k1 ?_)
   refine A4 (A2 (C0 Z Z (by omega)) Z (A2 (A3 Z Z) Z (A6 ?_)))
   refine k1 ?_
   exact ⟨(k+1,c.From+1,c.To+1,out'),⟨by dsimp only;omega,he,⟨by dsimp only;omega,by dsimp only;omega⟩,⟨by dsimp only;omega,by dsimp only;omega⟩,by dsimp only;omega⟩,by dsimp only;omega,G48 ⟨le1 rfl,le1 rfl,le1 rfl,le1 rfl,le1 rfl,le1 rfl,trivial⟩ ⟨rfl,trivial⟩⟩
 ·have hk':k=q.length:=by have:=A1 ht;omega
  rw [hk',G84 (Nat.le_refl _),A13,H05] at he
  refine k6 (k2 ?_)
  refine A4 (A2 (A3 Z Z) Z (A2 (A5 Z Z) Z (A6 ?_)))
  refine k1 (k10 ?_)
  exact B6 (G4 rfl rfl rfl) (by rw [←he])
theorem E70 {m n:Int}:∀{p:List Span} {i j:Int},Asc m n i j p→∀k (h:k < p.length),(k=0→i≤p[k].From∧j≤p[k].To)∧(∀h0:0 < k,p[k - 1].From < p[k].From∧p[k - 1].To < p[k].To)∧p[k].From < m∧p[k].To < n
 | [],_,_,_,k,h=>by simp at h
 | x::r,i,j,ha,k,h=>by
  obtain ⟨h1,h2,h3⟩:=ha
  cases k with
  | zero=>have:=h3.le;exact ⟨fun _=>⟨h1,h2⟩,fun h0=>absurd h0 (by omega),by show x.From < m;omega,by show x.To < n;omega⟩
  | succ k =>
   obtain ⟨g1,g2,g3,g4⟩:=E70 h3 k (by simpa using h)
   refine ⟨fun h0=>absurd h0 (by omega),fun _=>?_,by simpa using g3,by simpa using g4⟩
   cases k with
   | zero =>
    obtain ⟨q1,q2⟩:=g1 rfl
    have hr:0 < r.length:=by simpa using h
    show x.From < r[0].From∧x.To < r[0].To
    omega
   | succ k=>simpa using g2 (by omega)
theorem D45 (p:List Span) (m n:Int) (hm:F7 m) (hn:F7 n) (ha:Asc m n 0 0 p) (hp:p.length≤536870912) :
  FnOk Tryz.prog 189 [pSpans p,G2 m,G2 n] (fun rs=>rs=[pChanges (m6 p m n),G2 0]):=by
 obtain ⟨hm1,hm2⟩:=hm
 obtain ⟨hn1,hn2⟩:=hn
 have hst:=E70 ha
 have hb:∀s∈p,0≤s.From∧s.From≤4096∧0≤s.To∧s.To≤4096:=by
  have key:∀(p:List Span) (i j:Int),Asc m n i j p→0≤i→0≤j→∀s∈p,0≤s.From∧s.From≤4096∧0≤s.To∧s.To≤4096:=by
   intro p
   induction p with
   | nil=>intro _ _ _ _ _ s hs;simp at hs
   | cons x r ih =>
    rintro i j ⟨h1,h2,h3⟩ h4 h5 s hs
    have:=h3.le
    rcases List.mem_cons.1 hs with rfl | hs
    ·omega
    ·exact ih _ _ h3 (by omega) (by omega) s hs
  exact key p 0 0 ha (by omega) (by omega)
 refine FnOk.intro Tryz.func189 (by decide) Z Z Z Z ?_
 refine k2 ?_
 refine A4 (A2 (A5 Z Z) Z (A2 (A5 Z Z) Z (A6 ?_)))
 refine k1 (k2 (k2 ?_))
 refine A4 (A2 (A3 Z Z) Z (C8 (W9 m) Z Z Z ?_));rintro _ rfl;refine A2 (J8 Z) Z (A2 (A3 Z Z) Z (B0 Z Z Z Z (fun hg=>by rw [hg];exact A3 Z Z) ?_));refine B0 Z Z Z Z (fun hg=>by have hq:=hg;(try simp at hq);rw [hg];exact F5 (W9 n) Z Z) ?_;refine B0 Z Z Z Z (fun hg=>by rw [hg];exact J8 Z) ?_;refine A2 (B2 Z (fun h=>by first | rfl | (rw [h];rfl)) (fun h=>by first | rfl | (rw [h];rfl))) Z ?_;refine A6 ?_
 refine k1 ?_
 refine B5 rfl (fun ht=>?_) (fun ht=>?_)
 ·exfalso
  simp only [←decide_not,or_pick] at ht
  have h:¬F7 m∨¬F7 n:=A0 ht
  rcases h with h | h
  ·exact h ⟨hm1,hm2⟩
  ·exact h ⟨hn1,hn2⟩
 refine O5 [(0,C4 Span 2 spanC p),(1,C1 m),(2,C1 n)] [] (G48 ⟨le1 rfl,le1 rfl,le1 rfl,trivial⟩ trivial) ?_
 refine k5 (k1 (k2 ?_))
 refine A4 (A2 (I6 Z) Z (D1 (G5 8 Z) Z (F3 (B9 TySz.out Z Z Z Z Z Z) (A6 ?_))))
 refine k1 (k2 (k2 ?_))
 refine A4 (A2 (A3 Z Z) Z (A2 (E0 Z (.pure _ _ _ _)) Z (A2 (A3 Z Z) Z (A6 ?_))))
 refine k1 (k3 ?_)
 obtain ⟨lastOf,hlast⟩:∃lastOf:Nat→Span,lastOf=fun k=>if k=0 then ⟨-1,-1⟩ else p.getD (k - 1) ⟨0,0⟩:=⟨_,rfl⟩
 refine D9 (X:=Nat) (fun k=>([(0,C4 Span 2 spanC p),(1,C1 m),(2,C1 n),(8,.s (.one (.ref 8 0))),(20,C4 Span 2 spanC p),(21,C1 p.length),(22,C1 k)],[(8,.box [.p (.v (.int .i64 (lastOf k).From)),.p (.v (.int .i64 (lastOf k).To))])])) (fun k=>k≤p.length) (fun k=>p.length - k) 0 (Nat.zero_le _) ?_ ?_
 ·rw [show lastOf 0=⟨-1,-1⟩ by rw [hlast];rfl]
  exact G48 ⟨le1 rfl,le1 rfl,le1 rfl,le1 rfl,le1 rfl,le1 rfl,le1 rfl,trivial⟩ ⟨rfl,trivial⟩
 intro k hk
 dsimp only at hk ⊢
 refine k2 ?_
 refine A4 (A2 (E9 Z Z) Z (A6 ?_))
 refine k1 (k2 ?_)
 refine B5 rfl (fun ht=>?_) (fun ht=>?_)
 ·have hlt:k < p.length:=by have:=A0 ht;omega
  have hv:p[k]?=some p[k]:=by simp [hlt]
  obtain ⟨g1,g2,g3,g4⟩:=hst k hlt
  have hnext:lastOf (k+1)=p[k]:=by rw [hlast];simp [hlt]
  have hless:(lastOf k).From < p[k].From∧(lastOf k).To < p[k].To:=by
   rw [hlast]
   by_cases h0:k=0
   ·have:=g1 h0
    simp only [h0,if_true] at this ⊢
    omega
   ·have:=g2 (by omega)
    simp only [h0,if_false]
    have e:p.getD (k - 1) ⟨0,0⟩=p[k - 1]:=by simp [show k - 1 < p.length by omega]
    rw [e];exact this
  obtain ⟨c,hc⟩:∃c,c=p[k]:=⟨_,rfl⟩
  rw [←hc] at hv g3 g4 hnext hless
  obtain ⟨la,hla⟩:∃la,la=lastOf k:=⟨_,rfl⟩
  rw [←hla] at hless ⊢
  refine k5 (k1 (k2 (k3 (k2 ?_))))
  refine A4 (A2 (B1 Z (.pure _ _ _ _) Z (by omega) hv) Z (A2 (E3 Z Z) Z (D1 (G5 10 Z) Z (F3 (B9 TySz.out Z Z Z Z Z Z) (A6 ?_)))))
  refine k1 (k2 (k2 ?_))
  refine A4 (A2 (A8 Z) Z (A2 (A9 Z Z Z) Z (A2 (A8 Z) Z (A2 (A9 Z Z Z) Z (A2 (A28 Z Z) Z (A2 (A3 Z Z) Z (B0 Z Z Z Z (fun hg=>by rw [hg];exact A8 Z) ?_)))))));refine B0 Z Z Z Z (fun hg=>by rw [hg];exact A9 Z Z Z) ?_;refine B0 Z Z Z Z (fun hg=>by rw [hg];exact A3 Z Z) ?_;refine B0 Z Z Z Z (fun hg=>by rw [hg];exact x5 Z Z) ?_;refine A2 (B2 Z (fun h=>by first | rfl | (rw [h];rfl)) (fun h=>by first | rfl | (rw [h];rfl))) Z ?_;refine A2 (A3 Z Z) Z (B0 Z Z Z Z (fun hg=>by rw [hg];exact A8 Z) ?_);refine B0 Z Z Z Z (fun hg=>by rw [hg];exact A9 Z Z Z) ?_;refine B0 Z Z Z Z (fun hg=>by rw [hg];exact A8 Z) ?_;refine B0 Z Z Z Z (fun hg=>by rw [hg];exact A9 Z Z Z) ?_;refine B0 Z Z Z Z (fun hg=>by rw [hg];exact A28 Z Z) ?_;refine A2 (B2 Z (fun h=>by first | rfl | (rw [h];rfl)) (fun h=>by first | rfl | (rw [h];rfl))) Z ?_;refine A2 (A3 Z Z) Z (B0 Z Z Z Z (fun hg=>by rw [hg];exact A8 Z) ?_);refine B0 Z Z Z Z (fun hg=>by rw [hg];exact A9 Z Z Z) ?_;refine B0 Z Z Z Z (fun hg=>by rw [hg];exact A3 Z Z) ?_;refine B0 Z Z Z Z (fun hg=>by rw [hg];exact x5 Z Z) ?_;refine A2 (B2 Z (fun h=>by first | rfl | (rw [h];rfl)) (fun h=>by first | rfl | (rw [h];rfl))) Z ?_;refine A6 ?_
  refine k1 ?_
  refine B5 rfl (fun ht=>?_) (fun ht=>?_)
  ·exfalso
   simp only [or_pick] at ht
   have:=A0 ht
   omega
  ·refine k5 (k1 ?_)
   refine A4 (A2 (D4 Z Z Z) Z (F3 (B9 TySz.out Z Z Z Z Z Z) (A6 ?_)))
   refine k4 (k1 ?_)
   refine A4 (A2 (C0 Z Z (by omega)) Z (A2 (A3 Z Z) Z (A6 ?_)))
   refine k1 ?_
   refine ⟨k+1,by omega,by omega,?_⟩
   rw [hnext]
   exact G48 ⟨le1 rfl,le1 rfl,le1 rfl,le1 rfl,le1 rfl,le1 rfl,le1 rfl,trivial⟩ ⟨rfl,trivial⟩
 ·refine k6 (k2 ?_)
  refine A4 (A2 (A3 Z Z) Z (A2 (A3 Z Z) Z (A2 (A3 Z Z) Z (C8 (D44 p m n hp (by omega) (by omega) (fun s hs=>by have:=hb s hs;omega)) Z Z Z ?_))));rintro _ rfl;refine A2 (A5 Z Z) Z (A2 (A5 Z Z) Z (A6 ?_))
  refine k1 (k10 ?_)
  exact B6 (x7 rfl rfl rfl rfl rfl) rfl
theorem B79 {l:List Int} {i:Nat} (h:i < l.length):l[i]?=some (l.getD i 0):=by simp [h]
theorem E71 (a b:List Int):FnOk Tryz.prog 188 [O1 a,O1 b] (fun rs=>rs=[O4 (decide ((a.length:Int)≤4096∧(b.length:Int)≤4096))]):=by
 refine FnOk.intro Tryz.func188 (by decide) Z Z Z Z ?_
 refine k2 ?_
 refine A4 (A2 (A5 Z Z) Z (A6 ?_))
 refine k1 (k2 ?_)
 refine A4 (A2 (A3 Z Z) Z (A2 (E0 Z (.pure _ _ _ _)) Z (A2 (A28 Z Z) Z (A2 (A3 Z Z) Z (B0 Z Z Z Z (fun hg=>by rw [hg];exact A3 Z Z) ?_)))));refine B0 Z Z Z Z (fun hg=>by rw [hg];exact E0 Z (.pure _ _ _ _)) ?_;refine B0 Z Z Z Z (fun hg=>by rw [hg];exact A28 Z Z) ?_;refine A2 (B2 Z (fun h=>by first | rfl | (rw [h];rfl)) (fun h=>by first | rfl | (rw [h];rfl))) Z ?_;refine A2 (A5 Z Z) Z (A6 ?_)
 refine k1 (k10 ?_)
 exact B6 (G4 rfl rfl rfl) (by simp only [I9])
theorem D46 (a b:List Int) (ha:a.length≤1073741824):FnOk Tryz.prog 234 [O1 a,O1 b] (fun rs=>rs=[G2 (U4 a b)]):=by
 refine FnOk.intro Tryz.func234 (by decide) Z Z Z Z ?_
 refine k2 ?_
 refine A4 (A2 (A5 Z Z) Z (A6 ?_))
 refine k1 (k2 ?_)
 refine A4 (A2 (A5 Z Z) Z (A6 ?_))
 refine k1 (k2 (k3 ?_))
 refine D9 (X:=Nat) (fun k=>([(0,C4 Int 1 I8 a),(1,C4 Int 1 I8 b),(5,C1 k)],[])) (fun k=>k≤a.length∧k≤b.length∧U4 a b=k+U4 (a.drop k) (b.drop k)) (fun k=>a.length - k) 0 ⟨Nat.zero_le _,Nat.zero_le _,by simp⟩ (G48 ⟨le1 rfl,le1 rfl,le1 rfl,trivial⟩ trivial) ?_
 rintro k ⟨hk,hk2,he⟩
 dsimp only at hk hk2 he ⊢
 refine k2 (k2 ?_)
 refine C5 (by kernel_rfl) (by kernel_rfl) (A7 (A3 Z Z) Z Z (A7 (A3 Z Z) Z Z (A7 (E0 Z (.pure _ _ _ _)) Z Z (A7 (E9 Z Z) Z Z (A7 (A3 Z Z) Z Z (B4 Z Z (fun hg=>by rw [hg];exact A3 Z Z) Z Z ?_))))));refine B4 Z Z (fun hg=>by rw [hg];exact A3 Z Z) Z Z ?_;refine B4 Z Z (fun hg=>by rw [hg];exact E0 Z (.pure _ _ _ _)) Z Z ?_;refine B4 Z Z (fun hg=>by rw [hg];exact E9 Z Z) Z Z ?_;refine A7 (B2 Z (fun h=>by first | rfl | (rw [h];rfl)) (fun h=>by first | rfl | (rw [h];rfl))) Z Z ?_;refine A7 (A3 Z Z) Z Z (B4 Z Z (fun hg=>by rw [hg];exact A3 Z Z) Z Z ?_);refine B4 Z Z (fun hg=>by rw [hg];exact A3 Z Z) Z Z ?_;refine B4 Z Z (fun hg=>by have hq:=hg;(try simp at hq);rw [hg];exact B1 Z (.pure _ _ _ _) Z (by omega) (B79 (by omega))) Z Z ?_;refine B4 Z Z (fun hg=>by rw [hg];exact B3 Z Z) Z Z ?_;refine B4 Z Z (fun hg=>by rw [hg];exact A3 Z Z) Z Z ?_;refine B4 Z Z (fun hg=>by rw [hg];exact A3 Z Z) Z Z ?_;refine B4 Z Z (fun hg=>by have hq:=hg;(try simp at hq);rw [hg];exact B1 Z (.pure _ _ _ _) Z (by omega) (B79 (by omega))) Z Z ?_;refine B4 Z Z (fun hg=>by rw [hg];exact B3 Z Z) Z Z ?_;refine B4 Z Z (fun hg=>by rw [hg];exact I2 Z Z) Z Z ?_;refine A7 (B2 Z (fun h=>by first | rfl | (rw [h];rfl)) (fun h=>by first | rfl | (rw [h];rfl))) Z Z ?_;refine F4 ?_
 refine k1 ?_
 refine B5 rfl (fun ht=>?_) (fun ht=>?_)
 ·simp only [I9] at ht
  obtain ⟨⟨h1,h2⟩,h3⟩:=A0 ht
  have h1:k < a.length:=by omega
  have h2:k < b.length:=by omega
  rw [D24 a b k h1 h2,if_pos (by simpa [h1,h2] using h3)] at he
  refine k5 (k1 (k3 ?_))
  refine A4 (A2 (A3 Z Z) Z (A2 (C0 Z Z (by omega)) Z (A2 (A5 Z Z) Z (A6 ?_))))
  refine k4 (k1 ?_)
  exact ⟨k+1,⟨by omega,by omega,by omega⟩,by omega,G48 ⟨le1 rfl,le1 rfl,le1 rfl,trivial⟩ trivial⟩
 ·simp only [I9] at ht
  have h:=A1 ht
  have h0:U4 (a.drop k) (b.drop k)=0:=by
   by_cases hc:k < a.length∧k < b.length
   ·obtain ⟨h1,h2⟩:=hc
    rw [D24 a b k h1 h2,if_neg]
    intro h3
    exact h ⟨⟨by omega,by omega⟩,by simpa [h1,h2] using h3⟩
   ·exact G10 a b k hc
  rw [h0] at he
  refine k6 (k2 ?_)
  refine A4 (A2 (A3 Z Z) Z (A2 (A5 Z Z) Z (A6 ?_)))
  refine k1 (k10 ?_)
  exact B6 (G4 rfl rfl rfl) (by rw [he];rfl)
theorem D47 (a b:List Int) (ha:a.length≤4096) (hb:b.length≤4096):FnOk Tryz.prog 235 [O1 a,O1 b] (fun rs=>rs=[pU16s (flat a b (fun _ _=>true))]):=by
 obtain ⟨W,hW⟩:∃W,W=b.length+1:=⟨_,rfl⟩
 have hmul:∀i:Nat,i≤a.length+1→0≤(i:Int)*(W:Int)∧(i:Int)*(W:Int)≤16789506:=by
  intro i hi
  have h1:i*W≤4098*4097:=Nat.mul_le_mul (by omega) (by omega)
  have h2:((i*W:Nat):Int)=(i:Int)*W:=by push_cast;rfl
  omega
 have hcast:∀i:Nat,(i:Int)*(W:Int)=((i*W:Nat):Int):=fun i=>by push_cast;rfl
 have hlen:∀done,(flat a b done).length=(a.length+1)*W:=fun done=>by rw [C51,hW]
 have hdl:∀i j,dist (a.drop i) (b.drop j)≤8192:=fun i j=>by
  have:=B09 (a.drop i) (b.drop j)
  simp only [G92] at this
  omega
 have hin:∀i j:Nat,i≤a.length→j≤b.length→i*W+j < (a.length+1)*W:=fun i j hi hj=>by rw [hW];exact (C66 hi hj).1
 refine FnOk.intro Tryz.func235 (by decide) Z Z Z Z ?_
 refine k2 ?_
 refine A4 (A2 (A5 Z Z) Z (A6 ?_))
 refine k1 (k2 ?_)
 refine A4 (A2 (A3 Z Z) Z (A2 (E0 Z (.pure _ _ _ _)) Z (A2 (C0 Z Z (by omega)) Z (A2 (A5 Z Z) Z (A6 ?_)))))
 refine I1 ?_
 refine O5 [(0,C4 Int 1 I8 a),(1,C4 Int 1 I8 b),(5,C1 W)] [] (G48 ⟨⟨_,rfl,.same _⟩,⟨_,rfl,.same _⟩,⟨_,rfl,.eq (by rw [hW];simp)⟩,trivial⟩ trivial) ?_
 have hm1:=hmul (a.length+1) (Nat.le_refl _)
 have e1:((a.length:Int)+1)=((a.length+1:Nat):Int):=by omega
 refine k2 ?_
 refine A4 (A2 (A3 Z Z) Z (A2 (E0 Z (.pure _ _ _ _)) Z (A2 (C0 Z Z (by omega)) Z (A2 (A3 Z Z) Z (A2 (B57 Z Z (by (rw [e1];omega))) Z ?_)))));refine D1 (B65 20 Int B51 0 Z Z (by (rw [e1];omega)) (by (rw [e1];omega)) (fun _=>by first | exact ⟨⟨rfl,rfl⟩,trivial⟩ | exact ⟨U5 _ _ _,trivial⟩) Z) Z ?_;refine A2 (A5 Z Z) Z (A6 ?_)
 refine I1 ?_
 refine O5 [(0,C4 Int 1 I8 a),(1,C4 Int 1 I8 b),(5,C1 W),(6,.s (.one (.mut 20)))] [(20,.arr Int 1 B51 (flat a b (fun _ _=>false)))] ?_ ?_
 ·refine G48 ⟨⟨_,rfl,.same _⟩,⟨_,rfl,.same _⟩,⟨_,rfl,.same _⟩,⟨_,rfl,.same _⟩,trivial⟩ ⟨?_,trivial⟩
  rw [←G09,e1,hcast,H01,hW];rfl
 refine k2 (k2 ?_)
 refine A4 (A2 (A3 Z Z) Z (A2 (E0 Z (.pure _ _ _ _)) Z (A2 (A3 Z Z) Z (A6 ?_))))
 refine k1 (k3 ?_)
 refine D9 (X:=Nat) (fun j=>([(0,C4 Int 1 I8 a),(1,C4 Int 1 I8 b),(5,C1 W),(6,.s (.one (.mut 20))),(22,C1 b.length),(23,C1 j)],[(20,.arr Int 1 B51 (flat a b (fun r q=>decide (r=a.length∧q < j))))])) (fun j=>j≤b.length) (fun j=>b.length - j) 0 (Nat.zero_le _) ?_ ?_
 ·rw [show flat a b (fun r q=>decide (r=a.length∧q < 0))=flat a b (fun _ _=>false) from A67 fun r q _ _=>.inl (by simp)]
  exact G48 ⟨le1 rfl,le1 rfl,le1 rfl,le1 rfl,le1 rfl,le1 rfl,trivial⟩ ⟨rfl,trivial⟩
 intro j hj
 dsimp only at hj ⊢
 refine k2 ?_
 refine A4 (A2 (E9 Z Z) Z (A6 ?_))
 refine k1 (k2 ?_)
 refine B5 rfl (fun ht=>?_) (fun ht=>?_)
 ·have hlt:j < b.length:=by have:=A0 ht;omega
  have hmm:=hmul a.length (by omega)
  have hix:=hin a.length j (Nat.le_refl _) (by omega)
  have hc1:=hcast a.length
  have hL:=hlen (fun r q=>decide (r=a.length∧q < j))
  have hst:(flat a b (fun r q=>decide (r=a.length∧q < j))).set (((a.length:Int)*(W:Int)+(j:Int)).toNat) (IntKind.u16.wrap ((b.length:Int) - j))=flat a b (fun r q=>decide (r=a.length∧q < j+1)):=by
   rw [show ((a.length:Int)*(W:Int)+(j:Int)).toNat=a.length*(b.length+1)+j by rw [hc1,hW];omega,F39 _ (by omega)]
   refine E91 (Nat.le_refl _) (by omega) ?_ (by simp) (fun r q hr hq hne=>?_)
   ·rw [G84 (Nat.le_refl a.length),dist,G92];omega
   ·rw [decide_eq_decide];omega
  refine k5 (k1 (k2 (k3 (k2 ?_))))
  refine A4 (A2 (A3 Z Z) Z (A2 (A5 Z Z) Z (A6 ?_)))
  refine k1 ?_
  refine A4 (A2 (A3 Z Z) Z (A2 (A3 Z Z) Z (A2 (E0 Z (.pure _ _ _ _)) Z (A2 (A3 Z Z) Z (A2 (B57 Z Z (by omega)) Z (A2 (A3 Z Z) Z (A2 (C0 Z Z (by omega)) Z (A2 (A3 Z Z) Z (A2 (E0 Z (.pure _ _ _ _)) Z (A2 (A3 Z Z) Z (A2 (H8 Z Z (by omega)) Z (A2 (X7 Z) Z (A2 (N5 Z Z Z (by omega) (by (rw [hL];omega))) Z ?_)))))))))))));refine F3 (M5 TySz.out Z Z (by (rw [hL];omega)) Z Z) ?_;refine A6 ?_
  refine k4 (k1 ?_)
  refine A4 (A2 (C0 Z Z (by omega)) Z (A2 (A3 Z Z) Z (A6 ?_)))
  refine k1 ?_
  refine ⟨j+1,by omega,by omega,?_⟩
  rw [←hst]
  exact G48 ⟨le1 rfl,le1 rfl,le1 rfl,le1 rfl,le1 rfl,le1 rfl,trivial⟩ ⟨rfl,trivial⟩
 ·have hj':j=b.length:=by have:=A1 ht;omega
  subst hj'
  rw [show flat a b (fun r q=>decide (r=a.length∧q < b.length))=flat a b (fun r _=>decide (a.length≤r)) from A67 fun r q hr hq=>by
   by_cases h:r=a.length∧q=b.length
   ·right;rw [h.1,h.2,G84 (Nat.le_refl _),G84 (Nat.le_refl _)];exact y8 []
   ·left;rw [decide_eq_decide];omega]
  refine k6 (k2 (k2 ?_))
  refine A4 (A2 (A3 Z Z) Z (A2 (E0 Z (.pure _ _ _ _)) Z (A2 (H8 Z Z (by omega)) Z (A2 (A5 Z Z) Z (A6 ?_)))))
  refine k1 (k3 ?_)
  refine D9 (X:=Nat) (fun i=>([(0,C4 Int 1 I8 a),(1,C4 Int 1 I8 b),(5,C1 W),(6,.s (.one (.mut 20))),(8,C1 ((i:Int) - 1))],[(20,.arr Int 1 B51 (flat a b (fun r _=>decide (i≤r))))])) (fun i=>i≤a.length) (fun i=>i) a.length (Nat.le_refl _) (G48 ⟨le1 rfl,le1 rfl,le1 rfl,le1 rfl,le1 rfl,trivial⟩ ⟨rfl,trivial⟩) ?_
  intro i hi
  dsimp only at hi ⊢
  refine k2 (k2 ?_)
  refine A4 (A2 (A3 Z Z) Z (A2 (x5 Z Z) Z (A6 ?_)))
  refine k1 ?_
  refine B5 rfl (fun ht=>?_) (fun ht=>?_)
  ·obtain ⟨i,rfl⟩:∃r,i=r+1:=⟨i - 1,by have:=A0 ht;omega⟩
   refine O5 [(0,C4 Int 1 I8 a),(1,C4 Int 1 I8 b),(5,C1 W),(6,.s (.one (.mut 20))),(8,C1 i)] [(20,.arr Int 1 B51 (flat a b (fun r _=>decide (i+1≤r))))] (G48 ⟨le1 rfl,le1 rfl,le1 rfl,le1 rfl,leE Z (by first | (simp;done) | (simp;omega)),trivial⟩ ⟨rfl,trivial⟩) ?_
   obtain ⟨P,hP⟩:∃P,P=i*W:=⟨_,rfl⟩
   obtain ⟨N,hN⟩:∃N,N=(a.length+1)*W:=⟨_,rfl⟩
   have c0:(i:Int)*(W:Int)=(P:Int):=by rw [hP];exact hcast i
   have c1:((i:Int)+1)*(W:Int)=(P:Int)+W:=by rw [Int.add_mul,Int.one_mul,c0]
   have c2:((i:Int)+2)*(W:Int)=(P:Int)+W+W:=by rw [Int.add_mul,c0];omega
   have hPN:P+W+W≤N:=by
    have h1:(i+2)*W≤(a.length+1)*W:=G94 _ (by omega)
    have h2:(i+2)*W=i*W+W+W:=by rw [H04];omega
    omega
   have hN2:N≤16789506:=by have:=hmul (a.length+1) (Nat.le_refl _);have:=hcast (a.length+1);omega
   have hL:∀done,(flat a b done).length=N:=fun done=>by rw [hlen,hN]
   refine k5 (k1 (k2 (k3 (k2 ?_))))
   refine C5 (by kernel_rfl) (by kernel_rfl) (A7 (A3 Z Z) Z Z (A7 (A3 Z Z) Z Z (A7 (A3 Z Z) Z Z (A7 (B57 Z Z (by (rw [c0];omega))) Z Z ?_))));refine A7 (A3 Z Z) Z Z (A7 (C0 Z Z (by omega)) Z Z (A7 (A3 Z Z) Z Z (A7 (B57 Z Z (by (rw [c1];omega))) Z Z ?_)));refine A7 (A87 Z Z Z Z (by (first | (rw [c0];omega) | (rw [c0,c1];omega) | (rw [c1,hL];omega))) (by (first | (rw [c0];omega) | (rw [c0,c1];omega) | (rw [c1,hL];omega))) (by (first | (rw [c0];omega) | (rw [c0,c1];omega) | (rw [c1,hL];omega)))) Z Z ?_;refine A7 (A3 Z Z) Z Z (A7 (A3 Z Z) Z Z (A7 (C0 Z Z (by omega)) Z Z (A7 (A3 Z Z) Z Z (A7 (B57 Z Z (by (rw [c1];omega))) Z Z ?_))));refine A7 (A3 Z Z) Z Z (A7 (C0 Z Z (by omega)) Z Z (A7 (A3 Z Z) Z Z (A7 (B57 Z Z (by (rw [c2];omega))) Z Z ?_)));refine A7 (A87 Z Z Z Z (by (first | (rw [c1];omega) | (rw [c1,c2];omega) | (rw [c2,hL];omega))) (by (first | (rw [c1];omega) | (rw [c1,c2];omega) | (rw [c2,hL];omega))) (by (first | (rw [c1];omega) | (rw [c1,c2];omega) | (rw [c2,hL];omega)))) Z Z ?_;refine A7 (A5 Z Z) Z Z (A7 (A5 Z Z) Z Z (F4 ?_))
   refine I1 ?_
   have hdone:∀j,j≤b.length→(flat a b (fun r q=>decide (i+1≤r∨(r=i∧j≤q))))[P+j]?=some (dist (a.drop i) (b.drop j):Int):=fun j hj=>by
    rw [hP,hW,D23 (by omega) hj,if_pos (by simp)]
   have hbelow:∀j j',j≤b.length→(flat a b (fun r q=>decide (i+1≤r∨(r=i∧j'≤q))))[P+W+j]?=some (dist (a.drop (i+1)) (b.drop j):Int):=fun j j' hj=>by
    rw [show P+W+j=(i+1)*(b.length+1)+j by rw [hP,hW,H04];omega,D23 (by omega) hj,if_pos (by simp)]
   refine O5 [(0,C4 Int 1 I8 a),(1,C4 Int 1 I8 b),(5,C1 W),(6,.s (.one (.mut 20))),(8,C1 i),(9,.s (.one (.msl 20 1 P W))),(10,.s (.one (.msl 20 1 (P+W) W)))] [(20,.arr Int 1 B51 (flat a b (fun r _=>decide (i+1≤r))))] ?_ ?_
   ·refine G48 ⟨⟨_,rfl,.same _⟩,⟨_,rfl,.same _⟩,⟨_,rfl,.same _⟩,⟨_,rfl,.same _⟩,⟨_,rfl,.same _⟩,⟨_,rfl,.eq ?_⟩,⟨_,rfl,.eq ?_⟩,trivial⟩ ⟨rfl,trivial⟩
    ·rw [c0,c1];congr 3<;>omega
    ·rw [c1,c2];congr 3<;>omega
   have hset:∀(done done':Nat→Nat→Bool) (j:Nat) (v:Int),j≤b.length→v=(dist (a.drop i) (b.drop j):Int)→done' i j=true→(∀r q,r≤a.length→q≤b.length→¬(r=i∧q=j)→done' r q=done r q)→(flat a b done).set (P+j) v=flat a b done':=by
    intro done done' j v hj hv h1 h2
    rw [hP,hW];exact E91 (by omega) hj hv h1 h2
   have hs0:(flat a b (fun r _=>decide (i+1≤r))).set (P+((b.length:Nat):Int).toNat) (IntKind.u16.wrap ((a.length:Int) - i))=flat a b (fun r q=>decide (i+1≤r∨(r=i∧b.length≤q))):=by
    rw [H01,F39 _ (by omega)]
    refine hset _ _ _ _ (Nat.le_refl _) ?_ (by simp) (fun r q hr hq hne=>?_)
    ·rw [G84 (Nat.le_refl b.length),y8,G92];omega
    ·rw [decide_eq_decide];omega
   refine k2 ?_
   refine A4 (A2 (A3 Z Z) Z (A2 (A3 Z Z) Z (A2 (E0 Z (.pure _ _ _ _)) Z (A2 (A3 Z Z) Z (A2 (E0 Z (.pure _ _ _ _)) Z (A2 (A3 Z Z) Z (A2 (H8 Z Z (by omega)) Z (A2 (X7 Z) Z (A2 (S2 Z Z (by omega) (by omega)) Z (F3 (M5 TySz.out Z Z (by (rw [hL];omega)) Z Z) ?_))))))))));refine A6 ?_
   rw [hs0]
   refine k1 (k2 ?_)
   refine A4 (A2 (A3 Z Z) Z (A2 (E0 Z (.pure _ _ _ _)) Z (A2 (H8 Z Z (by omega)) Z (A2 (A5 Z Z) Z (A6 ?_)))))
   refine k1 (k3 ?_)
   refine D9 (X:=Nat) (fun j=>([(0,C4 Int 1 I8 a),(1,C4 Int 1 I8 b),(5,C1 W),(6,.s (.one (.mut 20))),(8,C1 i),(9,.s (.one (.msl 20 1 P W))),(10,.s (.one (.msl 20 1 (P+W) W))),(11,C1 ((j:Int) - 1))],[(20,.arr Int 1 B51 (flat a b (fun r q=>decide (i+1≤r∨(r=i∧j≤q)))))])) (fun j=>j≤b.length) (fun j=>j) b.length (Nat.le_refl _) (G48 ⟨le1 rfl,le1 rfl,le1 rfl,le1 rfl,le1 rfl,le1 rfl,le1 rfl,le1 rfl,trivial⟩ ⟨rfl,trivial⟩) ?_
   intro j hj
   dsimp only at hj ⊢
   refine k2 (k2 ?_)
   refine A4 (A2 (A3 Z Z) Z (A2 (x5 Z Z) Z (A6 ?_)))
   refine k1 ?_
   refine B5 rfl (fun ht=>?_) (fun ht=>?_)
   ·obtain ⟨j,rfl⟩:∃r,j=r+1:=⟨j - 1,by have:=A0 ht;omega⟩
    have hva:a[i]?=some a[i]:=by simp [show i < a.length by omega]
    have hvb:b[j]?=some b[j]:=by simp [show j < b.length by omega]
    have hdd:=D89 a b i j (by omega) (by omega)
    have hd1:=hdl i j
    have hd2:=hdl (i+1) j
    have hd3:=hdl i (j+1)
    have hd4:=hdl (i+1) (j+1)
    obtain ⟨u,hu⟩:∃u,u=a[i]:=⟨_,rfl⟩
    obtain ⟨v,hv⟩:∃v,v=b[j]:=⟨_,rfl⟩
    rw [←hu] at hva hdd
    rw [←hv] at hvb hdd
    have hst:(flat a b (fun r q=>decide (i+1≤r∨(r=i∧j+1≤q)))).set (P+j) (dist (a.drop i) (b.drop j):Int)=flat a b (fun r q=>decide (i+1≤r∨(r=i∧j≤q))):=hset _ _ _ _ (by omega) rfl (by simp) (fun r q hr hq hne=>by rw [decide_eq_decide];omega)
    refine O5 [(0,C4 Int 1 I8 a),(1,C4 Int 1 I8 b),(5,C1 W),(6,.s (.one (.mut 20))),(8,C1 i),(9,.s (.one (.msl 20 1 P W))),(10,.s (.one (.msl 20 1 (P+W) W))),(11,C1 j)] [(20,.arr Int 1 B51 (flat a b (fun r q=>decide (i+1≤r∨(r=i∧j+1≤q)))))] (G48 ⟨le1 rfl,le1 rfl,le1 rfl,le1 rfl,le1 rfl,le1 rfl,le1 rfl,leE Z (by first | (simp;done) | (simp;omega)),trivial⟩ ⟨rfl,trivial⟩) ?_
    refine C67 ?_
    refine I1 ?_
    refine j1 [(0,C4 Int 1 I8 a),(1,C4 Int 1 I8 b),(5,C1 W),(6,.s (.one (.mut 20))),(8,C1 i),(9,.s (.one (.msl 20 1 P W))),(10,.s (.one (.msl 20 1 (P+W) W))),(11,C1 j)] [(20,.arr Int 1 B51 (flat a b (fun r q=>decide (i+1≤r∨(r=i∧j≤q)))))] ?_ ?_
    ·refine k3 (k2 ?_)
     refine C5 (by kernel_rfl) (by kernel_rfl) (A7 (A3 Z Z) Z Z (A7 (A3 Z Z) Z Z (A7 (B1 Z (.pure _ _ _ _) Z (by omega) hva) Z Z (A7 (B3 Z Z) Z Z (A7 (A3 Z Z) Z Z (A7 (A3 Z Z) Z Z (A7 (B1 Z (.pure _ _ _ _) Z (by omega) hvb) Z Z (A7 (B3 Z Z) Z Z (A7 (I2 Z Z) Z Z (F4 ?_))))))))))
     refine k1 ?_
     refine B5 rfl (fun ht=>?_) (fun ht=>?_)
     ·rw [if_pos (A0 ht)] at hdd
      rw [hdd] at hst
      have hg:=hbelow (j+1) (j+1) (by omega)
      have hgi:(flat a b (fun r q=>decide (i+1≤r∨(r=i∧j+1≤q))))[P+W+((j:Int)+1).toNat]?=some (dist (a.drop (i+1)) (b.drop (j+1)):Int):=by rw [show ((j:Int)+1).toNat=j+1 by omega];exact hg
      skip
      refine A4 (A2 (A3 Z Z) Z (A2 (A3 Z Z) Z (A2 (A3 Z Z) Z (A2 (A3 Z Z) Z (A2 (C0 Z Z (by omega)) Z (A2 (S2 Z Z (by omega) (by omega)) Z (A2 (A07 Z Z hgi Z) Z (A2 (S2 Z Z (by omega) (by omega)) Z (F3 (M5 TySz.out Z Z (by (rw [hL];omega)) Z Z) ?_)))))))));refine A6 ?_
      refine k4 (k1 ?_)
      rw [show P+((j:Nat):Int).toNat=P+j by omega,hst]
      exact G48 ⟨le1 rfl,le1 rfl,le1 rfl,le1 rfl,le1 rfl,le1 rfl,le1 rfl,le1 rfl,trivial⟩ ⟨rfl,trivial⟩
     ·rw [if_neg (A1 ht)] at hdd
      have hg1:=hbelow j (j+1) (by omega)
      have hg2:=hdone (j+1) (by omega)
      have hgi1:(flat a b (fun r q=>decide (i+1≤r∨(r=i∧j+1≤q))))[P+W+((j:Nat):Int).toNat]?=some (dist (a.drop (i+1)) (b.drop j):Int):=by rw [H01];exact hg1
      have hgi2:(flat a b (fun r q=>decide (i+1≤r∨(r=i∧j+1≤q))))[P+((j:Int)+1).toNat]?=some (dist (a.drop i) (b.drop (j+1)):Int):=by rw [show ((j:Int)+1).toNat=j+1 by omega];exact hg2
      have hval:IntKind.u16.wrap ((if (dist (a.drop i) (b.drop (j+1)):Int) < (dist (a.drop (i+1)) (b.drop j):Int) then (dist (a.drop i) (b.drop (j+1)):Int) else (dist (a.drop (i+1)) (b.drop j):Int))+1)=(dist (a.drop i) (b.drop j):Int):=by
       rw [F39 _ (by split<;>omega),hdd];split<;>omega
      skip
      refine C5 (by kernel_rfl) (by kernel_rfl) (A7 (A3 Z Z) Z Z (A7 (A3 Z Z) Z Z (A7 (A3 Z Z) Z Z (A7 (A3 Z Z) Z Z (A7 (S2 Z Z (by omega) (by omega)) Z Z (A7 (A07 Z Z hgi1 Z) Z Z (A7 (A3 Z Z) Z Z (A7 (A3 Z Z) Z Z (A7 (C0 Z Z (by omega)) Z Z (A7 (S2 Z Z (by omega) (by omega)) Z Z (A7 (A07 Z Z hgi2 Z) Z Z (A7 (C29 Z Z) Z Z (A7 (A05 Z Z) Z Z (A7 (S2 Z Z (by omega) (by omega)) Z Z (Y5 (M5 TySz.out Z Z (by (rw [hL];omega)) Z Z) Z ?_)))))))))))))));refine F4 ?_
      refine k4 (k1 ?_)
      rw [hval,show P+((j:Nat):Int).toNat=P+j by omega,hst]
      exact G48 ⟨le1 rfl,le1 rfl,le1 rfl,le1 rfl,le1 rfl,le1 rfl,le1 rfl,le1 rfl,trivial⟩ ⟨rfl,trivial⟩
    ·skip
     refine A4 (A2 (A3 Z Z) Z (A2 (H8 Z Z (by omega)) Z (A2 (A5 Z Z) Z (A6 ?_))))
     refine k1 ?_
     exact ⟨j,by omega,by omega,G48 ⟨le1 rfl,le1 rfl,le1 rfl,le1 rfl,le1 rfl,le1 rfl,le1 rfl,le1 rfl,trivial⟩ ⟨rfl,trivial⟩⟩
   ·obtain rfl:j=0:=by have:=A1 ht;omega
    rw [show flat a b (fun r q=>decide (i+1≤r∨(r=i∧0≤q)))=flat a b (fun r _=>decide (i≤r)) from A67 fun r q _ _=>.inl (by rw [decide_eq_decide];omega)]
    refine k6 (k7 (k7 (k8 Z (k4 (k1 ?_)))))
    refine A4 (A2 (A3 Z Z) Z (A2 (H8 Z Z (by omega)) Z (A2 (A5 Z Z) Z (A6 ?_))))
    refine k1 ?_
    exact ⟨i,by omega,by omega,G48 ⟨le1 rfl,le1 rfl,le1 rfl,le1 rfl,le1 rfl,trivial⟩ ⟨rfl,trivial⟩⟩
  ·obtain rfl:i=0:=by have:=A1 ht;omega
   rw [show flat a b (fun r _=>decide (0≤r))=flat a b (fun _ _=>true) from A67 fun r q _ _=>.inl (by simp)]
   refine J3 (Sees.freeze (k:=20) Z) ?_
   refine k6 (k2 ?_)
   refine A4 (A2 (A3 Z Z) Z (A2 (A5 Z Z) Z (A6 ?_)))
   refine k1 (k10 ?_)
   exact B6 (G4 rfl rfl rfl) rfl
theorem i64_id {n:Int} (h:-9223372036854775808≤n∧n≤9223372036854775807):IntKind.i64.wrap n=n:=IntWalk.i64_in _ h
theorem F65 {gf:Fr} {ob:Obs} (a b:List Int) (i j:Nat) (ha:a.length≤4096) (hb:b.length≤4096) (hi:i≤a.length) (hj:j≤b.length) (h8:C9 ob 8=some (.box [.p (.list Int 1 B51 (flat a b (fun _ _=>true)))])) (h3:C9 ob 3=some (.box [.p (.list Int 1 I8 b)])) :
  AL.Met Tryz.prog 236 [.one (.p (.v (.int .i64 i))),.one (.p (.v (.int .i64 j))),.one (.ref 8 0),.one (.ref 3 0)] gf ob [] (fun rs ob'=>rs=[.one (.p (.v (.int .i64 (dist (a.drop i) (b.drop j):Int))))]∧ob'=ob):=by
 have hg:=D23 (a:=a) (b:=b) (done:=fun _ _=>true) hi hj
 rw [if_pos rfl] at hg
 have hin:=(C66 (a:=a) (b:=b) hi hj).1
 have hL:=C51 a b (fun _ _=>true)
 have e1:(i:Int)*((b.length:Int)+1)=((i*(b.length+1):Nat):Int):=by push_cast;rfl
 have hbd:i*(b.length+1)≤4096*4097:=Nat.mul_le_mul (by omega) (by omega)
 have hbd2:(a.length+1)*(b.length+1)≤4097*4097:=Nat.mul_le_mul (by omega) (by omega)
 have hgi:(flat a b (fun _ _=>true))[((i:Int)*((b.length:Int)+1)+j).toNat]?=some (dist (a.drop i) (b.drop j):Int):=by
  rw [e1,show (((i*(b.length+1):Nat):Int)+j).toNat=i*(b.length+1)+j by omega];exact hg
 have hd:=B09 (a.drop i) (b.drop j)
 simp only [G92] at hd
 refine AL.Met.intro Tryz.func236 (by decide) Z Z Z ?_
 refine k2 ?_
 refine A4 (A2 (A5 Z Z) Z (A6 ?_))
 refine k1 (k2 ?_)
 refine A4 (A2 (A9 Z h8 Z) Z (A2 (A3 Z Z) Z (A2 (A9 Z h3 Z) Z (A2 (E0 Z (.pure _ _ _ _)) Z (A2 (C0 Z Z (by omega)) Z (A2 (B57 Z Z (by (rw [e1];omega))) Z ?_))))));refine A2 (A3 Z Z) Z (A2 (C0 Z Z (by (rw [e1];omega))) Z ?_);refine A2 (B1 Z (.pure _ _ _ _) Z (by omega) hgi) Z (A2 (B3 Z Z) Z (A2 (X7 Z) Z (A2 (A5 Z Z) Z (A6 ?_))))
 rw [i64_id (by omega)]
 refine k1 (k10 ?_)
 exact L1 (Y7 rfl rfl) (by repeat (first | exact E4 | refine E1 rfl ?_ | refine F1 _ ?_)) (fun _ _ h=>h) ⟨rfl,rfl⟩
theorem G33 (a b:List Int) (ha:a.length≤4096) (hb:b.length≤4096):FnOk Tryz.prog 190 [O1 a,O1 b] (fun rs=>rs=[pSpans (H0 0 0 a b)]):=by
 obtain ⟨n,hn⟩:∃n,n=U4 a b:=⟨_,rfl⟩
 have hnl:=E92 a b
 rw [←hn] at hnl
 have hbeg:=D25 a b 0 0
 rw [←hn] at hbeg
 refine FnOk.intro Tryz.func190 (by decide) Z Z Z Z ?_
 refine k2 ?_
 refine A4 (D1 (Y6 3 Z Z Z) Z (A2 (A5 Z Z) Z (A6 ?_)))
 refine k1 (k2 ?_)
 refine A4 (D1 (Z2 5 _ spanC Z) Z (A6 ?_))
 refine k1 (k2 ?_)
 refine A4 (A2 (A3 Z Z) Z (A2 (A9 Z Z Z) Z (C8 (D46 a b (by omega)) Z Z Z ?_)));rintro _ rfl;refine A2 (A5 Z Z) Z (A6 ?_)
 rw [←hn]
 refine k1 (k2 (k2 ?_))
 refine A4 (A2 (A3 Z Z) Z (A2 (A3 Z Z) Z (A6 ?_)))
 refine k1 (k3 ?_)
 refine D9 (X:=Nat) (fun k=>([(0,C4 Int 1 I8 a),(3,.s (.one (.ref 3 0))),(5,.s (.one (.buf 5 Span 2 spanC (K7 0 0 k)))),(6,C1 n),(15,C1 n),(16,C1 k)],[(3,.box [.p (.list Int 1 I8 b)]),(5,.spare (K7 0 0 k).length 2 88)])) (fun k=>k≤n) (fun k=>n - k) 0 (Nat.zero_le _) (G48 ⟨le1 rfl,le1 rfl,le1 rfl,le1 rfl,le1 rfl,le1 rfl,trivial⟩ ⟨rfl,rfl,trivial⟩) ?_
 intro k hk
 dsimp only at hk ⊢
 have hrl:=Q9 0 0 k
 refine k2 ?_
 refine A4 (A2 (E9 Z Z) Z (A6 ?_))
 refine k1 (k2 ?_)
 refine B5 rfl (fun ht=>?_) (fun ht=>?_)
 ·have hlt:k < n:=by have:=A0 ht;omega
  have hsn:=u7 0 0 k
  refine k5 (k1 (k2 (k3 (k2 ?_))))
  refine A4 (A2 (A3 Z Z) Z (A2 (A5 Z Z) Z (A6 ?_)))
  refine k1 ?_
  refine A4 (A2 (A3 Z Z) Z (A2 (A3 Z Z) Z (A2 (A3 Z Z) Z (A2 (I6 Z) Z (A2 (D8 (c:=spanC) (ys:=[⟨(k:Int),(k:Int)⟩]) (E5 Z Z Z Z G8) Z Z Z) Z (D1 (J2 Z Z Z (.pure _ _ _ _) (by (simp only [G81,G83];omega)) Z) Z (A2 (A5 Z Z) Z (A6 ?_))))))))
  refine k4 (k1 ?_)
  refine A4 (A2 (C0 Z Z (by omega)) Z (A2 (A3 Z Z) Z (A6 ?_)))
  refine k1 ?_
  refine ⟨k+1,by omega,by omega,?_⟩
  rw [hsn,show (0:Int)+(k:Int)=k by omega]
  exact G48 ⟨le1 rfl,le1 rfl,le1 rfl,le1 rfl,le1 rfl,le1 rfl,trivial⟩ ⟨rfl,rfl,trivial⟩
 have hk':k=n:=by have:=A1 ht;omega
 subst hk'
 obtain ⟨a',ha'⟩:∃a',a'=a.drop k:=⟨_,rfl⟩
 obtain ⟨b',hb'⟩:∃b',b'=b.drop k:=⟨_,rfl⟩
 have hal:a'.length≤4096:=by rw [ha',G92];omega
 have hbl:b'.length≤4096:=by rw [hb',G92];omega
 rw [Int.zero_add,←ha',←hb'] at hbeg
 refine k6 (k2 ?_)
 refine C5 (by kernel_rfl) (by kernel_rfl) (A7 (A3 Z Z) Z Z (A7 (A3 Z Z) Z Z (A7 (C00 Z (.pure _ _ _ _) Z (by omega) (by omega)) Z Z (A7 (A9 Z Z Z) Z Z (A7 (A3 Z Z) Z Z (A7 (C00 Z (.pure _ _ _ _) Z (by omega) (by omega)) Z Z (A7 (A5 Z Z) Z Z (Y5 (B9 TySz.out Z Z Z Z Z Z) Z (F4 ?_)))))))))
 rw [H01,←ha',←hb']
 refine k1 (k2 ?_)
 refine A4 (A2 (A3 Z Z) Z (A2 (A9 Z Z Z) Z (C8 (D47 a' b' hal hbl) Z Z Z ?_)));rintro _ rfl;refine D1 (G5 8 Z) Z (F3 (B9 TySz.out Z Z Z Z Z Z) (A6 ?_))
 refine k1 (k2 ?_)
 refine A4 (A2 (B38 Z Z) Z (A2 (A5 Z Z) Z (A6 ?_)))
 refine k1 (k2 (k2 ?_))
 refine A4 (A2 (A5 Z Z) Z (A2 (A5 Z Z) Z (A6 ?_)))
 refine k1 (k3 ?_)
 refine D9 (X:=Nat × Nat × List Span) (fun x=>([(0,C4 Int 1 I8 a'),(3,.s (.one (.ref 3 0))),(5,.s (.one (.buf 5 Span 2 spanC x.2.2))),(6,C1 k),(8,.s (.one (.ref 8 0))),(9,.s (.one (.clo 236 [] [(8,0),(3,0)]))),(10,C1 x.1),(11,C1 x.2.1)],[(3,.box [.p (.list Int 1 I8 b')]),(5,.spare x.2.2.length 2 88),(8,.box [.p (.list Int 1 B51 (flat a' b' (fun _ _=>true)))])])) (fun x=>x.1≤a'.length∧x.2.1≤b'.length∧x.2.2.length≤k+x.1∧H0 0 0 a b=x.2.2++H0 (k+x.1) (k+x.2.1) (a'.drop x.1) (b'.drop x.2.1)) (fun x=>(a'.length - x.1)+(b'.length - x.2.1)) (0,0,K7 0 0 k) ⟨Nat.zero_le _,Nat.zero_le _,by rw [hrl];exact Nat.le_refl _,by simpa using hbeg⟩ (G48 ⟨le1 rfl,le1 rfl,le1 rfl,le1 rfl,le1 rfl,le1 rfl,le1 rfl,le1 rfl,trivial⟩ ⟨rfl,rfl,rfl,trivial⟩) ?_
 rintro ⟨i,j,out⟩ ⟨hi,hj,hol,he⟩
 dsimp only at hi hj hol he ⊢
 refine k2 (k2 ?_)
 refine A4 (A2 (A3 Z Z) Z (A2 (A3 Z Z) Z (A2 (E0 Z (.pure _ _ _ _)) Z (A2 (E9 Z Z) Z (A2 (A3 Z Z) Z (B0 Z Z Z Z (fun hg=>by rw [hg];exact A3 Z Z) ?_))))));refine B0 Z Z Z Z (fun hg=>by rw [hg];exact A9 Z Z Z) ?_;refine B0 Z Z Z Z (fun hg=>by rw [hg];exact E0 Z (.pure _ _ _ _)) ?_;refine B0 Z Z Z Z (fun hg=>by rw [hg];exact E9 Z Z) ?_;refine A2 (B2 Z (fun h=>by first | rfl | (rw [h];rfl)) (fun h=>by first | rfl | (rw [h];rfl))) Z ?_;refine A6 ?_
 refine k1 ?_
 refine B5 rfl (fun ht=>?_) (fun ht=>?_)
 ·simp only [or_pick] at ht
  have hcond:=A0 ht
  refine O5 [(0,C4 Int 1 I8 a'),(3,.s (.one (.ref 3 0))),(5,.s (.one (.buf 5 Span 2 spanC out))),(6,C1 k),(8,.s (.one (.ref 8 0))),(9,.s (.one (.clo 236 [] [(8,0),(3,0)]))),(10,C1 i),(11,C1 j)] [(3,.box [.p (.list Int 1 I8 b')]),(5,.spare out.length 2 88),(8,.box [.p (.list Int 1 B51 (flat a' b' (fun _ _=>true)))])] (G48 ⟨le1 rfl,le1 rfl,le1 rfl,le1 rfl,le1 rfl,le1 rfl,le1 rfl,le1 rfl,trivial⟩ ⟨rfl,rfl,rfl,trivial⟩) ?_
  refine k5 (k1 (k3 (k3 (k2 ?_))))
  refine C5 (by kernel_rfl) (by kernel_rfl) (A7 (A3 Z Z) Z Z (A7 (A3 Z Z) Z Z (A7 (E0 Z (.pure _ _ _ _)) Z Z (A7 (E9 Z Z) Z Z (A7 (A3 Z Z) Z Z (B4 Z Z (fun hg=>by rw [hg];exact A3 Z Z) Z Z ?_))))));refine B4 Z Z (fun hg=>by rw [hg];exact A9 Z Z Z) Z Z ?_;refine B4 Z Z (fun hg=>by rw [hg];exact E0 Z (.pure _ _ _ _)) Z Z ?_;refine B4 Z Z (fun hg=>by rw [hg];exact E9 Z Z) Z Z ?_;refine A7 (B2 Z (fun h=>by first | rfl | (rw [h];rfl)) (fun h=>by first | rfl | (rw [h];rfl))) Z Z ?_;refine A7 (A3 Z Z) Z Z (B4 Z Z (fun hg=>by rw [hg];exact A3 Z Z) Z Z ?_);refine B4 Z Z (fun hg=>by rw [hg];exact A3 Z Z) Z Z ?_;refine B4 Z Z (fun hg=>by have hq:=hg;(try simp at hq);rw [hg];exact B1 Z (.pure _ _ _ _) Z (by omega) (B79 (by omega))) Z Z ?_;refine B4 Z Z (fun hg=>by rw [hg];exact B3 Z Z) Z Z ?_;refine B4 Z Z (fun hg=>by rw [hg];exact A9 Z Z Z) Z Z ?_;refine B4 Z Z (fun hg=>by rw [hg];exact A3 Z Z) Z Z ?_;refine B4 Z Z (fun hg=>by have hq:=hg;(try simp at hq);rw [hg];exact B1 Z (.pure _ _ _ _) Z (by omega) (B79 (by omega))) Z Z ?_;refine B4 Z Z (fun hg=>by rw [hg];exact B3 Z Z) Z Z ?_;refine B4 Z Z (fun hg=>by rw [hg];exact I2 Z Z) Z Z ?_;refine A7 (B2 Z (fun h=>by first | rfl | (rw [h];rfl)) (fun h=>by first | rfl | (rw [h];rfl))) Z Z ?_;refine A7 (A5 Z Z) Z Z (F4 ?_)
  refine k1 ?_
  refine B5 rfl (fun ht=>?_) (fun ht=>?_)
  ·simp only [I9] at ht
   obtain ⟨⟨h1,h2⟩,h3⟩:=A0 ht
   have h1:i < a'.length:=by omega
   have h2:j < b'.length:=by omega
   rw [p8 a' b' i j h1 h2,if_pos (by simpa [h1,h2] using h3)] at he
   refine O5 [(0,C4 Int 1 I8 a'),(3,.s (.one (.ref 3 0))),(5,.s (.one (.buf 5 Span 2 spanC out))),(6,C1 k),(8,.s (.one (.ref 8 0))),(9,.s (.one (.clo 236 [] [(8,0),(3,0)]))),(10,C1 i),(11,C1 j)] [(3,.box [.p (.list Int 1 I8 b')]),(5,.spare out.length 2 88),(8,.box [.p (.list Int 1 B51 (flat a' b' (fun _ _=>true)))])] (G48 ⟨le1 rfl,le1 rfl,le1 rfl,le1 rfl,le1 rfl,le1 rfl,le1 rfl,le1 rfl,trivial⟩ ⟨rfl,rfl,rfl,trivial⟩) ?_
   refine k2 ?_
   refine A4 (A2 (A3 Z Z) Z (A2 (A3 Z Z) Z (A2 (A3 Z Z) Z (A2 (C0 Z Z (by omega)) Z (A2 (A3 Z Z) Z (A2 (A3 Z Z) Z (A2 (C0 Z Z (by omega)) Z (A2 (I6 Z) Z (A2 (D8 (c:=spanC) (ys:=[⟨(k:Int)+i,(k:Int)+j⟩]) (E5 Z Z Z Z G8) Z Z Z) Z (D1 (J2 Z Z Z (.pure _ _ _ _) (by (simp only [G81,G83];omega)) Z) Z (A2 (A5 Z Z) Z (A6 ?_))))))))))))
   refine k1 ?_
   refine A4 (A2 (A3 Z Z) Z (A2 (C0 Z Z (by omega)) Z (A2 (A3 Z Z) Z (A2 (C0 Z Z (by omega)) Z (A2 (A5 Z Z) Z (A2 (A5 Z Z) Z (A6 ?_)))))))
   refine k4 (k4 (k1 ?_))
   refine ⟨(i+1,j+1,out++[⟨(k:Int)+i,(k:Int)+j⟩]),⟨by dsimp only;omega,by dsimp only;omega,by simp;omega,?_⟩,by dsimp only;omega,G48 ⟨le1 rfl,le1 rfl,le1 rfl,le1 rfl,le1 rfl,le1 rfl,le1 rfl,le1 rfl,trivial⟩ ⟨rfl,rfl,rfl,trivial⟩⟩
   dsimp only
   rw [he,G91]
   congr 2
  ·simp only [I9] at ht
   have hno:=A1 ht
   refine O5 [(0,C4 Int 1 I8 a'),(3,.s (.one (.ref 3 0))),(5,.s (.one (.buf 5 Span 2 spanC out))),(6,C1 k),(8,.s (.one (.ref 8 0))),(9,.s (.one (.clo 236 [] [(8,0),(3,0)]))),(10,C1 i),(11,C1 j)] [(3,.box [.p (.list Int 1 I8 b')]),(5,.spare out.length 2 88),(8,.box [.p (.list Int 1 B51 (flat a' b' (fun _ _=>true)))])] (G48 ⟨le1 rfl,le1 rfl,le1 rfl,le1 rfl,le1 rfl,le1 rfl,le1 rfl,le1 rfl,trivial⟩ ⟨rfl,rfl,rfl,trivial⟩) ?_
   by_cases h1:i < a'.length
   ·have hr:decide ((i:Int) < (a'.length:Int))=true:=decide_eq_true (by omega)
    have hd1:=B09 (a'.drop (i+1)) (b'.drop j)
    simp only [G92] at hd1
    have hstep:¬j < b'.length→dist (a'.drop (i+1)) (b'.drop j)+1=dist (a'.drop i) (b'.drop j)∧H0 (k+i) (k+j) (a'.drop i) (b'.drop j)=H0 (k+i+1) (k+j) (a'.drop (i+1)) (b'.drop j):=by
     intro hj2
     rw [show b'.drop j=[] from G84 (by omega),y8,y8,G92,G92,X9,X9]
     exact ⟨by omega,rfl⟩
    have hgo:j < b'.length→H0 (k+i) (k+j) (a'.drop i) (b'.drop j)=if dist (a'.drop (i+1)) (b'.drop j)+1=dist (a'.drop i) (b'.drop j) then H0 (k+i+1) (k+j) (a'.drop (i+1)) (b'.drop j) else H0 (k+i) (k+j+1) (a'.drop i) (b'.drop (j+1)):=by
     intro h2
     rw [p8 a' b' i j h1 h2,if_neg]
     intro h3
     exact hno ⟨⟨by omega,by omega⟩,by simpa [h1,h2] using h3⟩
    refine k2 ?_
    refine A4 (A2 (A3 Z Z) Z (A2 (A3 Z Z) Z (A2 (E0 Z (.pure _ _ _ _)) Z (A2 (E9 Z Z) Z (A2 (A3 Z Z) Z (J1 Z Z Z hr (A2 (A3 Z Z) Z (J1 Z Z Z hr (A2 (A3 Z Z) Z (J1 Z Z Z hr (A2 (C0 Z Z (by omega)) Z (J1 Z Z Z hr (A2 (A3 Z Z) Z (J1 Z Z Z hr (C88 (F65 a' b' (i+1) j hal hbl (by omega) hj Z Z) Z Z Z Z ?_)))))))))))))));rintro _ _ ⟨rfl,rfl⟩;refine J1 Z Z Z hr (A2 (C0 Z Z (by omega)) Z (J1 Z Z Z hr (A2 (A3 Z Z) Z (J1 Z Z Z hr (A2 (A3 Z Z) Z (J1 Z Z Z hr (A2 (A3 Z Z) Z (J1 Z Z Z hr (C88 (F65 a' b' i j hal hbl hi hj Z Z) Z Z Z Z ?_)))))))));rintro _ _ ⟨rfl,rfl⟩;refine J1 Z Z Z hr (A2 (I2 Z Z) Z (A2 (B2 Z (fun h=>by first | rfl | (rw [h];rfl)) (fun h=>by first | rfl | (rw [h];rfl))) Z ?_));refine A2 (A5 Z Z) Z (A6 ?_)
    refine k1 ?_
    refine B5 rfl (fun ht=>?_) (fun ht=>?_)
    ·simp only [I9] at ht
     obtain ⟨_,h3⟩:=A0 ht
     have h3:dist (a'.drop (i+1)) (b'.drop j)+1=dist (a'.drop i) (b'.drop j):=by omega
     have hnext:H0 (k+i) (k+j) (a'.drop i) (b'.drop j)=H0 (k+i+1) (k+j) (a'.drop (i+1)) (b'.drop j):=by
      by_cases h2:j < b'.length
      ·rw [hgo h2,if_pos h3]
      ·exact (hstep h2).2
     rw [hnext] at he
     skip
     refine A4 (A2 (A3 Z Z) Z (A2 (C0 Z Z (by omega)) Z (A2 (A5 Z Z) Z (A6 ?_))))
     refine k4 (k4 (k1 ?_))
     refine ⟨(i+1,j,out),⟨by dsimp only;omega,by dsimp only;omega,by dsimp only;omega,?_⟩,by dsimp only;omega,G48 ⟨le1 rfl,le1 rfl,le1 rfl,le1 rfl,le1 rfl,le1 rfl,le1 rfl,le1 rfl,trivial⟩ ⟨rfl,rfl,rfl,trivial⟩⟩
     dsimp only
     rw [he,show (k:Int)+(i:Int)+1=(k:Int)+((i+1:Nat):Int) by omega]
    ·simp only [I9] at ht
     have h3:=A1 ht
     have h3:¬dist (a'.drop (i+1)) (b'.drop j)+1=dist (a'.drop i) (b'.drop j):=fun q=>h3 ⟨by omega,by omega⟩
     have h2:j < b'.length:=by
      by_cases h2:j < b'.length
      ·exact h2
      ·exact absurd (hstep h2).1 h3
     rw [hgo h2,if_neg h3] at he
     skip
     refine A4 (A2 (A3 Z Z) Z (A2 (C0 Z Z (by omega)) Z (A2 (A5 Z Z) Z (A6 ?_))))
     refine k4 (k4 (k1 ?_))
     refine ⟨(i,j+1,out),⟨by dsimp only;omega,by dsimp only;omega,by dsimp only;omega,?_⟩,by dsimp only;omega,G48 ⟨le1 rfl,le1 rfl,le1 rfl,le1 rfl,le1 rfl,le1 rfl,le1 rfl,le1 rfl,trivial⟩ ⟨rfl,rfl,rfl,trivial⟩⟩
     dsimp only
     rw [he,show (k:Int)+(j:Int)+1=(k:Int)+((j+1:Nat):Int) by omega]
   ·have hrf:decide ((i:Int) < (a'.length:Int))=false:=decide_eq_false (by omega)
    have h2:j < b'.length:=by omega
    refine k2 ?_
    refine A4 (A2 (A3 Z Z) Z (A2 (A3 Z Z) Z (A2 (E0 Z (.pure _ _ _ _)) Z (A2 (E9 Z Z) Z (A2 (A3 Z Z) Z (M3 Z Z Z (by rw [hrf];decide) Z ?_))))));refine M3 Z Z Z (by rw [hrf];decide) Z ?_;refine M3 Z Z Z (by rw [hrf];decide) Z ?_;refine M3 Z Z Z (by rw [hrf];decide) Z ?_;refine M3 Z Z Z (by rw [hrf];decide) Z ?_;refine M3 Z Z Z (by rw [hrf];decide) Z ?_;refine M3 Z Z Z (by rw [hrf];decide) Z ?_;refine M3 Z Z Z (by rw [hrf];decide) Z ?_;refine M3 Z Z Z (by rw [hrf];decide) Z ?_;refine M3 Z Z Z (by rw [hrf];decide) Z ?_;refine M3 Z Z Z (by rw [hrf];decide) Z ?_;refine A2 (B70 Z (hrf) Z) Z (A2 (A5 Z Z) Z (A6 ?_))
    refine k1 ?_
    refine B5 rfl (fun ht=>?_) (fun ht=>?_)
    ·cases ht
    ·skip
     refine A4 (A2 (A3 Z Z) Z (A2 (C0 Z Z (by omega)) Z (A2 (A5 Z Z) Z (A6 ?_))))
     refine k4 (k4 (k1 ?_))
     refine ⟨(i,j+1,out),⟨by dsimp only;omega,by dsimp only;omega,by dsimp only;omega,?_⟩,by dsimp only;omega,G48 ⟨le1 rfl,le1 rfl,le1 rfl,le1 rfl,le1 rfl,le1 rfl,le1 rfl,le1 rfl,trivial⟩ ⟨rfl,rfl,rfl,trivial⟩⟩
     dsimp only
     rw [he,show a'.drop i=[] from G84 (by omega),V4,V4]
 ·simp only [or_pick] at ht
  have hcond:=A1 ht
  rw [show a'.drop i=[] from G84 (by omega),V4,H05] at he
  refine k6 (k2 ?_)
  refine A4 (A2 (A3 Z Z) Z (A2 (A5 Z Z) Z (A6 ?_)))
  refine k1 (k10 ?_)
  exact B6 (G4 rfl rfl rfl) (by rw [he])
theorem F18 (a b:List Int) (ha:a.length≤4096) (hb:b.length≤4096):FnOk Tryz.prog 130 [O1 a,O1 b] (fun rs=>rs=[pChanges (y9 a b),G2 0]):=by
 have hA:=D10 a b 0 0
 rw [Int.zero_add,Int.zero_add] at hA
 have hl:=B26 0 0 a b
 refine FnOk.intro Tryz.func130 (by decide) Z Z Z Z ?_
 refine k2 ?_
 refine A4 (A2 (A5 Z Z) Z (A2 (A5 Z Z) Z (A6 ?_)))
 refine k1 (k2 (k2 ?_))
 refine A4 (A2 (A3 Z Z) Z (A2 (A3 Z Z) Z (C8 (E71 a b) Z Z Z ?_)));rintro _ rfl;refine A2 (J8 Z) Z (A6 ?_)
 refine k1 ?_
 refine B5 rfl (fun ht=>?_) (fun ht=>?_)
 ·exfalso
  have h:decide ((a.length:Int)≤4096∧(b.length:Int)≤4096)=true:=decide_eq_true ⟨by omega,by omega⟩
  rw [h] at ht;cases ht
 refine k5 (k1 (k2 ?_))
 refine A4 (A2 (A3 Z Z) Z (A2 (A3 Z Z) Z (C8 (G33 a b ha hb) Z Z Z ?_)));rintro _ rfl;refine A2 (A3 Z Z) Z (A2 (E0 Z (.pure _ _ _ _)) Z (A2 (A3 Z Z) Z (A2 (E0 Z (.pure _ _ _ _)) Z (C8 (D45 (H0 0 0 a b) a.length b.length ⟨by omega,by omega⟩ ⟨by omega,by omega⟩ hA (by omega)) Z Z Z ?_))));rintro _ rfl;refine A2 (C6 Z Z) Z (A2 (C6 Z Z) Z (A2 (A5 Z Z) Z (A2 (A5 Z Z) Z (A6 ?_))))
 refine k1 (k10 ?_)
 exact B6 (x7 rfl rfl rfl rfl rfl) rfl
abbrev pHunk (h:Hunk):PV:=.agg [.v (.int .i64 h.First),.v (.int .i64 h.Last),.v (.int .i64 h.Old.From),.v (.int .i64 h.Old.To),.v (.int .i64 h.New.From),.v (.int .i64 h.New.To)]
theorem F19 (l:List Change) (f z:Nat) (m ctx:Int) (hl:l.length≤1073741824) (hf:f < z) (hz:z≤l.length) (hc:0≤ctx∧ctx≤1048576) (hm:0≤m∧m≤4096)
  (hb:∀k,k < l.length→F7 (cAt l k).Old∧F7 (cAt l k).OldLen∧F7 (cAt l k).New∧F7 (cAt l k).NewLen) :
  FnOk Tryz.prog 195 [pChanges l,G2 f,G2 z,G2 m,G2 ctx] (fun rs=>rs=[pHunk (mkH l m ctx f z)]):=by
 have hva:l[((f:Nat):Int).toNat]?=some (cAt l f):=by rw [H01];exact S8 (by omega)
 have hvz:l[((z:Nat):Int).toNat - 1]?=some (cAt l (z - 1)):=by rw [H01];exact S8 (by omega)
 have hvz2:l[(((z:Nat):Int) - 1).toNat]?=some (cAt l (z - 1)):=by rw [show (((z:Nat):Int) - 1).toNat=z - 1 by omega];exact S8 (by omega)
 obtain ⟨⟨a1,a2⟩,⟨a3,a4⟩,⟨a5,a6⟩,⟨a7,a8⟩⟩:=hb f (by omega)
 obtain ⟨⟨z1,z2⟩,⟨z3,z4⟩,⟨z5,z6⟩,⟨z7,z8⟩⟩:=hb (z - 1) (by omega)
 obtain ⟨a,ha⟩:∃a,a=cAt l f:=⟨_,rfl⟩
 obtain ⟨y,hy⟩:∃y,y=cAt l (z - 1):=⟨_,rfl⟩
 have hres:mkH l m ctx f z=⟨f,z,⟨a.Old - T5 ctx a.Old,y.Old+y.OldLen+T5 ctx (m - y.Old - y.OldLen)⟩,⟨a.New - T5 ctx a.Old,y.New+y.NewLen+T5 ctx (m - y.Old - y.OldLen)⟩⟩:=by
  unfold mkH u9 R3
  dsimp only
  rw [←ha,←hy,show m - (y.Old+y.OldLen)=m - y.Old - y.OldLen by omega,show (((z - 1:Nat):Int)+1)=z by omega]
 rw [←ha] at hva a1 a2 a3 a4 a5 a6 a7 a8
 rw [←hy] at hvz hvz2 z1 z2 z3 z4 z5 z6 z7 z8
 rw [hres]
 have n1:-4096≤T5 ctx a.Old∧T5 ctx a.Old≤4096:=by unfold T5;split<;>omega
 have n2:-8192≤T5 ctx (m - y.Old - y.OldLen)∧T5 ctx (m - y.Old - y.OldLen)≤1048576:=by unfold T5;split<;>omega
 refine FnOk.intro Tryz.func195 (by decide) Z Z Z Z ?_
 refine k2 ?_
 refine A4 (D1 (G5 10 Z) Z (A6 ?_))
 refine k1 (k2 ?_)
 refine B73 [12,11,10,9] [[],[9],[10],[10,9],[11,10,9],[12,11,10,9]] [(0,[9]),(0,[10]),(0,[10,9]),(1,[9]),(1,[10]),(1,[10,9]),(2,[9]),(2,[10]),(2,[10,9]),(3,[9]),(3,[10]),(3,[10,9]),(4,[9]),(4,[10]),(4,[10,9]),(4,[11,10,9]),(5,[9]),(5,[10]),(5,[10,9]),(5,[11,10,9]),(6,[9]),(6,[10]),(6,[10,9]),(6,[11,10,9]),(7,[9]),(7,[10]),(7,[10,9]),(7,[11,10,9]),(8,[9]),(8,[10]),(8,[10,9]),(8,[11,10,9]),(9,[10]),(10,[])] (by kernel_rfl) (by kernel_rfl) (p5 Z (A3 Z Z) (p5 Z (A3 Z Z) (p5 Z (B1 Z (.pure _ _ _ _) Z (by omega) hva) (p5 Z (E3 Z Z) (p5 Z (A3 Z Z) (p5 Z (A3 Z Z) (p5 Z (H8 Z Z (by omega)) (p5 Z (B1 Z (.pure _ _ _ _) Z (by omega) hvz2) (p5 Z (E3 Z Z) (F54 11 Z Z (F54 12 Z Z (C61 (o7 TySz.out Z Z Z Z Z Z) (C61 (o7 TySz.out Z Z Z Z Z Z) ?_)))))))))))));refine a_nil rfl ?_ ?_
 ·refine O2 Z Z (A3 Z Z) (O2 Z Z (A3 Z Z) (O2 Z Z (A3 Z Z) (O2 Z Z (A3 Z Z) (O2 Z Z (A3 Z Z) (O2 Z Z (A3 Z Z) (O2 Z Z (B1 Z (.pure _ _ _ _) Z (by omega) hva) (O2 Z Z (B1 Z (.pure _ _ _ _) Z (by omega) hva) (O2 Z Z (B1 Z (.pure _ _ _ _) Z (by omega) hva) (O2 Z Z (E3 Z Z) (O2 Z Z (E3 Z Z) (O2 Z Z (E3 Z Z) (O2 Z Z (A3 Z Z) (O2 Z Z (A3 Z Z) (O2 Z Z (A3 Z Z) (O2 Z Z (A3 Z Z) (O2 Z Z (A3 Z Z) (O2 Z Z (A3 Z Z) (O2 Z Z (A3 Z Z) (O2 Z Z (A3 Z Z) (O2 Z Z (H8 Z Z (by omega)) (O2 Z Z (H8 Z Z (by omega)) (O2 Z Z (H8 Z Z (by omega)) (O2 Z Z (H8 Z Z (by omega)) ?_)))))))))))))))))))))));refine O2 Z Z (B1 Z (.pure _ _ _ _) Z (by omega) hvz2) (O2 Z Z (B1 Z (.pure _ _ _ _) Z (by omega) hvz2) (O2 Z Z (B1 Z (.pure _ _ _ _) Z (by omega) hvz2) (O2 Z Z (B1 Z (.pure _ _ _ _) Z (by omega) hvz2) (O2 Z Z (E3 Z Z) (O2 Z Z (E3 Z Z) (O2 Z Z (E3 Z Z) (O2 Z Z (E3 Z Z) (F55 Z Z Z Z Z (F55 Z Z Z Z Z ?_)))))))));exact o_nil
 refine k1 (k2 ?_)
 refine A4 (A2 (A3 Z Z) Z (A2 (A8 Z) Z (A2 (A9 Z Z Z) Z (A2 (C29 Z Z) Z (A2 (A5 Z Z) Z (A6 ?_))))))
 rw [show (if a.Old < ctx then a.Old else ctx)=T5 ctx a.Old from rfl]
 refine k1 (k2 ?_)
 refine A4 (A2 (A3 Z Z) Z (A2 (A3 Z Z) Z (A2 (A8 Z) Z (A2 (A9 Z Z Z) Z (A2 (H8 Z Z (by omega)) Z (A2 (A8 Z) Z (A2 (A9 Z Z Z) Z (A2 (H8 Z Z (by omega)) Z (A2 (C29 Z Z) Z (A2 (A5 Z Z) Z (A6 ?_)))))))))))
 rw [show (if m - y.Old - y.OldLen < ctx then m - y.Old - y.OldLen else ctx)=T5 ctx (m - y.Old - y.OldLen) from rfl]
 refine k1 (k2 ?_)
 refine A4 (A2 (A3 Z Z) Z (A2 (A3 Z Z) Z (A2 (A8 Z) Z (A2 (A9 Z Z Z) Z (A2 (A3 Z Z) Z (A2 (H8 Z Z (by omega)) Z (A2 (A8 Z) Z (A2 (A9 Z Z Z) Z (A2 (A8 Z) Z (A2 (A9 Z Z Z) Z (A2 (C0 Z Z (by omega)) Z (A2 (A3 Z Z) Z (A2 (C0 Z Z (by omega)) Z (A2 (I6 Z) Z (A2 (A8 Z) Z (A2 (A9 Z Z Z) Z (A2 (A3 Z Z) Z (A2 (H8 Z Z (by omega)) Z (A2 (A8 Z) Z (A2 (A9 Z Z Z) Z (A2 (A8 Z) Z (A2 (A9 Z Z Z) Z (A2 (C0 Z Z (by omega)) Z ?_)))))))))))))))))))))));refine A2 (A3 Z Z) Z (A2 (C0 Z Z (by omega)) Z (A2 (I6 Z) Z (A2 (I6 Z) Z (F3 (B9 TySz.out Z Z Z Z Z Z) (A6 ?_)))))
 refine k1 (k10 ?_)
 exact B6 (retc rfl rfl rfl rfl rfl) rfl
theorem F86 (l:List Change) (m n ctx:Int) (hl:l.length≤1073741824):FnOk Tryz.prog 132 [pChanges l,G2 m,G2 n,G2 ctx] (fun rs=>rs=[pHunks (P0 l m n ctx).1,G2 (P0 l m n ctx).2]):=by
 have hg0:P0 l m n ctx=if ctx < 0∨1048576 < ctx then ([],3) else if P4 l m n≠0 then ([],P4 l m n) else (F2 l m ctx l.length,0):=rfl
 refine FnOk.intro Tryz.func132 (by decide) Z Z Z Z ?_
 refine k2 ?_
 refine A4 (A2 (A5 Z Z) Z (A2 (A5 Z Z) Z (A6 ?_)))
 refine k1 (k2 (k2 ?_))
 refine A4 (A2 (A3 Z Z) Z (A2 (E9 Z Z) Z (A2 (A3 Z Z) Z (B0 Z Z Z Z (fun hg=>by rw [hg];exact A3 Z Z) ?_))));refine B0 Z Z Z Z (fun hg=>by rw [hg];exact N7 Z Z) ?_;refine A2 (B2 Z (fun h=>by first | rfl | (rw [h];rfl)) (fun h=>by first | rfl | (rw [h];rfl))) Z ?_;refine A6 ?_
 refine k1 ?_
 refine B5 rfl (fun ht=>?_) (fun ht=>?_)
 ·simp only [or_pick] at ht
  have h:=A0 ht
  rw [if_pos h] at hg0
  refine k2 ?_
  refine A4 (A2 (X5 _ 6 hunkC) Z (A2 (A5 Z Z) Z (A6 ?_)))
  refine k1 (k10 (k11 ?_))
  exact B6 (x7 rfl rfl rfl rfl rfl) (by rw [hg0])
 simp only [or_pick] at ht
 have hc:=A1 ht
 rw [if_neg hc] at hg0
 refine k5 (k1 (k2 (k2 ?_)))
 refine A4 (A2 (A3 Z Z) Z (A2 (A3 Z Z) Z (A2 (A3 Z Z) Z (C8 (D86 l m n hl) Z Z Z ?_))));rintro _ rfl;refine A2 (A5 Z Z) Z (A6 ?_)
 refine k1 (k2 ?_)
 refine A4 (A2 (A3 Z Z) Z (A2 (J0 Z Z) Z (A6 ?_)))
 refine k1 ?_
 refine B5 rfl (fun ht=>?_) (fun ht=>?_)
 ·have h:=A0 ht
  rw [if_pos h] at hg0
  refine k2 ?_
  refine A4 (A2 (A3 Z Z) Z (A2 (X5 _ 6 hunkC) Z (A2 (A5 Z Z) Z (A6 ?_))))
  refine k1 (k10 (k11 ?_))
  exact B6 (x7 rfl rfl rfl rfl rfl) (by rw [hg0])
 have h:=A1 ht
 rw [if_neg h] at hg0
 obtain ⟨hm,hn,hs⟩:=A37 (Decidable.not_not.1 h)
 have hb:∀k,k < l.length→F7 (cAt l k).Old∧F7 (cAt l k).OldLen∧F7 (cAt l k).New∧F7 (cAt l k).NewLen:=fun k hk=>by
  obtain ⟨b1,b2,b3,b4,_⟩:=hs.get k hk
  exact ⟨b1,b2,b3,b4⟩
 refine O5 [(0,C4 Change 4 changeC l),(1,C1 m),(2,C1 n),(3,C1 ctx)] [] (G48 ⟨le1 rfl,le1 rfl,le1 rfl,le1 rfl,trivial⟩ trivial) ?_
 refine k5 (k1 (k2 ?_))
 refine A4 (D1 (Z2 11 _ hunkC Z) Z (A6 ?_))
 refine k1 (k2 ?_)
 refine A4 (A2 (A5 Z Z) Z (A6 ?_))
 refine k1 (k2 (k2 ?_))
 refine A4 (A2 (A3 Z Z) Z (A2 (E0 Z (.pure _ _ _ _)) Z (A2 (A3 Z Z) Z (A6 ?_))))
 refine k1 (k3 ?_)
 refine D9 (X:=Nat × Nat × List Hunk) (fun x=>([(0,C4 Change 4 changeC l),(1,C1 m),(3,C1 ctx),(11,.s (.one (.buf 11 Hunk 6 hunkC x.2.2))),(12,C1 x.2.1),(28,C4 Change 4 changeC l),(29,C1 l.length),(30,C1 x.1)],[(11,.spare x.2.2.length 6 175)])) (fun x=>x.1≤l.length∧x.2.1≤x.1∧GrX l m ctx 0 x.2.2 x.2.1∧(∀c,x.2.1 < c→c≤x.1→c < l.length→¬opens l ctx c)∧(x.2.1 < l.length→opens l ctx x.2.1)∧(x.1=l.length→x.2.1=l.length)) (fun x=>l.length - x.1) (0,0,[]) ⟨Nat.zero_le _,Nat.le_refl _,rfl,fun c h1 h2=>by omega,fun _=>.inl rfl,fun h=>h⟩ (G48 ⟨le1 rfl,le1 rfl,le1 rfl,le1 rfl,le1 rfl,le1 rfl,le1 rfl,le1 rfl,trivial⟩ ⟨rfl,trivial⟩) ?_
 rintro ⟨i,f,out⟩ ⟨hi,hfi,hx,hno,hof,hend⟩
 dsimp only at hi hfi hx hno hof hend ⊢
 have hxl:=hx.len
 refine k2 ?_
 refine A4 (A2 (E9 Z Z) Z (A6 ?_))
 refine k1 (k2 ?_)
 refine B5 rfl (fun ht=>?_) (fun ht=>?_)
 ·have hlt:i < l.length:=by have:=A0 ht;omega
  have hv:l[((i:Nat):Int).toNat]?=some (cAt l i):=by rw [H01];exact S8 hlt
  obtain ⟨⟨b1,b2⟩,⟨b3,b4⟩,_⟩:=hb i hlt
  obtain ⟨c,hcc⟩:∃c,c=cAt l i:=⟨_,rfl⟩
  have hopi:i+1 < l.length→(opens l ctx (i+1)↔2*ctx < (cAt l (i+1)).Old - c.Old - c.OldLen):=fun h1=>by
   unfold opens
   rw [show i+1 - 1=i by omega,←hcc]
   exact ⟨fun h=>h.resolve_left (by omega),fun h=>.inr h⟩
  rw [←hcc] at hv b1 b2 b3 b4
  have hnx:∀q:Int,q=(i:Int)+1→¬q=(l.length:Int)→l[q.toNat]?=some (cAt l (i+1)):=by
   intro q hq hne
   rw [hq,show ((i:Int)+1).toNat=i+1 by omega];exact S8 (by omega)
  have hbx:¬((i:Int)+1=(l.length:Int))→0≤(cAt l (i+1)).Old∧(cAt l (i+1)).Old≤4096:=by
   intro hne;exact (hb (i+1) (by omega)).1
  refine k5 (k1 (k2 (k3 (k2 ?_))))
  refine A4 (A2 (A3 Z Z) Z (A2 (B1 Z (.pure _ _ _ _) Z (by omega) hv) Z (A2 (E3 Z Z) Z (D1 (G5 14 Z) Z (A2 (A5 Z Z) Z (F3 (B9 TySz.out Z Z Z Z Z Z) (A6 ?_)))))))
  refine k1 (k2 ?_)
  refine C5 (by kernel_rfl) (by kernel_rfl) (A7 (A3 Z Z) Z Z (A7 (C0 Z Z (by omega)) Z Z (A7 (A3 Z Z) Z Z (A7 (E0 Z (.pure _ _ _ _)) Z Z (A7 (I2 Z Z) Z Z (A7 (A3 Z Z) Z Z (B4 Z Z (fun hg=>by rw [hg];exact A3 Z Z) Z Z ?_)))))));refine B4 Z Z (fun hg=>by rw [hg];exact A3 Z Z) Z Z ?_;refine B4 Z Z (fun hg=>by have hq:=hg;(try simp at hq);skip;rw [hg];exact C0 Z Z (by omega)) Z Z ?_;refine B4 Z Z (fun hg=>by have hq:=hg;(try simp at hq);rw [hg];exact B1 Z (.pure _ _ _ _) Z (by omega) (hnx _ Z (by simpa using hq))) Z Z ?_;refine B4 Z Z (fun hg=>by rw [hg];exact B8 Z) Z Z ?_;refine B4 Z Z (fun hg=>by rw [hg];exact B3 Z Z) Z Z ?_;refine B4 Z Z (fun hg=>by rw [hg];exact A8 Z) Z Z ?_;refine B4 Z Z (fun hg=>by rw [hg];exact A9 Z Z Z) Z Z ?_;refine B4 Z Z (fun hg=>by have hq:=hg;(try simp at hq);rw [hg];exact H8 Z Z (by (have:=hbx (by simpa using hq);omega))) Z Z ?_;refine B4 Z Z (fun hg=>by rw [hg];exact A8 Z) Z Z ?_;refine B4 Z Z (fun hg=>by rw [hg];exact A9 Z Z Z) Z Z ?_;refine B4 Z Z (fun hg=>by have hq:=hg;(try simp at hq);rw [hg];exact H8 Z Z (by (have:=hbx (by simpa using hq);omega))) Z Z ?_;refine B4 Z Z (fun hg=>by rw [hg];exact A3 Z Z) Z Z ?_;refine B4 Z Z (fun hg=>by have hq:=hg;(try simp at hq);rw [hg];exact B57 Z Z (by omega)) Z Z ?_;refine B4 Z Z (fun hg=>by rw [hg];exact N7 Z Z) Z Z ?_;refine A7 (B2 Z (fun h=>by first | rfl | (rw [h];rfl)) (fun h=>by first | rfl | (rw [h];rfl))) Z Z ?_;refine F4 ?_
  refine k1 ?_
  refine B5 rfl (fun ht=>?_) (fun ht=>?_)
  ·simp only [or_pick] at ht
   have hcl:=A0 ht
   have hnext:i+1 < l.length→opens l ctx (i+1):=fun h1=>by
    rw [hopi h1]
    exact hcl.resolve_left (by omega)
   refine O5 [(0,C4 Change 4 changeC l),(1,C1 m),(3,C1 ctx),(11,.s (.one (.buf 11 Hunk 6 hunkC out))),(12,C1 f),(13,C1 i),(28,C4 Change 4 changeC l),(29,C1 l.length),(30,C1 i)] [(11,.spare out.length 6 175)] (G48 ⟨le1 rfl,le1 rfl,le1 rfl,le1 rfl,le1 rfl,le1 rfl,le1 rfl,le1 rfl,le1 rfl,trivial⟩ ⟨rfl,trivial⟩) ?_
   refine k2 ?_
   refine A4 (A2 (A3 Z Z) Z (A2 (A3 Z Z) Z (A2 (A3 Z Z) Z (A2 (A3 Z Z) Z (A2 (C0 Z Z (by omega)) Z (A2 (A3 Z Z) Z (A2 (A3 Z Z) Z (C8 (F19 l f (i+1) m ctx hl (by omega) (by omega) (by omega) hm hb) Z Z Z ?_))))))));rintro _ rfl;refine A2 (D8 (c:=hunkC) (ys:=[mkH l m ctx f (i+1)]) (E5 Z Z Z Z G8) Z Z Z) Z (D1 (J2 Z Z Z (.pure _ _ _ _) (by (simp only [G81,G83];omega)) Z) Z (A2 (A5 Z Z) Z (A6 ?_)))
   refine k1 ?_
   refine A4 (A2 (A3 Z Z) Z (A2 (C0 Z Z (by omega)) Z (A2 (A5 Z Z) Z (A6 ?_))))
   refine k4 (k1 ?_)
   refine A4 (A2 (C0 Z Z (by omega)) Z (A2 (A3 Z Z) Z (A6 ?_)))
   refine k1 ?_
   refine ⟨(i+1,i+1,out++[mkH l m ctx f (i+1)]),⟨by dsimp only;omega,Nat.le_refl _,?_,fun c h1 h2=>by dsimp only at h1 h2;omega,fun h1=>hnext h1,fun h1=>h1⟩,by dsimp only;omega,G48 ⟨le1 rfl,le1 rfl,le1 rfl,le1 rfl,le1 rfl,le1 rfl,le1 rfl,le1 rfl,trivial⟩ ⟨rfl,trivial⟩⟩
   exact hx.snoc (hof (by omega)) (by omega) (fun c h1 h2=>hno c h1 (by omega) (by omega))
  ·simp only [or_pick] at ht
   have hcl:=A1 ht
   have hne:¬(i:Int)+1=l.length:=fun q=>hcl (.inl q)
   have hnext:¬opens l ctx (i+1):=fun q=>by
    rw [hopi (by omega)] at q
    exact hcl (.inr q)
   refine k5 (k4 (k1 ?_))
   refine A4 (A2 (C0 Z Z (by omega)) Z (A2 (A3 Z Z) Z (A6 ?_)))
   refine k1 ?_
   refine ⟨(i+1,f,out),⟨by dsimp only;omega,by dsimp only;omega,hx,fun c h1 h2 h3=>?_,hof,fun h1=>by dsimp only at h1;omega⟩,by dsimp only;omega,G48 ⟨le1 rfl,le1 rfl,le1 rfl,le1 rfl,le1 rfl,le1 rfl,le1 rfl,le1 rfl,trivial⟩ ⟨rfl,trivial⟩⟩
   dsimp only at h1 h2
   by_cases hce:c=i+1
   ·rw [hce];exact hnext
   ·exact hno c h1 (by omega) h3
 ·have hi':i=l.length:=by have:=A1 ht;omega
  have hf':=hend hi'
  rw [hf'] at hx
  refine k6 (k2 ?_)
  refine A4 (A2 (A3 Z Z) Z (A2 (A5 Z Z) Z (A2 (A5 Z Z) Z (A6 ?_))))
  refine k1 (k10 ?_)
  exact B6 (x7 rfl rfl rfl rfl rfl) (by rw [hg0,GrX.unique hx (C52 l m ctx l.length)])
theorem A52 {gf:Fr} {ob:Obs} (l:List PatchLine) (k:UInt8) (ts:List Str) (hk:C9 ob 701=some (.spare l.length 2 36)) (hlen:l.length+ts.length≤1073741824) :
  AL.Met Tryz.prog 196 [.one (.buf 701 PatchLine 2 plineC l),.one (.p (.v (.int .u8 k.toNat))),.one (.p (.list Str 1 I3 ts))] gf ob [701]
   (fun rs ob'=>rs=[.one (.buf 701 PatchLine 2 plineC (l++J6 k ts))]∧ob'=(701,.spare (l++J6 k ts).length 2 36)::Obs.forget 701 ob):=by
 refine AL.Met.introH Tryz.func196 (by decide) rfl rfl rfl (fun hH=>?_)
 refine k2 ?_
 refine A4 (A2 (A5 Z Z) Z (A6 ?_))
 refine k1 (k2 (k2 ?_))
 refine A4 (A2 (A3 Z Z) Z (A2 (E0 Z (.pure _ _ _ _)) Z (A2 (A3 Z Z) Z (A6 ?_))))
 refine k1 (k3 ?_)
 refine D9 (X:=Nat) (fun i=>([(0,.s (.one (.buf 701 PatchLine 2 plineC (l++J6 k (ts.take i))))),(1,.s (pByte k).s1),(9,C4 Str 1 I3 ts),(10,C1 ts.length),(11,C1 i)]++Fr.forget 701 gf,(701,.spare (l++J6 k (ts.take i)).length 2 36)::Obs.forget 701 ob)) (fun i=>i≤ts.length) (fun i=>ts.length - i) 0 (Nat.zero_le _) ?_ ?_
 ·have e:l++J6 k (ts.take 0)=l:=by simp [J6]
  rw [e]
  exact G60 701 ⟨le1 rfl,le1 rfl,le1 rfl,le1 rfl,le1 rfl,trivial⟩ hH (by repeat (first | exact E4 | refine E1 rfl ?_)) hk
 intro i hi
 dsimp only at hi ⊢
 have hpl:=V8 k (ts.take i)
 rw [G90] at hpl
 refine k2 ?_
 refine A4 (A2 (E9 Z Z) Z (A6 ?_))
 refine k1 (k2 ?_)
 refine B5 rfl (fun ht=>?_) (fun ht=>?_)
 ·have hlt:i < ts.length:=by have:=A0 ht;omega
  have hv:ts[i]?=some ts[i]:=by simp [hlt]
  have hsucc:=B49 k ts i hlt
  refine k5 (k1 (k2 (k3 (k2 ?_))))
  refine A4 (A2 (B1 Z (.pure _ _ _ _) Z (by omega) hv) Z (A2 (B3 Z Z) Z (A2 (A5 Z Z) Z (A6 ?_))))
  refine k1 ?_
  refine A4 (A2 (A3 Z Z) Z (A2 (A3 Z Z) Z (A2 (A3 Z Z) Z (A2 (I6 Z) Z (A2 (D8 (c:=plineC) (ys:=[⟨k,ts[i]⟩]) (E5 Z Z Z Z G8) Z Z Z) Z (D1 (J2 Z Z Z (.pure _ _ _ _) (by (simp only [G79,G81,G83];omega)) Z) Z (A2 (A5 Z Z) Z (A6 ?_))))))))
  refine k4 (k1 ?_)
  refine A4 (A2 (C0 Z Z (by omega)) Z (A2 (A3 Z Z) Z (A6 ?_)))
  refine k1 ?_
  refine ⟨i+1,hlt,by omega,?_⟩
  rw [hsucc,←G91]
  exact G49 ⟨le1 rfl,le1 rfl,le1 rfl,le1 rfl,le1 rfl,trivial⟩ (Q1 hH) (by repeat (first | exact E4 | refine E1 rfl ?_ | refine K2 _ ?_)) C79
 ·have hi':i=ts.length:=by have:=A1 ht;omega
  subst hi'
  rw [G95]
  refine k6 (k2 ?_)
  refine A4 (A2 (A3 Z Z) Z (A2 (A5 Z Z) Z (A6 ?_)))
  refine k1 (k10 ?_)
  exact L1 (Y7 rfl rfl) (by repeat (first | exact E4 | refine E1 rfl ?_ | refine F1 _ ?_)) (fun _ _ h=>h) ⟨rfl,rfl⟩
theorem F87 (l:List Change) (x y:List Str) (q:Hunk) (hsc:ScOk 0 0 l x.length y.length) (hq:F34 l x.length l.length q) (hxl:x.length≤4096) (hyl:y.length≤4096) (hll:l.length≤4097) :
  FnOk Tryz.prog 133 [pHunk q,pChanges l,A09 x,A09 y] (fun rs=>rs=[pPhunk (F6 l x y q)]):=by
 obtain ⟨a,b,q1,q2,q3,q4,q5,q6,q7,q8,q9,q10⟩:=hq
 have hgb:=hsc.get b q4
 obtain ⟨ds,hds⟩:∃ds,ds=(l.drop a).take (b+1 - a):=⟨_,rfl⟩
 have hdl:ds.length=b+1 - a:=by rw [hds,G90,G92];omega
 have hdv:∀t,a+t≤b→ds[t]?=some (cAt l (a+t)):=by
  intro t ht
  rw [hds,G88 (by omega),H00]
  exact S8 (by omega)
 have hslice:(l.drop q.First.toNat).take (q.Last.toNat - q.First.toNat)=ds:=by
  rw [hds,q1,q2,show ((b:Int)+1).toNat=b+1 by omega,show ((a:Nat):Int).toNat=a by omega]
 refine FnOk.intro Tryz.func133 (by decide) Z Z Z Z ?_
 refine k2 ?_
 refine A4 (D1 (Y6 4 Z Z Z) Z (D1 (G5 8 Z) Z (A6 ?_)))
 refine k1 (k2 ?_)
 refine A4 (A2 (A8 Z) Z (A2 (A8 Z) Z (A2 (A9 Z Z Z) Z (A2 (A8 Z) Z (A2 (A8 Z) Z (A2 (A9 Z Z Z) Z (A2 (I6 Z) Z (D1 (G5 9 Z) Z (F3 (B9 TySz.out Z Z Z Z Z Z) (A6 ?_))))))))))
 refine k1 (k2 ?_)
 refine J3 (G53 701 PatchLine 2 plineC 36 (kb:=9) (o:=2) Z Z Z) ?_
 refine A4 (A2 (A8 Z) Z (A2 (A8 Z) Z (A2 (A9 Z Z Z) Z (A2 (A5 Z Z) Z (A6 ?_)))))
 refine k1 (k2 (k2 ?_))
 refine A4 (A2 (A3 Z Z) Z (A2 (A8 Z) Z (A2 (A9 Z Z Z) Z (A2 (A8 Z) Z (A2 (A9 Z Z Z) Z (A2 (N9 Z (.pure _ _ _ _) Z Z (by (first | (rw [q1];omega) | (rw [q1,q2];omega) | (rw [q2];omega))) (by (first | (rw [q1];omega) | (rw [q1,q2];omega) | (rw [q2];omega))) (by (first | (rw [q1];omega) | (rw [q1,q2];omega) | (rw [q2];omega)))) Z ?_))))));refine A2 (E0 Z (.pure _ _ _ _)) Z (A2 (A3 Z Z) Z (A6 ?_))
 rw [hslice]
 refine k1 (k3 ?_)
 refine D9 (X:=Nat) (fun t=>([(2,C4 Str 1 I3 x),(3,C4 Str 1 I3 y),(4,.s (.one (.ref 4 0))),(8,.s (.one (.ref 8 0))),(9,.s (.one (.ref 9 0))),(10,C1 (O3 l q.Old.From a t)),(28,C4 Change 4 changeC ds),(29,C1 ds.length),(30,C1 t)],[(4,.box (pHunk q).s1.cells),(8,.box [.p (.v (.int .i64 0)),.p (.v (.int .i64 0)),.p (.v (.slice none 0 0))]),(9,.box [.p (.v (.int .i64 q.Old.From)),.p (.v (.int .i64 q.New.From)),.buf 701 PatchLine 2 plineC (L8 l x y q.Old.From a t)]),(701,.spare (L8 l x y q.Old.From a t).length 2 36)])) (fun t=>a+t≤b+1) (fun t=>b+1 - t) 0 (by omega) ?_ ?_
 ·have e1:O3 l q.Old.From a 0=q.Old.From:=if_pos rfl
  rw [e1]
  exact G48 ⟨le1 rfl,le1 rfl,le1 rfl,le1 rfl,le1 rfl,le1 rfl,le1 rfl,le1 rfl,le1 rfl,trivial⟩ ⟨rfl,rfl,rfl,rfl,trivial⟩
 intro t hat
 dsimp only at hat ⊢
 have hml:=B50 l x y q.Old.From a t
 have hml2:(L8 l x y q.Old.From a t).length≤4097*12288:=Nat.le_trans hml (Nat.mul_le_mul (by omega) (by omega))
 refine k2 ?_
 refine A4 (A2 (E9 Z Z) Z (A6 ?_))
 refine k1 (k2 ?_)
 refine B5 rfl (fun ht=>?_) (fun ht=>?_)
 ·have hlt2:a+t≤b:=by have:((t:Nat):Int) < ds.length:=A0 ht;omega
  obtain ⟨c,hc⟩:∃c,c=cAt l (a+t):=⟨_,rfl⟩
  have hcv:=hdv t hlt2
  rw [←hc] at hcv
  have hgc:=hsc.get (a+t) (by omega)
  rw [←hc] at hgc
  obtain ⟨⟨g1,g2⟩,⟨g3,g4⟩,⟨g5,g6⟩,⟨g7,g8⟩,g9,g10⟩:=hgc
  obtain ⟨i0,hi0⟩:∃i0,i0=O3 l q.Old.From a t:=⟨_,rfl⟩
  have hpos:0≤i0∧i0≤c.Old:=by
   rw [hi0,hc];unfold O3 Q6
   split
   ·rename_i h0;subst h0;exact ⟨q5,q6⟩
   ·have h4:=hsc.next (a+t - 1) (by omega)
    have h5:=hsc.get (a+t - 1) (by omega)
    rw [show a+t - 1+1=a+t by omega] at h4
    unfold F7 at h5;omega
  obtain ⟨ls,hls⟩:∃ls,ls=L8 l x y q.Old.From a t:=⟨_,rfl⟩
  obtain ⟨p1,hp1⟩:∃p1,p1=J6 32 (sub x i0 c.Old):=⟨_,rfl⟩
  obtain ⟨p2,hp2⟩:∃p2,p2=J6 45 (sub x c.Old (Q6 c)):=⟨_,rfl⟩
  obtain ⟨p3,hp3⟩:∃p3,p3=J6 43 (sub y c.New (c.New+c.NewLen)):=⟨_,rfl⟩
  have hsucc:L8 l x y q.Old.From a (t+1)=ls++p1++p2++p3:=by rw [hls,hp1,hp2,hp3,hi0,hc];rfl
  have hps:O3 l q.Old.From a (t+1)=Q6 c:=by rw [A60,hc]
  have l1:=V0 x i0 c.Old
  have l2:=V0 x c.Old (Q6 c)
  have l3:=V0 y c.New (c.New+c.NewLen)
  have m1:p1.length=(sub x i0 c.Old).length:=by rw [hp1,V8]
  have m2:p2.length=(sub x c.Old (Q6 c)).length:=by rw [hp2,V8]
  have hend:Q6 c=c.Old+c.OldLen:=rfl
  rw [←hls] at hml2 ⊢
  rw [←hi0]
  refine k5 (k1 (k2 (k3 (k2 ?_))))
  refine A4 (A2 (B1 Z (.pure _ _ _ _) Z (by omega) hcv) Z (A2 (E3 Z Z) Z (D1 (G5 12 Z) Z (F3 (B9 TySz.out Z Z Z Z Z Z) (A6 ?_)))))
  refine k1 (k2 ?_)
  refine J9 7 (by kernel_rfl) (by kernel_rfl) Z (A7 (A8 Z) Z Z (A7 (A9 Z Z Z) Z Z (A7 (A3 Z Z) Z Z (A7 (A3 Z Z) Z Z (A7 (A8 Z) Z Z (A7 (A9 Z Z Z) Z Z (A7 (N9 Z (.pure _ _ _ _) Z Z (by omega) (by omega) (by omega)) Z Z (F4 (T8 (A52 ls 32 (sub x i0 c.Old) Z (by omega)) Z Z Z ?_)))))))));rintro _ _ ⟨rfl,rfl⟩;refine ⟨_,rfl,?_⟩;refine A7 (A8 Z) Z Z (Y5 (B9 TySz.out Z Z Z Z Z Z) Z (F4 ?_))
  rw [←hp1]
  refine k1 (k2 ?_)
  refine A4 (A2 (A8 Z) Z (A2 (A9 Z Z Z) Z (A2 (A8 Z) Z (A2 (A9 Z Z Z) Z (A2 (C0 Z Z (by omega)) Z (A2 (A5 Z Z) Z (A6 ?_)))))))
  rw [show c.Old+c.OldLen=Q6 c from rfl]
  refine k1 (k2 ?_)
  refine J9 7 (by kernel_rfl) (by kernel_rfl) Z (A7 (A8 Z) Z Z (A7 (A9 Z Z Z) Z Z (A7 (A3 Z Z) Z Z (A7 (A8 Z) Z Z (A7 (A9 Z Z Z) Z Z (A7 (A3 Z Z) Z Z (A7 (N9 Z (.pure _ _ _ _) Z Z (by omega) (by omega) (by omega)) Z Z (F4 (T8 (A52 (ls++p1) 45 (sub x c.Old (Q6 c)) Z (by simp only [G79];omega)) Z Z Z ?_)))))))));rintro _ _ ⟨rfl,rfl⟩;refine ⟨_,rfl,?_⟩;refine A7 (A8 Z) Z Z (Y5 (B9 TySz.out Z Z Z Z Z Z) Z (F4 ?_))
  rw [←hp2]
  refine k1 ?_
  refine J9 11 (by kernel_rfl) (by kernel_rfl) Z (A7 (A8 Z) Z Z (A7 (A9 Z Z Z) Z Z (A7 (A3 Z Z) Z Z (A7 (A8 Z) Z Z (A7 (A9 Z Z Z) Z Z (A7 (A8 Z) Z Z (A7 (A9 Z Z Z) Z Z (A7 (A8 Z) Z Z (A7 (A9 Z Z Z) Z Z (A7 (C0 Z Z (by omega)) Z Z (A7 (N9 Z (.pure _ _ _ _) Z Z (by omega) (by omega) (by omega)) Z Z (F4 (T8 (A52 (ls++p1++p2) 43 (sub y c.New (c.New+c.NewLen)) Z (by simp only [G79];omega)) Z Z Z ?_)))))))))))));rintro _ _ ⟨rfl,rfl⟩;refine ⟨_,rfl,?_⟩;refine A7 (A8 Z) Z Z (Y5 (B9 TySz.out Z Z Z Z Z Z) Z (F4 ?_))
  rw [←hp3]
  refine k4 (k1 ?_)
  refine A4 (A2 (C0 Z Z (by omega)) Z (A2 (A3 Z Z) Z (A6 ?_)))
  refine k1 ?_
  refine ⟨t+1,by omega,by omega,?_⟩
  rw [hsucc,hps]
  exact G48 ⟨le1 rfl,le1 rfl,le1 rfl,le1 rfl,le1 rfl,le1 rfl,le1 rfl,le1 rfl,le1 rfl,trivial⟩ ⟨rfl,rfl,rfl,rfl,trivial⟩
 ·have htb:a+t=b+1:=by
   have h0:¬((t:Nat):Int) < ds.length:=A1 ht
   omega
  obtain ⟨i0,hi0⟩:∃i0,i0=O3 l q.Old.From a t:=⟨_,rfl⟩
  have hib:i0=(cAt l b).Old+(cAt l b).OldLen:=by
   rw [hi0];unfold O3 Q6
   rw [if_neg (by omega),show a+t - 1=b by omega]
  unfold F7 at hgb
  obtain ⟨ls,hls⟩:∃ls,ls=L8 l x y q.Old.From a t:=⟨_,rfl⟩
  have hG:F6 l x y q=⟨q.Old.From,q.New.From,ls++J6 32 (sub x i0 q.Old.To)⟩:=by
   rw [F6,q1,q2,show ((a:Nat):Int).toNat=a by omega,show ((b:Int)+1).toNat - a=t by omega,←hls,←hi0]
  have l1:=V0 x i0 q.Old.To
  rw [←hls] at hml2 ⊢
  rw [←hi0]
  refine k6 (k2 ?_)
  refine J9 8 (by kernel_rfl) (by kernel_rfl) Z (A7 (A8 Z) Z Z (A7 (A9 Z Z Z) Z Z (A7 (A3 Z Z) Z Z (A7 (A3 Z Z) Z Z (A7 (A8 Z) Z Z (A7 (A8 Z) Z Z (A7 (A9 Z Z Z) Z Z (A7 (N9 Z (.pure _ _ _ _) Z Z (by omega) (by omega) (by omega)) Z Z (F4 (T8 (A52 ls 32 (sub x i0 q.Old.To) Z (by omega)) Z Z Z ?_))))))))));rintro _ _ ⟨rfl,rfl⟩;refine ⟨_,rfl,?_⟩;refine A7 (A8 Z) Z Z (Y5 (B9 TySz.out Z Z Z Z Z Z) Z (F4 ?_))
  refine k1 (k2 ?_)
  refine A4 (A2 (D4 Z Z Z) Z (F3 (B9 TySz.out Z Z Z Z Z Z) (A6 ?_)))
  refine k1 (k10 ?_)
  exact B6 (rs:=[pPhunk (F6 l x y q)]) (by rw [hG];exact retc rfl rfl rfl rfl rfl) rfl
end Go.Proofs.YtbiadkkamhpdnaaGreatDoor
