
/- Walks of the program's functions. -/
import Derived.Test.YtmbpmaofnddkoaaGreatDoorFc
set_option linter.all false
namespace Go.Proofs.YtmbpmaofnddkoaaGreatDoor
open Go Go.AL
open Go.Proofs.Tryz (prog)
set_option maxRecDepth 100000
set_option maxHeartbeats 4000000
def EL(p:Patch)(k:Nat):Str:=(oH p++((p.Hunks.take k).map eK).flatten).flatten
theorem OJ(p:Patch)(k:Nat)(h:k<p.Hunks.length):EL p (k+1)=EL p k++(eK p.Hunks[k]).flatten:=by
 unfold EL;rw[QJ _ _ h];simp only[B64,B51]
def yU(b:List PatchLine)(n:Nat):Str:=((b.take n).map cU).flatten.flatten
theorem OK(b:List PatchLine)(n:Nat)(h:n<b.length):yU b (n+1)=yU b n++(cU b[n]).flatten:=by
 unfold yU;rw[QK _ _ h,B64]
theorem b7y{p:Prop}(h:p:=by simp only[B25,B31,List.length_nil];omega):p:=h
theorem OL(p:Patch)(M:PFit p)(A:∀h∈p.Hunks,(-4611686018427387904<=h.Old/\h.Old<=4611686018427387904)/\(-4611686018427387904<=h.New/\h.New<=4611686018427387904)):FnOk prog 57 [pPatch p] (fun rs=>rs=[G5 (p7 p)]):=by
 have af:=zM p.Hunks;have ab:=M.hunks;have ac:=M.old;have hpn:=M.new;have ad:=iD p.OldName;have ae:=iD p.NewName;have Z:=oI p;have F:EL p 0=[45,45,45,32]++dI p.OldName++[10,43,43,43,32]++dI p.NewName++[10]:=by
  unfold EL oH;simp
 have G:∀k,(EL p k).length<=33554446+mT p.Hunks:=fun k=>by
  have Q:=lS (p.Hunks.take k);have I:=CZ p.Hunks k;unfold EL;rw[B64,B25];omega
 refine FnOk.intro Tryz.func57 F5 A0 A0 A0 A0 (H2 ?_);refine B6 (V5 1 A0 A0 A0) A0 (R6 ?_);refine B6 (MI 700 A0) A0 (H2 ?_);refine C3 (B06 701 UInt8 1 RN 5 (kb:=700) (o:=1) A0 A0 A0) ?_;have H:=G 0;rw[F]at H;refine j3 10 E7 E7 A0 (H2 ?_);refine D2 (I2 (GR p.OldName B3) A0 A0) A0 A0 (D2 (l5 A0 A0 NZ) A0 A0 (H8 ?_));refine D2 (I2 (GR p.NewName B3) A0 A0) A0 A0 (H8 ?_);refine fL (d9 (xs:=[]) ⟨⟨_,.inl rfl,rfl⟩,rfl⟩ (by simp only[List.length_nil];omega)) A0 A0 A0 ?_;rintro _ _ ⟨rfl,rfl⟩;refine⟨_,rfl,?_⟩;refine F8 ?_;rw[<-F];refine U7 ?_;refine C1 (X:=Nat) (fun k=>([(3,.s (.one (.ref 700 0))),(20,B9 PatchHunk 3 phunkC p.Hunks),(21,B1 p.Hunks.length),(22,B1 k)],[(700,.tbx 184 [.ref 700 0,.buf 701 UInt8 1 RN (EL p k)]),(701,.spare (EL p k).length 1 5)])) (fun k=>k<=p.Hunks.length) (fun k=>p.Hunks.length-k) 0 (B37 _) (C6) ?_;intro k V;dsimp only at V ⊢;refine zc 5 (fun y=>?_) fun y=>?_
 ·have D:k<p.Hunks.length:=by have:=A1 y;omega
  have hv:p.Hunks[k]?=some p.Hunks[k]:=by simp[D]
  have w:p.Hunks[k]∈p.Hunks:=B32 D;have q:=OJ p k D;have O:=G k;obtain⟨h,hx⟩:∃x,x=p.Hunks[k]:=⟨_,rfl⟩
  rw[<-hx]at hv w q;have Q:=zL w;have h3:=lQ h.Lines;have h4:=wK h;have T:=A h w;unfold szH at Q;obtain⟨d,C⟩:∃d,d=EL p k:=⟨_,rfl⟩
  rw[<-C]at q O ⊢;refine J5 ?_;refine B6 (E6 5 A0) A0 (I0 ?_);refine F0 (BS h B3 T.1 T.2) (M9 (d9 (xs:=d) (s:=v7 h) ⟨⟨_,.inr rfl,rfl⟩,rfl⟩ B3) A0 A0 A0 (U7 ?_));refine C1 (X:=Nat) (fun n=>([(3,.s (.one (.ref 700 0))),(20,B9 PatchHunk 3 phunkC p.Hunks),(21,B1 p.Hunks.length),(22,B1 k),(30,B9 PatchLine 2 plineC h.Lines),(31,B1 h.Lines.length),(32,B1 n)],[(700,.tbx 184 [.ref 700 0,.buf 701 UInt8 1 RN (d++v7 h++yU h.Lines n)]),(701,.spare (d++v7 h++yU h.Lines n).length 1 5)])) (fun n=>n<=h.Lines.length) (fun n=>h.Lines.length-n) 0 (B37 _) ?_ ?_
  ·have e:d++v7 h++yU h.Lines 0=d++v7 h:=by simp[yU]
   rw[e];exact C6
  intro n L;dsimp only at L ⊢;have Y:=lR (h.Lines.take n);have W:=QG h.Lines n;have R:(yU h.Lines n).length<=(h.Lines.map FL).sum:=by unfold yU;omega
  refine zc 5 (fun y=>?_) fun y=>?_
  ·have v:n<h.Lines.length:=by have:=A1 y;omega
   have N:h.Lines[n]?=some h.Lines[n]:=by simp[v]
   have E:=zK (B32 v);have j:=OK h.Lines n v;obtain⟨x,P⟩:∃x,x=h.Lines[n]:=⟨_,rfl⟩
   rw[<-P]at N E j;obtain⟨B,z⟩:∃B,B=d++v7 h++yU h.Lines n:=⟨_,rfl⟩
   have U:B.length<=33554446+mT p.Hunks+52+mT p.Hunks:=by rw[z,B25,B25];omega
   rw[<-z];have S:markS.length=29:=rfl;refine J5 ?_;refine B6 (E6 7 A0) A0 (N0 ?_);refine M9 (iU (xs:=B) (c:=x.Kind) ⟨⟨_,.inr rfl,rfl⟩,rfl⟩ B3) A0 A0 A0 (I0 ?_);refine M9 (d9 (xs:=B++[x.Kind]) (s:=x.Text) ⟨⟨_,.inr rfl,rfl⟩,rfl⟩ b7y) A0 A0 A0 (I0 ?_);refine F0 (pJ x.Text B3) ?_;refine zc 2 (fun y=>?_) fun y=>?_
   ·have I:ended x.Text=false:=by simpa using y
    have e:d++v7 h++yU h.Lines (n+1)=B++[x.Kind]++x.Text++markS:=by
     rw[j,z,cU,I];simp
    skip;refine F8 ?_;refine M9 (d9 (xs:=B++[x.Kind]++x.Text) (s:=markS) ⟨⟨_,.inr rfl,rfl⟩,rfl⟩ b7y) A0 A0 A0 (I0 ?_);refine⟨n+1,by omega,by omega,?_⟩;rw[e];exact C6
   ·have I:ended x.Text=true:=by simpa using y
    have e:d++v7 h++yU h.Lines (n+1)=B++[x.Kind]++x.Text:=by
     rw[j,z,cU,I];simp
    refine I0 ?_;refine⟨n+1,by omega,by omega,?_⟩;rw[e];exact C6
  ·have K:n=h.Lines.length:=by have:=A2 y;omega
   subst K;have e:EL p (k+1)=d++v7 h++yU h.Lines h.Lines.length:=by
    rw[q,eK,yU,B38];simp
   rw[<-e];refine I0 ?_;exact⟨k+1,by omega,by omega,C6⟩
 ·have J:k=p.Hunks.length:=by have:=A2 y;omega
  subst J;have e:EL p p.Hunks.length=p7 p:=by unfold EL p7 uL;rw[B38]
  rw[e];refine H8 ?_;refine FX (k:=700) (k':=701) ⟨_,rfl,rfl,rfl⟩ qT A0 A0 A0 A0 A0 (.inr A0) A0 (H8 ?_);exact A8 M3 rfl
theorem OM(p:Patch)(C:PFit p)(o:∀h∈p.Hunks,(-4611686018427387904<=h.Old/\h.Old<=4611686018427387904)/\(-4611686018427387904<=h.New/\h.New<=4611686018427387904)):FnOk prog 27 [pPatch p] (fun rs=>rs=[E2 (p7 p).length]):=by
 have R:=zM p.Hunks;have P:=C.hunks;have Q:=C.old;have hpn:=C.new;have O:=oI p;have E:(p7 ⟨p.OldName,p.NewName,[]⟩).length=(EL p 0).length:=by
  unfold p7 EL uL oH;simp
 have G:∀k,(EL p k).length<=33554446+mT p.Hunks:=fun k=>by
  have I:=lS (p.Hunks.take k);have y:=CZ p.Hunks k;unfold EL;rw[B64,B25];omega
 refine FnOk.intro Tryz.func27 F5 A0 A0 A0 A0 (H2 ?_);refine B6 (V5 1 A0 A0 A0) A0 (U7 ?_);refine zZ (A99 PatchHunk 3 phunkC 12 2 A0 A0) (y5 (OL ⟨p.OldName,p.NewName,[]⟩ ⟨by dsimp only;omega,by dsimp only;omega,by simp[mT]⟩ eR) A0 A0 A0 ?_);rintro _ rfl;refine H8 ?_;rw[E];refine U7 ?_;refine C1 (X:=Nat) (fun k=>([(3,B1 (EL p k).length),(16,B9 PatchHunk 3 phunkC p.Hunks),(17,B1 p.Hunks.length),(18,B1 k)],[])) (fun k=>k<=p.Hunks.length) (fun k=>p.Hunks.length-k) 0 (B37 _) (C6) ?_;intro k L;dsimp only at L ⊢;have F:=G k;refine zc 5 (fun j=>?_) fun j=>?_
 ·have q:k<p.Hunks.length:=by have:=A1 j;omega
  have S:p.Hunks[k]?=some p.Hunks[k]:=by simp[q]
  have f:p.Hunks[k]∈p.Hunks:=B32 q;have i:=OJ p k q;obtain⟨h,T⟩:∃x,x=p.Hunks[k]:=⟨_,rfl⟩
  rw[<-T]at S f i;have I:=zL f;have U:=lQ h.Lines;have V:=wK h;have K:=o h f;unfold szH at I;obtain⟨a,c⟩:∃a,a=(EL p k).length:=⟨_,rfl⟩
  rw[<-c]at F ⊢;have w:(EL p (k+1)).length=a+(v7 h).length+(yU h.Lines h.Lines.length).length:=by
   rw[i,eK,yU,B38,c];simp;omega
  refine J5 ?_;refine B6 (E6 5 A0) A0 (N0 ?_);refine F0 (BS h B3 K.1 K.2) (eI ?_);refine C1 (X:=Nat) (fun n=>([(3,B1 (a+(v7 h).length+(yU h.Lines n).length:Nat)),(16,B9 PatchHunk 3 phunkC p.Hunks),(17,B1 p.Hunks.length),(18,B1 k),(28,B9 PatchLine 2 plineC h.Lines),(29,B1 h.Lines.length),(30,B1 n)],[])) (fun n=>n<=h.Lines.length) (fun n=>h.Lines.length-n) 0 (B37 _) ?_ ?_
  ·have e:((a+(v7 h).length+(yU h.Lines 0).length:Nat):Int)=(a:Int)+((v7 h).length:Int):=by simp[yU]
   rw[e];exact C6
  intro n B;dsimp only at B ⊢;have N:=lR (h.Lines.take n);have M:=QG h.Lines n;have J:(yU h.Lines n).length<=(h.Lines.map FL).sum:=by unfold yU;omega
  refine zc 5 (fun j=>?_) fun j=>?_
  ·have d:n<h.Lines.length:=by have:=A1 j;omega
   have D:h.Lines[n]?=some h.Lines[n]:=by simp[d]
   have r:=zK (B32 d);have b:=OK h.Lines n d;obtain⟨x,H⟩:∃x,x=h.Lines[n]:=⟨_,rfl⟩
   rw[<-H]at D r b;have v:markS.length=29:=rfl;refine J5 ?_;refine B6 (E6 7 A0) A0 (zz 16 ?_);refine F0 (pJ x.Text B3) ?_;refine zc 2 (fun j=>?_) fun j=>?_
   ·have y:ended x.Text=false:=by simpa using j
    have e:((a+(v7 h).length+(yU h.Lines (n+1)).length:Nat):Int)=((a+(v7 h).length+(yU h.Lines n).length:Nat):Int)+(1+(x.Text.length:Int))+29:=by
     rw[b,cU,y];simp[v];omega
    skip;refine U7 ?_;refine⟨n+1,by omega,by omega,?_⟩;rw[e];exact C6
   ·have y:ended x.Text=true:=by simpa using j
    have e:((a+(v7 h).length+(yU h.Lines (n+1)).length:Nat):Int)=((a+(v7 h).length+(yU h.Lines n).length:Nat):Int)+(1+(x.Text.length:Int)):=by
     rw[b,cU,y];simp;omega
    refine I0 ?_;refine⟨n+1,by omega,by omega,?_⟩;rw[e];exact C6
  ·have A:n=h.Lines.length:=by have:=A2 j;omega
   subst A;rw[<-w];refine I0 ?_;exact⟨k+1,by omega,by omega,C6⟩
 ·have z:k=p.Hunks.length:=by have:=A2 j;omega
  subst z;have e:EL p p.Hunks.length=p7 p:=by unfold EL p7 uL;rw[B38]
  rw[e];refine J5 ?_;exact A8 M3 rfl
abbrev l6(e:Int)(o:Bool):Ob:=.box [.p (.v (.int .i64 e)),.p (.v (.bool o))]
theorem ON{gf:Fr}(h J:PatchHunk)(i j:Int)(o n:Bool)(hl:(h.Lines.map FL).sum<=268435456)(hi:0<=i/\i<=8192)(hj:0<=j/\j<=8192)(M:H7 3 gf=true)(N:H7 8 gf=true) :
  AL.Met prog 138 [(pPhunk h).s1,.one (.ref 710 0),.one (.ref 711 0)] gf [(6,.box (pPhunk J).s1.cells),(710,l6 i o),(711,l6 j n)] []
   (fun rs ob'=>∃b,rs=[.one (.p (.v (.bool b)))]/\b=(decide (¬Y9 i j h)&&match bV o n h.Lines with
    | none=>false
    | some _=>decide (h.Old+M6 h<=4096/\h.New+P8 h<=4096)) /\
    (b=true->∃U T,bV o n h.Lines=some (U,T)/\ob'=[(6,.box (pPhunk J).s1.cells),(710,l6 (h.Old+M6 h) U),(711,l6 (h.New+P8 h) T)])):=by
 refine AL.Met.introH Tryz.func138 F5 rfl rfl rfl (fun K=>?_);refine H2 ?_;refine B6 (V5 3 A0 A0 (show ((H7 3 gf&&true)&&true)=true by rw[M];rfl)) A0 ?_;refine zz 16 ?_;refine G6 A0 A0 (fun B=>by rw[B];exact sW A0 A0) A0 A0 ?_;refine R6 ?_;refine G6 A0 A0 (fun B=>by rw[B];exact sW A0 A0) A0 A0 ?_;refine I0 ?_;refine G6 A0 A0 (fun B=>by rw[B];exact C9 A0) A0 A0 ?_;refine X0 ?_;refine G6 A0 A0 (fun B=>by rw[B];exact C9 A0) A0 A0 ?_;refine H2 ?_;refine G6 A0 A0 (fun B=>by have P:=B;(try simp at P);rw[B];exact S7 A0 A0 B3) A0 A0 ?_;refine H8 ?_;refine G6 A0 A0 (fun B=>by rw[B];exact C9 A0) A0 A0 ?_;refine H2 ?_;refine G6 A0 A0 (fun B=>by have P:=B;(try simp at P);rw[B];exact S7 A0 A0 B3) A0 A0 ?_;refine G6 A0 A0 (fun B=>by rw[B];exact zT A0 A0) A0 A0 ?_;refine zc 2 (fun w=>?_) fun w=>?_
 ·simp only[or_pick]at w;have hb:Y9 i j h:=A1 w;refine I0 ?_;refine D7 Y5 bZ (fun _ _ h=>h) ⟨false,rfl,by rw[A4 (fun C=>C hb)];rfl,fun C=>by cases C⟩
 ·simp only[or_pick]at w;have hb:¬Y9 i j h:=A2 w;have ab:=lQ h.Lines;refine R9 ?_;refine C1 (X:=Nat×Bool×Bool) (fun z=>([(1,.s (.one (.ref 710 0))),(2,.s (.one (.ref 711 0))),(3,.s (.one (.ref 3 0))),(56,B9 PatchLine 2 plineC h.Lines),(57,B1 h.Lines.length),(58,B1 z.1)]++gf,[(3,.box (pPhunk h).s1.cells),(6,.box (pPhunk J).s1.cells),(710,l6 i z.2.1),(711,l6 j z.2.2)])) (fun z=>z.1<=h.Lines.length/\bV o n h.Lines=bV z.2.1 z.2.2 (h.Lines.drop z.1)) (fun z=>h.Lines.length-z.1) (0,o,n) ⟨B37 _,rfl⟩ ?_ ?_
  ·exact A91 lf K L6 (fun _ _ C=>C)
  rintro⟨k,ok,F⟩ ⟨Z,A⟩;dsimp only at Z A ⊢;refine zc 5 (fun w=>?_) fun w=>?_
  ·have H:k<h.Lines.length:=by have:=A1 w;omega
   have hv:h.Lines[k]?=some h.Lines[k]:=by simp[H]
   have I:=zK (B32 H);rw[B40 H,bV]at A;obtain⟨x,hx⟩:∃x,x=h.Lines[k]:=⟨_,rfl⟩
   rw[<-hx]at hv I A;refine J5 ?_;refine B6 (E6 8 (show ((H7 8 gf&&true)=true) by rw[N];rfl)) A0 ?_;refine H8 ?_;refine d7 ([(1,.s (.one (.ref 710 0))),(2,.s (.one (.ref 711 0))),(3,.s (.one (.ref 3 0))),(8,.s (.one (.ref 8 0))),(56,B9 PatchLine 2 plineC h.Lines),(57,B1 h.Lines.length),(58,B1 k)]++gf) [(8,.box [.p (.v (.int .u8 x.Kind.toNat)),.p (.v (.string ⟨x.Text.toArray⟩))]),(3,.box (pPhunk h).s1.cells),(6,.box (pPhunk J).s1.cells),(710,l6 i ok),(711,l6 j F)] (A91 lf K b0x (ObIn.spec ⟨rfl,rfl,rfl,rfl,rfl,trivial⟩)) ?_
   have Q:∀{b:Bool},b=(decide (¬Y9 i j h)&&match bV o n h.Lines with
    | none=>false
    | some _=>decide (h.Old+M6 h<=4096/\h.New+P8 h<=4096))->bV o n h.Lines=none->b=false:=fun V W=>by rw[V,W];simp
   by_cases G:x.Kind≠43
   ·have d:(x.Kind.toNat:Int)≠43:=(decide_eq_decide.1 (gY x.Kind 43)).2 G;cases ok with
    | true =>
     rw[A5 ⟨G,rfl⟩]at A;refine I0 ?_;refine E4 A0 A0 A0 (by simp[d]) (F8 ?_);refine E4 A0 A0 A0 (by simp[d]) (F8 ?_);refine E4 A0 A0 A0 (by simp[d]) (F8 ?_);refine E4 A0 A0 A0 (by simp[d]) (M9 (jZ (k:=710) (e:=i) (o:=true) A0 B3) A0 A0 A0 (E4 A0 A0 A0 (by simp[d]) (H8 ?_)));refine H5 A0 A0 A0 (by simp[d]) A0 (H5 A0 A0 A0 (by simp[d]) A0 (H5 A0 A0 A0 (by simp[d]) A0 (H5 A0 A0 A0 (by simp[d]) A0 (M4 (s:=.any) A0 A0 A0 .un A0 (fun h=>absurd h F5) (M4 (s:=.any) A0 A0 A0 .un A0 (fun h=>absurd h F5) (M4 (s:=.any) A0 A0 A0 .un A0 (fun h=>absurd h F5) (M4 (s:=.any) A0 A0 A0 .un A0 (fun h=>absurd h F5) (M4 (s:=.any) A0 A0 A0 .un A0 (fun h=>absurd h F5) (H5 A0 A0 A0 (by simp[d]) A0 (A9 (Y2 A0 ((by simp[d])) A0) A0 ?_))))))))));refine zc 1 (fun w=>?_) fun w=>?_
     ·refine I0 ?_;refine D7 Y5 bZ (fun _ _ h=>h) ⟨false,rfl,by rw[A];simp,fun C=>by cases C⟩
     ·cases w
    | false =>
     rw[A6 eR]at A;by_cases E:x.Kind≠45
     ·have q:(x.Kind.toNat:Int)≠45:=(decide_eq_decide.1 (gY x.Kind 45)).2 E;refine I0 ?_;refine E4 A0 A0 A0 (by simp[d]) (F8 ?_);refine E4 A0 A0 A0 (by simp[d]) (F8 ?_);refine E4 A0 A0 A0 (by simp[d]) (F8 ?_);refine E4 A0 A0 A0 (by simp[d]) (M9 (jZ (k:=710) (e:=i) (o:=false) A0 B3) A0 A0 A0 (E4 A0 A0 A0 (by simp[d]) (H8 ?_)));refine E4 A0 A0 A0 (by simp[d]) (F8 ?_);refine E4 A0 A0 A0 (by simp[d]) (F8 ?_);refine E4 A0 A0 A0 (by simp[d]) (F8 ?_);refine E4 A0 A0 A0 (by simp[d]) (F8 ?_);refine E4 A0 A0 A0 (by simp[d,q]) (F8 ?_);refine E4 A0 A0 A0 (by simp[d,q]) (F8 ?_);refine E4 A0 A0 A0 (by simp[d,q]) (F8 ?_);refine E4 A0 A0 A0 (by simp[d,q]) (M9 (jZ (k:=711) (e:=j) (o:=F) A0 B3) A0 A0 A0 (E4 A0 A0 A0 (by simp[d,q]) (F8 ?_)));refine E4 A0 A0 A0 (by simp[d]) ?_;refine zc 3 (fun w=>?_) fun w=>?_
      ·have D:F=true:=by revert w;simp[d,q]
       rw[A5 ⟨E,D⟩]at A;refine I0 ?_;refine D7 Y5 bZ (fun _ _ h=>h) ⟨false,rfl,by rw[A];simp,fun C=>by cases C⟩
      ·have D:F=false:=by revert w;simp[d,q]
       rw[A6 (by simp[D]),A5 G,A5 E]at A;refine I0 ?_;exact⟨(k+1,!ended x.Text,!ended x.Text),⟨by dsimp only;omega,A⟩,by dsimp only;omega,A91 lf K b0x (ObIn.spec ⟨rfl,rfl,rfl,rfl,trivial⟩)⟩
     ·have q:(x.Kind.toNat:Int)=45:=B84.1 (fun C=>E ((decide_eq_decide.1 (gY x.Kind 45)).1 C));refine I0 ?_;refine E4 A0 A0 A0 (by simp[d]) (F8 ?_);refine E4 A0 A0 A0 (by simp[d]) (F8 ?_);refine E4 A0 A0 A0 (by simp[d]) (F8 ?_);refine E4 A0 A0 A0 (by simp[d]) (M9 (jZ (k:=710) (e:=i) (o:=false) A0 B3) A0 A0 A0 (E4 A0 A0 A0 (by simp[d]) (H8 ?_)));refine E4 A0 A0 A0 (by simp[d]) (F8 ?_);refine E4 A0 A0 A0 (by simp[d]) (F8 ?_);refine E4 A0 A0 A0 (by simp[d]) (F8 ?_);refine E4 A0 A0 A0 (by simp[d]) (F8 ?_);refine H5 A0 A0 A0 (by simp[d,q]) A0 (H5 A0 A0 A0 (by simp[d,q]) A0 (H5 A0 A0 A0 (by simp[d,q]) A0 (H5 A0 A0 A0 (by simp[d,q]) A0 (H5 A0 A0 A0 (by simp[d,q]) A0 (E4 A0 A0 A0 (by simp[d]) (A9 (Y3 A0 ((by simp[d,q])) A0) A0 ?_))))));refine zc 2 (fun w=>?_) fun w=>?_
      ·exfalso;revert w;simp[d,q]
      ·rw[A6 (by simp[E]),A5 G,A6 E]at A;refine I0 ?_;exact⟨(k+1,!ended x.Text,F),⟨by dsimp only;omega,A⟩,by dsimp only;omega,A91 lf K b0x (ObIn.spec ⟨rfl,rfl,rfl,rfl,trivial⟩)⟩
   ·have E:x.Kind≠45:=by rw[B84.1 G];decide
    have d:(x.Kind.toNat:Int)=43:=B84.1 (fun C=>G ((decide_eq_decide.1 (gY x.Kind 43)).1 C));have q:(x.Kind.toNat:Int)≠45:=(decide_eq_decide.1 (gY x.Kind 45)).2 E;rw[A6 (by simp[G])]at A;refine I0 ?_;refine H5 A0 A0 A0 (by simp[d]) A0 (H5 A0 A0 A0 (by simp[d]) A0 (H5 A0 A0 A0 (by simp[d]) A0 (H5 A0 A0 A0 (by simp[d]) A0 (H5 A0 A0 A0 (by simp[d]) A0 (A9 (Y3 A0 ((by simp[d])) A0) A0 (F8 ?_))))));refine E4 A0 A0 A0 (by simp[d]) (F8 ?_);refine E4 A0 A0 A0 (by simp[d]) (F8 ?_);refine E4 A0 A0 A0 (by simp[d]) (F8 ?_);refine E4 A0 A0 A0 (by simp[d]) (F8 ?_);refine E4 A0 A0 A0 (by simp[d,q]) (F8 ?_);refine E4 A0 A0 A0 (by simp[d,q]) (F8 ?_);refine E4 A0 A0 A0 (by simp[d,q]) (F8 ?_);refine E4 A0 A0 A0 (by simp[d,q]) (M9 (jZ (k:=711) (e:=j) (o:=F) A0 B3) A0 A0 A0 (E4 A0 A0 A0 (by simp[d,q]) (F8 ?_)));refine E4 A0 A0 A0 (by simp[d]) ?_;refine zc 3 (fun w=>?_) fun w=>?_
    ·have D:F=true:=by revert w;simp[d,q]
     rw[A5 ⟨E,D⟩]at A;refine I0 ?_;refine D7 Y5 bZ (fun _ _ h=>h) ⟨false,rfl,by rw[A];simp,fun C=>by cases C⟩
    ·have D:F=false:=by revert w;simp[d,q]
     rw[A6 (by simp[D]),A6 G,A5 E]at A;refine I0 ?_;exact⟨(k+1,ok,!ended x.Text),⟨by dsimp only;omega,A⟩,by dsimp only;omega,A91 lf K b0x (ObIn.spec ⟨rfl,rfl,rfl,rfl,trivial⟩)⟩
  ·have O:k=h.Lines.length:=by have:=A2 w;omega
   subst O;rw[B53 (B29 _),bV]at A;have Y:(0<=h.Old/\h.Old<=4096)/\(0<=h.New/\h.New<=4096):=by unfold Y9 at hb;simp only[not_or]at hb;omega
   have ad:=O8 h.Lines 43;have ac:=O8 h.Lines 45;have S:M6 h<=h.Lines.length/\0<=M6 h:=by unfold M6;omega
   have R:P8 h<=h.Lines.length/\0<=P8 h:=by unfold P8;omega
   refine R6 ?_;refine F0 (HD h B3) (J5 ?_);have L:decide (¬Y9 i j h)=true:=A3 hb;refine AJ 12 [(101,.s (.one (.ref 710 0))),(95,B1 (h.Old+M6 h))] E7 E7 A0 (dO TySz.out A0 A0 A0 A0 A0 A0) A0 A0 (mI (C4 A0 A0) A0 (C4 A0 A0) (mI (C4 A0 A0) A0 (C4 A0 A0) (mI (D3 A0) A0 (D3 A0) (mI (D1 A0 A0 A0) A0 (D1 A0 A0 A0) (mI (C4 A0 A0) A0 (C4 A0 A0) (mI (X6 A0 A0 B3) A0 (X6 A0 A0 B3) (mI (D3 A0) A0 (D3 A0) (mI (D1 A0 A0 A0) A0 (D1 A0 A0 A0) (mI (C4 A0 A0) A0 (C4 A0 A0) (mI (X6 A0 A0 B3) A0 (X6 A0 A0 B3) (mI (C9 A0) A0 (C9 A0) (mI (D3 A0) A0 (D3 A0) (s_nil ⟨rfl,rfl,trivial⟩ (zz 13 ?_))))))))))))));refine E3 A0 A0 A0 A0 (fun B=>by rw[B];exact C9 A0) ?_;refine J5 ?_;refine D7 (ob':=[(6,.box (pPhunk J).s1.cells),(710,l6 (h.Old+M6 h) ok),(711,l6 (h.New+P8 h) F)]) Y5 bZ (ObIn.spec ⟨rfl,rfl,rfl,trivial⟩) ⟨_,rfl,?_,fun C=>⟨ok,F,A,rfl⟩⟩;rw[A,L];simp only[and_pick,B79]
theorem A60(a:List PatchHunk)(N:mT a<=268435456):FnOk prog 102 [pPhunks a] (fun U=>U=[F6 (bS a)]):=by
 have M:=zM a;rw[<-A16];refine FnOk.intro Tryz.func102 F5 A0 A0 A0 A0 (N0 ?_);refine B6 (E6 710 A0) A0 (B6 (E6 711 A0) A0 (U7 ?_));refine C1 (X:=Nat×(Int×Int)×Bool×Bool) (fun z=>([(3,.s (.one (.ref 710 0))),(4,.s (.one (.ref 711 0))),(7,B9 PatchHunk 3 phunkC a),(8,B1 a.length),(9,B1 z.1)],[(710,l6 z.2.1.1 z.2.2.1),(711,l6 z.2.1.2 z.2.2.2)])) (fun z=>z.1<=a.length/\((0<=z.2.1.1/\z.2.1.1<=8192)/\(0<=z.2.1.2/\z.2.1.2<=8192))/\jH 0 0 false false a=jH z.2.1.1 z.2.1.2 z.2.2.1 z.2.2.2 (a.drop z.1)) (fun z=>a.length-z.1) (0,(0,0),false,false) ⟨B37 _,by decide,rfl⟩ (C6) ?_;rintro⟨k,⟨i,j⟩,o,n⟩ ⟨L,⟨F,G⟩,d⟩;dsimp only at L F G d ⊢;refine zc 5 (fun m=>?_) fun m=>?_
 ·have t:k<a.length:=by have:=A1 m;omega
  have O:a[k]?=some a[k]:=by simp[t]
  have p:a[k]∈a:=B32 t;rw[B40 t,jH]at d;obtain⟨h,P⟩:∃x,x=a[k]:=⟨_,rfl⟩
  rw[<-P]at O p d;have J:=zL p;have V:=lQ h.Lines;unfold szH at J;refine J5 ?_;refine B6 (E6 6 A0) A0 (H8 ?_);refine d7 [(3,.s (.one (.ref 710 0))),(4,.s (.one (.ref 711 0))),(6,.s (.one (.ref 6 0))),(7,B9 PatchHunk 3 phunkC a),(8,B1 a.length),(9,B1 k)] [(6,.box (pPhunk h).s1.cells),(710,l6 i o),(711,l6 j n)] (C6) ?_;cases hpr:(h.Lines.all aB&&l4 h.Lines) with
  | false =>
   rw[hpr]at d;refine H2 ?_;refine F0 (BT h B3) (H2 ?_);refine H5 A0 A0 A0 (by rw[hpr];decide) A0 ?_;refine H5 A0 A0 A0 (by rw[hpr];decide) A0 ?_;refine H5 A0 A0 A0 (by rw[hpr];decide) A0 ?_;refine A9 (Y2 A0 ((by rw[hpr];rfl)) A0) A0 ?_;refine zc 1 (fun m=>?_) fun m=>?_
   ·refine I0 ?_;exact A8 M3 (by rw[d];rfl)
   ·cases m
  | true =>
   rw[hpr]at d;refine H2 ?_;refine F0 (BT h B3) (H2 ?_);refine E4 A0 A0 A0 (by rw[hpr];rfl) ?_;refine F8 ?_;refine E4 A0 A0 A0 (by rw[hpr];rfl) ?_;refine tE (ON h h i j o n B3 F G A0 A0) A0 A0 A0 ?_;rintro _ _ ⟨b,rfl,hb,u⟩;refine E4 A0 A0 A0 (by rw[hpr];rfl) ?_;refine F8 ?_;refine A9 (Y3 A0 ((by rw[hpr];rfl)) A0) A0 ?_;refine F8 ?_;refine zc 0 (fun m=>?_) fun m=>?_
   ·have A:b=false:=by simpa using m
    refine I0 ?_;refine A8 M3 ?_;subst A;rw[d];cases B:decide (¬Y9 i j h) with
    | false=>rfl
    | true =>
     rw[B]at hb;cases D:bV o n h.Lines with
     | none=>rfl
     | some q =>
      rw[D]at hb;obtain⟨S,T⟩:=q;have g:decide (h.Old+M6 h<=4096/\h.New+P8 h<=4096)=false:=hb.symm;show [F6 false]=[F6 (decide (h.Old+M6 h<=4096/\h.New+P8 h<=4096)&&jH (h.Old+M6 h) (h.New+P8 h) S T (List.drop (k+1) a))]
      rw[g];rfl
   ·have w:b=true:=by simpa using m
    obtain⟨R,Q,E,rfl⟩:=u w;rw[w,E]at hb;have g:=(B24 _ _ ▸ hb.symm:_/\_)
    have v:=A1 g.1;have y:=A1 g.2;rw[E,g.1]at d;simp only[B79]at d;rw[A3 y,B79]at d;have K:(0<=h.Old/\h.Old<=4096)/\(0<=h.New/\h.New<=4096):=by unfold Y9 at v;simp only[not_or]at v;omega
    have I:0<=M6 h:=by unfold M6;omega
    have H:0<=P8 h:=by unfold P8;omega
    refine I0 ?_;exact⟨(k+1,(h.Old+M6 h,h.New+P8 h),R,Q),⟨by dsimp only;omega,by dsimp only;omega,d⟩,by dsimp only;omega,C6⟩
 ·have C:k=a.length:=by have:=A2 m;omega
  subst C;rw[B53 (B29 _),jH]at d;refine N0 ?_;exact A8 M3 (by rw[d])
theorem ZF(p:Patch)(j:mT p.Hunks<=268435456):FnOk prog 60 [pPatch p] (fun u=>u=[E2 (Q6 p)]):=by
 refine FnOk.intro Tryz.func60 F5 A0 A0 A0 A0 (H2 ?_);refine B6 (V5 1 A0 A0 A0) A0 (X0 ?_);refine F0 (pL p.OldName) (R6 ?_);refine E3 A0 A0 A0 A0 (fun g=>by have q:=g;(try simp at q);rw[g];exact I2 (pL p.NewName) A0 A0) ?_;refine zc 4 (fun a=>?_) fun a=>?_
 ·simp only[ZB,or_pick]at a;have h:=A1 a;refine I0 ?_;exact A8 M3 (by rw[Q6,A5 h])
 ·simp only[ZB,or_pick]at a;have h:=A2 a;refine R6 ?_;refine F0 (A60 p.Hunks j) ?_;refine zc 3 (fun a=>?_) fun a=>?_
  ·have b:bS p.Hunks=false:=by simpa using a
   refine I0 ?_;exact A8 M3 (by rw[Q6,A6 h,A5 b])
  ·have b:bS p.Hunks=true:=by simpa using a
   have s:=uN b;have d:c9 p.OldName=true:=by by_cases c:c9 p.OldName=true;exact c;exact absurd (.inl (by simpa using c)) h
   have e:c9 p.NewName=true:=by by_cases c:c9 p.NewName=true;exact c;exact absurd (.inr (by simpa using c)) h
   have m:=A1 d;have o:=A1 e;have f:PFit p:=⟨by omega,by omega,j⟩
   refine H8 ?_;refine y5 (OM p f (fun x t=>by have:=s x t;omega)) A0 A0 A0 ?_;rintro _ rfl;refine zc 3 (fun a=>?_) fun a=>?_
   ·have k:=A1 a;refine I0 ?_;exact A8 M3 (by rw[Q6,A6 h,A6 (by rw[b];decide),A5 B3])
   ·have k:=A2 a;refine N0 ?_;exact A8 M3 (by rw[Q6,A6 h,A6 (by rw[b];decide),A6 B3])
theorem check12_good{p:Patch}(b:¬Q6 p≠0):bS p.Hunks=true:=by
 by_cases a:bS p.Hunks=true
 ·exact a
 ·exfalso;apply b;unfold Q6;split
  ·decide
  ·rw[A5 (by simpa using a)];decide
def X3(p:Patch)(a:Str):List Str×Int:=if Q6 p≠0 then ([],Q6 p) else P6 a
theorem OO(p:Patch)(a:Str)(d:mT p.Hunks<=268435456)(hb:a.length<=536870912):FnOk prog 28 [pPatch p,G5 a] (fun e=>e=[aI (X3 p a).1,E2 (X3 p a).2]):=by
 refine FnOk.intro Tryz.func28 F5 A0 A0 A0 A0 (H2 ?_);refine B6 (V5 2 A0 A0 A0) A0 (J5 ?_);refine F0 (ZF p d) ?_;refine zc 7 (fun c=>?_) fun c=>?_
 ·have b:Q6 p≠0:=A1 c;refine H8 ?_;refine A9 (K8 _ 1 K6) A0 (H8 ?_);exact A8 nP (by rw[X3,A5 b])
 have b:¬Q6 p≠0:=A2 c;refine R6 ?_;refine F0 (jV a hb) (N0 ?_);exact A8 nP (by rw[X3,A6 b])
theorem OP(p:Patch)(a:Str):sK p a=if (X3 p a).2≠0 then ((0:Int),(X3 p a).2) else (((FM p.Hunks (X3 p a).1:Nat):Int),(0:Int)):=by
 unfold sK X3;by_cases h:Q6 p≠0
 ·simp only[A5 h]
 ·simp only[A6 h]
theorem xJ{p:Patch}{a:Str}(h:¬(X3 p a).2≠0):bS p.Hunks=true/\(X3 p a).1=D5 a/\(X3 p a).1.length<=4096/\¬Q6 p≠0:=by
 unfold X3 at h ⊢;by_cases b:Q6 p≠0
 ·rw[A5 b]at h;exact absurd b h
 rw[A6 b]at h ⊢;refine⟨check12_good b,?_,QE a,b⟩;unfold P6 at h ⊢;split
 ·rename_i c;rw[A5 c]at h;exact absurd F5 h
 ·rfl
theorem KI(p:Patch)(a:Str):fB p a=if (X3 p a).2≠0 then (([]:Str),(X3 p a).2) else if FM p.Hunks (X3 p a).1<p.Hunks.length then ([],140) else zN p.Hunks (X3 p a).1:=by
 unfold fB;rw[OP];by_cases h:(X3 p a).2≠0
 ·simp only[A5 h]
 ·obtain⟨_,b,_⟩:=xJ h;simp only[A6 h];rw[b];simp
theorem A61(a:List Str):(if cP a=false then ([],140) else y9 a)=if (y9 a).2=2 then (([]:Str),(140:Int)) else y9 a:=by
 unfold y9;by_cases b:cP a=false
 ·rw[A5 b,A5 b,A5 rfl]
 ·rw[A6 b,A6 b];by_cases c:a.flatten.length>1048576\/a.length>4096
  ·rw[A5 c,A6 F5]
  ·rw[A6 c];exact (A6 (by show ¬((0:Int)=2);decide)).symm
theorem KJ(hs:List PatchHunk)(x:List Str):zN hs x=if (y9 (bU hs x hs.length++x.drop (v8 hs hs.length).toNat)).2=2 then (([]:Str),(140:Int)) else y9 (bU hs x hs.length++x.drop (v8 hs hs.length).toNat):=A61 _
theorem OQ(p:Patch)(i:Str)(hp:mT p.Hunks<=134217728)(hb:i.length<=134217728):FnOk prog 9 [pPatch p,G5 i] (fun rs=>rs=[G5 (fB p i).1,E2 (fB p i).2]):=by
 have af:=zM p.Hunks;have q:=KI p i;refine FnOk.intro Tryz.func9 F5 A0 A0 A0 A0 (H2 ?_);refine B6 (V5 2 A0 A0 A0) A0 (J5 ?_);refine F0 (OO p i B3 B3) ?_;refine zc 12 (fun w=>?_) fun w=>?_
 ·have J:(X3 p i).2≠0:=A1 w;refine J5 ?_;exact A8 nP (by rw[q,A5 J])
 have J:¬(X3 p i).2≠0:=A2 w;rw[A6 J]at q;obtain⟨L,ab,Z,_⟩:=xJ J;have hr:=uN L;have Y:(X3 p i).1.flatten.length=i.length:=by rw[ab,d8]
 obtain⟨x,hx⟩:∃x,x=(X3 p i).1:=⟨_,rfl⟩
 rw[<-hx]at Z q Y ⊢;have v:∀k,k<p.Hunks.length->0<=v8 p.Hunks k/\v8 p.Hunks k<=(cA p.Hunks k).Old:=by
  unfold bS at L;rw[B24]at L;have I:=lT p.Hunks 0 0 L.1;refine fun k Q=>⟨?_,I k Q⟩
  unfold v8;split
  ·omega
  ·have:=hr _ (XG (hs:=p.Hunks) (k:=k-1) B3);have:=uP (cA p.Hunks (k-1));omega
 refine H8 ?_;refine B6 (U2 8 _ K6 A0) A0 (zz 14 ?_);refine C1 (X:=Nat) (fun k=>([(2,.s (.one (.ref 2 0))),(6,B9 Str 1 K6 x),(8,.s (.one (.buf 8 Str 1 K6 (bU p.Hunks x k)))),(9,B1 (v8 p.Hunks k)),(25,B9 PatchHunk 3 phunkC p.Hunks),(26,B1 p.Hunks.length),(27,B1 k)],[(2,.box (pPatch p).s1.cells),(8,.spare (bU p.Hunks x k).length 1 9)])) (fun k=>k<=p.Hunks.length/\FM p.Hunks x=k+FM (p.Hunks.drop k) x/\(∀j,j<k->fW (cA p.Hunks j) x=true)) (fun k=>p.Hunks.length-k) 0 ⟨B37 _,by simp,fun j P=>absurd P B3⟩ (C6) ?_;rintro k ⟨Q,G,y⟩;dsimp only at Q G y ⊢;have ae:(bU p.Hunks x k).length<=(v8 p.Hunks k).toNat+mT (p.Hunks.take k)/\(bU p.Hunks x k).flatten.length<=(x.take (v8 p.Hunks k).toNat).flatten.length+mT (p.Hunks.take k):=by
  refine DB k Q (fun j P=>?_);obtain⟨q1,q2⟩:=v j B3;exact⟨q1,q2,wM (y j P)⟩
 have ag:=CZ p.Hunks k;refine zc 5 (fun w=>?_) fun w=>?_
 ·have A:k<p.Hunks.length:=by have:=A1 w;omega
  have W:p.Hunks[k]?=some (cA p.Hunks k):=LK A;have B:=XG A;have R:p.Hunks.drop k=cA p.Hunks k::p.Hunks.drop (k+1):=by
   rw[B40 A];rw[B23 A]at W;rw[B81 W]
  rw[R,FM]at G;obtain⟨o1,o2⟩:=v k A;obtain⟨h,M⟩:∃h,h=cA p.Hunks k:=⟨_,rfl⟩
  rw[<-M]at W B G o2;have h3:=zL B;have h4:=lQ h.Lines;have h5:=O8 h.Lines 45;have h6:=O8 h.Lines 43;have h7:=uP h;have C:=iG x (v8 p.Hunks k) h.Old;unfold szH at h3;have V:=hr h B;refine J5 ?_;refine B6 (E6 11 A0) A0 (I0 ?_);refine F0 (ZE h B3) (zz 13 ?_);refine F0 (ZD h x B3 V.1 B3) ?_;refine zc 2 (fun w=>?_) fun w=>?_
  ·have h5:fW h x=false:=by simpa using w
   rw[A6 (by rw[h5];decide)]at G;refine N0 ?_;exact A8 nP (by rw[q,A5 B3])
  ·have K:fW h x=true:=by simpa using w
   rw[A5 K]at G;have ac:=wM K;refine X0 ?_;refine A9 (cG A0 (.pure _ _ _ _) A0 A0 (by (first | omega | (unfold sub at C;omega))) (by (first | omega | (unfold sub at C;omega))) (by (first | omega | (unfold sub at C;omega)))) A0 (B6 (R7 A0 A0 A0 (.pure _ _ _ _) (by (unfold sub at C;omega)) A0) A0 ?_);refine F8 ?_;refine B6 (R7 A0 A0 A0 (.pure _ _ _ _) (by (simp only[B25];unfold sub at C;omega)) A0) A0 (zz 14 ?_);have e:bU p.Hunks x (k+1)=bU p.Hunks x k++sub x (v8 p.Hunks k) h.Old++C0 h.Lines 45:=by rw[M];rfl
   have e2:v8 p.Hunks (k+1)=h.Old+((C0 h.Lines 43).length:Int):=by rw[M];unfold v8;rw[A6 B3];rfl
   refine⟨k+1,⟨by omega,by omega,fun j P=>?_⟩,by omega,?_⟩
   ·rcases Nat.lt_or_ge j k with H | H
    ·exact y j H
    ·rw[show j=k by omega,<-M];exact K
   rw[e,e2];exact C6
 ·have T:k=p.Hunks.length:=by have:=A2 w;omega
  subst T;rw[B53 (B29 _),FM]at G;rw[A6 B3]at q;have ad:0<=v8 p.Hunks p.Hunks.length/\v8 p.Hunks p.Hunks.length<=x.length:=by
   unfold v8;split
   ·omega
   ·obtain⟨o1,o2⟩:=v (p.Hunks.length-1) B3;have o3:=wM (y (p.Hunks.length-1) B3);have:=uP (cA p.Hunks (p.Hunks.length-1));omega
  obtain⟨z,m⟩:∃z,z=bU p.Hunks x p.Hunks.length++x.drop (v8 p.Hunks p.Hunks.length).toNat:=⟨_,rfl⟩
  have S:z.flatten.length<=268435456:=by
   have K:(x.take (v8 p.Hunks p.Hunks.length).toNat).flatten.length+(x.drop (v8 p.Hunks p.Hunks.length).toNat).flatten.length=x.flatten.length:=by
    rw[<-B25,<-B64,B87]
   rw[m,B64,B25];omega
  have U:z.length<=536870911:=by rw[m,B25,B47];omega
  have F:=KJ p.Hunks x;rw[<-m]at F;have D:=S;have E:=U;rw[m]at D E;refine N0 ?_;refine A9 (vN A0 (.pure _ _ _ _) A0 (by (first | omega | (unfold sub at *;omega))) (by (first | omega | (unfold sub at *;omega)))) A0 (B6 (R7 A0 A0 A0 (.pure _ _ _ _) (by (simp only[B47];omega)) A0) A0 (ET (A47 _ (B72 D F5) E) A0 A0 A0 (N0 ?_)));rw[<-m];refine zc 6 (fun w=>?_) fun w=>?_
  ·have C:(y9 z).2=2:=A1 w;refine N0 ?_;exact A8 nP (by rw[q,F,A5 C])
  ·have C:¬(y9 z).2=2:=A2 w;refine U7 ?_;exact A8 nP (by rw[q,F,A6 C])
theorem n4(n:Int):FnOk prog 86 [E2 n] (fun a=>a=[F6 (decide (I4 n))]):=by
 refine FnOk.intro Tryz.func86 F5 A0 A0 A0 A0 (zz 15 ?_);refine A8 M3 ?_;simp only[and_pick];rfl
theorem HF(l:List Change)(m n:Int)(I:l.length<=1073741824):FnOk prog 54 [pChanges l,E2 m,E2 n] (fun H=>H=[E2 (s9 l m n)]):=by
 refine FnOk.intro Tryz.func54 F5 A0 A0 A0 A0 (X0 ?_);refine F0 (n4 m) (H8 ?_);refine E3 A0 A0 A0 A0 (fun d=>by have g:=d;(try simp at g);rw[d];exact I2 (n4 n) A0 A0) ?_;refine zc 3 (fun a=>?_) fun a=>?_
 ·simp only[<-decide_not,or_pick]at a;have h:¬I4 m\/¬I4 n:=A1 a;refine I0 ?_;exact A8 M3 (by rw[s9,A5 h])
 simp only[<-decide_not,or_pick]at a;have h:¬(¬I4 m\/¬I4 n):=A2 a;have z:0<=m/\m<=4096:=by by_cases z:I4 m;exact z;exact absurd (.inl z) h
 have A:0<=n/\n<=4096:=by by_cases A:I4 n;exact A;exact absurd (.inr A) h
 refine zz 14 ?_;refine C1 (X:=Nat×Int×Int) (fun x=>([(1,B1 m),(2,B1 n),(7,B1 x.2.1),(8,B1 x.2.2),(20,B9 Change 4 changeC l),(21,B1 l.length),(22,B1 x.1)],[])) (fun x=>x.1<=l.length/\J7 0 0 0 l m n=J7 x.1 x.2.1 x.2.2 (l.drop x.1) m n/\0<=x.2.1/\x.2.1<=8192/\0<=x.2.2/\x.2.2<=8192) (fun x=>l.length-x.1) (0,0,0) ⟨B37 _,rfl,by decide,by decide,by decide,by decide⟩ (C6) ?_;rintro⟨k,i,j⟩ ⟨F,f,D,v,E,w⟩;dsimp only at F f D v E w ⊢;refine zc 5 (fun a=>?_) fun a=>?_
 ·have u:k<l.length:=by have:=A1 a;omega
  have G:l[k]?=some l[k]:=by simp[u]
  obtain⟨c,C⟩:∃c,c=l[k]:=⟨_,rfl⟩
  rw[B40 u,J7]at f;rw[<-C]at G f;refine X0 ?_;refine B6 (E6 10 A0) A0 (X0 ?_);refine F0 (n4 c.Old) (R6 ?_);refine E3 A0 A0 A0 A0 (fun d=>by have g:=d;(try simp at g);rw[d];exact I2 (n4 c.OldLen) A0 A0) ?_;refine I0 ?_;refine E3 A0 A0 A0 A0 (fun d=>by have g:=d;(try simp at g);rw[d];exact I2 (n4 c.New) A0 A0) ?_;refine I0 ?_;refine E3 A0 A0 A0 A0 (fun d=>by have g:=d;(try simp at g);rw[d];exact I2 (n4 c.NewLen) A0 A0) ?_;refine J5 ?_;refine E3 A0 A0 A0 A0 (fun d=>by have g:=d;(try simp at g);simp[I4]at g;rw[d];exact X6 A0 A0 B3) ?_;refine zc 3 (fun a=>?_) fun a=>?_
  ·simp only[<-decide_not,or_pick,and_pick]at a;have s:=A1 a;have hb:CW k i j c:=.inl (.inl (.inl s));refine I0 ?_;exact A8 M3 (by rw[s9,A6 ‹¬(¬I4 m\/¬I4 n)›,f,A4 (fun t=>t hb)];rfl)
  simp only[<-decide_not,or_pick,and_pick]at a;have s:=A2 a;have J:(0<=c.Old/\c.Old<=4096)/\(0<=c.OldLen/\c.OldLen<=4096)/\(0<=c.New/\c.New<=4096)/\(0<=c.NewLen/\c.NewLen<=4096)/\c.OldLen+c.NewLen≠0:=by
   by_cases B:I4 c.Old<;>by_cases a2:I4 c.OldLen<;>by_cases a3:I4 c.New<;>by_cases a4:I4 c.NewLen<;>simp[B,a2,a3,a4]at s;exact⟨B,a2,a3,a4,s⟩
  refine zz 21 ?_;refine E3 A0 A0 A0 A0 (fun d=>by rw[d];exact n_min A0 A0) ?_;refine H8 ?_;have e:∀b:Int,(c.Old-i<if (1:Int)<(k:Int) then 1 else (k:Int))↔(c.Old<i\/(0<(k:Int)/\c.Old=i)):=by intro _;split<;>omega
  refine zc 0 (fun a=>?_) fun a=>?_
  ·simp only[or_pick]at a;have o:=A1 a;have hb:CW k i j c:=by
    rcases o with o | o
    ·exact .inl (.inl (.inr o))
    ·rcases (e 0).1 o with p | p
     ·exact .inl (.inr p)
     ·exact .inr p
   refine I0 ?_;exact A8 M3 (by rw[s9,A6 ‹¬(¬I4 m\/¬I4 n)›,f,A4 (fun t=>t hb)];rfl)
  ·simp only[or_pick]at a;have o:=A2 a;have hb:¬CW k i j c:=by
    rintro (((q | q) | q) | q)
    ·exact s q
    ·exact o (.inl q)
    ·exact o (.inr ((e 0).2 (.inl q)))
    ·exact o (.inr ((e 0).2 (.inr q)))
   rw[A3 hb,B79]at f;refine zz 19 ?_;exact⟨(k+1,c.Old+c.OldLen,c.New+c.NewLen),⟨by dsimp only;omega,f,by dsimp only;omega,by dsimp only;omega,by dsimp only;omega,by dsimp only;omega⟩,by dsimp only;omega,C6⟩
 ·have y:k=l.length:=by have:=A2 a;omega
  rw[y,B53 (B29 _),J7]at f;refine zc 17 (fun a=>?_) fun a=>?_
  ·have p:=A1 (or_pick.symm.trans a);refine I0 ?_;exact A8 M3 (by rw[s9,A6 h,f,A4 (fun t=>t p)];rfl)
  ·have p:=A2 (or_pick.symm.trans a);refine N0 ?_;exact A8 M3 (by rw[s9,A6 h,f,A3 p];rfl)
theorem ZG{gf:Fr}{ob:Obs}(p:List Span):AL.Met prog 130 [.one (.p (.list Span 2 spanC p))] gf ob [] (fun b ob'=>b=[.one (.full Span 2 spanC p)]/\ob'=ob):=by
 refine AL.Met.intro Tryz.func130 F5 A0 A0 A0 (o9 ?_);refine A9 (SC A0 (.pure _ _ _ _) A0 A0 B3 B3 (by first | rfl | omega)) A0 ?_;refine H2 ?_;rw[show p.take (p.length:Int).toNat=p by simp];refine F8 ?_;exact D7 Y5 bZ (fun _ _ h=>h) ⟨rfl,rfl⟩
def gZ(i j:Int):List Span->List Change
 | []=>[]
 | x::r=>(if x.From>i\/x.To>j then [⟨i,x.From-i,j,x.To-j⟩] else [])++gZ (x.From+1) (x.To+1) r
theorem xK(m n:Int):∀(p:List Span) (i j:Int),gZ i j (p++[⟨m,n⟩])=j9 i j p m n
 | [],i,j=>by simp[gZ,j9]
 | x::r,i,j=>by
  rw[B66,gZ,j9,xK m n r]
theorem FB(p:List Span)(m n:Int)(S:p.length<=536870912)(H:-1099511627776<=m/\m<=1099511627776)(I:-1099511627776<=n/\n<=1099511627776)(hb:∀s∈p,-1099511627776<=s.From/\s.From<=1099511627776 /\ -1099511627776<=s.To/\s.To<=1099511627776) :
  FnOk prog 87 [pSpans p,E2 m,E2 n] (fun R=>R=[pChanges (oG p m n)]):=by
 refine FnOk.intro Tryz.func87 F5 A0 A0 A0 A0 (N0 ?_);refine B6 (U2 7 _ changeC A0) A0 (R9 ?_);refine M9 (ZG p) A0 A0 A0 (H8 ?_);refine A9 (B8 (c:=spanC) (ys:=[⟨m,n⟩]) (C5 A0 A0 A0 A0 E5) A0 A0 A0) A0 (B6 (ES 18 A0 A0 (.pure _ _ _ _) SH eR A0) A0 (H8 ?_));obtain⟨q,A⟩:∃q,q=p++[(⟨m,n⟩:Span)]:=⟨_,rfl⟩
 have Q:q.length=p.length+1:=by rw[A];simp
 have F:∀s∈q,-1099511627776<=s.From/\s.From<=1099511627776 /\ -1099511627776<=s.To/\s.To<=1099511627776:=by
  intro s K;rw[A]at K;rcases B36.1 K with h | h
  ·exact hb s h
  ·simp at h;subst h;exact⟨H.1,H.2,I.1,I.2⟩
 have z:oG p m n=gZ 0 0 q:=by rw[A,xK];rfl
 rw[<-A];refine F8 ?_;refine C1 (X:=Nat×Int×Int×List Change) (fun x=>([(7,.s (.one (.buf 7 Change 4 changeC x.2.2.2))),(8,B1 x.2.1),(9,B1 x.2.2.1),(18,.s (.one (.buf 18 Span 2 spanC q))),(19,B1 q.length),(20,B1 x.1)],[(7,.spare x.2.2.2.length 4 125)])) (fun x=>x.1<=q.length/\x.2.2.2++gZ x.2.1 x.2.2.1 (q.drop x.1)=oG p m n/\(-1099511627777<=x.2.1/\x.2.1<=1099511627777)/\(-1099511627777<=x.2.2.1/\x.2.2.1<=1099511627777)/\x.2.2.2.length<=x.1) (fun x=>q.length-x.1) (0,0,0,[]) ⟨B37 _,z.symm,by decide,by decide,B29 _⟩ (C6) ?_;rintro⟨k,i,j,G⟩ ⟨P,w,N,O,E⟩;dsimp only at P w N O E ⊢;refine zc 5 (fun l=>?_) fun l=>?_
 ·have y:k<q.length:=by have:=A1 l;omega
  have L:q[k]?=some q[k]:=by simp[y]
  have C:=F _ (B32 y);obtain⟨c,M⟩:∃c,c=q[k]:=⟨_,rfl⟩
  rw[B40 y,gZ]at w;rw[<-M]at L w C;refine I0 ?_;refine A9 (F1 A0 (.buf _ _ _ _ _) A0 B3 L) A0 (F8 ?_);refine B6 (E6 11 A0) A0 (H2 ?_);obtain⟨g,d⟩:∃g,g=G++(if c.From>i\/c.To>j then [⟨i,c.From-i,j,c.To-j⟩] else []):=⟨_,rfl⟩
  have J:g.length<=k+1:=by rw[d,B25];split<;>simp<;>omega
  rw[<-B51,<-d]at w;refine kO [(7,.s (.one (.buf 7 Change 4 changeC g))),(8,B1 i),(9,B1 j),(11,.s (.one (.ref 11 0))),(18,.s (.one (.buf 18 Span 2 spanC q))),(19,B1 q.length),(20,B1 k)] [(7,.spare g.length 4 125),(11,.box [.p (.v (.int .i64 c.From)),.p (.v (.int .i64 c.To))])] ?_ ?_
  ·refine zc 13 (fun l=>?_) fun l=>?_
   ·simp only[or_pick]at l;have B:=A1 l;rw[A5 B]at d;skip;refine zz 13 ?_;refine A9 (B8 (c:=changeC) (ys:=[⟨i,c.From-i,j,c.To-j⟩]) (C5 A0 A0 A0 A0 E5) A0 A0 A0) A0 (H8 ?_);rw[d];exact C6
   ·simp only[or_pick]at l;have B:=A2 l;rw[A6 B,B71]at d;refine F8 ?_;rw[d];exact C6
  ·skip;refine zz 14 ?_;exact⟨(k+1,c.From+1,c.To+1,g),⟨by dsimp only;omega,w,⟨by dsimp only;omega,by dsimp only;omega⟩,⟨by dsimp only;omega,by dsimp only;omega⟩,by dsimp only;omega⟩,by dsimp only;omega,C6⟩
 ·have D:k=q.length:=by have:=A2 l;omega
  rw[D,B53 (B29 _),gZ,B71]at w;refine J5 ?_;exact A8 M3 (by rw[<-w])
theorem OS{m n:Int}:∀{p:List Span} {i j:Int},Asc m n i j p->∀k (h:k<p.length),(k=0->i<=p[k].From/\j<=p[k].To)/\(∀a:0<k,p[k-1].From<p[k].From/\p[k-1].To<p[k].To)/\p[k].From<m/\p[k].To<n
 | [],_,_,_,k,h=>by simp at h
 | x::r,i,j,ha,k,h=>by
  obtain⟨f,g,b⟩:=ha;cases k with
  | zero=>have:=b.le;exact⟨fun _=>⟨f,g⟩,fun a=>absurd a B3,by show x.From<m;omega,by show x.To<n;omega⟩
  | succ k =>
   obtain⟨g1,c,d,e⟩:=OS b k (by simpa using h);refine⟨fun a=>absurd a B3,fun _=>?_,by simpa using d,by simpa using e⟩;cases k with
   | zero =>
    obtain⟨q,s⟩:=g1 rfl;have l:0<r.length:=by simpa using h
    show x.From<r[0].From/\x.To<r[0].To;omega
   | succ k=>simpa using c B3
theorem FC(p:List Span)(m n:Int)(O:I4 m)(P:I4 n)(ha:Asc m n 0 0 p)(Q:p.length<=536870912) :
  FnOk prog 49 [pSpans p,E2 m,E2 n] (fun V=>V=[pChanges (oG p m n),E2 0]):=by
 obtain⟨A,B⟩:=O;obtain⟨C,D⟩:=P;have E:=OS ha;have hb:∀s∈p,0<=s.From/\s.From<=4096/\0<=s.To/\s.To<=4096:=by
  have key:∀(p:List Span) (i j:Int),Asc m n i j p->0<=i->0<=j->∀s∈p,0<=s.From/\s.From<=4096/\0<=s.To/\s.To<=4096:=by
   intro p;induction p with
   | nil=>intro _ _ _ _ _ s w;simp at w
   | cons x r U =>
    rintro i j ⟨W,Y,G⟩ Z h5 s w;have:=G.le;rcases B34.1 w with rfl | w
    ·omega
    ·exact U _ _ G B3 B3 s w
  exact key p 0 0 ha B3 B3
 refine FnOk.intro Tryz.func49 F5 A0 A0 A0 A0 (U7 ?_);refine F0 (n4 m) (H8 ?_);refine E3 A0 A0 A0 A0 (fun H=>by have R:=H;(try simp at R);rw[H];exact I2 (n4 n) A0 A0) ?_;refine zc 3 (fun q=>?_) fun q=>?_
 ·exfalso;simp only[<-decide_not,or_pick]at q;have h:¬I4 m\/¬I4 n:=A1 q;rcases h with h | h
  ·exact h ⟨A,B⟩
  ·exact h ⟨C,D⟩
 refine d7 [(0,B9 Span 2 spanC p),(1,B1 m),(2,B1 n)] [] (C6) (R6 ?_);refine B6 (E6 8 A0) A0 (R9 ?_);obtain⟨a,d⟩:∃a:Nat->Span,a=fun k=>if k=0 then ⟨-1,-1⟩ else p.getD (k-1) ⟨0,0⟩:=⟨_,rfl⟩
 refine C1 (X:=Nat) (fun k=>([(0,B9 Span 2 spanC p),(1,B1 m),(2,B1 n),(8,.s (.one (.ref 8 0))),(20,B9 Span 2 spanC p),(21,B1 p.length),(22,B1 k)],[(8,.box [.p (.v (.int .i64 (a k).From)),.p (.v (.int .i64 (a k).To))])])) (fun k=>k<=p.length) (fun k=>p.length-k) 0 (B37 _) ?_ ?_
 ·rw[show a 0=⟨-1,-1⟩ by rw[d];rfl];exact C6
 intro k N;dsimp only at N ⊢;refine zc 5 (fun q=>?_) fun q=>?_
 ·have u:k<p.length:=by have:=A1 q;omega
  have S:p[k]?=some p[k]:=by simp[u]
  obtain⟨g1,J,K,L⟩:=E k u;have l:a (k+1)=p[k]:=by rw[d];simp[u]
  have g:(a k).From<p[k].From/\(a k).To<p[k].To:=by
   rw[d];by_cases y:k=0
   ·have:=g1 y;simp only[y,if_true]at this ⊢;omega
   ·have:=J B3;simp only[y,if_false];have e:p.getD (k-1) ⟨0,0⟩=p[k-1]:=by simp[show k-1<p.length by omega]
    rw[e];exact this
  obtain⟨c,M⟩:∃c,c=p[k]:=⟨_,rfl⟩
  rw[<-M]at S K L l g;obtain⟨I,z⟩:∃I,I=a k:=⟨_,rfl⟩
  rw[<-z]at g ⊢;refine J5 ?_;refine B6 (E6 10 A0) A0 ?_;refine zc 30 (fun q=>?_) fun q=>?_
  ·exfalso;simp only[or_pick]at q;have:=A1 q;omega
  ·refine U7 ?_;refine⟨k+1,by omega,by omega,?_⟩;rw[l];exact C6
 ·refine N0 ?_;refine y5 (FB p m n Q B3 B3 (fun s w=>by have:=hb s w;omega)) A0 A0 A0 ?_;rintro _ rfl;refine R6 ?_;exact A8 nP rfl
theorem tU{l:List Int}{i:Nat}(h:i<l.length):l[i]?=some (l.getD i 0):=by simp[h]
theorem OT(a b:List Int):FnOk prog 48 [L5 a,L5 b] (fun c=>c=[F6 (decide ((a.length:Int)<=4096/\(b.length:Int)<=4096))]):=by
 refine FnOk.intro Tryz.func48 F5 A0 A0 A0 A0 (zz 17 ?_);exact A8 M3 (by simp only[and_pick])
theorem FD(a b:List Int)(ha:a.length<=1073741824):FnOk prog 88 [L5 a,L5 b] (fun s=>s=[E2 (Z9 a b)]):=by
 refine FnOk.intro Tryz.func88 F5 A0 A0 A0 A0 (R9 ?_);refine C1 (X:=Nat) (fun k=>([(0,B9 Int 1 E0 a),(1,B9 Int 1 E0 b),(5,B1 k)],[])) (fun k=>k<=a.length/\k<=b.length/\Z9 a b=k+Z9 (a.drop k) (b.drop k)) (fun k=>a.length-k) 0 ⟨B37 _,B37 _,by simp⟩ (C6) ?_;rintro k ⟨q,l,i⟩;dsimp only at q l i ⊢;refine R9 ?_;refine G6 A0 A0 (fun c=>by rw[c];exact gO A0 (.pure _ _ _ _)) A0 A0 ?_;refine I0 ?_;refine G6 A0 A0 (fun c=>by have m:=c;(try simp at m);rw[c];exact F1 A0 (.pure _ _ _ _) A0 B3 (tU B3)) A0 A0 ?_;refine H8 ?_;refine G6 A0 A0 (fun c=>by have m:=c;(try simp at m);rw[c];exact F1 A0 (.pure _ _ _ _) A0 B3 (tU B3)) A0 A0 ?_;refine F8 ?_;refine G6 A0 A0 (fun c=>by rw[c];exact ME A0 A0) A0 A0 ?_;refine zc 2 (fun g=>?_) fun g=>?_
 ·simp only[and_pick]at g;obtain⟨⟨d,f⟩,j⟩:=A1 g;have d:k<a.length:=by omega
  have f:k<b.length:=by omega
  rw[DL a b k d f,A5 (by simpa[d,f] using j)]at i;refine J5 ?_;exact⟨k+1,⟨by omega,by omega,by omega⟩,by omega,C6⟩
 ·simp only[and_pick]at g;have h:=A2 g;have o:Z9 (a.drop k) (b.drop k)=0:=by
   by_cases n:k<a.length/\k<b.length
   ·obtain⟨d,f⟩:=n;rw[DL a b k d f,A6];intro j;exact h ⟨⟨by omega,by omega⟩,by simpa[d,f] using j⟩
   ·exact A19 a b k n
  rw[o]at i;refine J5 ?_;exact A8 M3 (by rw[i];rfl)
theorem FE(a b:List Int)(ha:a.length<=4096)(hb:b.length<=4096):FnOk prog 89 [L5 a,L5 b] (fun rs=>rs=[pU16s (flat a b (fun _ _=>true))]):=by
 obtain⟨W,F⟩:∃W,W=b.length+1:=⟨_,rfl⟩
 have A:∀i:Nat,i<=a.length+1->0<=(i:Int)*(W:Int)/\(i:Int)*(W:Int)<=16789506:=by
  intro i R;have S:i*W<=4098*4097:=Nat.mul_le_mul B3 B3;have T:((i*W:Nat):Int)=(i:Int)*W:=by push_cast;rfl
  omega
 have d:∀i:Nat,(i:Int)*(W:Int)=((i*W:Nat):Int):=fun i=>by push_cast;rfl
 have G:∀done,(flat a b done).length=(a.length+1)*W:=fun done=>by rw[yA,F]
 have D:∀i j,dist (a.drop i) (b.drop j)<=8192:=fun i j=>by
  have:=LF (a.drop i) (b.drop j);simp only[B47]at this;omega
 have ab:∀i j:Nat,i<=a.length->j<=b.length->i*W+j<(a.length+1)*W:=fun i j R z=>by rw[F];exact (zP R z).1
 refine FnOk.intro Tryz.func89 F5 A0 A0 A0 A0 (o9 ?_);refine d7 [(0,B9 Int 1 E0 a),(1,B9 Int 1 E0 b),(5,B1 W)] [] (Sees.of ⟨⟨_,rfl,.same _⟩,⟨_,rfl,.same _⟩,⟨_,rfl,.eq (by rw[F];simp)⟩,trivial⟩ trivial) ?_;have ao:=A (a.length+1) (B29 _);have O:((a.length:Int)+1)=((a.length+1:Nat):Int):=by omega
 refine N0 ?_;refine A9 (mH A0 A0 (by (rw[O];omega))) A0 ?_;refine B6 (eW 20 Int sL 0 A0 A0 (by (rw[O];omega)) (by (rw[O];omega)) (fun _=>b1w) A0) A0 ?_;refine H2 ?_;refine d7 [(0,B9 Int 1 E0 a),(1,B9 Int 1 E0 b),(5,B1 W),(6,.s (.one (.mut 20)))] [(20,.arr Int 1 sL (flat a b (fun _ _=>false)))] ?_ ?_
 ·refine Sees.of ⟨⟨_,rfl,.same _⟩,⟨_,rfl,.same _⟩,⟨_,rfl,.same _⟩,⟨_,rfl,.same _⟩,trivial⟩ ⟨?_,trivial⟩;rw[<-A18,O,d,B26,F];rfl
 refine X0 ?_;refine C1 (X:=Nat) (fun j=>([(0,B9 Int 1 E0 a),(1,B9 Int 1 E0 b),(5,B1 W),(6,.s (.one (.mut 20))),(22,B1 b.length),(23,B1 j)],[(20,.arr Int 1 sL (flat a b (fun r q=>decide (r=a.length/\q<j))))])) (fun j=>j<=b.length) (fun j=>b.length-j) 0 (B37 _) ?_ ?_
 ·rw[show flat a b (fun r q=>decide (r=a.length/\q<0))=flat a b (fun _ _=>false) from lY fun r q _ _=>.inl eR];exact C6
 intro j z;dsimp only at z ⊢;refine zc 5 (fun p=>?_) fun p=>?_
 ·have an:j<b.length:=by have:=A1 p;omega
  have ap:=A a.length B3;have am:=ab a.length j (B29 _) B3;have U:=d a.length;have y:=G (fun r q=>decide (r=a.length/\q<j));have B:(flat a b (fun r q=>decide (r=a.length/\q<j))).set (((a.length:Int)*(W:Int)+(j:Int)).toNat) (IntKind.u16.wrap ((b.length:Int)-j))=flat a b (fun r q=>decide (r=a.length/\q<j+1)):=by
   rw[show ((a.length:Int)*(W:Int)+(j:Int)).toNat=a.length*(b.length+1)+j by rw[U,F];omega,VE _ B3];refine QN (B29 _) B3 ?_ eR (fun r q hr hq L=>?_)
   ·rw[B53 (B29 a.length),dist,B47];omega
   ·rw[decide_eq_decide];omega
  refine zz 21 ?_;refine A9 (I5 A0 A0 A0 B3 (by (rw[y];omega))) A0 ?_;refine V2 (L4 TySz.out A0 A0 (by (rw[y];omega)) A0 A0) ?_;refine I0 ?_;refine⟨j+1,by omega,by omega,?_⟩;rw[<-B];exact C6
 ·have ac:j=b.length:=by have:=A2 p;omega
  subst ac
  rw[show flat a b (fun r q=>decide (r=a.length/\q<b.length))=flat a b (fun r _=>decide (a.length<=r)) from lY fun r q hr hq=>by
   by_cases h:r=a.length/\q=b.length
   ·right;rw[h.1,h.2,B53 (B29 _),B53 (B29 _)];exact uG []
   ·left;rw[decide_eq_decide];omega]
  refine R9 ?_;refine C1 (X:=Nat) (fun i=>([(0,B9 Int 1 E0 a),(1,B9 Int 1 E0 b),(5,B1 W),(6,.s (.one (.mut 20))),(8,B1 ((i:Int)-1))],[(20,.arr Int 1 sL (flat a b (fun r _=>decide (i<=r))))])) (fun i=>i<=a.length) (fun i=>i) a.length (B29 _) (C6) ?_;intro i R;dsimp only at R ⊢;refine zc 6 (fun p=>?_) fun p=>?_
  ·obtain⟨i,rfl⟩:∃r,i=r+1:=⟨i-1,by have:=A1 p;omega⟩
   refine d7 [(0,B9 Int 1 E0 a),(1,B9 Int 1 E0 b),(5,B1 W),(6,.s (.one (.mut 20))),(8,B1 i)] [(20,.arr Int 1 sL (flat a b (fun r _=>decide (i+1<=r))))] (Sees.of ⟨cL rfl,cL rfl,cL rfl,cL rfl,leE A0 (by first | (simp;done) | (simp;omega)),trivial⟩ ⟨rfl,trivial⟩) ?_;obtain⟨P,Q⟩:∃P,P=i*W:=⟨_,rfl⟩
   obtain⟨N,hN⟩:∃N,N=(a.length+1)*W:=⟨_,rfl⟩
   have C:(i:Int)*(W:Int)=(P:Int):=by rw[Q];exact d i
   have f:((i:Int)+1)*(W:Int)=(P:Int)+W:=by rw[Int.add_mul,Int.one_mul,C]
   have E:((i:Int)+2)*(W:Int)=(P:Int)+W+W:=by rw[Int.add_mul,C];omega
   have ah:P+W+W<=N:=by
    have S:(i+2)*W<=(a.length+1)*W:=B56 _ B3;have T:(i+2)*W=i*W+W+W:=by rw[B73];omega
    omega
   have ag:N<=16789506:=by have:=A (a.length+1) (B29 _);have:=d (a.length+1);omega
   have y:∀done,(flat a b done).length=N:=fun done=>by rw[G,hN]
   refine X0 ?_;refine D2 (mH A0 A0 (by (rw[C];omega))) A0 A0 ?_;refine H8 ?_;refine D2 (mH A0 A0 (by (rw[f];omega))) A0 A0 ?_;refine D2 (nK A0 A0 A0 A0 (by (first | (rw[C];omega) | (rw[C,f];omega) | (rw[f,y];omega))) (by (first | (rw[C];omega) | (rw[C,f];omega) | (rw[f,y];omega))) (by (first | (rw[C];omega) | (rw[C,f];omega) | (rw[f,y];omega)))) A0 A0 ?_;refine R6 ?_;refine D2 (mH A0 A0 (by (rw[f];omega))) A0 A0 ?_;refine H8 ?_;refine D2 (mH A0 A0 (by (rw[E];omega))) A0 A0 ?_;refine D2 (nK A0 A0 A0 A0 (by (first | (rw[f];omega) | (rw[f,E];omega) | (rw[E,y];omega))) (by (first | (rw[f];omega) | (rw[f,E];omega) | (rw[E,y];omega))) (by (first | (rw[f];omega) | (rw[f,E];omega) | (rw[E,y];omega)))) A0 A0 ?_;refine H8 ?_;have I:∀j,j<=b.length->(flat a b (fun r q=>decide (i+1<=r\/(r=i/\j<=q))))[P+j]?=some (dist (a.drop i) (b.drop j):Int):=fun j z=>by
    rw[Q,F,DK B3 z,A5 eR]
   have w:∀j j',j<=b.length->(flat a b (fun r q=>decide (i+1<=r\/(r=i/\j'<=q))))[P+W+j]?=some (dist (a.drop (i+1)) (b.drop j):Int):=fun j j' z=>by
    rw[show P+W+j=(i+1)*(b.length+1)+j by rw[Q,F,B73];omega,DK B3 z,A5 eR]
   refine d7 [(0,B9 Int 1 E0 a),(1,B9 Int 1 E0 b),(5,B1 W),(6,.s (.one (.mut 20))),(8,B1 i),(9,.s (.one (.msl 20 1 P W))),(10,.s (.one (.msl 20 1 (P+W) W)))] [(20,.arr Int 1 sL (flat a b (fun r _=>decide (i+1<=r))))] ?_ ?_
   ·refine Sees.of ⟨⟨_,rfl,.same _⟩,⟨_,rfl,.same _⟩,⟨_,rfl,.same _⟩,⟨_,rfl,.same _⟩,⟨_,rfl,.same _⟩,⟨_,rfl,.eq ?_⟩,⟨_,rfl,.eq ?_⟩,trivial⟩ ⟨rfl,trivial⟩
    ·rw[C,f];congr 3<;>omega
    ·rw[f,E];congr 3<;>omega
   have H:∀(done c:Nat->Nat->Bool) (j:Nat) (v:Int),j<=b.length->v=(dist (a.drop i) (b.drop j):Int)->c i j=true->(∀r q,r<=a.length->q<=b.length->¬(r=i/\q=j)->c r q=done r q)->(flat a b done).set (P+j) v=flat a b c:=by
    intro done c j v z hv S T;rw[Q,F];exact QN B3 z hv S T
   have ad:(flat a b (fun r _=>decide (i+1<=r))).set (P+((b.length:Nat):Int).toNat) (IntKind.u16.wrap ((a.length:Int)-i))=flat a b (fun r q=>decide (i+1<=r\/(r=i/\b.length<=q))):=by
    rw[B26,VE _ B3];refine H _ _ _ _ (B29 _) ?_ eR (fun r q hr hq L=>?_)
    ·rw[B53 (B29 b.length),uG,B47];omega
    ·rw[decide_eq_decide];omega
   refine R9 ?_;refine A9 (V0 A0 A0 B3 B3) A0 (V2 (L4 TySz.out A0 A0 (by (rw[y];omega)) A0 A0) ?_);refine F8 ?_;rw[ad];refine X0 ?_;refine C1 (X:=Nat) (fun j=>([(0,B9 Int 1 E0 a),(1,B9 Int 1 E0 b),(5,B1 W),(6,.s (.one (.mut 20))),(8,B1 i),(9,.s (.one (.msl 20 1 P W))),(10,.s (.one (.msl 20 1 (P+W) W))),(11,B1 ((j:Int)-1))],[(20,.arr Int 1 sL (flat a b (fun r q=>decide (i+1<=r\/(r=i/\j<=q)))))])) (fun j=>j<=b.length) (fun j=>j) b.length (B29 _) (C6) ?_;intro j z;dsimp only at z ⊢;refine zc 6 (fun p=>?_) fun p=>?_
   ·obtain⟨j,rfl⟩:∃r,j=r+1:=⟨j-1,by have:=A1 p;omega⟩
    have ae:a[i]?=some a[i]:=by simp[show i<a.length by omega]
    have af:b[j]?=some b[j]:=by simp[show j<b.length by omega]
    have x:=A10 a b i j B3 B3;have ai:=D i j;have aj:=D (i+1) j;have ak:=D i (j+1);have al:=D (i+1) (j+1);obtain⟨u,hu⟩:∃u,u=a[i]:=⟨_,rfl⟩
    obtain⟨v,hv⟩:∃v,v=b[j]:=⟨_,rfl⟩
    rw[<-hu]at ae x;rw[<-hv]at af x;have B:(flat a b (fun r q=>decide (i+1<=r\/(r=i/\j+1<=q)))).set (P+j) (dist (a.drop i) (b.drop j):Int)=flat a b (fun r q=>decide (i+1<=r\/(r=i/\j<=q))):=H _ _ _ _ B3 rfl eR (fun r q hr hq L=>by rw[decide_eq_decide];omega);refine d7 [(0,B9 Int 1 E0 a),(1,B9 Int 1 E0 b),(5,B1 W),(6,.s (.one (.mut 20))),(8,B1 i),(9,.s (.one (.msl 20 1 P W))),(10,.s (.one (.msl 20 1 (P+W) W))),(11,B1 j)] [(20,.arr Int 1 sL (flat a b (fun r q=>decide (i+1<=r\/(r=i/\j+1<=q)))))] (Sees.of ⟨cL rfl,cL rfl,cL rfl,cL rfl,cL rfl,cL rfl,cL rfl,leE A0 (by first | (simp;done) | (simp;omega)),trivial⟩ ⟨rfl,trivial⟩) (c_skip (GO ?_));refine kO [(0,B9 Int 1 E0 a),(1,B9 Int 1 E0 b),(5,B1 W),(6,.s (.one (.mut 20))),(8,B1 i),(9,.s (.one (.msl 20 1 P W))),(10,.s (.one (.msl 20 1 (P+W) W))),(11,B1 j)] [(20,.arr Int 1 sL (flat a b (fun r q=>decide (i+1<=r\/(r=i/\j<=q)))))] ?_ ?_
    ·refine zc 13 (fun p=>?_) fun p=>?_
     ·rw[A5 (A1 p)]at x;rw[x]at B;have hg:=w (j+1) (j+1) B3;have Z:(flat a b (fun r q=>decide (i+1<=r\/(r=i/\j+1<=q))))[P+W+((j:Int)+1).toNat]?=some (dist (a.drop (i+1)) (b.drop (j+1)):Int):=by rw[show ((j:Int)+1).toNat=j+1 by omega];exact hg
      skip;refine N0 ?_;refine A9 (V0 A0 A0 B3 B3) A0 (A9 (N6 A0 A0 Z A0) A0 (A9 (V0 A0 A0 B3 B3) A0 (V2 (L4 TySz.out A0 A0 (by (rw[y];omega)) A0 A0) ?_)));refine F8 ?_;rw[show P+((j:Nat):Int).toNat=P+j by omega,B];exact C6
     ·rw[A6 (A2 p)]at x;have V:=w j (j+1) B3;have Y:=I (j+1) B3;have J:(flat a b (fun r q=>decide (i+1<=r\/(r=i/\j+1<=q))))[P+W+((j:Nat):Int).toNat]?=some (dist (a.drop (i+1)) (b.drop j):Int):=by rw[B26];exact V
      have K:(flat a b (fun r q=>decide (i+1<=r\/(r=i/\j+1<=q))))[P+((j:Int)+1).toNat]?=some (dist (a.drop i) (b.drop (j+1)):Int):=by rw[show ((j:Int)+1).toNat=j+1 by omega];exact Y
      have M:IntKind.u16.wrap ((if (dist (a.drop i) (b.drop (j+1)):Int)<(dist (a.drop (i+1)) (b.drop j):Int) then (dist (a.drop i) (b.drop (j+1)):Int) else (dist (a.drop (i+1)) (b.drop j):Int))+1)=(dist (a.drop i) (b.drop j):Int):=by
       rw[VE _ (by split<;>omega),x];split<;>omega
      skip;refine I0 ?_;refine D2 (V0 A0 A0 B3 B3) A0 A0 (D2 (N6 A0 A0 J A0) A0 A0 (H8 ?_));refine D2 (V0 A0 A0 B3 B3) A0 A0 (D2 (N6 A0 A0 K A0) A0 A0 (D2 (n_min A0 A0) A0 A0 (D2 (sV A0 A0) A0 A0 (D2 (V0 A0 A0 B3 B3) A0 A0 (d_eff (L4 TySz.out A0 A0 (by (rw[y];omega)) A0 A0) A0 ?_)))));refine F8 ?_;rw[M,show P+((j:Nat):Int).toNat=P+j by omega,B];exact C6
    ·skip;refine I0 ?_;exact⟨j,by omega,by omega,C6⟩
   ·obtain rfl:j=0:=by have:=A2 p;omega
    rw[show flat a b (fun r q=>decide (i+1<=r\/(r=i/\0<=q)))=flat a b (fun r _=>decide (i<=r)) from lY fun r q _ _=>.inl (by rw[decide_eq_decide];omega)];refine N0 ?_;exact⟨i,by omega,by omega,C6⟩
  ·obtain rfl:i=0:=by have:=A2 p;omega
   rw[show flat a b (fun r _=>decide (0<=r))=flat a b (fun _ _=>true) from lY fun r q _ _=>.inl eR];refine C3 (Sees.freeze (k:=20) A0) (J5 ?_);exact A8 M3 rfl
theorem i64_id{n:Int}(h:-9223372036854775808<=n/\n<=9223372036854775807):IntKind.i64.wrap n=n:=IntWalk.i64_in _ h
theorem WW{gf:Fr}{ob:Obs}(a b:List Int)(i j:Nat)(ha:a.length<=4096)(hb:b.length<=4096)(k:i<=a.length)(m:j<=b.length)(u:B0 ob 8=some (.box [.p (.list Int 1 sL (flat a b (fun _ _=>true)))]))(q:B0 ob 3=some (.box [.p (.list Int 1 E0 b)])) :
  AL.Met prog 90 [.one (.p (.v (.int .i64 i))),.one (.p (.v (.int .i64 j))),.one (.ref 8 0),.one (.ref 3 0)] gf ob [] (fun B ob'=>B=[.one (.p (.v (.int .i64 (dist (a.drop i) (b.drop j):Int))))]/\ob'=ob):=by
 have g:=DK (a:=a) (b:=b) (done:=fun _ _=>true) k m;rw[A5 rfl]at g;have A:=(zP (a:=a) (b:=b) k m).1;have C:=yA a b (fun _ _=>true);have c:(i:Int)*((b.length:Int)+1)=((i*(b.length+1):Nat):Int):=by push_cast;rfl
 have w:i*(b.length+1)<=4096*4097:=Nat.mul_le_mul B3 B3;have d:(a.length+1)*(b.length+1)<=4097*4097:=Nat.mul_le_mul B3 B3;have z:(flat a b (fun _ _=>true))[((i:Int)*((b.length:Int)+1)+j).toNat]?=some (dist (a.drop i) (b.drop j):Int):=by
  rw[c,show (((i*(b.length+1):Nat):Int)+j).toNat=i*(b.length+1)+j by omega];exact g
 have y:=LF (a.drop i) (b.drop j);simp only[B47]at y;refine AL.Met.intro Tryz.func90 F5 A0 A0 A0 (N0 ?_);refine A9 (D1 A0 u A0) A0 (F8 ?_);refine A9 (D1 A0 q A0) A0 (H2 ?_);refine A9 (mH A0 A0 (by (rw[c];omega))) A0 ?_;refine F8 ?_;refine A9 (X6 A0 A0 (by (rw[c];omega))) A0 ?_;refine I0 ?_;rw[i64_id B3];refine F8 ?_;exact D7 Y5 bZ (fun _ _ h=>h) ⟨rfl,rfl⟩
theorem A62(a b:List Int)(ha:a.length<=4096)(hb:b.length<=4096):FnOk prog 50 [L5 a,L5 b] (fun rs=>rs=[pSpans (K1 0 0 a b)]):=by
 obtain⟨n,R⟩:∃n,n=Z9 a b:=⟨_,rfl⟩
 have S:=QO a b;rw[<-R]at S;have B:=DM a b 0 0;rw[<-R]at B;refine FnOk.intro Tryz.func50 F5 A0 A0 A0 A0 (H2 ?_);refine B6 (V5 3 A0 A0 A0) A0 (R6 ?_);refine B6 (U2 5 _ spanC A0) A0 (I0 ?_);refine F0 (FD a b B3) (H2 ?_);rw[<-R];refine J5 ?_;refine C1 (X:=Nat) (fun k=>([(0,B9 Int 1 E0 a),(3,.s (.one (.ref 3 0))),(5,.s (.one (.buf 5 Span 2 spanC (O2 0 0 k)))),(6,B1 n),(15,B1 n),(16,B1 k)],[(3,.box [.p (.list Int 1 E0 b)]),(5,.spare (O2 0 0 k).length 2 73)])) (fun k=>k<=n) (fun k=>n-k) 0 (B37 _) (C6) ?_;intro k hk;dsimp only at hk ⊢;have W:=n8 0 0 k;refine zc 5 (fun w=>?_) fun w=>?_
 ·have ac:k<n:=by have:=A1 w;omega
  have Y:=uH 0 0 k;refine zz 13 ?_;refine A9 (B8 (c:=spanC) (ys:=[⟨(k:Int),(k:Int)⟩]) (C5 A0 A0 A0 A0 E5) A0 A0 A0) A0 (J5 ?_);refine⟨k+1,by omega,by omega,?_⟩;rw[Y,show (0:Int)+(k:Int)=k by omega];exact C6
 have Q:k=n:=by have:=A2 w;omega
 subst Q;obtain⟨m,G⟩:∃m,m=a.drop k:=⟨_,rfl⟩
 obtain⟨d,I⟩:∃d,d=b.drop k:=⟨_,rfl⟩
 have H:m.length<=4096:=by rw[G,B47];omega
 have J:d.length<=4096:=by rw[I,B47];omega
 rw[Int.zero_add,<-G,<-I]at B;refine I0 ?_;refine D2 (vN A0 (.pure _ _ _ _) A0 B3 B3) A0 A0 (H2 ?_);refine D2 (vN A0 (.pure _ _ _ _) A0 B3 B3) A0 A0 (H8 ?_);rw[B26,<-G,<-I];refine R6 ?_;refine F0 (FE m d H J) (B6 (E6 8 A0) A0 (zz 14 ?_));refine C1 (X:=Nat×Nat×List Span) (fun x=>([(0,B9 Int 1 E0 m),(3,.s (.one (.ref 3 0))),(5,.s (.one (.buf 5 Span 2 spanC x.2.2))),(6,B1 k),(8,.s (.one (.ref 8 0))),(9,.s (.one (.clo 90 [] [(8,0),(3,0)]))),(10,B1 x.1),(11,B1 x.2.1)],[(3,.box [.p (.list Int 1 E0 d)]),(5,.spare x.2.2.length 2 73),(8,.box [.p (.list Int 1 sL (flat m d (fun _ _=>true)))])])) (fun x=>x.1<=m.length/\x.2.1<=d.length/\x.2.2.length<=k+x.1/\K1 0 0 a b=x.2.2++K1 (k+x.1) (k+x.2.1) (m.drop x.1) (d.drop x.2.1)) (fun x=>(m.length-x.1)+(d.length-x.2.1)) (0,0,O2 0 0 k) ⟨B37 _,B37 _,by rw[W];exact B29 _,by simpa using B⟩ (C6) ?_;rintro⟨i,j,y⟩ ⟨Z,P,U,E⟩;dsimp only at Z P U E ⊢;refine zc 14 (fun w=>?_) fun w=>?_
 ·simp only[or_pick]at w;have K:=A1 w;refine d7 [(0,B9 Int 1 E0 m),(3,.s (.one (.ref 3 0))),(5,.s (.one (.buf 5 Span 2 spanC y))),(6,B1 k),(8,.s (.one (.ref 8 0))),(9,.s (.one (.clo 90 [] [(8,0),(3,0)]))),(10,B1 i),(11,B1 j)] [(3,.box [.p (.list Int 1 E0 d)]),(5,.spare y.length 2 73),(8,.box [.p (.list Int 1 sL (flat m d (fun _ _=>true)))])] (C6) (eI ?_);refine G6 A0 A0 (fun F=>by rw[F];exact gO A0 (.pure _ _ _ _)) A0 A0 ?_;refine I0 ?_;refine G6 A0 A0 (fun F=>by have V:=F;(try simp at V);rw[F];exact F1 A0 (.pure _ _ _ _) A0 B3 (tU B3)) A0 A0 ?_;refine H8 ?_;refine G6 A0 A0 (fun F=>by have V:=F;(try simp at V);rw[F];exact F1 A0 (.pure _ _ _ _) A0 B3 (tU B3)) A0 A0 ?_;refine F8 ?_;refine G6 A0 A0 (fun F=>by rw[F];exact ME A0 A0) A0 A0 ?_;refine zc 3 (fun w=>?_) fun w=>?_
  ·simp only[and_pick]at w;obtain⟨⟨M,z⟩,A⟩:=A1 w;have M:i<m.length:=by omega
   have z:j<d.length:=by omega
   rw[xW m d i j M z,A5 (by simpa[M,z] using A)]at E;refine d7 [(0,B9 Int 1 E0 m),(3,.s (.one (.ref 3 0))),(5,.s (.one (.buf 5 Span 2 spanC y))),(6,B1 k),(8,.s (.one (.ref 8 0))),(9,.s (.one (.clo 90 [] [(8,0),(3,0)]))),(10,B1 i),(11,B1 j)] [(3,.box [.p (.list Int 1 E0 d)]),(5,.spare y.length 2 73),(8,.box [.p (.list Int 1 sL (flat m d (fun _ _=>true)))])] (C6) (R9 ?_);refine A9 (B8 (c:=spanC) (ys:=[⟨(k:Int)+i,(k:Int)+j⟩]) (C5 A0 A0 A0 A0 E5) A0 A0 A0) A0 (o9 ?_);refine⟨(i+1,j+1,y++[⟨(k:Int)+i,(k:Int)+j⟩]),⟨by dsimp only;omega,by dsimp only;omega,by simp;omega,?_⟩,by dsimp only;omega,C6⟩;dsimp only;rw[E,B51]
   congr 2
  ·simp only[and_pick]at w;have T:=A2 w;refine d7 [(0,B9 Int 1 E0 m),(3,.s (.one (.ref 3 0))),(5,.s (.one (.buf 5 Span 2 spanC y))),(6,B1 k),(8,.s (.one (.ref 8 0))),(9,.s (.one (.clo 90 [] [(8,0),(3,0)]))),(10,B1 i),(11,B1 j)] [(3,.box [.p (.list Int 1 E0 d)]),(5,.spare y.length 2 73),(8,.box [.p (.list Int 1 sL (flat m d (fun _ _=>true)))])] (C6) ?_;by_cases M:i<m.length
   ·have C:decide ((i:Int)<(m.length:Int))=true:=A3 B3;have O:=LF (m.drop (i+1)) (d.drop j);simp only[B47]at O;have D:¬j<d.length->dist (m.drop (i+1)) (d.drop j)+1=dist (m.drop i) (d.drop j)/\K1 (k+i) (k+j) (m.drop i) (d.drop j)=K1 (k+i+1) (k+j) (m.drop (i+1)) (d.drop j):=by
     intro ab;rw[show d.drop j=[] from B53 B3,uG,uG,B47,B47,cS,cS];exact⟨by omega,rfl⟩
    have N:j<d.length->K1 (k+i) (k+j) (m.drop i) (d.drop j)=if dist (m.drop (i+1)) (d.drop j)+1=dist (m.drop i) (d.drop j) then K1 (k+i+1) (k+j) (m.drop (i+1)) (d.drop j) else K1 (k+i) (k+j+1) (m.drop i) (d.drop (j+1)):=by
     intro z;rw[xW m d i j M z,A6];intro A;exact T ⟨⟨by omega,by omega⟩,by simpa[M,z] using A⟩
    refine J5 ?_;refine E4 A0 A0 A0 C (F8 ?_);refine E4 A0 A0 A0 C (F8 ?_);refine E4 A0 A0 A0 C (F8 ?_);refine E4 A0 A0 A0 C (F8 ?_);refine E4 A0 A0 A0 C (iP (WW m d (i+1) j H J B3 P A0 A0) A0 A0 A0 A0 ?_);rintro _ _ ⟨rfl,rfl⟩;refine E4 A0 A0 A0 C (F8 ?_);refine E4 A0 A0 A0 C (F8 ?_);refine E4 A0 A0 A0 C (F8 ?_);refine E4 A0 A0 A0 C (F8 ?_);refine E4 A0 A0 A0 C (iP (WW m d i j H J Z P A0 A0) A0 A0 A0 A0 ?_);rintro _ _ ⟨rfl,rfl⟩;refine E4 A0 A0 A0 C ?_;refine zc 4 (fun w=>?_) fun w=>?_
    ·simp only[and_pick]at w;obtain⟨_,A⟩:=A1 w;have A:dist (m.drop (i+1)) (d.drop j)+1=dist (m.drop i) (d.drop j):=by omega
     have L:K1 (k+i) (k+j) (m.drop i) (d.drop j)=K1 (k+i+1) (k+j) (m.drop (i+1)) (d.drop j):=by
      by_cases z:j<d.length
      ·rw[N z,A5 A]
      ·exact (D z).2
     rw[L]at E;skip;refine I0 ?_;refine⟨(i+1,j,y),⟨by dsimp only;omega,by dsimp only;omega,by dsimp only;omega,?_⟩,by dsimp only;omega,C6⟩;dsimp only;rw[E,show (k:Int)+(i:Int)+1=(k:Int)+((i+1:Nat):Int) by omega]
    ·simp only[and_pick]at w;have A:=A2 w;have A:¬dist (m.drop (i+1)) (d.drop j)+1=dist (m.drop i) (d.drop j):=fun q=>A ⟨by omega,by omega⟩;have z:j<d.length:=by
      by_cases z:j<d.length
      ·exact z
      ·exact absurd (D z).1 A
     rw[N z,A6 A]at E;skip;refine I0 ?_;refine⟨(i,j+1,y),⟨by dsimp only;omega,by dsimp only;omega,by dsimp only;omega,?_⟩,by dsimp only;omega,C6⟩;dsimp only;rw[E,show (k:Int)+(j:Int)+1=(k:Int)+((j+1:Nat):Int) by omega]
   ·have v:decide ((i:Int)<(m.length:Int))=false:=A4 B3;have z:j<d.length:=by omega
    refine J5 ?_;refine H5 A0 A0 A0 (by rw[v];decide) A0 ?_;refine H5 A0 A0 A0 (by rw[v];decide) A0 ?_;refine H5 A0 A0 A0 (by rw[v];decide) A0 ?_;refine H5 A0 A0 A0 (by rw[v];decide) A0 ?_;refine H5 A0 A0 A0 (by rw[v];decide) A0 ?_;refine H5 A0 A0 A0 (by rw[v];decide) A0 ?_;refine H5 A0 A0 A0 (by rw[v];decide) A0 ?_;refine H5 A0 A0 A0 (by rw[v];decide) A0 ?_;refine H5 A0 A0 A0 (by rw[v];decide) A0 ?_;refine H5 A0 A0 A0 (by rw[v];decide) A0 ?_;refine H5 A0 A0 A0 (by rw[v];decide) A0 ?_;refine A9 (Y3 A0 (v) A0) A0 ?_;refine zc 2 (fun w=>?_) fun w=>?_
    ·cases w
    ·skip;refine I0 ?_;refine⟨(i,j+1,y),⟨by dsimp only;omega,by dsimp only;omega,by dsimp only;omega,?_⟩,by dsimp only;omega,C6⟩;dsimp only;rw[E,show m.drop i=[] from B53 B3,i7,i7]
 ·simp only[or_pick]at w;have K:=A2 w;rw[show m.drop i=[] from B53 B3,i7,B71]at E;refine J5 ?_;exact A8 M3 (by rw[E])
theorem BU(a b:List Int)(ha:a.length<=4096)(hb:b.length<=4096):FnOk prog 23 [L5 a,L5 b] (fun rs=>rs=[pChanges (jD a b),E2 0]):=by
 have d:=sJ a b 0 0;rw[Int.zero_add,Int.zero_add]at d;have e:=jE 0 0 a b;refine FnOk.intro Tryz.func23 F5 A0 A0 A0 A0 (R9 ?_);refine F0 (OT a b) ?_;refine zc 2 (fun c=>?_) fun c=>?_
 ·exfalso;have h:decide ((a.length:Int)<=4096/\(b.length:Int)<=4096)=true:=A3 ⟨by omega,by omega⟩;rw[h]at c;cases c
 refine I0 ?_;refine F0 (A62 a b ha hb) (R6 ?_);refine F0 (FC (K1 0 0 a b) a.length b.length ⟨by omega,by omega⟩ ⟨by omega,by omega⟩ d B3) (N0 ?_);exact A8 nP rfl
abbrev pHunk(h:Hunk):PV:=.agg [.v (.int .i64 h.First),.v (.int .i64 h.Last),.v (.int .i64 h.Old.From),.v (.int .i64 h.Old.To),.v (.int .i64 h.New.From),.v (.int .i64 h.New.To)]
theorem b0y{p:Prop}(h:p:=by exact retc rfl rfl rfl rfl rfl):p:=h
theorem kA{p:Prop}(h:p:=by assumption):p:=h
theorem TS(l:List Change)(f z:Nat)(m b:Int)(H:l.length<=1073741824)(G:f<z)(J:z<=l.length)(F:0<=b/\b<=1048576)(I:0<=m/\m<=4096)
  (hb:∀k,k<l.length->I4 (G7 l k).Old/\I4 (G7 l k).OldLen/\I4 (G7 l k).New/\I4 (G7 l k).NewLen) :
  FnOk prog 55 [pChanges l,E2 f,E2 z,E2 m,E2 b] (fun A=>A=[pHunk (wN l m b f z)]):=by
 have h:l[((f:Nat):Int).toNat]?=some (G7 l f):=by rw[B26];exact fA B3
 have i:l[((z:Nat):Int).toNat-1]?=some (G7 l (z-1)):=by rw[B26];exact fA B3
 have g:l[(((z:Nat):Int)-1).toNat]?=some (G7 l (z-1)):=by rw[show (((z:Nat):Int)-1).toNat=z-1 by omega];exact fA B3
 obtain⟨⟨q,a2⟩,⟨a3,a4⟩,⟨a5,s⟩,⟨v,x⟩⟩:=hb f B3;obtain⟨⟨B,z2⟩,⟨z3,z4⟩,⟨z5,C⟩,⟨D,E⟩⟩:=hb (z-1) B3;obtain⟨a,ha⟩:∃a,a=G7 l f:=⟨_,rfl⟩
 obtain⟨y,j⟩:∃y,y=G7 l (z-1):=⟨_,rfl⟩
 have c:wN l m b f z=⟨f,z,⟨a.Old-aV b a.Old,y.Old+y.OldLen+aV b (m-y.Old-y.OldLen)⟩,⟨a.New-aV b a.Old,y.New+y.NewLen+aV b (m-y.Old-y.OldLen)⟩⟩:=by
  unfold wN iF W6;dsimp only;rw[<-ha,<-j,show m-(y.Old+y.OldLen)=m-y.Old-y.OldLen by omega,show (((z-1:Nat):Int)+1)=z by omega]
 rw[<-ha]at h q a2 a3 a4 a5 s v x;rw[<-j]at i g B z2 z3 z4 z5 C D E;rw[c];have K:-4096<=aV b a.Old/\aV b a.Old<=4096:=by unfold aV;split<;>omega
 have M:-8192<=aV b (m-y.Old-y.OldLen)/\aV b (m-y.Old-y.OldLen)<=1048576:=by unfold aV;split<;>omega
 refine FnOk.intro Tryz.func55 F5 A0 A0 A0 A0 (H2 ?_);refine B6 (E6 10 A0) A0 (H2 ?_);refine tH [12,11,10,9] [[],[9],[10],[10,9],[11,10,9],[12,11,10,9]] [(0,[9]),(0,[10]),(0,[10,9]),(1,[9]),(1,[10]),(1,[10,9]),(2,[9]),(2,[10]),(2,[10,9]),(3,[9]),(3,[10]),(3,[10,9]),(4,[9]),(4,[10]),(4,[10,9]),(4,[11,10,9]),(5,[9]),(5,[10]),(5,[10,9]),(5,[11,10,9]),(6,[9]),(6,[10]),(6,[10,9]),(6,[11,10,9]),(7,[9]),(7,[10]),(7,[10,9]),(7,[11,10,9]),(8,[9]),(8,[10]),(8,[10,9]),(8,[11,10,9]),(9,[10]),(10,[])] E7 E7 (dS A0 (C4 A0 A0) (dS A0 (C4 A0 A0) (dS A0 (F1 A0 (.pure _ _ _ _) A0 B3 kA) (dS A0 (I1 A0 A0) (dS A0 (C4 A0 A0) (dS A0 (C4 A0 A0) (dS A0 (S7 A0 A0 B3) (dS A0 (F1 A0 (.pure _ _ _ _) A0 B3 kA) (dS A0 (I1 A0 A0) (WE 11 A0 A0 (WE 12 A0 A0 (zD (dO TySz.out A0 A0 A0 A0 A0 A0) (zD (dO TySz.out A0 A0 A0 A0 A0 A0) ?_)))))))))))));refine a_nil rfl ?_ ?_
 ·refine Q4 A0 A0 (C4 A0 A0) (Q4 A0 A0 (C4 A0 A0) (Q4 A0 A0 (C4 A0 A0) (Q4 A0 A0 (C4 A0 A0) (Q4 A0 A0 (C4 A0 A0) (Q4 A0 A0 (C4 A0 A0) (Q4 A0 A0 (F1 A0 (.pure _ _ _ _) A0 B3 kA) (Q4 A0 A0 (F1 A0 (.pure _ _ _ _) A0 B3 kA) (Q4 A0 A0 (F1 A0 (.pure _ _ _ _) A0 B3 kA) (Q4 A0 A0 (I1 A0 A0) (Q4 A0 A0 (I1 A0 A0) (Q4 A0 A0 (I1 A0 A0) (Q4 A0 A0 (C4 A0 A0) (Q4 A0 A0 (C4 A0 A0) (Q4 A0 A0 (C4 A0 A0) (Q4 A0 A0 (C4 A0 A0) (Q4 A0 A0 (C4 A0 A0) (Q4 A0 A0 (C4 A0 A0) (Q4 A0 A0 (C4 A0 A0) (Q4 A0 A0 (C4 A0 A0) (Q4 A0 A0 (S7 A0 A0 B3) (Q4 A0 A0 (S7 A0 A0 B3) (Q4 A0 A0 (S7 A0 A0 B3) (Q4 A0 A0 (S7 A0 A0 B3) ?_)))))))))))))))))))))));refine Q4 A0 A0 (F1 A0 (.pure _ _ _ _) A0 B3 kA) (Q4 A0 A0 (F1 A0 (.pure _ _ _ _) A0 B3 kA) (Q4 A0 A0 (F1 A0 (.pure _ _ _ _) A0 B3 kA) (Q4 A0 A0 (F1 A0 (.pure _ _ _ _) A0 B3 kA) (Q4 A0 A0 (I1 A0 A0) (Q4 A0 A0 (I1 A0 A0) (Q4 A0 A0 (I1 A0 A0) (Q4 A0 A0 (I1 A0 A0) (WF A0 A0 A0 A0 A0 (WF A0 A0 A0 A0 A0 ?_)))))))));exact o_nil
 refine X0 ?_;rw[show (if a.Old<b then a.Old else b)=aV b a.Old from rfl];refine zz 13 ?_;rw[show (if m-y.Old-y.OldLen<b then m-y.Old-y.OldLen else b)=aV b (m-y.Old-y.OldLen) from rfl];refine zz 32 ?_;exact A8 b0y rfl
theorem ZH(l:List Change)(m n ctx:Int)(hl:l.length<=1073741824):FnOk prog 25 [pChanges l,E2 m,E2 n,E2 ctx] (fun rs=>rs=[pHunks (lP l m n ctx).1,E2 (lP l m n ctx).2]):=by
 have y:lP l m n ctx=if ctx<0\/1048576<ctx then ([],3) else if s9 l m n≠0 then ([],s9 l m n) else (H9 l m ctx l.length,0):=rfl
 refine FnOk.intro Tryz.func25 F5 A0 A0 A0 A0 ?_;refine zc 15 (fun g=>?_) fun g=>?_
 ·simp only[or_pick]at g;have h:=A1 g;rw[A5 h]at y;refine H2 ?_;refine A9 (K8 _ 6 hunkC) A0 (H8 ?_);exact A8 nP (by rw[y])
 simp only[or_pick]at g;have hc:=A2 g;rw[A6 hc]at y;refine J5 ?_;refine F0 (HF l m n hl) ?_;refine zc 7 (fun g=>?_) fun g=>?_
 ·have h:=A1 g;rw[A5 h]at y;refine H8 ?_;refine A9 (K8 _ 6 hunkC) A0 (H8 ?_);exact A8 nP (by rw[y])
 have h:=A2 g;rw[A6 h]at y;obtain⟨hm,hn,hs⟩:=ID (B84.1 h);have hb:∀k,k<l.length->I4 (G7 l k).Old/\I4 (G7 l k).OldLen/\I4 (G7 l k).New/\I4 (G7 l k).NewLen:=fun k hk=>by
  obtain⟨Q,R,S,T,_⟩:=hs.get k hk;exact⟨Q,R,S,T⟩
 refine d7 [(0,B9 Change 4 changeC l),(1,B1 m),(2,B1 n),(3,B1 ctx)] [] (C6) (H8 ?_);refine B6 (U2 11 _ hunkC A0) A0 (zz 13 ?_);refine C1 (X:=Nat×Nat×List Hunk) (fun x=>([(0,B9 Change 4 changeC l),(1,B1 m),(3,B1 ctx),(11,.s (.one (.buf 11 Hunk 6 hunkC x.2.2))),(12,B1 x.2.1),(28,B9 Change 4 changeC l),(29,B1 l.length),(30,B1 x.1)],[(11,.spare x.2.2.length 6 75)])) (fun x=>x.1<=l.length/\x.2.1<=x.1/\GrX l m ctx 0 x.2.2 x.2.1/\(∀c,x.2.1<c->c<=x.1->c<l.length->¬opens l ctx c)/\(x.2.1<l.length->opens l ctx x.2.1)/\(x.1=l.length->x.2.1=l.length)) (fun x=>l.length-x.1) (0,0,[]) ⟨B37 _,B29 _,rfl,fun c v I=>by omega,fun _=>.inl rfl,fun h=>h⟩ (C6) ?_;rintro⟨i,f,C⟩ ⟨hi,W,H,F,G,D⟩;dsimp only at hi W H F G D ⊢;have ab:=H.len;refine zc 5 (fun g=>?_) fun g=>?_
 ·have M:i<l.length:=by have:=A1 g;omega
  have hv:l[((i:Nat):Int).toNat]?=some (G7 l i):=by rw[B26];exact fA M
  obtain⟨⟨Q,R⟩,⟨S,T⟩,_⟩:=hb i M;obtain⟨c,K⟩:∃c,c=G7 l i:=⟨_,rfl⟩
  have E:i+1<l.length->(opens l ctx (i+1)↔2*ctx<(G7 l (i+1)).Old-c.Old-c.OldLen):=fun v=>by
   unfold opens;rw[show i+1-1=i by omega,<-K];exact⟨fun h=>h.resolve_left B3,fun h=>.inr h⟩
  rw[<-K]at hv Q R S T;have Z:∀q:Int,q=(i:Int)+1->¬q=(l.length:Int)->l[q.toNat]?=some (G7 l (i+1)):=by
   intro q A P;rw[A,show ((i:Int)+1).toNat=i+1 by omega];exact fA B3
  have J:¬((i:Int)+1=(l.length:Int))->0<=(G7 l (i+1)).Old/\(G7 l (i+1)).Old<=4096:=by
   intro P;exact (hb (i+1) B3).1
  refine X0 ?_;refine B6 (E6 14 A0) A0 (zz 13 ?_);refine G6 A0 A0 (fun j=>by have A:=j;(try simp at A);skip;rw[j];exact X6 A0 A0 B3) A0 A0 ?_;refine G6 A0 A0 (fun j=>by have A:=j;(try simp at A);rw[j];exact F1 A0 (.pure _ _ _ _) A0 B3 (Z _ A0 (by simpa using A))) A0 A0 ?_;refine G6 A0 A0 (fun j=>by rw[j];exact N3 A0) A0 A0 ?_;refine H8 ?_;refine G6 A0 A0 (fun j=>by have A:=j;(try simp at A);rw[j];exact S7 A0 A0 (by (have:=J (by simpa using A);omega))) A0 A0 ?_;refine H2 ?_;refine G6 A0 A0 (fun j=>by have A:=j;(try simp at A);rw[j];exact S7 A0 A0 (by (have:=J (by simpa using A);omega))) A0 A0 ?_;refine F8 ?_;refine G6 A0 A0 (fun j=>by have A:=j;(try simp at A);rw[j];exact mH A0 A0 B3) A0 A0 ?_;refine G6 A0 A0 (fun j=>by rw[j];exact sW A0 A0) A0 A0 ?_;refine zc 2 (fun g=>?_) fun g=>?_
  ·simp only[or_pick]at g;have B:=A1 g;have z:i+1<l.length->opens l ctx (i+1):=fun v=>by
    rw[E v];exact B.resolve_left B3
   refine d7 [(0,B9 Change 4 changeC l),(1,B1 m),(3,B1 ctx),(11,.s (.one (.buf 11 Hunk 6 hunkC C))),(12,B1 f),(13,B1 i),(28,B9 Change 4 changeC l),(29,B1 l.length),(30,B1 i)] [(11,.spare C.length 6 75)] (C6) (U7 ?_);refine F0 (TS l f (i+1) m ctx hl B3 B3 B3 hm hb) (A9 (B8 (c:=hunkC) (ys:=[wN l m ctx f (i+1)]) (C5 A0 A0 A0 A0 E5) A0 A0 A0) A0 (eI ?_));refine⟨(i+1,i+1,C++[wN l m ctx f (i+1)]),⟨by dsimp only;omega,B29 _,?_,fun c v I=>by dsimp only at v I;omega,fun v=>z v,fun v=>v⟩,by dsimp only;omega,C6⟩;exact H.snoc (G B3) B3 (fun c v I=>F c v B3 B3)
  ·simp only[or_pick]at g;have B:=A2 g;have P:¬(i:Int)+1=l.length:=fun q=>B (.inl q);have z:¬opens l ctx (i+1):=fun q=>by
    rw[E B3]at q;exact B (.inr q)
   refine I0 ?_;refine⟨(i+1,f,C),⟨by dsimp only;omega,by dsimp only;omega,H,fun c v I h3=>?_,G,fun v=>by dsimp only at v;omega⟩,by dsimp only;omega,C6⟩;dsimp only at v I;by_cases U:c=i+1
   ·rw[U];exact z
   ·exact F c v B3 h3
 ·have Y:i=l.length:=by have:=A2 g;omega
  have V:=D Y;rw[V]at H;refine X0 ?_;exact A8 nP (by rw[y,GrX.unique H (yB l m ctx l.length)])
theorem lD{gf:Fr}{ob:Obs}(l:List PatchLine)(k:UInt8)(d:List Str)(B:B0 ob 701=some (.spare l.length 2 131))(z:l.length+d.length<=1073741824) :
  AL.Met prog 56 [.one (.buf 701 PatchLine 2 plineC l),.one (.p (.v (.int .u8 k.toNat))),.one (.p (.list Str 1 K6 d))] gf ob [701]
   (fun rs ob'=>rs=[.one (.buf 701 PatchLine 2 plineC (l++W7 k d))]/\ob'=(701,.spare (l++W7 k d).length 2 131)::Obs.forget 701 ob):=by
 refine AL.Met.introH Tryz.func56 F5 rfl rfl rfl (fun y=>?_);refine eI ?_;refine C1 (X:=Nat) (fun i=>([(0,.s (.one (.buf 701 PatchLine 2 plineC (l++W7 k (d.take i))))),(1,.s (pByte k).s1),(9,B9 Str 1 K6 d),(10,B1 d.length),(11,B1 i)]++Fr.forget 701 gf,(701,.spare (l++W7 k (d.take i)).length 2 131)::Obs.forget 701 ob)) (fun i=>i<=d.length) (fun i=>d.length-i) 0 (B37 _) ?_ ?_
 ·have e:l++W7 k (d.take 0)=l:=by simp[W7]
  rw[e];exact B19 701 lf y L6 B
 intro i A;dsimp only at A ⊢;have w:=pR k (d.take i);rw[B42]at w;refine zc 5 (fun x=>?_) fun x=>?_
 ·have j:i<d.length:=by have:=A1 x;omega
  have C:d[i]?=some d[i]:=by simp[j]
  have m:=VC k d i j;refine zz 14 ?_;refine A9 (B8 (c:=plineC) (ys:=[⟨k,d[i]⟩]) (C5 A0 A0 A0 A0 E5) A0 A0 A0) A0 (B6 (R7 A0 A0 A0 (.pure _ _ _ _) b5x A0) A0 (N0 ?_));refine⟨i+1,j,by omega,?_⟩;rw[m,<-B51];exact A91 lf (P1 y) b0x A39
 ·have q:i=d.length:=by have:=A2 x;omega
  subst q;rw[B38];refine J5 ?_;exact D7 Y5 bZ (fun _ _ h=>h) ⟨rfl,rfl⟩
theorem ZI(l:List Change)(x y:List Str)(q:Hunk)(A:ScOk 0 0 l x.length y.length)(hq:VA l x.length l.length q)(ai:x.length<=4096)(aj:y.length<=4096)(ag:l.length<=4097) :
  FnOk prog 26 [pHunk q,pChanges l,aI x,aI y] (fun rs=>rs=[pPhunk (M1 l x y q)]):=by
 obtain⟨a,b,D,E,q3,q4,q5,q6,q7,q8,q9,ak⟩:=hq;have W:=A.get b q4;obtain⟨z,F⟩:∃z,z=(l.drop a).take (b+1-a):=⟨_,rfl⟩
 have ae:z.length=b+1-a:=by rw[F,B42,B47];omega
 have V:∀t,a+t<=b->z[t]?=some (G7 l (a+t)):=by
  intro t S;rw[F,B78 B3,B85];exact fA B3
 have B:(l.drop q.First.toNat).take (q.Last.toNat-q.First.toNat)=z:=by
  rw[F,D,E,show ((b:Int)+1).toNat=b+1 by omega,show ((a:Nat):Int).toNat=a by omega]
 refine FnOk.intro Tryz.func26 F5 A0 A0 A0 A0 (H2 ?_);refine B6 (V5 4 A0 A0 A0) A0 (B6 (E6 8 A0) A0 (R9 ?_));refine B6 (E6 9 A0) A0 (H8 ?_);refine C3 (A98 701 PatchLine 2 plineC 131 (kb:=9) (o:=2) A0 A0 A0) (zz 14 ?_);refine A9 (cG A0 (.pure _ _ _ _) A0 A0 (by (first | (rw[D];omega) | (rw[D,E];omega) | (rw[E];omega))) (by (first | (rw[D];omega) | (rw[D,E];omega) | (rw[E];omega))) (by (first | (rw[D];omega) | (rw[D,E];omega) | (rw[E];omega)))) A0 ?_;refine H8 ?_;rw[B];refine F8 ?_;refine C1 (X:=Nat) (fun t=>([(2,B9 Str 1 K6 x),(3,B9 Str 1 K6 y),(4,.s (.one (.ref 4 0))),(8,.s (.one (.ref 8 0))),(9,.s (.one (.ref 9 0))),(10,B1 (r8 l q.Old.From a t)),(28,B9 Change 4 changeC z),(29,B1 z.length),(30,B1 t)],[(4,.box (pHunk q).s1.cells),(8,.box [.p (.v (.int .i64 0)),.p (.v (.int .i64 0)),.p (.v (.slice none 0 0))]),(9,.box [.p (.v (.int .i64 q.Old.From)),.p (.v (.int .i64 q.New.From)),.buf 701 PatchLine 2 plineC (X4 l x y q.Old.From a t)]),(701,.spare (X4 l x y q.Old.From a t).length 2 131)])) (fun t=>a+t<=b+1) (fun t=>b+1-t) 0 B3 ?_ ?_
 ·have e1:r8 l q.Old.From a 0=q.Old.From:=A5 rfl;rw[e1];exact C6
 intro t T;dsimp only at T ⊢;have Y:=VD l x y q.Old.From a t;have C:(X4 l x y q.Old.From a t).length<=4097*12288:=B72 Y (Nat.mul_le_mul B3 B3);refine zc 5 (fun S=>?_) fun S=>?_
 ·have P:a+t<=b:=by have:((t:Nat):Int)<z.length:=A1 S;omega
  obtain⟨c,K⟩:∃c,c=G7 l (a+t):=⟨_,rfl⟩
  have U:=V t P;rw[<-K]at U;have M:=A.get (a+t) B3;rw[<-K]at M;obtain⟨⟨g1,g2⟩,⟨g3,g4⟩,⟨g5,g6⟩,⟨g7,g8⟩,g9,ad⟩:=M;obtain⟨i0,j⟩:∃i0,i0=r8 l q.Old.From a t:=⟨_,rfl⟩
  have ac:0<=i0/\i0<=c.Old:=by
   rw[j,K];unfold r8 aW;split
   ·rename_i h0;subst h0;exact⟨q5,q6⟩
   ·have h4:=A.next (a+t-1) B3;have h5:=A.get (a+t-1) B3;rw[show a+t-1+1=a+t by omega]at h4;unfold I4 at h5;omega
  obtain⟨w,m⟩:∃w,w=X4 l x y q.Old.From a t:=⟨_,rfl⟩
  obtain⟨J,G⟩:∃J,J=W7 32 (sub x i0 c.Old):=⟨_,rfl⟩
  obtain⟨R,H⟩:∃R,R=W7 45 (sub x c.Old (aW c)):=⟨_,rfl⟩
  obtain⟨p3,Q⟩:∃p3,p3=W7 43 (sub y c.New (c.New+c.NewLen)):=⟨_,rfl⟩
  have I:X4 l x y q.Old.From a (t+1)=w++J++R++p3:=by rw[m,G,H,Q,j,K];rfl
  have Z:r8 l q.Old.From a (t+1)=aW c:=by rw[DA,K]
  have l1:=iG x i0 c.Old;have l2:=iG x c.Old (aW c);have l3:=iG y c.New (c.New+c.NewLen);have m1:J.length=(sub x i0 c.Old).length:=by rw[G,pR]
  have m2:R.length=(sub x c.Old (aW c)).length:=by rw[H,pR]
  have ab:aW c=c.Old+c.OldLen:=rfl;rw[<-m]at C ⊢;rw[<-j];refine J5 ?_;refine B6 (E6 12 A0) A0 (H8 ?_);refine j3 7 E7 E7 A0 (X0 ?_);refine fL (lD w 32 (sub x i0 c.Old) A0 B3) A0 A0 A0 ?_;rintro _ _ ⟨rfl,rfl⟩;refine⟨_,rfl,?_⟩;refine H8 ?_;rw[<-G];refine U7 ?_;rw[show c.Old+c.OldLen=aW c from rfl];refine F8 ?_;refine j3 7 E7 E7 A0 (X0 ?_);refine fL (lD (w++J) 45 (sub x c.Old (aW c)) A0 (by simp only[B25];omega)) A0 A0 A0 ?_;rintro _ _ ⟨rfl,rfl⟩;refine⟨_,rfl,?_⟩;refine H8 ?_;rw[<-H];refine GO ?_;refine j3 11 E7 E7 A0 (eI ?_);refine fL (lD (w++J++R) 43 (sub y c.New (c.New+c.NewLen)) A0 (by simp only[B25];omega)) A0 A0 A0 ?_;rintro _ _ ⟨rfl,rfl⟩;refine⟨_,rfl,?_⟩;refine H8 ?_;rw[<-Q];refine R6 ?_;refine⟨t+1,by omega,by omega,?_⟩;rw[I,Z];exact C6
 ·have ah:a+t=b+1:=by
   have h0:¬((t:Nat):Int)<z.length:=A2 S;omega
  obtain⟨i0,j⟩:∃i0,i0=r8 l q.Old.From a t:=⟨_,rfl⟩
  have af:i0=(G7 l b).Old+(G7 l b).OldLen:=by
   rw[j];unfold r8 aW;rw[A6 B3,show a+t-1=b by omega]
  unfold I4 at W;obtain⟨w,m⟩:∃w,w=X4 l x y q.Old.From a t:=⟨_,rfl⟩
  have hG:M1 l x y q=⟨q.Old.From,q.New.From,w++W7 32 (sub x i0 q.Old.To)⟩:=by
   rw[M1,D,E,show ((a:Nat):Int).toNat=a by omega,show ((b:Int)+1).toNat-a=t by omega,<-m,<-j]
  have l1:=iG x i0 q.Old.To;rw[<-m]at C ⊢;rw[<-j];refine H2 ?_;refine j3 8 E7 E7 A0 (U7 ?_);refine fL (lD w 32 (sub x i0 q.Old.To) A0 B3) A0 A0 A0 ?_;rintro _ _ ⟨rfl,rfl⟩;refine⟨_,rfl,?_⟩;refine H8 ?_;refine N0 ?_;exact A8 (rs:=[pPhunk (M1 l x y q)]) (by rw[hG];exact retc rfl rfl rfl rfl rfl) rfl
theorem tid_old{gf:Fr}{ob:Obs}(c:List Str)(s:Str)(q:s∈c)(j:B0 ob 710=some (.box [.mut 711,.buf 712 Str 1 K6 c]))(k:B0 ob 711=some (.map Str bI (fD c 0))) :
  AL.Met prog 85 [.one (.ref 710 0),.one (.p (.v (.string ⟨s.toArray⟩)))] gf ob [] (fun w ob'=>w=[.one (.p (.v (.int .i64 (L9 c s 0))))]/\ob'=ob):=by
 have l:=IG s c 0 q;refine AL.Met.intro Tryz.func85 F5 A0 A0 A0 (U7 ?_);refine A9 (D1 A0 j A0) A0 (F8 ?_);refine A9 (nL (s) (r:=some (.v (.int .i64 (L9 c s 0)))) A0 k A0 dT dU (l)) A0 ?_;refine zc 12 (fun d=>?_) fun d=>?_
 ·cases d
 refine J5 ?_;exact D7 Y5 bZ (fun _ _ h=>h) ⟨rfl,rfl⟩
theorem tid_new{gf:Fr}{ob:Obs}(d:List Str)(s:Str)(C:s∉d)(E:d.length<=1073741823)(q:B0 ob 710=some (.box [.mut 711,.buf 712 Str 1 K6 d]))(y:B0 ob 711=some (.map Str bI (fD d 0)))
  (B:B0 ob 712=some (.spare d.length 1 9)) :
  AL.Met prog 85 [.one (.ref 710 0),.one (.p (.v (.string ⟨s.toArray⟩)))] gf ob [712] (fun D ob'=>D=[.one (.p (.v (.int .i64 d.length)))]/\ob'=(710,.box [.mut 711,.buf 712 Str 1 K6 (d++[s])])::(712,.spare (d++[s]).length 1 9)::Obs.forget 712 ((711,.map Str bI (fD d 0++[(s,.v (.int .i64 d.length))]))::ob)):=by
 have z:=DN s d 0 C;refine AL.Met.intro Tryz.func85 F5 A0 A0 A0 (U7 ?_);refine A9 (D1 A0 q A0) A0 (F8 ?_);refine A9 (nL (s) (r:=none) A0 y A0 dT dU (z)) A0 ?_;refine zc 12 (fun A=>?_) fun A=>?_
 ·refine I0 ?_;refine A9 (D1 A0 q A0) A0 (X0 ?_);refine A9 (D1 A0 q A0) A0 (H2 ?_);refine V2 (MS (s) A0 y A0 A0 A0 dT dU (z)) (F8 ?_);have j:B0 ((711,Ob.map Str bI (fD d 0++[(s,.v (.int .i64 d.length))]))::ob) 710=some (.box [.mut 711,.buf 712 Str 1 K6 d]):=by rw[A7 F5];exact q
  have w:B0 ((711,Ob.map Str bI (fD d 0++[(s,.v (.int .i64 d.length))]))::ob) 712=some (.spare d.length 1 9):=by rw[A7 F5];exact B
  have k:B0 ((712,Ob.spare (d++[s]).length 1 9)::Obs.forget 712 ((711,Ob.map Str bI (fD d 0++[(s,.v (.int .i64 d.length))]))::ob)) 710=some (.box [.mut 711,.p (.list Str 1 K6 d)]):=by
   rw[A7 F5,I8,j];rfl
  refine I0 ?_;refine A9 (D1 A0 j A0) A0 (F8 ?_);refine A9 (B8 (c:=K6) (ys:=[s]) (C5 A0 A0 A0 A0 E5) A0 A0 A0) A0 (B6 (R7 A0 w A0 (.pure _ _ _ _) NZ A0) A0 (H2 ?_));refine V2 (I9 TySz.out A0 k A0 A0 A0 A0) (J5 ?_);exact D7 Y5 bZ (fun _ _ h=>h) ⟨rfl,rfl⟩
 ·cases A
theorem TT(files:List (List Str))(i m:Nat):(P2 files i).all (TC.free m)=true:=by
 rw[B27];intro t b;unfold P2 at b;obtain⟨r,_,rfl⟩:=B62.1 b;split<;>rfl
theorem ZJ{files:List (List Str)}{i:Nat}(b x:TC)(m:Nat):(((P2 files i).set i b).map (TC.forget m)).set i x=(P2 files i).set i x:=by
 have c:(P2 files i).map (TC.forget m)=P2 files i:=by
  unfold P2;rw[B94];apply B80;intro r _;simp only[Function.comp];split<;>rfl
 rw[List.map_set,c,List.set_set]
theorem TU{files:List (List Str)}{i:Nat}(b x:TC)(m d:Nat):((((P2 files i).set i b).map (TC.forget m)).map (TC.forget d)).set i x=(P2 files i).set i x:=by
 have c:∀m,(P2 files i).map (TC.forget m)=P2 files i:=by
  intro m;unfold P2;rw[B94];apply B80;intro r _;simp only[Function.comp];split<;>rfl
 rw[List.map_set,c,List.map_set,c,List.set_set]
theorem ZK(files:List (List Str))(hn:files.length<=1048576)(hl:files.flatten.length<=536870911):FnOk prog 47 [pStrss files] (fun rs=>rs=[pIntss (files.map (F4 (D6 files))),aI (D6 files)]):=by
 refine FnOk.intro Tryz.func47 F5 A0 A0 A0 A0 (J5 ?_);refine B6 (vV 711 Str bI A0) A0 (F8 ?_);refine B6 (V5 710 A0 A0 A0) A0 (H8 ?_);refine C3 (A98 712 Str 1 K6 9 (kb:=710) (o:=1) A0 A0 A0) (H8 ?_);refine B6 (eW 20 Unit (fun _ _=>.v (.slice none 0 0)) () A0 A0 B3 B3 (fun _=>b1w) b3x) A0 (R6 ?_);refine C3 (B21 20 A0) ?_;have hz:((List.replicate ((files.length:Nat):Int).toNat ()).map fun x=>TC.p ((fun (_:Unit) (_:Nat)=>Cell.v (.slice none 0 0)) x 0))=P2 files 0:=by
  rw[B26,<-VF];simp
 have Y:(List.replicate ((files.length:Nat):Int).toNat ()).length=files.length:=by simp
 rw[hz,Y];refine N0 ?_;refine C1 (X:=Nat) (fun i=>([(4,.s (.one (.ref 710 0))),(5,.s (.one (.mut 20))),(16,B9 (List Str) 1 strsC files),(17,B1 files.length),(18,B1 i)],[(710,.box [.mut 711,.buf 712 Str 1 K6 (O3 files i 0)]),(711,.map Str bI (fD (O3 files i 0) 0)),(712,.spare (O3 files i 0).length 1 9),(20,.tarr files.length 1 (P2 files i))])) (fun i=>i<=files.length) (fun i=>files.length-i) 0 (B37 _) ?_ ?_
 ·rw[show O3 files 0 0=[] from rfl];exact C6
 intro i hi;dsimp only at hi ⊢;refine zc 5 (fun K=>?_) fun K=>?_
 ·have G:i<files.length:=by have:=A1 K;omega
  obtain⟨f,M⟩:∃f,f=files.getD i []:=⟨_,rfl⟩
  have hv:files[i]?=some f:=by rw[M];simp[G]
  have ab:f.length<=files.flatten.length:=by
   have h1:f∈files:=B43 hv;have:∀(L:List (List Str)),f∈L->f.length<=L.flatten.length:=by
    intro L;induction L with
    | nil=>intro h;simp at h
    | cons x r ih =>
     intro h;simp only[B69,B25];rcases B34.1 h with rfl | h
     ·omega
     ·have:=ih h;omega
   exact this files h1
  have V:(P2 files i).length=files.length:=by simp[P2]
  refine zz 18 ?_;refine C3 (B17 713 Int 1 E0 3 (kb:=20) (o:=i) A0 (A20 G) (by simp[H7,J2,Ob.free,SV.free,S1.free,TC.free,TT];repeat' (first | rfl | constructor))) ?_;refine C1 (X:=Nat) (fun j=>([(4,.s (.one (.ref 710 0))),(5,.s (.one (.mut 20))),(6,B1 i),(16,B9 (List Str) 1 strsC files),(17,B1 files.length),(18,B1 i),(23,B9 Str 1 K6 f),(24,B1 f.length),(25,B1 j)],[(20,.tarr files.length 1 ((P2 files i).set i (.buf 713 Int 1 E0 (F4 (D6 files) (f.take j))))),(710,.box [.mut 711,.buf 712 Str 1 K6 (O3 files i j)]),(711,.map Str bI (fD (O3 files i j) 0)),(712,.spare (O3 files i j).length 1 9),(713,.spare (F4 (D6 files) (f.take j)).length 1 3)])) (fun j=>j<=f.length) (fun j=>f.length-j) 0 (B37 _) ?_ ?_
  ·exact C6
  intro j hj;dsimp only at hj ⊢;refine zc 5 (fun K=>?_) fun K=>?_
  ·have B:j<f.length:=by have:=A1 K;omega
   obtain⟨s,Z⟩:∃s,s=f[j]:=⟨_,rfl⟩
   have W:f[j]?=some s:=by rw[Z];simp[B]
   have y:=LN files i j s (by rw[<-M];exact W);obtain⟨d,T⟩:∃d,d=O3 files i j:=⟨_,rfl⟩
   have S:=DO files i j;obtain⟨rest,w⟩:=yD files i (j+1);obtain⟨q,E⟩:∃q,q=F4 (D6 files) (f.take j):=⟨_,rfl⟩
   have ac:q.length=j:=by rw[E];simp[F4];omega
   have F:F4 (D6 files) (f.take (j+1))=q++[L9 (D6 files) s 0]:=by
    rw[E,B57 B,<-Z];unfold F4;rw[B65];rfl
   rw[y]at w;rw[<-T]at y S w ⊢;rw[<-E];have C:((P2 files i).set i (.buf 713 Int 1 E0 q))[((i:Nat):Int).toNat]?=some (.buf 713 Int 1 E0 q):=by
    rw[B26,C05 (by rw[V];omega)]
   have A:(((P2 files i).set i (.buf 713 Int 1 E0 q)).map (TC.forget 712))[((i:Nat):Int).toNat]?=some (.buf 713 Int 1 E0 q):=by
    rw[B92,C];rfl
   refine U7 ?_;by_cases z:s∈d
   ·have I:M8 d s=d:=by unfold M8;rw[A5 z]
    rw[I]at y w;have J:L9 (D6 files) s 0=L9 d s 0:=by rw[w];exact oP s rest d 0 z
    refine GO ?_;refine d7 ((9,T0 s)::[(4,.s (.one (.ref 710 0))),(5,.s (.one (.mut 20))),(6,B1 i),(16,B9 (List Str) 1 strsC files),(17,B1 files.length),(18,B1 i),(23,B9 Str 1 K6 f),(24,B1 f.length),(25,B1 j)]) [(20,.tarr files.length 1 ((P2 files i).set i (.buf 713 Int 1 E0 q))),(710,.box [.mut 711,.buf 712 Str 1 K6 d]),(711,.map Str bI (fD d 0)),(712,.spare d.length 1 9),(713,.spare q.length 1 3)] (C6) (L8 [12,10,8] [[],[8],[10,8],[12,10,8]] [(8,([],[])),(10,([713],[34])),(12,([],[]))] [(0,[]),(1,[]),(2,[]),(3,[]),(4,[]),(5,[]),(6,[]),(7,[]),(8,[]),(9,[8]),(10,[8]),(11,[10,8]),(12,[10,8])] [(0,[8]),(0,[10,8]),(1,[8]),(1,[10,8]),(2,[8]),(3,[8]),(4,[8]),(5,[8])] E7 E7 (C8 A0 A0 E7 A0 A0 (C4 A0 A0) (C8 A0 A0 E7 A0 A0 (C4 A0 A0) (C8 A0 A0 E7 A0 A0 (C4 A0 A0) (C8 A0 A0 E7 A0 A0 (C4 A0 A0) (C8 A0 A0 E7 A0 A0 (T3 A0 A0 A0 B3 B3) (C8 A0 A0 E7 A0 A0 (cZ A0 A0 (by first | exact C | exact A)) ?_)))))));refine C8 A0 A0 E7 A0 A0 (C4 A0 A0) (C8 A0 A0 E7 A0 A0 (C4 A0 A0) (Y4 A0 A0 E7 A0 A0 (WH (fun gf=>tid_old d s z A0 A0) A0 A0) A0 (C8 A0 A0 E7 A0 A0 (B8 (c:=E0) (ys:=[L9 d s 0]) (C5 A0 A0 A0 A0 E5) A0 A0 A0) (Y4 A0 A0 E7 A0 A0 (vX (fun H D=>R7 (T4 D A0) A0 (T4 D A0) (.pure _ _ _ _) NZ A0)) A0 (C8 A0 A0 E7 A0 A0 (T3 A0 A0 A0 B3 B3) (Y4 A0 A0 E7 A0 A0 (gS (fun H D=>nD TySz.out (T4 D A0) A0 b6y (T4 D A0) A0)) A0 ?_))))));refine xB E7 rfl ?_ ?_
    ·refine J1 A0 A0 E7 A0 A0 (C4 A0 A0) (J1 A0 A0 E7 A0 A0 (C4 A0 A0) (J1 A0 A0 E7 A0 A0 (C4 A0 A0) (J1 A0 A0 E7 A0 A0 (C4 A0 A0) (J1 A0 A0 E7 A0 A0 (C4 A0 A0) (J1 A0 A0 E7 A0 A0 (C4 A0 A0) (J1 A0 A0 E7 A0 A0 (T3 A0 A0 A0 B3 B3) (J1 A0 A0 E7 A0 A0 (cZ A0 A0 (by first | exact C | exact A)) ?_)))))));exact jT
    refine d7 [(4,.s (.one (.ref 710 0))),(5,.s (.one (.mut 20))),(6,B1 i),(16,B9 (List Str) 1 strsC files),(17,B1 files.length),(18,B1 i),(23,B9 Str 1 K6 f),(24,B1 f.length),(25,B1 j)] [(20,.tarr files.length 1 ((P2 files i).set i (.buf 713 Int 1 E0 (q++[L9 d s 0])))),(710,.box [.mut 711,.buf 712 Str 1 K6 (d)]),(711,.map Str bI (fD (d) 0)),(712,.spare (d).length 1 9),(713,.spare (q++[L9 d s 0]).length 1 3)] (by rw[B26 i,ZJ];exact C6) ?_;refine R6 ?_;exact⟨j+1,B,by omega,by rw[y,F,J];exact C6⟩
   ·refine GO ?_;have I:M8 d s=d++[s]:=by unfold M8;rw[A6 z]
    rw[I]at y w;have R:fD (d++[s]) 0=fD d 0++[(s,.v (.int .i64 (d.length:Int)))]:=by rw[IF];simp only[Int.zero_add]
    have J:L9 (D6 files) s 0=d.length:=by
     rw[w,oP s rest (d++[s]) 0 eR,yC s d 0 z];omega
    refine d7 ((9,T0 s)::[(4,.s (.one (.ref 710 0))),(5,.s (.one (.mut 20))),(6,B1 i),(16,B9 (List Str) 1 strsC files),(17,B1 files.length),(18,B1 i),(23,B9 Str 1 K6 f),(24,B1 f.length),(25,B1 j)]) [(20,.tarr files.length 1 ((P2 files i).set i (.buf 713 Int 1 E0 (q)))),(710,.box [.mut 711,.buf 712 Str 1 K6 (d)]),(711,.map Str bI (fD (d) 0)),(712,.spare (d).length 1 9),(713,.spare (q).length 1 3)] (C6) (L8 [12,10,8] [[],[8],[10,8],[12,10,8]] [(8,([712],[])),(10,([713],[34])),(12,([],[]))] [(0,[]),(1,[]),(2,[]),(3,[]),(4,[]),(5,[]),(6,[]),(7,[]),(8,[]),(9,[8]),(10,[8]),(11,[10,8]),(12,[10,8])] [(0,[8]),(0,[10,8]),(1,[8]),(1,[10,8]),(2,[8]),(3,[8]),(4,[8]),(5,[8])] E7 E7 (C8 A0 A0 E7 A0 A0 (C4 A0 A0) (C8 A0 A0 E7 A0 A0 (C4 A0 A0) (C8 A0 A0 E7 A0 A0 (C4 A0 A0) (C8 A0 A0 E7 A0 A0 (C4 A0 A0) (C8 A0 A0 E7 A0 A0 (T3 A0 A0 A0 B3 B3) (C8 A0 A0 E7 A0 A0 (cZ A0 A0 (by first | exact C | exact A)) ?_)))))));refine C8 A0 A0 E7 A0 A0 (C4 A0 A0) (C8 A0 A0 E7 A0 A0 (C4 A0 A0) (Y4 A0 A0 E7 A0 A0 (WH (fun gf=>tid_new d s z B3 A0 A0 A0) A0 A0) A0 (C8 A0 A0 E7 A0 A0 (B8 (c:=E0) (ys:=[(d.length:Int)]) (C5 A0 A0 A0 A0 E5) A0 A0 A0) (Y4 A0 A0 E7 A0 A0 (vX (fun H D=>R7 (T4 D A0) A0 (T4 D A0) (.pure _ _ _ _) NZ A0)) A0 (C8 A0 A0 E7 A0 A0 (T3 A0 A0 A0 B3 B3) (Y4 A0 A0 E7 A0 A0 (gS (fun H D=>nD TySz.out (T4 D A0) A0 b6y (T4 D A0) A0)) A0 ?_))))));refine xB E7 rfl ?_ ?_
    ·refine J1 A0 A0 E7 A0 A0 (C4 A0 A0) (J1 A0 A0 E7 A0 A0 (C4 A0 A0) (J1 A0 A0 E7 A0 A0 (C4 A0 A0) (J1 A0 A0 E7 A0 A0 (C4 A0 A0) (J1 A0 A0 E7 A0 A0 (C4 A0 A0) (J1 A0 A0 E7 A0 A0 (C4 A0 A0) (J1 A0 A0 E7 A0 A0 (T3 A0 A0 A0 B3 B3) (J1 A0 A0 E7 A0 A0 (cZ A0 A0 (by first | exact C | exact A)) ?_)))))));exact jT
    refine d7 [(4,.s (.one (.ref 710 0))),(5,.s (.one (.mut 20))),(6,B1 i),(16,B9 (List Str) 1 strsC files),(17,B1 files.length),(18,B1 i),(23,B9 Str 1 K6 f),(24,B1 f.length),(25,B1 j)] [(20,.tarr files.length 1 ((P2 files i).set i (.buf 713 Int 1 E0 (q++[(d.length:Int)])))),(710,.box [.mut 711,.buf 712 Str 1 K6 (d++[s])]),(711,.map Str bI (fD (d++[s]) 0)),(712,.spare (d++[s]).length 1 9),(713,.spare (q++[(d.length:Int)]).length 1 3)] (by rw[B26 i,TU,R];exact C6) ?_;refine R6 ?_;exact⟨j+1,B,by omega,by rw[y,F,J];exact C6⟩
  ·have Q:j=f.length:=by have:=A2 K;omega
   subst Q;rw[B38];refine F8 ?_;refine C3 (Sees.forget 713) ?_;have O:((P2 files i).set i (.buf 713 Int 1 E0 (F4 (D6 files) f))).map (TC.forget 713)=P2 files (i+1):=by rw[M];exact LO files i 713 G
   have U:O3 files (i+1) 0=O3 files i f.length:=by rw[M];exact QP files i
   refine d7 [(4,.s (.one (.ref 710 0))),(5,.s (.one (.mut 20))),(16,B9 (List Str) 1 strsC files),(17,B1 files.length),(18,B1 i)] [(710,.box [.mut 711,.buf 712 Str 1 K6 (O3 files (i+1) 0)]),(711,.map Str bI (fD (O3 files (i+1) 0) 0)),(712,.spare (O3 files (i+1) 0).length 1 9),(20,.tarr files.length 1 (P2 files (i+1)))] (by rw[U,<-O];exact C6) ?_;refine R6 ?_;exact⟨i+1,G,by omega,C6⟩
 ·have P:i=files.length:=by have:=A2 K;omega
  rw[P,QQ];refine C3 (B22 20 (c:=intsC) (files.map (F4 (D6 files))) A0 eR (VG files)) (C3 (Sees.freeze (k:=20) A0) (C3 (Sees.forget 712) (eI ?_)));exact A8 nP rfl
theorem tV(files:List (List Str))(b:files.length<=1048576)(a:files.flatten.length<=536870911):FnOk prog 22 [pStrss files] (fun rs=>rs=[pIntss (files.map (F4 (D6 files)))]):=by
 refine FnOk.intro Tryz.func22 F5 A0 A0 A0 A0 (J5 ?_);refine F0 (ZK files b a) (eI ?_);exact A8 M3 rfl
theorem iY{k:Nat}{ob:Obs}{j:Nat}{o:Ob}(h:B0 (Obs.drop k ob) j=some o):B0 ob j=some o/\j≠k:=by
 by_cases e:j=k
 ·subst e;exfalso;have:∀ob:Obs,B0 (Obs.drop j ob) j=none:=by
   intro ob;induction ob with
   | nil=>rfl
   | cons p r a =>
    obtain⟨i,x⟩:=p;unfold Obs.drop;cases hb:Nat.beq i j
    ·show B0 ((i,x)::Obs.drop j r) j=none;rw[A7 (fun e=>by rw[e,Nat.beq_refl]at hb;cases hb)];exact a
    ·exact a
  rw[this]at h;cases h
 ·rw[jY e]at h;exact⟨h,e⟩
theorem B10{P:Program}{nt:Nat}{fr:Fr}{ob:Obs}{t k:Nat}{M:List TC}{cs:List Cell}(T:C7 fr t=some (.s (.one (.ref k 0))))(y:B0 ob k=some (.box M))(R:fH M=some cs)(A:Nat.blt k 1000000=true) :
  Sees P nt fr ob ((t,.s (.one (.eref Unit cs.length (fun _ j=>cs.getD j (.v undef)) () 0)))::fr) (Obs.drop k ob):=by
 unfold Sees;intro S G a w W h;have Q:k<1000000:=by simpa using A
 obtain⟨b,X,tt,u,O,c⟩:=h.box y;have K:Sim P S fr (Obs.drop k ob) G a w:=h.weakenO fun j o l=>(iY l).1;have E:∀b i z,D9 (Mut S ob G) w b i z->D9 (Mut S (Obs.drop k ob) G) w b i z:=fun b i z L=>⟨L.1,fun B=>L.2 (B.imp id fun ⟨q,o,D,C⟩=>⟨q,o,(iY D).1,C⟩)⟩
 refine⟨G,{ K with facts:=fun i s g=>?_ }⟩;by_cases J:t=i
 ·subst J;rw[C2]at g;cases g;obtain⟨V,d,U⟩:=h.facts t _ T;rw[u]at d;cases d;refine⟨b,0,by rw[U],fun j l=>?_⟩;have N:=aH R c;obtain⟨z,F,H⟩:=N.get j _ (B23 l);refine⟨z,⟨by rw[B70];exact L7 O (by simpa using F),?_⟩,?_⟩
  ·rintro (B | ⟨q,o,D,C⟩)
   ·have I:=h.m0 _ _ B;rcases h.old k _ b y (by rw[u];rfl) with m | ⟨_,m⟩
    ·omega
    ·omega
   ·obtain⟨I,m⟩:=iY D;exact m (h.dis q k _ _ b I y C.1 (by rw[u];rfl))
  ·show (cs.getD j (.v undef)).rep _ z;rw[B30,B23 l];exact Cell.rep_mono E _ _ H
 ·rw[B5 J]at g;exact K.facts i s g
end Go.Proofs.YtmbpmaofnddkoaaGreatDoor
