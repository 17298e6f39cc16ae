
/- Walks of the program's functions. -/
import Derived.Test.YtabbdaafimcjhaaGreatDoorFh
set_option linter.all false
namespace Go.Proofs.YtabbdaafimcjhaaGreatDoor
open Go Go.AL
open Tryz (prog)
set_option maxRecDepth 100000
set_option maxHeartbeats 4000000
def jK(s:Str)(b:AL.Node)(D:Int->Lng):Lng:=if b.Kind=6 then Rounds (D (b.Kids.getD 0 0)) b.Min.toNat (if b.Max<0 then s.length+1 else (b.Max-b.Min).toNat) else fO s b D
theorem tabR{s:Str}{a:AL.Node}{D:Int->Lng}{T:List (List Bool)}(h:a.Kind≠6)(b:Tab s T (fO s a D)):Tab s T (jK s a D):=by
 unfold jK;rw[A7 h];exact b
structure TabsIn (s:Str) (all:List (List (List Bool))) (D:Int->Lng):Prop where
 len:s.length<=899000
 get:∀c:Int,0<=c->c<all.length->∃T,all[c.toNat]?=some T/\Tab s T (D c)
 fwd:∀c:Int,0<=c->c<all.length->Fwd s (D c)
theorem tO(n:Nat)(g:Nat->List Bool)(fr:Fr)(a:CS fr=[]):A04 [.one (.mut 702)] (s7 n g) fr []=true:=by
 simp only[A04,C39];refine⟨⟨?_,?_⟩,rfl⟩
 ·rw[C47];intro k b;rcases C49.1 b with h | h
  ·have e:k=702:=C42.1 h;subst e;rfl
  ·exact SR n g k h
 ·rw[a];rfl
theorem YA(s:Str)(b:List (List (List Bool)))(D:Int->Lng)(e:TabsIn s b D)(Z:Set4)(c d:Int)(kids:List Int):FnOk prog 103 [bY ⟨0,Z,c,d,kids⟩,AQ b,F6 s] (fun rs=>∃T,rs=[dR T]/\Tab s T (jK s ⟨0,Z,c,d,kids⟩ D)):=by
 have f:=e.len;refine FnOk.intro Tryz.func103 F1 A0 A0 A0 A0 (zz 21 ?_);refine E2 (qT s true B1) ?_;refine zc 14 (fun a=>?_) fun a=>?_
 ·exact absurd (A1 a) xH
 refine zc 5 (fun a=>?_) fun a=>?_
 ·exact absurd (A1 a) xH
 refine zc 5 (fun a=>?_) fun a=>?_
 ·exact absurd (A1 a) xH
 refine zc 5 (fun a=>?_) fun a=>?_
 ·exact absurd (A1 a) xH
 refine zc 5 (fun a=>?_) fun a=>?_
 ·exact absurd (A1 a) xH
 refine zc 5 (fun a=>?_) fun a=>?_
 ·exact absurd (A1 a) xH
 refine I3 ?_;exact A9 (rs:=[dR (oD (s.length+1) true)]) M1 ⟨_,rfl,tabR xH (tab_k0 rfl)⟩
theorem YB(s:Str)(d:List (List (List Bool)))(D:Int->Lng)(q:TabsIn s d D)(Z:Set4)(C E:Int)(kids:List Int)(y:∀k∈kids,0<=k/\k<(d.length:Int))(hkl:kids.length<=1000000):FnOk prog 103 [bY ⟨4,Z,C,E,kids⟩,AQ d,F6 s] (fun rs=>∃T,rs=[dR T]/\Tab s T (jK s ⟨4,Z,C,E,kids⟩ D)):=by
 have I:=q.len;refine FnOk.intro Tryz.func103 F1 A0 A0 A0 A0 (zz 21 ?_);refine E2 (qT s true B1) ?_;refine zc 14 (fun b=>?_) fun b=>?_
 ·exact absurd (A1 b) xH
 refine zc 5 (fun b=>?_) fun b=>?_
 ·exact absurd (A1 b) xH
 refine zc 5 (fun b=>?_) fun b=>?_
 ·exact absurd (A1 b) xH
 refine zc 5 (fun b=>?_) fun b=>?_;rotate_left
 ·exact absurd rfl (A3 b)
 refine I2 ?_;refine B9 (X:=Nat×List (List Bool)) (fun x=>([(1,B8 (List (List Bool)) 1 rM d),(2,P6 s),(3,.s (.one (.eref Unit 8 (fun _ j=>(cellsOf P5 ⟨4,Z,C,E,kids⟩ 0 8).getD j (.v undef)) () 0))),(7,B8 (List Bool) 1 N1 x.2),(9,B6 x.1)],[])) (fun x=>x.1<=kids.length/\Tab s x.2 (xC D (kids.take x.1).reverse)) (fun x=>kids.length-x.1) (0,oD (s.length+1) true) ⟨C41 _,B97⟩ (C1) ?_;rintro⟨k,T⟩ ⟨A,l⟩;dsimp only at A l ⊢;refine zc 9 (fun b=>?_) fun b=>?_
 ·have m:k<kids.length:=by have p:=A1 b;(try dsimp only at p);omega
  obtain⟨c,G⟩:∃c,c=kids[k]:=⟨_,rfl⟩
  have i:kids[k]?=some c:=by rw[G];simp[m]
  have J:kids[((k:Nat):Int).toNat]?=some c:=by rw[C37];exact i
  obtain⟨u,w⟩:=y c (C60 i);obtain⟨B,H,h⟩:=q.get c u w;refine zz 13 ?_;refine E2 (pI (s.length+1) T B B1 l.len l.row h.len h.row) (I3 ?_);exact⟨(k+1,_),⟨m,tab_cat i (fun x F=>q.fwd x (y x F).1 (y x F).2) l h⟩,by dsimp only;omega,(C1)⟩
 have z:k=kids.length:=by have p:=A3 b;(try dsimp only at p);omega
 rw[z,C48]at l;refine I3 ?_;exact A9 (rs:=[dR T]) M1 ⟨_,rfl,tabR xH (tab_k4 rfl l)⟩
theorem YC(s:Str)(d:List (List (List Bool)))(D:Int->Lng)(F:TabsIn s d D)(Z:Set4)(C E:Int)(kids:List Int)(H:∀k∈kids,0<=k/\k<(d.length:Int))(hkl:kids.length<=1000000):FnOk prog 103 [bY ⟨5,Z,C,E,kids⟩,AQ d,F6 s] (fun rs=>∃T,rs=[dR T]/\Tab s T (jK s ⟨5,Z,C,E,kids⟩ D)):=by
 have J:=F.len;refine FnOk.intro Tryz.func103 F1 A0 A0 A0 A0 (zz 21 ?_);refine E2 (qT s false B1) ?_;refine zc 14 (fun b=>?_) fun b=>?_
 ·exact absurd (A1 b) xH
 refine zc 5 (fun b=>?_) fun b=>?_
 ·exact absurd (A1 b) xH
 refine zc 5 (fun b=>?_) fun b=>?_
 ·exact absurd (A1 b) xH
 refine zc 5 (fun b=>?_) fun b=>?_
 ·exact absurd (A1 b) xH
 refine zc 5 (fun b=>?_) fun b=>?_;rotate_left
 ·exact absurd rfl (A3 b)
 refine I2 ?_;refine B9 (X:=Nat×List (List Bool)) (fun x=>([(1,B8 (List (List Bool)) 1 rM d),(2,P6 s),(3,.s (.one (.eref Unit 8 (fun _ j=>(cellsOf P5 ⟨5,Z,C,E,kids⟩ 0 8).getD j (.v undef)) () 0))),(7,B8 (List Bool) 1 N1 x.2),(10,B6 x.1)],[])) (fun x=>x.1<=kids.length/\Tab s x.2 (fun i j=>∃y∈kids.take x.1,D y i j)) (fun x=>kids.length-x.1) (0,oD (s.length+1) false) ⟨C41 _,B96⟩ (C1) ?_;rintro⟨k,T⟩ ⟨A,m⟩;dsimp only at A m ⊢;refine zc 9 (fun b=>?_) fun b=>?_
 ·have p:k<kids.length:=by have q:=A1 b;(try dsimp only at q);omega
  obtain⟨c,G⟩:∃c,c=kids[k]:=⟨_,rfl⟩
  have l:kids[k]?=some c:=by rw[G];simp[p]
  have K:kids[((k:Nat):Int).toNat]?=some c:=by rw[C37];exact l
  obtain⟨u,w⟩:=H c (C60 l);obtain⟨B,I,h⟩:=F.get c u w;refine zz 13 ?_;refine E2 (KD (s.length+1) T B B1 m.len m.row h.len h.row) (I3 ?_);exact⟨(k+1,_),⟨p,tab_alt l m h⟩,by dsimp only;omega,(C1)⟩
 have z:k=kids.length:=by have q:=A3 b;(try dsimp only at q);omega
 rw[z,C48]at m;refine I3 ?_;exact A9 (rs:=[dR T]) M1 ⟨_,rfl,tabR xH (tab_k5 rfl m)⟩
theorem YD(s:Str)(y:List (List (List Bool)))(D:Int->Lng)(G:TabsIn s y D)(Z:Set4)(l d c:Int)(E:0<=c)(F:c<(y.length:Int))(O:0<=l/\l<=100)(P:d = -1\/l<=d/\d<=100):FnOk prog 103 [bY ⟨6,Z,l,d,[c]⟩,AQ y,F6 s] (fun rs=>∃T,rs=[dR T]/\Tab s T (jK s ⟨6,Z,l,d,[c]⟩ D)):=by
 obtain⟨B,R,i⟩:=G.get c E F;have K:=G.fwd c E F;obtain⟨a,ha⟩:∃a:Nat,l=(a:Int):=⟨l.toNat,by omega⟩
 obtain⟨more,m⟩:∃more:Nat,(more:Int)=if d<0 then (s.length:Int)+1 else d-l:=⟨(if d<0 then (s.length:Int)+1 else d-l).toNat,by split<;>omega⟩
 have L:jK s ⟨6,Z,l,d,[c]⟩ D=Rounds (D c) a more:=by
  unfold jK;rw[A6 rfl];dsimp only;rw[show l.toNat=a by omega,show (if d<0 then s.length+1 else (d-l).toNat)=more by split at m<;>rename_i h<;>simp only[h,if_true,if_false]<;>omega];rfl
 rw[L];have S:=G.len;refine FnOk.intro Tryz.func103 F1 A0 A0 A0 A0 (zz 21 ?_);refine E2 (qT s true B1) ?_;refine zc 14 (fun b=>?_) fun b=>?_
 ·exact absurd (A1 b) xH
 refine zc 5 (fun b=>?_) fun b=>?_
 ·exact absurd (A1 b) xH
 refine zc 5 (fun b=>?_) fun b=>?_
 ·exact absurd (A1 b) xH
 refine zc 5 (fun b=>?_) fun b=>?_
 ·exact absurd (A1 b) xH
 refine zc 5 (fun b=>?_) fun b=>?_
 ·exact absurd (A1 b) xH
 refine zc 5 (fun b=>?_) fun b=>?_;rotate_left
 ·exact absurd rfl (A3 b)
 refine I2 ?_;refine B2 (C5 A0 (.pure _ _ _ _) A0 B1 (show ([c]:List Int)[(0:Int).toNat]?=some c from A0)) A0 (V7 ?_);refine B9 (X:=Nat×List (List Bool)) (fun x=>([(2,P6 s),(3,.s (.one (.eref Unit 8 (fun _ j=>(cellsOf P5 ⟨6,Z,l,d,[c]⟩ 0 8).getD j (.v undef)) () 0))),(7,B8 (List Bool) 1 N1 x.2),(11,B8 (List Bool) 1 N1 B),(12,B6 x.1)],[])) (fun x=>x.1<=a/\Tab s x.2 (z6 (D c) x.1)) (fun x=>a-x.1) (0,oD (s.length+1) true) ⟨C41 _,B98⟩ (C1) ?_;rintro⟨k,T⟩ ⟨I,C⟩;dsimp only at I C ⊢;refine zc 8 (fun b=>?_) fun b=>?_
 ·have A:k<a:=by have z:=A1 b;(try dsimp only at z);omega
  refine J0 ?_;refine E2 (pI (s.length+1) T B B1 C.len C.row i.len i.row) (I3 ?_);exact⟨(k+1,_),⟨A,tab_pow K C i⟩,by dsimp only;omega,(C1)⟩
 have H:k=a:=by have z:=A3 b;(try dsimp only at z);omega
 rw[H]at C;refine I3 ?_;refine B2 (aM A0 A0 (by (dsimp only;omega))) A0 ?_;refine Z2 ?_;refine U9 [(2,P6 s),(7,B8 (List Bool) 1 N1 T),(11,B8 (List Bool) 1 N1 B),(13,B6 more)] [] ?_ ?_
 ·skip;refine zc 0 (fun b=>?_) fun b=>?_
  ·have h:d<0:=A1 b;skip;refine J0 ?_;rw[m,A6 h];exact (C1)
  ·have h:¬d<0:=A3 b;refine G5 ?_;rw[m,A7 h];exact (C1)
 have M:more<=1000000:=by split at m<;>omega
 refine I2 ?_;refine B9 (X:=Nat×List (List Bool)) (fun x=>([(7,B8 (List Bool) 1 N1 x.2),(11,B8 (List Bool) 1 N1 B),(13,B6 more),(14,B6 x.1)],[])) (fun x=>x.1<=more/\Tab s x.2 (Rounds (D c) a x.1)) (fun x=>more-x.1) (0,T) ⟨C41 _,UL C⟩ (C1) ?_;rintro⟨q,U⟩ ⟨Q,w⟩;dsimp only at Q w ⊢;refine zc 7 (fun b=>?_) fun b=>?_
 ·have A:q<more:=by have z:=A1 b;(try dsimp only at z);omega
  refine I3 ?_;refine E2 (pI (s.length+1) U B B1 w.len w.row i.len i.row) (uZ (KD (s.length+1) U (GQ (s.length+1) U B) B1 w.len w.row (BP _ _) (tab_row _ _)) A0 A0 A0 (I3 ?_));exact⟨(q+1,_),⟨A,ZN K w i⟩,by dsimp only;omega,(C1)⟩
 have J:q=more:=by have z:=A3 b;(try dsimp only at z);omega
 rw[J]at w;refine I3 ?_;exact A9 (rs:=[dR U]) M1 ⟨_,rfl,w⟩
theorem tP{P:Program}{nt:Nat}{fr:Fr}{n:Nat}{g:Nat->List Bool}(b:∀r,r<n->J2 (r+1000) fr=true):Sees P nt fr (s7 n g) fr [(702,.grow 90 (List Bool) 1 N1 ((List.range n).map g))]:=by
 have h:=C26 (P:=P) (nt:=nt) (fr:=fr) (α:=Bool) (c:=M8) (m:=n) (kb:=702) (e:=90) (g:=g) (pre:=[]) B1 rfl rfl b (fun _ _=>rfl);rw[<-A96 n g]at h;exact h
theorem yD{n i:Nat}{g:Nat->List Bool}(h:i<n):B5 (s7 n g) (i+1000)=some (.arr Bool 1 M8 (g i)):=by
 rw[A8 B1];exact mG (C62.2 h)
theorem row_get{n i:Nat}(h:i<n):(bU n)[i*1+0]?=some (.mut (i+1000)):=by
 rw[show i*1+0=i by omega];exact PP h (C41 _)
theorem yE{n i j:Nat}{b:Bool}{f a:Nat->Option (Nat×Bool)}(c:f i=none)(d:a i=some (j,b)):(kR n f i).set j b=kR n a i:=by
 unfold kR;rw[c,d]
theorem yF{n r:Nat}{f a:Nat->Option (Nat×Bool)}(h:a r=f r):kR n a r=kR n f r:=by unfold kR;rw[h]
theorem NN{n i:Nat}{g g':Nat->List Bool}(h:i<n)(b:∀q,q≠i->g' q=g q):∀k o,B5 (s7 n g') k=some o->B5 ((i+1000,.arr Bool 1 M8 (g' i))::s7 n g) k=some o :=
 B36 (c:=M8) (g:=g) (g':=g') (pre:=[(702,.growT 90 n 1 (bU n))]) rfl (C62.2 h) b
theorem YE(s:Str)(c:List (List (List Bool)))(D:Int->Lng)(r:TabsIn s c D)(Z:Set4)(l p:Int)(kids:List Int):FnOk prog 103 [bY ⟨2,Z,l,p,kids⟩,AQ c,F6 s] (fun rs=>∃T,rs=[dR T]/\Tab s T (jK s ⟨2,Z,l,p,kids⟩ D)):=by
 obtain⟨n,j⟩:∃n,n=s.length+1:=⟨_,rfl⟩
 have w:=r.len;refine FnOk.intro Tryz.func103 F1 A0 A0 A0 A0 (zz 21 ?_);refine fS (tN s B1) A0 A0 A0 A0 ?_;rintro _ _ ⟨rfl,rfl⟩;refine⟨(tO _ _ _ rfl),?_⟩;refine F5 ?_;rw[<-j,C77];refine zc 12 (fun i=>?_) fun i=>?_
 ·exact absurd (A1 i) xH
 refine zc 5 (fun i=>?_) fun i=>?_;rotate_left
 ·exact absurd rfl (A3 i)
 have b:0<n:=by omega
 have d:=yD (g:=lH n) b;have h:(lH n 0).set 0 true=kR n (xE 0) 0:=yE (f:=fun _=>none) rfl (by unfold xE;rw[A6 rfl]);skip;refine F5 ?_;refine B2 (gW A0 A0 A0 B1 B1) A0 (B2 (xO A0 A0 (row_get b)) A0 (B2 (D9 A0 d A0 B1 PF) A0 (U0 (G3 TySz.out A0 d PF A0 A0) (G5 ?_))));rw[show (0:Int).toNat=0 from rfl];refine aN [(7,.s (.one (.mut 702)))] (s7 n (kR n (xE 0))) (C11 ⟨i6 rfl,trivial⟩ (by rw[h];exact NN b (fun q v=>yF (f:=fun _=>none) (by unfold xE;rw[A7 v])))) ?_;refine C3 (tP (fun _ _=>rfl)) (C3 (Sees.freezeG (k:=702) A0 A0) (J0 ?_));exact A9 (rs:=[dR (sU n (xE 0))]) M1 ⟨_,rfl,by rw[j];exact tabR xH (tab_k2 rfl)⟩
theorem YF(s:Str)(c:List (List (List Bool)))(D:Int->Lng)(p:TabsIn s c D)(Z:Set4)(j l:Int)(kids:List Int):FnOk prog 103 [bY ⟨3,Z,j,l,kids⟩,AQ c,F6 s] (fun rs=>∃T,rs=[dR T]/\Tab s T (jK s ⟨3,Z,j,l,kids⟩ D)):=by
 obtain⟨n,i⟩:∃n,n=s.length+1:=⟨_,rfl⟩
 have v:=p.len;refine FnOk.intro Tryz.func103 F1 A0 A0 A0 A0 (zz 21 ?_);refine fS (tN s B1) A0 A0 A0 A0 ?_;rintro _ _ ⟨rfl,rfl⟩;refine⟨(tO _ _ _ rfl),?_⟩;refine F5 ?_;rw[<-i,C77];refine zc 12 (fun a=>?_) fun a=>?_
 ·exact absurd (A1 a) xH
 refine zc 5 (fun a=>?_) fun a=>?_
 ·exact absurd (A1 a) xH
 refine zc 5 (fun a=>?_) fun a=>?_;rotate_left
 ·exact absurd rfl (A3 a)
 have b:s.length<n:=by omega
 have d:=yD (g:=lH n) b;have h:(lH n s.length).set s.length true=kR n (xE s.length) s.length:=yE (f:=fun _=>none) rfl (by unfold xE;rw[A6 rfl]);skip;refine P1 ?_;refine B2 (gW A0 A0 A0 B1 B1) A0 (B2 (xO A0 A0 (by rw[C37];exact row_get b)) A0 ?_);refine F5 ?_;refine B2 (D9 A0 d A0 B1 PF) A0 (U0 (G3 TySz.out A0 d PF A0 A0) (G5 ?_));rw[C37];refine aN [(7,.s (.one (.mut 702)))] (s7 n (kR n (xE s.length))) (C11 ⟨i6 rfl,trivial⟩ (by rw[h];exact NN b (fun q r=>yF (f:=fun _=>none) (by unfold xE;rw[A7 r])))) ?_;refine C3 (tP (fun _ _=>rfl)) (C3 (Sees.freezeG (k:=702) A0 A0) (J0 ?_));exact A9 (rs:=[dR (sU n (xE s.length))]) M1 ⟨_,rfl,by rw[i];exact tabR xH (tab_k3 rfl)⟩
theorem YG(s:Str)(d:List (List (List Bool)))(D:Int->Lng)(E:TabsIn s d D)(Z:Set4)(x y:Int)(kids:List Int):FnOk prog 103 [bY ⟨1,Z,x,y,kids⟩,AQ d,F6 s] (fun rs=>∃T,rs=[dR T]/\Tab s T (jK s ⟨1,Z,x,y,kids⟩ D)):=by
 obtain⟨n,C⟩:∃n,n=s.length+1:=⟨_,rfl⟩
 have I:=E.len;refine FnOk.intro Tryz.func103 F1 A0 A0 A0 A0 (zz 21 ?_);refine fS (tN s B1) A0 A0 A0 A0 ?_;rintro _ _ ⟨rfl,rfl⟩;refine⟨(tO _ _ _ rfl),?_⟩;refine F5 ?_;rw[<-C,C77];refine zc 12 (fun c=>?_) fun c=>?_;rotate_left
 ·exact absurd rfl (A3 c)
 refine I2 ?_;refine B9 (X:=Nat) (fun i=>([(2,P6 s),(3,.s (.one (.eref Unit 8 (fun _ j=>(cellsOf P5 ⟨1,Z,x,y,kids⟩ 0 8).getD j (.v undef)) () 0))),(7,.s (.one (.mut 702))),(8,B6 i)],s7 n (kR n (yT s Z i)))) (fun i=>i<=s.length) (fun i=>s.length-i) 0 (C41 _) ?_ ?_
 ·exact C11 lf (fun _ _ h=>h)
 intro i F;dsimp only at F ⊢;refine zc 8 (fun c=>?_) fun c=>?_
 ·have B:i<s.length:=by have z:=A1 c;(try dsimp only at z);omega
  have b:i<n:=by omega
  have l:=yD (g:=kR n (yT s Z i)) b;have p:=A45 n (yT s Z i) i;have G:s[((i:Nat):Int).toNat]?=some (s.getD i 0):=by rw[C37,C38,C36 B];rfl
  have w:(kR n (yT s Z i) i).set (i+1) (decide (aL Z (s.getD i 0).toNat=1))=kR n (yT s Z (i+1)) i:=yE (by unfold yT;rw[A7 (Nat.lt_irrefl i)]) (by unfold yT;rw[A6 (Nat.lt_succ_self i)]);refine J0 ?_;refine D6 (gW A0 A0 A0 B1 B1) A0 A0 (D6 (xO A0 A0 (by rw[C37];exact row_get b)) A0 A0 ?_);refine J0 ?_;refine D6 (G9 A0 A0 B1 G) A0 A0 (D6 (I5 (A88 Z (s.getD i 0)) A0 A0) A0 A0 (D6 (D9 A0 l A0 B1 (by (rw[p];omega))) A0 A0 ?_));refine BZ (G3 TySz.out A0 l (by (rw[p];omega)) A0 A0) A0 ?_;refine G5 ?_;rw[show ((i:Int)+1).toNat=i+1 by omega];refine aN [(2,P6 s),(3,.s (.one (.eref Unit 8 (fun _ j=>(cellsOf P5 ⟨1,Z,x,y,kids⟩ 0 8).getD j (.v undef)) () 0))),(7,.s (.one (.mut 702))),(8,B6 i)] (s7 n (kR n (yT s Z (i+1)))) (C11 lf (by rw[w];exact NN b (fun q H=>yF (by unfold yT;by_cases h:q<i<;>simp[h]<;>omega)))) ?_;skip;refine I2 ?_;exact⟨i+1,by omega,by omega,C11 lf (fun _ _ h=>h)⟩
 have A:i=s.length:=by have z:=A3 c;(try dsimp only at z);omega
 rw[A];refine aN [(7,.s (.one (.mut 702)))] (s7 n (kR n (yT s Z s.length))) (C11 ⟨i6 rfl,trivial⟩ (fun _ _ h=>h)) (C3 (tP (fun _ _=>rfl)) (C3 (Sees.freezeG (k:=702) A0 A0) (I3 ?_)));exact A9 (rs:=[dR (sU n (yT s Z s.length))]) M1 ⟨_,rfl,by rw[C];exact tabR xH (tab_k1 (n:=⟨1,Z,x,y,kids⟩) rfl)⟩
theorem A98(s:Str)(a:List (List (List Bool)))(D:Int->Lng)(d:TabsIn s a D)(i:AL.Node)(j:v6 i (a.length:Int)=true)(hkl:i.Kids.length<=1000000):FnOk prog 103 [bY i,AQ a,F6 s] (fun rs=>∃T,rs=[dR T]/\Tab s T (jK s i D)):=by
 have g:=r7 j;have k:=bZ j;have b:=fI j;obtain⟨K,Z,e,f,kids⟩:=i;dsimp only at g k b hkl;rcases (show K=0\/K=1\/K=2\/K=3\/K=4\/K=5\/K=6 by omega) with h | h | h | h | h | h | h<;>subst h
 ·exact YA s a D d Z e f kids
 ·exact YG s a D d Z e f kids
 ·exact YE s a D d Z e f kids
 ·exact YF s a D d Z e f kids
 ·exact YB s a D d Z e f kids g hkl
 ·exact YC s a D d Z e f kids g hkl
 ·obtain⟨l,m,n,o⟩:=b rfl
  match kids,l with
  | [c],_=>exact YD s a D d Z e f c (g c (C56 ..)).1 (g c (C56 ..)).2 ⟨m,n⟩ o
theorem B73{L:List AL.Node}{s:Str}(a:FZ L){k:Int}(c:0<=k/\k<L.length){T:List (List Bool)}(h:Tab s T (jK s (L.getD k.toNat K8) (Den L s))):Tab s T (Den L s k):=by
 unfold jK at h;by_cases b:(L.getD k.toNat K8).Kind=6
 ·rw[A6 b]at h;exact tab_rep a c b h
 ·rw[A7 b]at h;exact B99 a c h
theorem A99(L:List AL.Node)(s:Str)(M:s.length<=899000)(l:FZ L)(h:1<=L.length)(O:L.length<=4000)(J:∀n∈L,n.Kids.length<=4000):FnOk prog 60 [P8 L,F6 s] (fun rs=>∃T,rs=[dR T]/\Tab s T (Den L s ((L.length:Int)-1))):=by
 refine FnOk.intro Tryz.func60 F1 A0 A0 A0 A0 (J0 ?_);refine C2 (L2 5 _ rM A0) A0 (I3 ?_);refine B9 (X:=Nat×List (List (List Bool))) (fun x=>([(0,B8 AL.Node 8 P5 L),(1,P6 s),(5,.s (.one (.buf 5 (List (List Bool)) 1 rM x.2))),(6,B6 x.1)],[(5,.spare x.2.length 1 106)])) (fun x=>x.1<=L.length/\x.2.length=x.1/\∀c:Int,0<=c->c<(x.2.length:Int)->∃T,x.2[c.toNat]?=some T/\Tab s T (Den L s c)) (fun x=>L.length-x.1) (0,[]) ⟨C41 _,rfl,fun c v h=>by simp at h;omega⟩ (C1) ?_;rintro⟨k,d⟩ ⟨C,i,g⟩;dsimp only at C i g ⊢;refine zc 8 (fun D=>?_) fun D=>?_
 ·have q:k<L.length:=by have h:=A1 D;(try dsimp only at h);omega
  obtain⟨n,F⟩:∃n,n=L.getD k K8:=⟨_,rfl⟩
  have m:L[k]?=some n:=by rw[F,C38,C36 q];rfl
  have P:L[((k:Nat):Int).toNat]?=some n:=by rw[C37];exact m
  have E:=l k n m;rw[<-i]at E;have G:TabsIn s d (Den L s):=⟨M,g,fun c v h=>BO l L.length c B1 ⟨v,by omega⟩⟩
  have K:=J n (C60 m);refine V7 ?_;refine r8 (A98 s d (Den L s) G n E B1) A0 A0 A0 ?_;rintro _ ⟨T,rfl,w⟩;refine B2 (B7 (c:=rM) (ys:=[T]) (C0 A0 A0 A0 A0 D2) A0 A0 A0) A0 (H3 ?_);refine I2 ?_;refine⟨(k+1,d++[T]),⟨q,by rw[C40,i];rfl,?_⟩,by dsimp only;omega,(C1)⟩;intro c v h;dsimp only at h ⊢;rw[C40,C51]at h;by_cases I:c<(d.length:Int)
  ·obtain⟨U,H,z⟩:=g c v I;exact⟨U,by rw[C68 B1];exact H,z⟩
  ·have A:c=(k:Int):=by omega
   refine⟨T,by rw[show c.toNat=d.length by omega];simp,?_⟩;rw[A];refine B73 l ⟨by omega,by omega⟩ ?_;rw[C37,<-F];exact w
 have B:k=L.length:=by have h:=A3 D;(try dsimp only at h);omega
 obtain⟨T,w,y⟩:=g ((L.length:Int)-1) B1 B1;have j:d[((d.length:Int)-1).toNat]?=some T:=by rw[i,B];exact w
 refine I3 ?_;refine B2 (C5 A0 (.buf _ _ _ _ _) A0 B1 j) A0 (P1 ?_);exact A9 (rs:=[dR T]) M1 ⟨_,rfl,y⟩
def HitN(L:List AL.Node)(s:Str):Prop:=∃i j,i<=s.length/\j<=s.length/\Den L s ((L.length:Int)-1) i j
theorem SS(L:List AL.Node)(s:Str)(O:s.length<=899000)(m:FZ L)(d:1<=L.length)(J:L.length<=4000)(I:∀n∈L,n.Kids.length<=4000):FnOk prog 33 [P8 L,F6 s] (fun rs=>∃b,rs=[E1 b]/\(b=true↔HitN L s)):=by
 have x:Fwd s (Den L s ((L.length:Int)-1)):=BO m L.length _ B1 B1;obtain⟨R,B⟩:∃R,R=Den L s ((L.length:Int)-1):=⟨_,rfl⟩
 have y:=A99 L s O m d J I;unfold HitN;rw[<-B]at x y ⊢;refine FnOk.intro Tryz.func33 F1 A0 A0 A0 A0 (R3 ?_);refine r8 (y) A0 A0 A0 ?_;rintro _ ⟨T,rfl,q⟩;refine F5 ?_;have C:=q.len;refine J0 ?_;refine B9 (X:=Nat) (fun i=>([(5,B8 (List Bool) 1 N1 T),(6,B6 i)],[])) (fun i=>i<=s.length+1/\∀a b,a<i->a<=b->b<=s.length->¬R a b) (fun i=>s.length+1-i) 0 ⟨C41 _,fun a b h=>by omega⟩ (C1) ?_;rintro i ⟨A,l⟩;dsimp only at A l ⊢;refine zc 8 (fun c=>?_) fun c=>?_
 ·have K:i<s.length+1:=by have d:=A1 c;(try dsimp only at d);omega
  obtain⟨row,p,M,f⟩:=q.cell (i:=i) B1;have Q:T[((i:Nat):Int).toNat]?=some row:=by rw[C37];exact p
  refine Z2 ?_;refine B9 (X:=Nat) (fun j=>([(5,B8 (List Bool) 1 N1 T),(6,B6 i),(7,B6 j)],[])) (fun j=>i<=j/\j<=s.length+1/\∀b,i<=b->b<j->¬R i b) (fun j=>s.length+1-j) i ⟨C45 _,A,fun b d S=>by omega⟩ (C1) ?_;rintro j ⟨w,F,k⟩;dsimp only at w F k ⊢;refine zc 8 (fun c=>?_) fun c=>?_
  ·have H:j<s.length+1:=by have d:=A1 c;(try dsimp only at d);omega
   have P:row[((j:Nat):Int).toNat]?=some (v7 T i j):=by rw[C37];exact f j B1
   have z:=q.is i j B1 B1;refine zc 13 (fun c=>?_) fun c=>?_
   ·refine I2 ?_;exact A9 (rs:=[E1 true]) M1 ⟨true,rfl,fun _=>⟨i,j,by omega,by omega,z.1 c⟩,fun _=>rfl⟩
   refine J0 ?_;refine⟨j+1,⟨by omega,by omega,fun b u D=>?_⟩,by omega,(C1)⟩;by_cases v:b=j
   ·rw[v];exact fun g=>by rw[z.2 g]at c;cases c
   ·exact k b u B1
  have G:j=s.length+1:=by have d:=A3 c;(try dsimp only at d);omega
  refine J0 ?_;refine⟨i+1,⟨by omega,fun a b ha e hb=>?_⟩,by omega,(C1)⟩;by_cases r:a=i
  ·rw[r];exact k b B1 B1
  ·exact l a b B1 e hb
 have E:i=s.length+1:=by have d:=A3 c;(try dsimp only at d);omega
 refine J0 ?_;exact A9 (rs:=[E1 false]) M1 ⟨false,rfl,⟨(fun h=>by cases h),(fun h=>by obtain⟨a,b,ha,hb,e⟩:=h;exact absurd e (l a b B1 (x a b ha e).1 hb))⟩⟩
noncomputable def hitB(p s:Str):Bool:=@decide (Hit p s) (Classical.propDecidable _)
theorem hit_any{p:Str}{A:AL.Auto}(h:∀s,(iO A s 0).2=true↔Hit p s):iW A=hitB p:=by
 funext s;have a:=h s;unfold hitB;rw[Bool.eq_iff_iff,@decide_eq_true_eq _ (Classical.propDecidable _)];exact a
noncomputable def hitF(p:Str)(x:Str×Str):Bool:=decide (0<(gL (hitB p) x.1 x.2).length)
noncomputable def jL(g:Graph)(s:Int)(p:Str):List Int×Int:=if lG p≠0 then ([],lG p) else Q7 (hitF p) g s
noncomputable def qU(a b p:Str):List Str×Int:=if lG p≠0 then ([],lG p) else (gL (hitB p) a b,0)
theorem B00(g:Graph)(s:Int)(p:Str)(c:FewT g)(d:Short g)(a:p.length<=1099511627776):FnOk prog 8 [I9 g,C8 s,F6 p] (fun rs=>rs=[I4 (jL g s p).1,C8 (jL g s p).2]):=by
 unfold jL;by_cases h:lG p=0
 ·obtain⟨A,b,i,f⟩:=NM p a h;have:=EU g s p A b c d f;rw[show XU A=hitF p by funext x;unfold hitF;rw[<-hit_any i]]at this;rw[A7 (fun e=>e h)];exact this
 ·rw[A6 h];exact XW g s p _ h (SN p a h)
theorem KF(s:Str)(f:s.length<=1099511627776):FnOk prog 34 [F6 s] (fun rs=>rs=[F6 (Y4 s)]):=by
 refine FnOk.intro Tryz.func34 F1 A0 A0 A0 A0 (R3 ?_);refine E2 (B43 s f) ?_;refine zc 1 (fun b=>?_) fun b=>?_
 ·have c:s≠[]:=fun e=>by rw[e]at b;cases b
  have d:0<s.length:=List.length_pos_iff.2 c;refine O6 ?_;refine A9 M1 ?_;rw[show Y4 s=s.dropLast by unfold Y4;rw[A6 b],List.dropLast_eq_take,show ((s.length:Int)-1).toNat=s.length-1 by omega]
 ·refine I3 ?_;exact A9 (rs:=[F6 s]) M1 (by unfold Y4;rw[b];rfl)
theorem nC{s:Str}(h:I6 s=0):s.length<=1048576/\(F8 s).length<=4096:=by
 unfold I6 at h;split at h
 ·cases h
 ·omega
theorem ST(a b:Str)(ha:I6 a=0)(hb:I6 b=0):FnOk prog 32 [F6 a,F6 b] (fun rs=>rs=[pChanges (qB (F8 a) (F8 b)),C8 0]):=by
 obtain⟨h,f⟩:=nC ha;obtain⟨i,g⟩:=nC hb;have c:=JI a B1;have d:=JI b B1;rw[show T6 a=(F8 a,0) by unfold T6;rw[A7 B1]]at c;rw[show T6 b=(F8 b,0) by unfold T6;rw[A7 B1]]at d;refine FnOk.intro Tryz.func32 F1 A0 A0 A0 A0 (R3 ?_);refine E2 (c) ?_;refine zc 12 (fun e=>?_) fun e=>?_
 ·cases e
 refine P1 ?_;refine E2 (d) ?_;refine zc 12 (fun e=>?_) fun e=>?_
 ·cases e
 refine I2 ?_;refine E2 (WP (F8 a) (F8 b) f g) (P1 ?_);exact A9 cN rfl
theorem B01(h:Str->Bool){l:List Str}{j:Nat}{s:Str}(a:l[j]?=some s):t6 h (l.take (j+1))=t6 h (l.take j)++(if h (Y4 s)=true then [Y4 s] else []):=by
 rw[mA a];unfold t6;rw[C90,D20]
 congr 1
 show ([Y4 s]).filter h=_;split<;>rename_i hb<;>simp[hb]
theorem SU(a b p:Str)(ha:I6 a=0)(hb:I6 b=0)(aw:a.length<=890000)(ay:b.length<=890000):FnOk prog 15 [F6 a,F6 b,F6 p] (fun rs=>rs=[cG (qU a b p).1,C8 (qU a b p).2]):=by
 have Q:=KC p;unfold qU;by_cases q:lG p≠0
 ·simp only[A6 q]at Q ⊢;refine FnOk.intro Tryz.func15 F1 A0 A0 A0 A0 (F5 ?_);refine B2 (E3 _ 1 L8) A0 (I2 ?_);refine E2 (Q) ?_;refine zc 12 (fun d=>?_) fun d=>?_;rotate_left
  ·exact absurd q (A3 d)
  refine H3 ?_;refine B2 (E3 _ 1 L8) A0 (H3 ?_);exact A9 (rs:=[cG [],C8 (lG p)]) cN rfl
 simp only[A7 q]at Q ⊢;have q:lG p=0:=C75.1 q;obtain⟨L,hL⟩:∃L,L=(parsed p).1:=⟨_,rfl⟩
 have D:1<=L.length/\L.length<=4000/\FZ L/\∀n∈L,n.Kids.length<=4000:=by
  unfold lG at q;have V:(parsed p).2=0:=by
   by_cases h2:(parsed p).2≠0
   ·rw[A6 h2]at q;exact q
   ·exact C75.1 h2
  have hn:p.length<=256:=by
   refine Nat.le_of_not_lt fun hl=>?_;unfold parsed y8 at V;rw[A6 hl]at V;cases V
  obtain⟨Y,Z⟩:=nW (s:=p) (f:=1100) F1 (L:=(parsed p).1) (Prod.ext rfl V) ((uE 1100).pat _ (C41 _) b9x);rw[<-hL]at Y Z;obtain⟨E,F,G⟩:=o3 Y;exact⟨E,F,G,Z⟩
 rw[<-hL]at Q;obtain⟨E,F,G,ak⟩:=D;obtain⟨H,hH⟩:∃H,H=hitB p:=⟨_,rfl⟩
 have hM:∀s:Str,s.length<=899000->FnOk prog 33 [P8 L,F6 s] (fun rs=>rs=[E1 (H s)]):=fun s v=>by
  refine (SS L s v G E F ak).mono ?_;rintro rs ⟨bb,rfl,af⟩;have e:bb=H s:=by
   rw[hH];unfold hitB;rw[Bool.eq_iff_iff,@decide_eq_true_eq _ (Classical.propDecidable _),af,hL];exact Iff.rfl
  rw[e]
 rw[<-hH];obtain⟨x,hx⟩:∃x,x=F8 a:=⟨_,rfl⟩
 obtain⟨y,hy⟩:∃y,y=F8 b:=⟨_,rfl⟩
 have an:∀s∈x,s.length<=890000:=fun s v=>by rw[hx]at v;have:=wJ _ _ v;omega
 have ao:∀s∈y,s.length<=890000:=fun s v=>by rw[hy]at v;have:=wJ _ _ v;omega
 have am:gL H a b=T9 H x y (qB x y):=by unfold gL;rw[hx,hy]
 rw[am];obtain⟨av,ad⟩:=nC ha;obtain⟨ax,ae⟩:=nC hb;have w:=ST a b ha hb;have T:=oW a B1;have U:=oW b B1;rw[<-hx]at ad w T;rw[<-hy]at ae w U;obtain⟨ab,P⟩:=LI x y;obtain⟨C,hC⟩:∃C,C=qB x y:=⟨_,rfl⟩
 rw[<-hC]at w ab P ⊢;refine FnOk.intro Tryz.func15 F1 A0 A0 A0 A0 (F5 ?_);refine B2 (E3 _ 1 L8) A0 (I2 ?_);refine E2 (Q) ?_;refine zc 12 (fun d=>?_) fun d=>?_
 ·exact absurd rfl (A1 d)
 refine I2 ?_;refine E2 (w) ?_;refine zc 12 (fun d=>?_) fun d=>?_
 ·exact absurd rfl (A1 d)
 refine P1 ?_;refine E2 (T) (G5 ?_);refine E2 (U) (I2 ?_);refine C2 (L2 13 _ L8 A0) A0 (I3 ?_);refine B9 (X:=Nat) (fun i=>([(8,B8 AL.Node 8 P5 L),(10,.s (pChanges C).s1),(11,B8 Str 1 L8 x),(12,B8 Str 1 L8 y),(13,.s (.one (.buf 13 Str 1 L8 (T9 H x y (C.take i))))),(14,B6 i)],[(13,.spare (T9 H x y (C.take i)).length 1 9)])) (fun i=>i<=C.length) (fun i=>C.length-i) 0 (C41 _) (C1) ?_;intro i hi;have R:=qD H x y (C.take i);rw[C59]at R;have S:(T9 H x y (C.take i)).length<=4097*8192:=C82 R (Nat.mul_le_mul B1 B1);dsimp only at hi ⊢;refine zc 8 (fun d=>?_) fun d=>?_;rotate_left
 ·have ah:i=C.length:=by have:=A3 d;omega
  rw[ah,C48];refine R3 ?_;exact A9 (rs:=[cG (T9 H x y C),C8 0]) cN rfl
 have al:i<C.length:=by have:=A1 d;omega
 obtain⟨c,Y⟩:∃c,c=C[i]:=⟨_,rfl⟩
 have I:C[i]?=some c:=by rw[Y];simp[al]
 obtain⟨q1,q2,q3,q4,q5,q6⟩:=P c (C60 I);obtain⟨W,hW⟩:∃W,W=T9 H x y (C.take i):=⟨_,rfl⟩
 have hnx:T9 H x y (C.take (i+1))=W++t6 H (l6 x y c):=by
  rw[NF I,hW];unfold T9;rw[List.flatMap_append,List.flatMap_singleton]
 rw[<-hW]at S ⊢;have aq:=qC x y c;have ag:[]++(x.drop c.Old.toNat).take ((c.Old+c.OldLen).toNat-c.Old.toNat)++(y.drop c.New.toNat).take ((c.New+c.NewLen).toNat-c.New.toNat)=l6 x y c:=by
  rw[D06];rfl
 have ba:C[((i:Nat):Int).toNat]?=some c:=by rw[C37];exact I
 refine P1 ?_;refine N7 [38,19,0] [[],[0],[19,0],[38,19,0]] [(0,([744],[])),(19,([744],[44])),(38,([744],[44,63]))] [(0,[]),(1,[]),(2,[]),(3,[]),(4,[]),(5,[]),(6,[]),(7,[]),(8,[]),(9,[]),(10,[]),(11,[]),(12,[]),(13,[]),(14,[]),(15,[]),(16,[]),(17,[]),(18,[]),(19,[0]),(20,[]),(21,[]),(22,[]),(23,[]),(24,[]),(25,[]),(26,[]),(27,[]),(28,[]),(29,[]),(30,[]),(31,[]),(32,[]),(33,[]),(34,[]),(35,[]),(36,[]),(37,[]),(38,[19,0]),(39,[38,19,0])] [(1,[0]),(2,[0]),(3,[0]),(4,[0]),(5,[0]),(6,[0]),(7,[0]),(8,[0]),(9,[0]),(10,[0]),(11,[0]),(12,[0]),(13,[0]),(14,[0]),(15,[0]),(16,[0]),(17,[0]),(18,[0]),(20,[0]),(20,[19,0]),(21,[0]),(21,[19,0]),(22,[0]),(22,[19,0]),(23,[0]),(23,[19,0]),(24,[0]),(24,[19,0]),(25,[0]),(25,[19,0]),(26,[0]),(26,[19,0]),(27,[0]),(27,[19,0]),(28,[0]),(28,[19,0]),(29,[0]),(29,[19,0]),(30,[0]),(30,[19,0]),(31,[0]),(31,[19,0]),(32,[0]),(32,[19,0]),(33,[0]),(33,[19,0]),(34,[0]),(34,[19,0]),(35,[0]),(35,[19,0]),(36,[0]),(36,[19,0]),(37,[0]),(37,[19,0])] E4 E4 (Z4 A0 A0 E4 A0 A0 (uW (fun O K Z=>B38 744 _ L8 A0 (by rw[Z];exact rfl))) A0 ?_);refine C6 A0 A0 E4 A0 A0 (C9 A0 A0) (C6 A0 A0 E4 A0 A0 (C9 A0 A0) (C6 A0 A0 E4 A0 A0 (C9 A0 A0) (C6 A0 A0 E4 A0 A0 (C5 A0 (.pure _ _ _ _) A0 B1 aT) (C6 A0 A0 E4 A0 A0 (H0 A0) (C6 A0 A0 E4 A0 A0 (H6 A0 A0) (C6 A0 A0 E4 A0 A0 (C9 A0 A0) (C6 A0 A0 E4 A0 A0 (C9 A0 A0) (C6 A0 A0 E4 A0 A0 (C5 A0 (.pure _ _ _ _) A0 B1 aT) (C6 A0 A0 E4 A0 A0 (H0 A0) (C6 A0 A0 E4 A0 A0 (H6 A0 A0) (C6 A0 A0 E4 A0 A0 (C9 A0 A0) (C6 A0 A0 E4 A0 A0 (C9 A0 A0) (C6 A0 A0 E4 A0 A0 (C5 A0 (.pure _ _ _ _) A0 B1 aT) (C6 A0 A0 E4 A0 A0 (H0 A0) (C6 A0 A0 E4 A0 A0 (H6 A0 A0) (C6 A0 A0 E4 A0 A0 (Z3 A0 A0 qR) (C6 A0 A0 E4 A0 A0 (bE A0 (.pure _ _ _ _) A0 A0 qR qR qR) (Z4 A0 A0 E4 A0 A0 (mL (fun O K=>R4 (S7 K A0) A0 (S7 K A0) (.pure _ _ _ _) PF A0)) A0 (C6 A0 A0 E4 A0 A0 (C9 A0 A0) (C6 A0 A0 E4 A0 A0 (C9 A0 A0) (C6 A0 A0 E4 A0 A0 (C9 A0 A0) (C6 A0 A0 E4 A0 A0 (C5 A0 (.pure _ _ _ _) A0 B1 aT) (C6 A0 A0 E4 A0 A0 (H0 A0) ?_)))))))))))))))))))))));refine C6 A0 A0 E4 A0 A0 (H6 A0 A0) (C6 A0 A0 E4 A0 A0 (C9 A0 A0) (C6 A0 A0 E4 A0 A0 (C9 A0 A0) (C6 A0 A0 E4 A0 A0 (C5 A0 (.pure _ _ _ _) A0 B1 aT) (C6 A0 A0 E4 A0 A0 (H0 A0) (C6 A0 A0 E4 A0 A0 (H6 A0 A0) (C6 A0 A0 E4 A0 A0 (C9 A0 A0) (C6 A0 A0 E4 A0 A0 (C9 A0 A0) (C6 A0 A0 E4 A0 A0 (C5 A0 (.pure _ _ _ _) A0 B1 aT) (C6 A0 A0 E4 A0 A0 (H0 A0) (C6 A0 A0 E4 A0 A0 (H6 A0 A0) (C6 A0 A0 E4 A0 A0 (Z3 A0 A0 qR) (C6 A0 A0 E4 A0 A0 (bE A0 (.pure _ _ _ _) A0 A0 qR qR qR) (Z4 A0 A0 E4 A0 A0 (mL (fun O K=>R4 (S7 K A0) A0 (S7 K A0) (.pure _ _ _ _) PF A0)) A0 (C6 A0 A0 E4 A0 A0 (uJ A0 A0) ?_))))))))))))));refine CQ E4 rfl ?_ ?_
 ·refine G4 A0 A0 E4 A0 A0 (C9 A0 A0) (G4 A0 A0 E4 A0 A0 (C9 A0 A0) (G4 A0 A0 E4 A0 A0 (C9 A0 A0) (G4 A0 A0 E4 A0 A0 (C5 A0 (.pure _ _ _ _) A0 B1 aT) (G4 A0 A0 E4 A0 A0 (H0 A0) (G4 A0 A0 E4 A0 A0 (H6 A0 A0) (G4 A0 A0 E4 A0 A0 (C9 A0 A0) (G4 A0 A0 E4 A0 A0 (C9 A0 A0) (G4 A0 A0 E4 A0 A0 (C5 A0 (.pure _ _ _ _) A0 B1 aT) (G4 A0 A0 E4 A0 A0 (H0 A0) (G4 A0 A0 E4 A0 A0 (H6 A0 A0) (G4 A0 A0 E4 A0 A0 (C9 A0 A0) (G4 A0 A0 E4 A0 A0 (C9 A0 A0) (G4 A0 A0 E4 A0 A0 (C5 A0 (.pure _ _ _ _) A0 B1 aT) (G4 A0 A0 E4 A0 A0 (H0 A0) (G4 A0 A0 E4 A0 A0 (H6 A0 A0) (G4 A0 A0 E4 A0 A0 (Z3 A0 A0 qR) (G4 A0 A0 E4 A0 A0 (bE A0 (.pure _ _ _ _) A0 A0 qR qR qR) (G4 A0 A0 E4 A0 A0 (C9 A0 A0) (G4 A0 A0 E4 A0 A0 (C9 A0 A0) (G4 A0 A0 E4 A0 A0 (C9 A0 A0) (G4 A0 A0 E4 A0 A0 (C9 A0 A0) (G4 A0 A0 E4 A0 A0 (C9 A0 A0) (G4 A0 A0 E4 A0 A0 (C9 A0 A0) ?_)))))))))))))))))))))));refine G4 A0 A0 E4 A0 A0 (C5 A0 (.pure _ _ _ _) A0 B1 aT) (G4 A0 A0 E4 A0 A0 (C5 A0 (.pure _ _ _ _) A0 B1 aT) (G4 A0 A0 E4 A0 A0 (H0 A0) (G4 A0 A0 E4 A0 A0 (H0 A0) (G4 A0 A0 E4 A0 A0 (H6 A0 A0) (G4 A0 A0 E4 A0 A0 (H6 A0 A0) (G4 A0 A0 E4 A0 A0 (C9 A0 A0) (G4 A0 A0 E4 A0 A0 (C9 A0 A0) (G4 A0 A0 E4 A0 A0 (C9 A0 A0) (G4 A0 A0 E4 A0 A0 (C9 A0 A0) (G4 A0 A0 E4 A0 A0 (C5 A0 (.pure _ _ _ _) A0 B1 aT) (G4 A0 A0 E4 A0 A0 (C5 A0 (.pure _ _ _ _) A0 B1 aT) (G4 A0 A0 E4 A0 A0 (H0 A0) (G4 A0 A0 E4 A0 A0 (H0 A0) (G4 A0 A0 E4 A0 A0 (H6 A0 A0) (G4 A0 A0 E4 A0 A0 (H6 A0 A0) (G4 A0 A0 E4 A0 A0 (C9 A0 A0) (G4 A0 A0 E4 A0 A0 (C9 A0 A0) (G4 A0 A0 E4 A0 A0 (C9 A0 A0) (G4 A0 A0 E4 A0 A0 (C9 A0 A0) (G4 A0 A0 E4 A0 A0 (C5 A0 (.pure _ _ _ _) A0 B1 aT) (G4 A0 A0 E4 A0 A0 (C5 A0 (.pure _ _ _ _) A0 B1 aT) (G4 A0 A0 E4 A0 A0 (H0 A0) (G4 A0 A0 E4 A0 A0 (H0 A0) ?_)))))))))))))))))))))));refine G4 A0 A0 E4 A0 A0 (H6 A0 A0) (G4 A0 A0 E4 A0 A0 (H6 A0 A0) (G4 A0 A0 E4 A0 A0 (Z3 A0 A0 qR) (G4 A0 A0 E4 A0 A0 (Z3 A0 A0 qR) (G4 A0 A0 E4 A0 A0 (bE A0 (.pure _ _ _ _) A0 A0 qR qR qR) (G4 A0 A0 E4 A0 A0 (bE A0 (.pure _ _ _ _) A0 A0 qR qR qR) ?_)))));exact lA
 rw[ag];obtain⟨M,B⟩:∃M,M=l6 x y c:=⟨_,rfl⟩
 have ac:∀s∈M,s.length<=890000:=fun s v=>by
  rw[B]at v;exact (AP v).elim (an s) (ao s)
 have au:M.length<=8192:=by rw[B];omega
 rw[<-B]at hnx ⊢;refine uI ?_;refine C3 (Sees.freezeG (k:=744) A0 A0) (I2 ?_);refine B9 (X:=Nat) (fun j=>([(8,B8 AL.Node 8 P5 L),(10,.s (pChanges C).s1),(11,B8 Str 1 L8 x),(12,B8 Str 1 L8 y),(13,.s (.one (.buf 13 Str 1 L8 (W++t6 H (M.take j))))),(14,B6 i),(15,B8 Str 1 L8 M),(16,B6 j)],[(13,.spare (W++t6 H (M.take j)).length 1 9)])) (fun j=>j<=M.length) (fun j=>M.length-j) 0 (C41 _) (by show Sees _ _ _ _ [(8,_),(10,_),(11,_),(12,_),(13,.s (.one (.buf 13 Str 1 L8 (W++[])))),(14,_),(15,_),(16,_)] [(13,.spare (W++[]).length 1 9)];rw[C77];exact (C1)) ?_;intro j hj;have az:(t6 H (M.take j)).length<=8192:=by
  unfold t6;have h1:=List.length_filter_le H ((M.take j).map Y4);rw[C74,C59]at h1;omega
 dsimp only at hj ⊢;refine zc 8 (fun d=>?_) fun d=>?_
 ·have aj:j<M.length:=by have:=A1 d;omega
  obtain⟨z,ap⟩:∃z,z=M[j]:=⟨_,rfl⟩
  have J:M[j]?=some z:=by rw[ap];simp[aj]
  have bc:M[((j:Nat):Int).toNat]?=some z:=by rw[C37];exact J
  have bd:=ac z (C60 J);have ar:(Y4 z).length<=z.length:=by unfold Y4;split<;>simp
  have A:=B01 H J;refine O6 ?_;refine E2 (KF z B1) (E2 (hM (Y4 z) B1) ?_);refine zc 1 (fun d=>?_) fun d=>?_
  ·rw[A6 d]at A;skip;refine J0 ?_;refine E2 (KF z B1) (B2 (B7 (c:=L8) (ys:=[Y4 z]) (C0 A0 A0 A0 A0 D2) A0 A0 A0) A0 (C2 (W4 A0 A0 A0 (.pure _ _ _ _) b1z A0) A0 (F5 ?_)));rw[C65,<-A];refine I2 ?_;exact⟨j+1,by omega,by omega,(C1)⟩
  ·rw[A7 (by rw[d];decide),C77]at A;rw[<-A];refine J0 ?_;exact⟨j+1,by omega,by omega,(C1)⟩
 have ai:j=M.length:=by have:=A3 d;omega
 rw[ai,C48,<-hnx];refine J0 ?_;exact⟨i+1,by omega,by omega,(C1)⟩
theorem KG{l:List File}{B:Nat}(h:∀f∈l,f.Blob.length<=B)(p:Str):(bC l p).length<=B:=by
 unfold bC;cases a:J7 l p with
 | none=>exact C41 _
 | some x =>
  obtain⟨y,b,_,rfl⟩:=eW a;exact h y b
theorem B02{g:Graph}{B:Nat}(h:∀c∈g,∀f∈c.Files,f.Blob.length<=B){c:Nat}{x:Str×Str}(q:x∈(L9 g c).flatten):x.1.length<=B/\x.2.length<=B:=by
 have b:∀c,∀f∈Q9 g c,f.Blob.length<=B:=fun c=>by
  unfold Q9;by_cases m:c<g.length
  ·rw[C36 m];exact h _ (C43 m)
  ·rw[C63 B1];exact fun f j=>by cases j
 obtain⟨l,o,k⟩:=List.mem_flatten.1 q;obtain⟨t,i,rfl⟩:=C71.1 o;obtain⟨d,_,rfl⟩:=C71.1 k;refine⟨KG ?_ _,KG (b c) _⟩;unfold O9 at i;split at i
 ·rw[C42.1 i];exact fun f j=>by cases j
 ·obtain⟨p,_,rfl⟩:=C71.1 i;exact b _
theorem B03(g:Graph)(s:Int)(v:Str)(h:FewT g)(Z:∀c∈g,∀f∈c.Files,f.Blob.length<=890000):FnOk prog 9 [I9 g,C8 s,F6 v] (fun rs=>rs=[I4 (jL g s v).1,C8 (jL g s v).2]):=by
 have T:=KC v;unfold jL;by_cases m:lG v≠0
 ·simp only[A6 m]at T ⊢;refine FnOk.intro Tryz.func9 F1 A0 A0 A0 A0 (F5 ?_);refine B2 (E3 _ 1 C7) A0 (J0 ?_);refine E2 (T) ?_;refine zc 11 (fun j=>?_) fun j=>?_;rotate_left
  ·exact absurd m (A3 j)
  refine H3 ?_;refine B2 (E3 _ 1 C7) A0 (H3 ?_);exact A9 (rs:=[I4 [],C8 (lG v)]) cN rfl
 simp only[A7 m]at T ⊢;have ae:lG v=0:=C75.1 m;obtain⟨H,hH⟩:∃H,H=hitF v:=⟨_,rfl⟩
 have hL:∀x:Str×Str,I6 x.1=0->I6 x.2=0->x.1.length<=890000->x.2.length<=890000->∃M:List Str,FnOk prog 15 [F6 x.1,F6 x.2,F6 v] (fun rs=>rs=[cG M,C8 0])/\decide ((M.length:Int)>0)=H x:=fun x q h2 C h4=>by
  have:=SU x.1 x.2 v q h2 C h4;unfold qU at this;simp only[A7 m]at this;refine⟨_,this,?_⟩;rw[hH];unfold hitF;exact decide_eq_decide.2 B1
 rw[<-hH];refine FnOk.intro Tryz.func9 F1 A0 A0 A0 A0 (F5 ?_);refine B2 (E3 _ 1 C7) A0 (J0 ?_);refine E2 (T) ?_;refine zc 11 (fun j=>?_) fun j=>?_
 ·exact absurd rfl (A1 j)
 refine I2 ?_;refine B2 (B7 (c:=C7) (ys:=[s]) (C0 A0 A0 A0 A0 D2) A0 A0 A0) A0 (E2 (A66 g s h.few (rdag_ok g h)) ?_);refine zc 12 (fun j=>?_) fun j=>?_
 ·have C:(N6 g s).2≠0:=A1 j;refine H3 ?_;refine B2 (E3 _ 1 C7) A0 (H3 ?_);exact A9 (rs:=[I4 [],C8 (N6 g s).2]) cN (by unfold Q7;rw[A6 C])
 have C:¬(N6 g s).2≠0:=A3 j;obtain⟨hv,G,Q⟩:Valid g/\(∀x∈(N6 g s).1,0<=x/\x<(g.length:Int))/\(N6 g s).1.Nodup:=by
  unfold N6 at C ⊢;split at C
  ·rename_i U;exact absurd U C
  ·rename_i U;rw[A7 U];have:=x9 (C75.1 U);split
   ·exact⟨this,(bX g [s]).2,(bX g [s]).1⟩
   ·exact⟨this,(fun _ h=>by cases h),List.nodup_nil⟩
 have E:Q7 H g s=((N6 g s).1.filter fun c=>R0 H g c.toNat,0):=by unfold Q7;rw[A7 C]
 rw[E];obtain⟨O,hO⟩:∃O,O=(N6 g s).1:=⟨_,rfl⟩
 rw[<-hO]at G Q ⊢;have ag:=p5 Q G;have hg:=h.few.len;refine H3 ?_;refine C2 (L2 12 _ C7 A0) A0 (I3 ?_);refine B9 (X:=Nat) (fun k=>([(0,B8 Commit 3 F2 g),(2,P6 v),(10,B8 Int 1 C7 O),(12,.s (.one (.buf 12 Int 1 C7 ((O.take k).filter fun c=>R0 H g c.toNat)))),(13,B6 k)],[(12,.spare ((O.take k).filter fun c=>R0 H g c.toNat).length 1 3)])) (fun k=>k<=O.length) (fun k=>O.length-k) 0 (C41 _) (C1) ?_;intro k hk;dsimp only at hk ⊢;have L:=List.length_filter_le (fun c:Int=>R0 H g c.toNat) (O.take k);rw[C59]at L;refine zc 8 (fun j=>?_) fun j=>?_;rotate_left
 ·have ac:k=O.length:=by have q:=A3 j;(try dsimp only at q);omega
  rw[ac,C48];refine R3 ?_;exact A9 (rs:=[I4 (O.filter fun c=>R0 H g c.toNat),C8 0]) cN rfl
 have D:k<O.length:=by have q:=A1 j;(try dsimp only at q);omega
 have ah:=G _ (C43 D);obtain⟨c,hc⟩:∃c:Nat,O[k]=(c:Int):=⟨O[k].toNat,by omega⟩
 have ad:O[k]?=some (c:Int):=by rw[C36 D,hc]
 have A:(O.take (k+1)).filter (fun c=>R0 H g c.toNat)=((O.take k).filter fun c=>R0 H g c.toNat)++(if R0 H g c=true then [(c:Int)] else []):=by
  rw[C52,ad,C53,D20]
  congr 1
  rw[D17,C37];rfl
 obtain⟨F,hF⟩:∃F,F=(O.take k).filter fun c=>R0 H g c.toNat:=⟨_,rfl⟩
 rw[<-hF]at L A ⊢;have V:=qN h hv c;have K:R0 H g c=DJ H (L9 g c) (L9 g c).length:=by unfold R0 DJ;rw[C48]
 have R:∀l∈L9 g c,∀x∈l,(I6 x.1=0/\I6 x.2=0)/\x.1.length<=890000/\x.2.length<=890000:=fun l I x J=>⟨zT hv (List.mem_flatten.2 ⟨l,I,J⟩),B02 Z (List.mem_flatten.2 ⟨l,I,J⟩)⟩
 refine O6 ?_;refine E2 (A69 g c h hv B1) (F5 ?_);obtain⟨B,W⟩:∃B,B=L9 g c:=⟨_,rfl⟩
 rw[<-W]at V K R ⊢;have af:=V.len;refine O6 ?_;refine B9 (X:=Nat) (fun p=>([(0,B8 Commit 3 F2 g),(2,P6 v),(10,B8 Int 1 C7 O),(12,.s (.one (.buf 12 Int 1 C7 F))),(13,B6 k),(14,B8 (List (Str×Str)) 1 aH B),(15,L6 (DJ H B p)),(16,B6 p)],[(12,.spare F.length 1 3)])) (fun p=>p<=B.length) (fun p=>B.length-p) 0 (C41 _) (C1) ?_;intro p hp;dsimp only at hp ⊢;refine zc 8 (fun j=>?_) fun j=>?_
 ·have z:p<B.length:=by have q:=A1 j;(try dsimp only at q);omega
  have hs:=VS (f:=H) z;obtain⟨l,I⟩:∃l,l=B[p]:=⟨_,rfl⟩
  have aj:B[p]?=some l:=by rw[I];simp[z]
  have P:l∈B:=by rw[I];exact C43 z
  have ai:=V.lens l P;rw[<-I]at hs;refine R3 ?_;refine B9 (X:=Nat) (fun i=>([(0,B8 Commit 3 F2 g),(2,P6 v),(10,B8 Int 1 C7 O),(12,.s (.one (.buf 12 Int 1 C7 F))),(13,B6 k),(14,B8 (List (Str×Str)) 1 aH B),(15,L6 (DJ H B p||(l.take i).any H)),(16,B6 p),(17,B6 i)],[(12,.spare F.length 1 3)])) (fun i=>i<=l.length) (fun i=>l.length-i) 0 (C41 _) (by rw[C79,List.any_nil,Bool.or_false];exact (C1)) ?_;intro i hi;dsimp only at hi ⊢;refine zc 11 (fun j=>?_) fun j=>?_
  ·have w:i<l.length:=by have q:=A1 j;(try dsimp only at q);omega
   have S:=B51 (f:=H) w;obtain⟨x,J⟩:∃x,x=l[i]:=⟨_,rfl⟩
   have ak:l[i]?=some x:=by rw[J];simp[w]
   obtain⟨⟨c1,c2⟩,c3,c4⟩:=R l P x (by rw[J];exact C43 w);obtain⟨M,hM,Y⟩:=hL x c1 c2 c3 c4;rw[<-J]at S;refine V7 ?_;refine D6 (lB A0 A0 (by first | omega | decide) B1) A0 A0 (I3 ?_);refine D6 (lB A0 A0 (by first | omega | decide) B1) A0 A0 (F5 ?_);refine D6 (I5 (hM) A0 A0) A0 A0 (zz 15 ?_);rw[Y,x7,Bool.or_assoc,<-S];refine I2 ?_;exact⟨i+1,by omega,by omega,(C1)⟩
  ·have ab:i=l.length:=by have q:=A3 j;(try dsimp only at q);omega
   rw[ab,C48,<-hs];refine J0 ?_;exact⟨p+1,by omega,by omega,(C1)⟩
 have m:p=B.length:=by have q:=A3 j;(try dsimp only at q);omega
 rw[m,<-K];refine zc 5 (fun j=>?_) fun j=>?_
 ·rw[A6 j]at A;skip;refine J0 ?_;refine B2 (B7 (c:=C7) (ys:=[(c:Int)]) (C0 A0 A0 A0 A0 D2) A0 A0 A0) A0 (R3 ?_);refine⟨k+1,by omega,by omega,?_⟩;rw[A];exact (C1)
 ·rw[j,A7 F1,C77]at A;refine J0 ?_;refine⟨k+1,by omega,by omega,?_⟩;rw[A];exact (C1)
def atomsP:List Str:=[[97],[98],[46],[91,97,98,93],[91,94,97,93],[40,97,124,98,41],[40,97,98,41],[91,91,58,97,108,112,104,97,58,93,120,93],[92,43],[40,41],[40,98,124,41],[91,97,45,99,93],[93],[120]]
def marksP:List Str:=[[],[],[],[42],[43],[63],[123,50,125],[123,49,44,50,125],[123,48,44,49,125],[123,50,44,125]]
def BK(b:List Int)(i:Nat):Str:=atomsP.getD (S8 (W5 b (10+(i:Int))) 14).toNat []++marksP.getD (S8 (W5 b (30+(i:Int))) 10).toNat []++(if (W5 b (50+(i:Int))).tmod 6=0 then [124] else [])
def Q4(a:List Int):Nat->Str
 | 0=>if (W5 a 1).tmod 5=0 then [94] else []
 | i+1=>Q4 a i++BK a i
def r5(a:List Int)(n:Nat):Str:=Q4 a n++(if (W5 a 2).tmod 5=0 then [36] else [])
theorem vW{l:List Str}{b:Nat}(h:∀x∈l,x.length<=b)(i:Nat):(l.getD i []).length<=b:=by
 rw[C38];cases a:l[i]? with
 | none=>exact C41 _
 | some x=>exact h x (C60 a)
theorem B04(c:List Int)(i:Nat):(BK c i).length<=18:=by
 unfold BK;have d:=vW (l:=atomsP) (b:=12) F1 (S8 (W5 c (10+(i:Int))) 14).toNat
 have f:=vW (l:=marksP) (b:=5) F1 (S8 (W5 c (30+(i:Int))) 10).toNat
 rw[C40,C40];split
 ·simp only[C46,List.length_nil];omega
 ·simp only[List.length_nil];omega
theorem tQ(a:List Int):∀i,(Q4 a i).length<=1+18*i
 | 0=>by unfold Q4;split<;>simp
 | i+1=>by
  have b:=tQ a i;have c:=B04 a i;rw[Q4,C40];omega
theorem SW(a:List Int)(n:Nat):(r5 a n).length<=2+18*n:=by
 have:=tQ a n;unfold r5;rw[C40];split
 ·simp only[C46,List.length_nil];omega
 ·simp only[List.length_nil];omega
theorem mod8{n:Nat}(h:n<=7):S8 (n:Int) 8=n:=by
 unfold S8;rw[YL ⟨by omega,by omega⟩];omega
theorem get_at{l:List Str}{i:Nat}(h:i<l.length):l[i]?=some (l.getD i []):=by
 rw[C38,C36 h];rfl
theorem atom_at(b:List Int)(i:Nat):atomsP[(S8 (W5 b (10+(i:Int))) 14).toNat]?=some (atomsP.getD (S8 (W5 b (10+(i:Int))) 14).toNat []):=by
 have c:=Y3 (W5 b (10+(i:Int))) (n:=14) B1;exact get_at (by rw[show atomsP.length=14 from rfl];omega)
theorem mark_at(b:List Int)(i:Nat):marksP[(S8 (W5 b (30+(i:Int))) 10).toNat]?=some (marksP.getD (S8 (W5 b (30+(i:Int))) 10).toNat []):=by
 have c:=Y3 (W5 b (30+(i:Int))) (n:=10) B1;exact get_at (by rw[show marksP.length=10 from rfl];omega)
theorem SX(b:List Int)(n:Nat)(y:n<=7):FnOk prog 7 [I4 b,C8 n] (fun rs=>rs=[F6 (r5 b n)]):=by
 have f:=gY (n:Int) 8 B1 B1;rw[mod8 y]at f;refine FnOk.intro Tryz.func7 F1 A0 A0 A0 A0 (J0 ?_);refine B2 (B7 (c:=L8) (ys:=atomsP) (C0 A0 A0 A0 A0 (C0 A0 A0 A0 A0 (C0 A0 A0 A0 A0 (C0 A0 A0 A0 A0 (C0 A0 A0 A0 A0 (C0 A0 A0 A0 A0 (C0 A0 A0 A0 A0 (C0 A0 A0 A0 A0 (C0 A0 A0 A0 A0 (C0 A0 A0 A0 A0 (C0 A0 A0 A0 A0 (C0 A0 A0 A0 A0 (C0 A0 A0 A0 A0 (C0 A0 A0 A0 A0 D2)))))))))))))) A0 A0 A0) A0 (P1 ?_);refine B2 (B7 (c:=L8) (ys:=marksP) (C0 A0 A0 A0 A0 (C0 A0 A0 A0 A0 (C0 A0 A0 A0 A0 (C0 A0 A0 A0 A0 (C0 A0 A0 A0 A0 (C0 A0 A0 A0 A0 (C0 A0 A0 A0 A0 (C0 A0 A0 A0 A0 (C0 A0 A0 A0 A0 (C0 A0 A0 A0 A0 D2)))))))))) A0 A0 A0) A0 (O6 ?_);refine E2 (cP b 1 B1 B1) (H3 ?_);refine U9 [(0,B8 Int 1 C7 b),(1,B6 n),(5,B8 Str 1 L8 atomsP),(6,B8 Str 1 L8 marksP),(7,P6 (Q4 b 0))] [] ?_ ?_
 ·skip;refine zc 0 (fun e=>?_) fun e=>?_
  ·have h:=A1 e;skip;refine H3 ?_;rw[show Q4 b 0=[94] by unfold Q4;exact A6 h];exact (C1)
  ·have h:=A3 e;refine G5 ?_;rw[show Q4 b 0=[] by unfold Q4;exact A7 h];exact (C1)
 refine J0 ?_;refine B9 (X:=Nat) (fun i=>([(0,B8 Int 1 C7 b),(1,B6 n),(5,B8 Str 1 L8 atomsP),(6,B8 Str 1 L8 marksP),(7,P6 (Q4 b i)),(8,B6 i)],[])) (fun i=>i<=n) (fun i=>n-i) 0 (C41 _) (C1) ?_;intro i v;dsimp only at v ⊢;have z:=tQ b i;refine I2 ?_;refine E2 (f) ?_;refine zc 2 (fun e=>?_) fun e=>?_
 ·have w:i<n:=by have j:=A1 e;(try dsimp only at j);omega
  obtain⟨a,ha⟩:∃a,a=atomsP.getD (S8 (W5 b (10+(i:Int))) 14).toNat []:=⟨_,rfl⟩
  obtain⟨m,l⟩:∃m,m=marksP.getD (S8 (W5 b (30+(i:Int))) 10).toNat []:=⟨_,rfl⟩
  have s:=Y3 (W5 b (10+(i:Int))) (n:=14) B1;have r:=Y3 (W5 b (30+(i:Int))) (n:=10) B1;have p:=atom_at b i;have q:=mark_at b i;have u:a.length<=12:=by rw[ha];exact vW F1 _
  have x:m.length<=5:=by rw[l];exact vW F1 _
  rw[<-ha]at p;rw[<-l]at q;have g:BK b i=a++m++(if (W5 b (50+(i:Int))).tmod 6=0 then [124] else []):=by rw[ha,l];rfl
  refine O6 ?_;refine D6 (I5 (cP b (10+(i:Int)) B1 B1) A0 A0) A0 A0 (D6 (I5 (gY _ 14 B1 B1) A0 A0) A0 A0 (F5 ?_));refine D6 (fX A0 A0 B1) A0 A0 (P1 ?_);refine D6 (I5 (cP b (30+(i:Int)) B1 B1) A0 A0) A0 A0 (D6 (I5 (gY _ 10 B1 B1) A0 A0) A0 A0 (F5 ?_));refine D6 (fX A0 A0 (by (rw[C40];omega))) A0 A0 ?_;refine I3 ?_;refine E2 (cP b (50+(i:Int)) B1 B1) (H3 ?_);refine BF [(0,B8 Int 1 C7 b),(1,B6 n),(5,B8 Str 1 L8 atomsP),(6,B8 Str 1 L8 marksP),(7,P6 (Q4 b (i+1))),(8,B6 i)] [] ?_ ?_
  ·skip;refine zc 0 (fun e=>?_) fun e=>?_
   ·have h:=A1 e;skip;refine I2 ?_;rw[show Q4 b (i+1)=Q4 b i++a++m++[124] by rw[Q4,g,A6 h];simp only[C65]];exact (C1)
   ·have h:=A3 e;refine G5 ?_;rw[show Q4 b (i+1)=Q4 b i++a++m by rw[Q4,g,A7 h];simp only[C65,C77]];exact (C1)
  skip;refine I2 ?_;exact⟨i+1,by omega,by omega,(C1)⟩
 have k:i=n:=by have j:=A3 e;(try dsimp only at j);omega
 subst k;refine I2 ?_;refine E2 (cP b 2 B1 B1) (H3 ?_);refine U9 [(7,P6 (r5 b i))] [] ?_ ?_
 ·skip;refine zc 0 (fun e=>?_) fun e=>?_
  ·have h:=A1 e;skip;refine F5 ?_;refine B2 (fX A0 A0 PH) A0 (F5 ?_);rw[show r5 b i=Q4 b i++[36] by unfold r5;rw[A6 h]];exact (C1)
  ·have h:=A3 e;refine G5 ?_;rw[show r5 b i=Q4 b i by unfold r5;rw[A7 h,C77]];exact (C1)
 refine J0 ?_;exact A9 (rs:=[F6 (r5 b i)]) M1 rfl
theorem NO(f:Str×Str->Bool)(g:Graph)(s:Int):(Q7 f g s).1.length<=g.length:=by
 unfold Q7;split
 ·exact C41 _
 ·rename_i j;have a:(∀x∈(N6 g s).1,0<=x/\x<(g.length:Int))/\(N6 g s).1.Nodup:=by
   unfold N6;split
   ·exact⟨(fun _ h=>by cases h),List.nodup_nil⟩
   ·split
    ·exact⟨(bX g [s]).2,(bX g [s]).1⟩
    ·exact⟨(fun _ h=>by cases h),List.nodup_nil⟩
  have b:=p5 a.2 a.1;have i:=List.length_filter_le (fun c:Int=>R0 f g c.toNat) (N6 g s).1;dsimp only;omega
theorem IE(b:List Int)(start n:Int)(i:Bool):FnOk prog 3 [I4 b,C8 start,C8 n,E1 i] (fun rs=>rs=[E1 true]):=by
 obtain⟨k,C⟩:∃k:Nat,S8 n 4=(k:Int):=⟨(S8 n 4).toNat,by have:=Y3 n (n:=4) B1;omega⟩
 have q:k<=7:=by have:=Y3 n (n:=4) B1;omega
 have d:=gY n 4 B1 B1;rw[C]at d;have e:=SX b k q;have r:=SW b k;obtain⟨p,D⟩:∃p,p=r5 b k:=⟨_,rfl⟩
 rw[<-D]at e r;refine FnOk.intro Tryz.func3 F1 A0 A0 A0 A0 (I3 ?_);refine r8 (A93 b 5 3 B1 B1) A0 A0 A0 ?_;rintro _ ⟨g,rfl,h,_⟩;refine F5 ?_;have v:=h.few F1;have y:=h.short;have B:=h.len;have w:∀c∈g,∀f∈c.Files,f.Blob.length<=890000:=fun c z f A=>by have:=((h.files c z).all f A).2;omega
 refine O6 ?_;refine uX (X:=Int) (fun x=>([(0,B8 Int 1 C7 b),(1,B6 x),(2,B6 n),(9,B8 Commit 3 F2 g)],[])) (fun _=>True) ?_ ?_
 ·refine zc 0 (fun s=>?_) fun s=>?_
  ·rw[P4,C39]at s;have j:=A1 s.2;skip;refine P1 ?_;refine E2 (gY start g.length B1 B1) (F5 ?_);exact⟨S8 start g.length,trivial,(C1)⟩
  ·refine G5 ?_;exact⟨start,trivial,(C1)⟩
 rintro st _;dsimp only;obtain⟨a,ha⟩:∃a,a=jL g st p:=⟨_,rfl⟩
 have u:=B00 g st p v y B1;have j:=B03 g st p v w;rw[<-ha]at u j;have m:a.1.length<=1099511627776:=by
  rw[ha];unfold jL;split
  ·exact C41 _
  ·have:=NO (hitF p) g st;omega
 refine P1 ?_;refine E2 (d) (E2 (e) (I3 ?_));refine E2 (u) (V7 ?_);refine E2 (j) (O6 ?_);refine E2 (qS a.1 m) (G5 ?_);refine G7 A0 A0 A0 A0 (G5 ?_);refine G7 A0 A0 A0 A0 (G5 ?_);refine G7 A0 A0 A0 A0 (G5 ?_);refine B2 (O2 A0 (rfl) A0) A0 (G5 ?_);refine G7 A0 A0 A0 (A4 A0) (E2 (A95) (B2 (O2 A0 ((A4 A0)) A0) A0 (H3 ?_)));exact A9 (rs:=[E1 true]) M1 rfl
end Go.Proofs.YtabbdaafimcjhaaGreatDoor
