
/- Walks of the program's functions. -/
import Derived.Test.YtabbdaafimcjhaaGreatDoorFh
set_option linter.all false
namespace Go.Proofs.YtabbdaafimcjhaaGreatDoor
open Go Go.AL
set_option maxRecDepth 100000
set_option maxHeartbeats 4000000
def gZ(s:Str)(b:AL.Node)(D:Int->Lng):Lng:=if b.Kind=6 then Rounds (D (b.Kids.getD 0 0)) b.Min.toNat (if b.Max<0 then s.length+1 else (b.Max-b.Min).toNat) else eG s b D
theorem tabR{s:Str}{a:AL.Node}{D:Int->Lng}{T:List (List Bool)}(h:a.Kind≠6)(b:Tab s T (eG s a D)):Tab s T (gZ s a D):=by
 unfold gZ;rw[A7 h];exact b
structure TabsIn (s:Str) (all:List (List (List Bool))) (D:Int->Lng):Prop where
 len:s.length<=899000
 get:∀c:Int,0<=c->c<all.length->∃T,all[c.toNat]?=some T/\Tab s T (D c)
 fwd:∀c:Int,0<=c->c<all.length->Fwd s (D c)
theorem rT(n:Nat)(g:Nat->List Bool)(fr:Fr)(a:AV fr=[]):XC [.one (.mut 702)] (j8 n g) fr []=true:=by
 simp only[XC,B47];refine⟨⟨?_,?_⟩,rfl⟩
 ·rw[List.all_eq_true];intro k b;rcases List.mem_append.1 b with h | h
  ·have e:k=702:=List.mem_singleton.1 h;subst e;rfl
  ·exact QC n g k h
 ·rw[a];rfl
theorem UX(s:Str)(b:List (List (List Bool)))(D:Int->Lng)(e:TabsIn s b D)(Z:Set4)(c d:Int)(kids:List Int):FnOk Tryz.prog 103 [aG ⟨0,Z,c,d,kids⟩,yS b,F3 s] (fun rs=>∃T,rs=[cB T]/\Tab s T (gZ s ⟨0,Z,c,d,kids⟩ D)):=by
 have f:=e.len;refine FnOk.intro Tryz.func103 F2 A0 A0 A0 A0 (zz 21 ?_);refine E3 (pA s true B3) ?_;refine zc 14 (fun a=>?_) fun a=>?_
 ·exact absurd (A1 a) vH
 refine zc 5 (fun a=>?_) fun a=>?_
 ·exact absurd (A1 a) vH
 refine zc 5 (fun a=>?_) fun a=>?_
 ·exact absurd (A1 a) vH
 refine zc 5 (fun a=>?_) fun a=>?_
 ·exact absurd (A1 a) vH
 refine zc 5 (fun a=>?_) fun a=>?_
 ·exact absurd (A1 a) vH
 refine zc 5 (fun a=>?_) fun a=>?_
 ·exact absurd (A1 a) vH
 refine zz 7 ?_;exact B2 (rs:=[cB (mK (s.length+1) true)]) (G6 rfl rfl rfl) ⟨_,rfl,tabR vH (tab_k0 rfl)⟩
theorem UY(s:Str)(d:List (List (List Bool)))(D:Int->Lng)(w:TabsIn s d D)(Z:Set4)(F G:Int)(kids:List Int)(A:∀k∈kids,0<=k/\k<(d.length:Int))(hkl:kids.length<=1000000):FnOk Tryz.prog 103 [aG ⟨4,Z,F,G,kids⟩,yS d,F3 s] (fun rs=>∃T,rs=[cB T]/\Tab s T (gZ s ⟨4,Z,F,G,kids⟩ D)):=by
 have L:=w.len;refine FnOk.intro Tryz.func103 F2 A0 A0 A0 A0 (zz 21 ?_);refine E3 (pA s true B3) ?_;refine zc 14 (fun b=>?_) fun b=>?_
 ·exact absurd (A1 b) vH
 refine zc 5 (fun b=>?_) fun b=>?_
 ·exact absurd (A1 b) vH
 refine zc 5 (fun b=>?_) fun b=>?_
 ·exact absurd (A1 b) vH
 refine zc 5 (fun b=>?_) fun b=>?_;rotate_left
 ·exact absurd rfl (A3 b)
 refine zz 5 ?_;refine C2 (X:=Nat×List (List Bool)) (fun x=>([(1,B8 (List (List Bool)) 1 pS d),(2,Q6 s),(3,.s (.one (.eref Unit 8 (fun _ j=>(cellsOf N7 ⟨4,Z,F,G,kids⟩ 0 8).getD j (.v undef)) () 0))),(7,B8 (List Bool) 1 M1 x.2),(9,B7 x.1)],[])) (fun x=>x.1<=kids.length/\Tab s x.2 (vC D (kids.take x.1).reverse)) (fun x=>kids.length-x.1) (0,mK (s.length+1) true) ⟨Nat.zero_le _,B07⟩ (Sees.of lf lo) ?_;rintro⟨k,T⟩ ⟨E,l⟩;dsimp only at E l ⊢;refine zc 9 (fun b=>?_) fun b=>?_
 ·have m:k<kids.length:=by have q:=A1 b;(try dsimp only at q);omega
  obtain⟨c,J⟩:∃c,c=kids[k]:=⟨_,rfl⟩
  have i:kids[k]?=some c:=by rw[J];simp[m]
  have K:kids[((k:Nat):Int).toNat]?=some c:=by rw[B45];exact i
  obtain⟨y,z⟩:=A c (B52 i);obtain⟨B,I,h⟩:=w.get c y z;refine zz 9 ?_;refine B0 (A9 A0 (.pure _ _ _ _) A0 B3 K) A0 (zz 1 ?_);refine B0 (A9 A0 (.pure _ _ _ _) A0 B3 I) A0 (zz 1 ?_);refine E3 (nT (s.length+1) T B B3 l.len l.row h.len h.row) (zz 7 ?_);exact⟨(k+1,_),⟨m,tab_cat i (fun x H=>w.fwd x (A x H).1 (A x H).2) l h⟩,by dsimp only;omega,(Sees.of lf lo)⟩
 have C:k=kids.length:=by have q:=A3 b;(try dsimp only at q);omega
 rw[C,B51]at l;refine zz 7 ?_;exact B2 (rs:=[cB T]) (G6 rfl rfl rfl) ⟨_,rfl,tabR vH (tab_k4 rfl l)⟩
theorem UZ(s:Str)(d:List (List (List Bool)))(D:Int->Lng)(H:TabsIn s d D)(Z:Set4)(F G:Int)(kids:List Int)(K:∀k∈kids,0<=k/\k<(d.length:Int))(hkl:kids.length<=1000000):FnOk Tryz.prog 103 [aG ⟨5,Z,F,G,kids⟩,yS d,F3 s] (fun rs=>∃T,rs=[cB T]/\Tab s T (gZ s ⟨5,Z,F,G,kids⟩ D)):=by
 have M:=H.len;refine FnOk.intro Tryz.func103 F2 A0 A0 A0 A0 (zz 21 ?_);refine E3 (pA s false B3) ?_;refine zc 14 (fun b=>?_) fun b=>?_
 ·exact absurd (A1 b) vH
 refine zc 5 (fun b=>?_) fun b=>?_
 ·exact absurd (A1 b) vH
 refine zc 5 (fun b=>?_) fun b=>?_
 ·exact absurd (A1 b) vH
 refine zc 5 (fun b=>?_) fun b=>?_
 ·exact absurd (A1 b) vH
 refine zc 5 (fun b=>?_) fun b=>?_;rotate_left
 ·exact absurd rfl (A3 b)
 refine zz 5 ?_;refine C2 (X:=Nat×List (List Bool)) (fun x=>([(1,B8 (List (List Bool)) 1 pS d),(2,Q6 s),(3,.s (.one (.eref Unit 8 (fun _ j=>(cellsOf N7 ⟨5,Z,F,G,kids⟩ 0 8).getD j (.v undef)) () 0))),(7,B8 (List Bool) 1 M1 x.2),(10,B7 x.1)],[])) (fun x=>x.1<=kids.length/\Tab s x.2 (fun i j=>∃y∈kids.take x.1,D y i j)) (fun x=>kids.length-x.1) (0,mK (s.length+1) false) ⟨Nat.zero_le _,B06⟩ (Sees.of lf lo) ?_;rintro⟨k,T⟩ ⟨E,m⟩;dsimp only at E m ⊢;refine zc 9 (fun b=>?_) fun b=>?_
 ·have q:k<kids.length:=by have w:=A1 b;(try dsimp only at w);omega
  obtain⟨c,J⟩:∃c,c=kids[k]:=⟨_,rfl⟩
  have l:kids[k]?=some c:=by rw[J];simp[q]
  have L:kids[((k:Nat):Int).toNat]?=some c:=by rw[B45];exact l
  obtain⟨z,A⟩:=K c (B52 l);obtain⟨B,I,h⟩:=H.get c z A;refine zz 9 ?_;refine B0 (A9 A0 (.pure _ _ _ _) A0 B3 L) A0 (zz 1 ?_);refine B0 (A9 A0 (.pure _ _ _ _) A0 B3 I) A0 (zz 1 ?_);refine E3 (HO (s.length+1) T B B3 m.len m.row h.len h.row) (zz 7 ?_);exact⟨(k+1,_),⟨q,tab_alt l m h⟩,by dsimp only;omega,(Sees.of lf lo)⟩
 have C:k=kids.length:=by have w:=A3 b;(try dsimp only at w);omega
 rw[C,B51]at m;refine zz 7 ?_;exact B2 (rs:=[cB T]) (G6 rfl rfl rfl) ⟨_,rfl,tabR vH (tab_k5 rfl m)⟩
theorem VA(s:Str)(y:List (List (List Bool)))(D:Int->Lng)(G:TabsIn s y D)(Z:Set4)(l d c:Int)(E:0<=c)(F:c<(y.length:Int))(P:0<=l/\l<=100)(Q:d = -1\/l<=d/\d<=100):FnOk Tryz.prog 103 [aG ⟨6,Z,l,d,[c]⟩,yS y,F3 s] (fun rs=>∃T,rs=[cB T]/\Tab s T (gZ s ⟨6,Z,l,d,[c]⟩ D)):=by
 obtain⟨B,L,i⟩:=G.get c E F;have K:=G.fwd c E F;obtain⟨a,ha⟩:∃a:Nat,l=(a:Int):=⟨l.toNat,by omega⟩
 obtain⟨more,m⟩:∃more:Nat,(more:Int)=if d<0 then (s.length:Int)+1 else d-l:=⟨(if d<0 then (s.length:Int)+1 else d-l).toNat,by split<;>omega⟩
 have M:gZ s ⟨6,Z,l,d,[c]⟩ D=Rounds (D c) a more:=by
  unfold gZ;rw[A6 rfl];dsimp only;rw[show l.toNat=a by omega,show (if d<0 then s.length+1 else (d-l).toNat)=more by split at m<;>rename_i h<;>simp only[h,if_true,if_false]<;>omega];rfl
 rw[M];have S:=G.len;refine FnOk.intro Tryz.func103 F2 A0 A0 A0 A0 (zz 21 ?_);refine E3 (pA s true B3) ?_;refine zc 14 (fun b=>?_) fun b=>?_
 ·exact absurd (A1 b) vH
 refine zc 5 (fun b=>?_) fun b=>?_
 ·exact absurd (A1 b) vH
 refine zc 5 (fun b=>?_) fun b=>?_
 ·exact absurd (A1 b) vH
 refine zc 5 (fun b=>?_) fun b=>?_
 ·exact absurd (A1 b) vH
 refine zc 5 (fun b=>?_) fun b=>?_
 ·exact absurd (A1 b) vH
 refine zc 5 (fun b=>?_) fun b=>?_;rotate_left
 ·exact absurd rfl (A3 b)
 refine zz 5 ?_;refine B0 (A9 A0 (.pure _ _ _ _) A0 B3 (show ([c]:List Int)[(0:Int).toNat]?=some c from A0)) A0 (zz 1 ?_);refine B0 (A9 A0 (.pure _ _ _ _) A0 B3 L) A0 (zz 9 ?_);refine C2 (X:=Nat×List (List Bool)) (fun x=>([(2,Q6 s),(3,.s (.one (.eref Unit 8 (fun _ j=>(cellsOf N7 ⟨6,Z,l,d,[c]⟩ 0 8).getD j (.v undef)) () 0))),(7,B8 (List Bool) 1 M1 x.2),(11,B8 (List Bool) 1 M1 B),(12,B7 x.1)],[])) (fun x=>x.1<=a/\Tab s x.2 (q8 (D c) x.1)) (fun x=>a-x.1) (0,mK (s.length+1) true) ⟨Nat.zero_le _,B08⟩ (Sees.of lf lo) ?_;rintro⟨k,T⟩ ⟨I,C⟩;dsimp only at I C ⊢;refine zc 8 (fun b=>?_) fun b=>?_
 ·have A:k<a:=by have z:=A1 b;(try dsimp only at z);omega
  refine zz 6 ?_;refine E3 (nT (s.length+1) T B B3 C.len C.row i.len i.row) (zz 7 ?_);exact⟨(k+1,_),⟨A,tab_pow K C i⟩,by dsimp only;omega,(Sees.of lf lo)⟩
 have H:k=a:=by have z:=A3 b;(try dsimp only at z);omega
 rw[H]at C;refine zz 7 ?_;refine B0 (aL A0 A0 (by (dsimp only;omega))) A0 ?_;refine zz 9 ?_;refine S7 [(2,Q6 s),(7,B8 (List Bool) 1 M1 T),(11,B8 (List Bool) 1 M1 B),(13,B7 more)] [] ?_ ?_
 ·skip;refine zc 0 (fun b=>?_) fun b=>?_
  ·have h:d<0:=A1 b;skip;refine zz 6 ?_;rw[m,A6 h];exact (Sees.of lf lo)
  ·have h:¬d<0:=A3 b;refine zz 1 ?_;rw[m,A7 h];exact (Sees.of lf lo)
 have O:more<=1000000:=by split at m<;>omega
 refine zz 5 ?_;refine C2 (X:=Nat×List (List Bool)) (fun x=>([(7,B8 (List Bool) 1 M1 x.2),(11,B8 (List Bool) 1 M1 B),(13,B7 more),(14,B7 x.1)],[])) (fun x=>x.1<=more/\Tab s x.2 (Rounds (D c) a x.1)) (fun x=>more-x.1) (0,T) ⟨Nat.zero_le _,RU C⟩ (Sees.of lf lo) ?_;rintro⟨q,U⟩ ⟨R,w⟩;dsimp only at R w ⊢;refine zc 7 (fun b=>?_) fun b=>?_
 ·have A:q<more:=by have z:=A1 b;(try dsimp only at z);omega
  refine zz 7 ?_;refine E3 (nT (s.length+1) U B B3 w.len w.row i.len i.row) (tF (HO (s.length+1) U (EG (s.length+1) U B) B3 w.len w.row (zR _ _) (tab_row _ _)) A0 A0 A0 (zz 7 ?_));exact⟨(q+1,_),⟨A,WM K w i⟩,by dsimp only;omega,(Sees.of lf lo)⟩
 have J:q=more:=by have z:=A3 b;(try dsimp only at z);omega
 rw[J]at w;refine zz 7 ?_;exact B2 (rs:=[cB U]) (G6 rfl rfl rfl) ⟨_,rfl,w⟩
theorem rU{P:Program}{nt:Nat}{fr:Fr}{n:Nat}{g:Nat->List Bool}(b:∀r,r<n->I3 (r+1000) fr=true):Sees P nt fr (j8 n g) fr [(702,.grow 90 (List Bool) 1 M1 ((List.range n).map g))]:=by
 have h:=B33 (P:=P) (nt:=nt) (fr:=fr) (α:=Bool) (c:=Q9) (m:=n) (kb:=702) (e:=90) (g:=g) (pre:=[]) B3 rfl rfl b (fun _ _=>rfl);rw[<-A06 n g]at h;exact h
theorem wG{n i:Nat}{g:Nat->List Bool}(h:i<n):B6 (j8 n g) (i+1000)=some (.arr Bool 1 Q9 (g i)):=by
 rw[A8 B3];exact kP (List.mem_range.2 h)
theorem row_get{n i:Nat}(h:i<n):(aC n)[i*1+0]?=some (.mut (i+1000)):=by
 rw[show i*1+0=i by omega];exact NB h (Nat.zero_le _)
theorem wH{n i j:Nat}{b:Bool}{f a:Nat->Option (Nat×Bool)}(c:f i=none)(d:a i=some (j,b)):(jH n f i).set j b=jH n a i:=by
 unfold jH;rw[c,d]
theorem wI{n r:Nat}{f a:Nat->Option (Nat×Bool)}(h:a r=f r):jH n a r=jH n f r:=by unfold jH;rw[h]
theorem KW{n i:Nat}{g g':Nat->List Bool}(h:i<n)(b:∀q,q≠i->g' q=g q):∀k o,B6 (j8 n g') k=some o->B6 ((i+1000,.arr Bool 1 Q9 (g' i))::j8 n g) k=some o :=
 A47 (c:=Q9) (g:=g) (g':=g') (pre:=[(702,.growT 90 n 1 (aC n))]) rfl (List.mem_range.2 h) b
theorem VB(s:Str)(c:List (List (List Bool)))(D:Int->Lng)(r:TabsIn s c D)(Z:Set4)(l p:Int)(kids:List Int):FnOk Tryz.prog 103 [aG ⟨2,Z,l,p,kids⟩,yS c,F3 s] (fun rs=>∃T,rs=[cB T]/\Tab s T (gZ s ⟨2,Z,l,p,kids⟩ D)):=by
 obtain⟨n,j⟩:∃n,n=s.length+1:=⟨_,rfl⟩
 have w:=r.len;refine FnOk.intro Tryz.func103 F2 A0 A0 A0 A0 (zz 21 ?_);refine eK (rS s B3) A0 A0 A0 A0 ?_;rintro _ _ ⟨rfl,rfl⟩;refine⟨(rT _ _ _ rfl),?_⟩;refine zz 2 ?_;rw[<-j,B67];refine zc 12 (fun i=>?_) fun i=>?_
 ·exact absurd (A1 i) vH
 refine zc 5 (fun i=>?_) fun i=>?_;rotate_left
 ·exact absurd rfl (A3 i)
 have b:0<n:=by omega
 have d:=wG (g:=jT n) b;have h:(jT n 0).set 0 true=jH n (vE 0) 0:=wH (f:=fun _=>none) rfl (by unfold vE;rw[A6 rfl]);skip;refine zz 2 ?_;refine B0 (fK A0 A0 A0 B3 B3) A0 (B0 (vO A0 A0 (row_get b)) A0 (B0 (E4 A0 d A0 B3 MR) A0 (V1 (G5 TySz.out A0 d MR A0 A0) (zz 1 ?_))));rw[show (0:Int).toNat=0 from rfl];refine t8 [(7,.s (.one (.mut 702)))] (j8 n (jH n (vE 0))) (B20 ⟨Y7 rfl,trivial⟩ (by rw[h];exact KW b (fun q v=>wI (f:=fun _=>none) (by unfold vE;rw[A7 v])))) ?_;refine C1 (rU (fun _ _=>rfl)) (C1 (Sees.freezeG (k:=702) A0 A0) (zz 6 ?_));exact B2 (rs:=[cB (qZ n (vE 0))]) (G6 rfl rfl rfl) ⟨_,rfl,by rw[j];exact tabR vH (tab_k2 rfl)⟩
theorem VC(s:Str)(c:List (List (List Bool)))(D:Int->Lng)(p:TabsIn s c D)(Z:Set4)(j l:Int)(kids:List Int):FnOk Tryz.prog 103 [aG ⟨3,Z,j,l,kids⟩,yS c,F3 s] (fun rs=>∃T,rs=[cB T]/\Tab s T (gZ s ⟨3,Z,j,l,kids⟩ D)):=by
 obtain⟨n,i⟩:∃n,n=s.length+1:=⟨_,rfl⟩
 have v:=p.len;refine FnOk.intro Tryz.func103 F2 A0 A0 A0 A0 (zz 21 ?_);refine eK (rS s B3) A0 A0 A0 A0 ?_;rintro _ _ ⟨rfl,rfl⟩;refine⟨(rT _ _ _ rfl),?_⟩;refine zz 2 ?_;rw[<-i,B67];refine zc 12 (fun a=>?_) fun a=>?_
 ·exact absurd (A1 a) vH
 refine zc 5 (fun a=>?_) fun a=>?_
 ·exact absurd (A1 a) vH
 refine zc 5 (fun a=>?_) fun a=>?_;rotate_left
 ·exact absurd rfl (A3 a)
 have b:s.length<n:=by omega
 have d:=wG (g:=jT n) b;have h:(jT n s.length).set s.length true=jH n (vE s.length) s.length:=wH (f:=fun _=>none) rfl (by unfold vE;rw[A6 rfl]);skip;refine zz 4 ?_;refine B0 (fK A0 A0 A0 B3 B3) A0 (B0 (vO A0 A0 (by rw[B45];exact row_get b)) A0 ?_);refine zz 2 ?_;refine B0 (E4 A0 d A0 B3 MR) A0 (V1 (G5 TySz.out A0 d MR A0 A0) (zz 1 ?_));rw[B45];refine t8 [(7,.s (.one (.mut 702)))] (j8 n (jH n (vE s.length))) (B20 ⟨Y7 rfl,trivial⟩ (by rw[h];exact KW b (fun q r=>wI (f:=fun _=>none) (by unfold vE;rw[A7 r])))) ?_;refine C1 (rU (fun _ _=>rfl)) (C1 (Sees.freezeG (k:=702) A0 A0) (zz 6 ?_));exact B2 (rs:=[cB (qZ n (vE s.length))]) (G6 rfl rfl rfl) ⟨_,rfl,by rw[i];exact tabR vH (tab_k3 rfl)⟩
theorem VD(s:Str)(d:List (List (List Bool)))(D:Int->Lng)(E:TabsIn s d D)(Z:Set4)(x y:Int)(kids:List Int):FnOk Tryz.prog 103 [aG ⟨1,Z,x,y,kids⟩,yS d,F3 s] (fun rs=>∃T,rs=[cB T]/\Tab s T (gZ s ⟨1,Z,x,y,kids⟩ D)):=by
 obtain⟨n,C⟩:∃n,n=s.length+1:=⟨_,rfl⟩
 have I:=E.len;refine FnOk.intro Tryz.func103 F2 A0 A0 A0 A0 (zz 21 ?_);refine eK (rS s B3) A0 A0 A0 A0 ?_;rintro _ _ ⟨rfl,rfl⟩;refine⟨(rT _ _ _ rfl),?_⟩;refine zz 2 ?_;rw[<-C,B67];refine zc 12 (fun c=>?_) fun c=>?_;rotate_left
 ·exact absurd rfl (A3 c)
 refine zz 5 ?_;refine C2 (X:=Nat) (fun i=>([(2,Q6 s),(3,.s (.one (.eref Unit 8 (fun _ j=>(cellsOf N7 ⟨1,Z,x,y,kids⟩ 0 8).getD j (.v undef)) () 0))),(7,.s (.one (.mut 702))),(8,B7 i)],j8 n (jH n (wX s Z i)))) (fun i=>i<=s.length) (fun i=>s.length-i) 0 (Nat.zero_le _) ?_ ?_
 ·exact B20 lf (fun _ _ h=>h)
 intro i F;dsimp only at F ⊢;refine zc 8 (fun c=>?_) fun c=>?_
 ·have B:i<s.length:=by have z:=A1 c;(try dsimp only at z);omega
  have b:i<n:=by omega
  have l:=wG (g:=jH n (wX s Z i)) b;have p:=YQ n (wX s Z i) i;have G:s[((i:Nat):Int).toNat]?=some (s.getD i 0):=by rw[B45,B46,B44 B];rfl
  have w:(jH n (wX s Z i) i).set (i+1) (decide (t7 Z (s.getD i 0).toNat=1))=jH n (wX s Z (i+1)) i:=wH (by unfold wX;rw[A7 (Nat.lt_irrefl i)]) (by unfold wX;rw[A6 (Nat.lt_succ_self i)]);refine zz 6 ?_;refine D1 (fK A0 A0 A0 B3 B3) A0 A0 (D1 (vO A0 A0 (by rw[B45];exact row_get b)) A0 A0 ?_);refine zz 6 ?_;refine D1 (G9 A0 A0 B3 G) A0 A0 (D1 (K4 (A00 Z (s.getD i 0)) A0 A0) A0 A0 (D1 (E4 A0 l A0 B3 (by (rw[p];omega))) A0 A0 ?_));refine FY (G5 TySz.out A0 l (by (rw[p];omega)) A0 A0) A0 ?_;refine zz 1 ?_;rw[show ((i:Int)+1).toNat=i+1 by omega];refine t8 [(2,Q6 s),(3,.s (.one (.eref Unit 8 (fun _ j=>(cellsOf N7 ⟨1,Z,x,y,kids⟩ 0 8).getD j (.v undef)) () 0))),(7,.s (.one (.mut 702))),(8,B7 i)] (j8 n (jH n (wX s Z (i+1)))) (B20 lf (by rw[w];exact KW b (fun q H=>wI (by unfold wX;by_cases h:q<i<;>simp[h]<;>omega)))) ?_;skip;refine zz 5 ?_;exact⟨i+1,by omega,by omega,B20 lf (fun _ _ h=>h)⟩
 have A:i=s.length:=by have z:=A3 c;(try dsimp only at z);omega
 rw[A];refine t8 [(7,.s (.one (.mut 702)))] (j8 n (jH n (wX s Z s.length))) (B20 ⟨Y7 rfl,trivial⟩ (fun _ _ h=>h)) (C1 (rU (fun _ _=>rfl)) (C1 (Sees.freezeG (k:=702) A0 A0) (zz 7 ?_)));exact B2 (rs:=[cB (qZ n (wX s Z s.length))]) (G6 rfl rfl rfl) ⟨_,rfl,by rw[C];exact tabR vH (tab_k1 (n:=⟨1,Z,x,y,kids⟩) rfl)⟩
theorem A08(s:Str)(a:List (List (List Bool)))(D:Int->Lng)(d:TabsIn s a D)(i:AL.Node)(j:m7 i (a.length:Int)=true)(hkl:i.Kids.length<=1000000):FnOk Tryz.prog 103 [aG i,yS a,F3 s] (fun rs=>∃T,rs=[cB T]/\Tab s T (gZ s i D)):=by
 have g:=j5 j;have k:=aH j;have b:=dU j;obtain⟨K,Z,e,f,kids⟩:=i;dsimp only at g k b hkl;rcases (show K=0\/K=1\/K=2\/K=3\/K=4\/K=5\/K=6 by omega) with h | h | h | h | h | h | h<;>subst h
 ·exact UX s a D d Z e f kids
 ·exact VD s a D d Z e f kids
 ·exact VB s a D d Z e f kids
 ·exact VC s a D d Z e f kids
 ·exact UY s a D d Z e f kids g hkl
 ·exact UZ s a D d Z e f kids g hkl
 ·obtain⟨l,m,n,o⟩:=b rfl
  match kids,l with
  | [c],_=>exact VA s a D d Z e f c (g c (List.mem_cons_self ..)).1 (g c (List.mem_cons_self ..)).2 ⟨m,n⟩ o
theorem A82{L:List AL.Node}{s:Str}(a:DV L){k:Int}(c:0<=k/\k<L.length){T:List (List Bool)}(h:Tab s T (gZ s (L.getD k.toNat J6) (Den L s))):Tab s T (Den L s k):=by
 unfold gZ at h;by_cases b:(L.getD k.toNat J6).Kind=6
 ·rw[A6 b]at h;exact tab_rep a c b h
 ·rw[A7 b]at h;exact B09 a c h
theorem A09(L:List AL.Node)(s:Str)(M:s.length<=899000)(l:DV L)(h:1<=L.length)(P:L.length<=4000)(J:∀n∈L,n.Kids.length<=4000):FnOk Tryz.prog 60 [N9 L,F3 s] (fun rs=>∃T,rs=[cB T]/\Tab s T (Den L s ((L.length:Int)-1))):=by
 refine FnOk.intro Tryz.func60 F2 A0 A0 A0 A0 (zz 6 ?_);refine C4 (O9 5 _ pS A0) A0 (zz 7 ?_);refine C2 (X:=Nat×List (List (List Bool))) (fun x=>([(0,B8 AL.Node 8 N7 L),(1,Q6 s),(5,.s (.one (.buf 5 (List (List Bool)) 1 pS x.2))),(6,B7 x.1)],[(5,.spare x.2.length 1 106)])) (fun x=>x.1<=L.length/\x.2.length=x.1/\∀c:Int,0<=c->c<(x.2.length:Int)->∃T,x.2[c.toNat]?=some T/\Tab s T (Den L s c)) (fun x=>L.length-x.1) (0,[]) ⟨Nat.zero_le _,rfl,fun c v h=>by simp at h;omega⟩ (Sees.of lf lo) ?_;rintro⟨k,d⟩ ⟨C,i,g⟩;dsimp only at C i g ⊢;refine zc 8 (fun D=>?_) fun D=>?_
 ·have q:k<L.length:=by have h:=A1 D;(try dsimp only at h);omega
  obtain⟨n,F⟩:∃n,n=L.getD k J6:=⟨_,rfl⟩
  have m:L[k]?=some n:=by rw[F,B46,B44 q];rfl
  have O:L[((k:Nat):Int).toNat]?=some n:=by rw[B45];exact m
  have E:=l k n m;rw[<-i]at E;have G:TabsIn s d (Den L s):=⟨M,g,fun c v h=>zQ l L.length c B3 ⟨v,by omega⟩⟩
  have K:=J n (B52 m);refine zz 7 ?_;refine B0 (A9 A0 (.pure _ _ _ _) A0 B3 O) A0 (zz 3 ?_);refine bN (A08 s d (Den L s) G n E B3) A0 A0 A0 ?_;rintro _ ⟨T,rfl,w⟩;refine B0 (C0 (c:=pS) (ys:=[T]) (C3 A0 A0 A0 A0 E6) A0 A0 A0) A0 (zz 3 ?_);refine zz 5 ?_;refine⟨(k+1,d++[T]),⟨q,by rw[B48,i];rfl,?_⟩,by dsimp only;omega,(Sees.of lf lo)⟩;intro c v h;dsimp only at h ⊢;rw[B48,List.length_singleton]at h;by_cases I:c<(d.length:Int)
  ·obtain⟨U,H,z⟩:=g c v I;exact⟨U,by rw[B61 B3];exact H,z⟩
  ·have A:c=(k:Int):=by omega
   refine⟨T,by rw[show c.toNat=d.length by omega];simp,?_⟩;rw[A];refine A82 l ⟨by omega,by omega⟩ ?_;rw[B45,<-F];exact w
 have B:k=L.length:=by have h:=A3 D;(try dsimp only at h);omega
 obtain⟨T,w,y⟩:=g ((L.length:Int)-1) B3 B3;have j:d[((d.length:Int)-1).toNat]?=some T:=by rw[i,B];exact w
 refine zz 7 ?_;refine B0 (A9 A0 (.buf _ _ _ _ _) A0 B3 j) A0 (zz 4 ?_);exact B2 (rs:=[cB T]) (G6 rfl rfl rfl) ⟨_,rfl,y⟩
def HitN(L:List AL.Node)(s:Str):Prop:=∃i j,i<=s.length/\j<=s.length/\Den L s ((L.length:Int)-1) i j
theorem QD(L:List AL.Node)(s:Str)(W:s.length<=899000)(q:DV L)(d:1<=L.length)(S:L.length<=4000)(Q:∀n∈L,n.Kids.length<=4000):FnOk Tryz.prog 33 [N9 L,F3 s] (fun rs=>∃b,rs=[E1 b]/\(b=true↔HitN L s)):=by
 have D:Fwd s (Den L s ((L.length:Int)-1)):=zQ q L.length _ B3 B3;obtain⟨R,H⟩:∃R,R=Den L s ((L.length:Int)-1):=⟨_,rfl⟩
 have E:=A09 L s W q d S Q;unfold HitN;rw[<-H]at D E ⊢;refine FnOk.intro Tryz.func33 F2 A0 A0 A0 A0 (zz 8 ?_);refine bN (E) A0 A0 A0 ?_;rintro _ ⟨T,rfl,w⟩;refine zz 2 ?_;have I:=w.len;refine zz 6 ?_;refine C2 (X:=Nat) (fun i=>([(5,B8 (List Bool) 1 M1 T),(6,B7 i)],[])) (fun i=>i<=s.length+1/\∀a b,a<i->a<=b->b<=s.length->¬R a b) (fun i=>s.length+1-i) 0 ⟨Nat.zero_le _,fun a b h=>by omega⟩ (Sees.of lf lo) ?_;rintro i ⟨G,m⟩;dsimp only at G m ⊢;refine zc 8 (fun c=>?_) fun c=>?_
 ·have U:i<s.length+1:=by have d:=A1 c;(try dsimp only at d);omega
  obtain⟨row,v,V,k⟩:=w.cell (i:=i) B3;have C:T[((i:Nat):Int).toNat]?=some row:=by rw[B45];exact v
  refine zz 9 ?_;refine C2 (X:=Nat) (fun j=>([(5,B8 (List Bool) 1 M1 T),(6,B7 i),(7,B7 j)],[])) (fun j=>i<=j/\j<=s.length+1/\∀b,i<=b->b<j->¬R i b) (fun j=>s.length+1-j) i ⟨Nat.le_refl _,G,fun b d Y=>by omega⟩ (Sees.of lf lo) ?_;rintro j ⟨A,M,l⟩;dsimp only at A M l ⊢;refine zc 8 (fun c=>?_) fun c=>?_
  ·have P:j<s.length+1:=by have d:=A1 c;(try dsimp only at d);omega
   have B:row[((j:Nat):Int).toNat]?=some (m8 T i j):=by rw[B45];exact k j B3
   have F:=w.is i j B3 B3;refine zz 7 ?_;refine B0 (A9 A0 (.pure _ _ _ _) A0 B3 C) A0 (zz 2 ?_);refine B0 (A9 A0 (.pure _ _ _ _) A0 B3 B) A0 ?_;refine zc 2 (fun c=>?_) fun c=>?_
   ·refine zz 5 ?_;exact B2 (rs:=[E1 true]) (G6 rfl rfl rfl) ⟨true,rfl,fun _=>⟨i,j,by omega,by omega,F.1 c⟩,fun _=>rfl⟩
   refine zz 6 ?_;refine⟨j+1,⟨by omega,by omega,fun b y J=>?_⟩,by omega,(Sees.of lf lo)⟩;by_cases z:b=j
   ·rw[z];exact fun g=>by rw[F.2 g]at c;cases c
   ·exact l b y B3
  have O:j=s.length+1:=by have d:=A3 c;(try dsimp only at d);omega
  refine zz 6 ?_;refine⟨i+1,⟨by omega,fun a b ha f hb=>?_⟩,by omega,(Sees.of lf lo)⟩;by_cases x:a=i
  ·rw[x];exact l b B3 B3
  ·exact m a b B3 f hb
 have K:i=s.length+1:=by have d:=A3 c;(try dsimp only at d);omega
 refine zz 6 ?_;exact B2 (rs:=[E1 false]) (G6 rfl rfl rfl) ⟨false,rfl,⟨(fun h=>by cases h),(fun h=>by obtain⟨a,b,ha,hb,f⟩:=h;exact absurd f (m a b B3 (D a b ha f).1 hb))⟩⟩
noncomputable def hitB(p s:Str):Bool:=@decide (Hit p s) (Classical.propDecidable _)
theorem hit_any{p:Str}{A:AL.Auto}(h:∀s,(gF A s 0).2=true↔Hit p s):eW A=hitB p:=by
 funext s;have a:=h s;unfold hitB;rw[Bool.eq_iff_iff,@decide_eq_true_eq _ (Classical.propDecidable _)];exact a
noncomputable def j3(a b p:Str):List Str×Int:=if rR p≠0 then ([],rR p) else (cO (hitB p) a b,0)
theorem VE(a b p:Str)(e:Int)(f:e≠0)(d:FnOk Tryz.prog 21 [F3 p] (fun rs=>rs=[lF,D3 e])) :
  FnOk Tryz.prog 14 [F3 a,F3 b,F3 p] (fun rs=>rs=[n7 [],D3 e]):=by
 refine FnOk.intro Tryz.func14 F2 A0 A0 A0 A0 (zz 2 ?_);refine B0 (E8 _ 1 K7) A0 (zz 5 ?_);refine E3 (d) (zz 3 ?_);refine C4 (H9 8 A0) A0 ?_;refine zc 9 (fun c=>?_) fun c=>?_;rotate_left
 ·exact absurd f (A3 c)
 refine zz 3 ?_;refine B0 (E8 _ 1 K7) A0 (zz 3 ?_);exact B2 (rs:=[n7 [],D3 e]) (S6 rfl rfl rfl rfl rfl) rfl
theorem HQ(a b p:Str)(ha:I0 a=0)(hb:I0 b=0)(c:p.length<=1099511627776):FnOk Tryz.prog 14 [F3 a,F3 b,F3 p] (fun rs=>rs=[n7 (j3 a b p).1,D3 (j3 a b p).2]):=by
 unfold j3;by_cases h:rR p=0
 ·obtain⟨A,d,g,f⟩:=KV p c h;have:=US a b p A d ha hb f;rw[hit_any g]at this;rw[A7 (fun e=>e h)];exact this
 ·rw[A6 h];exact VE a b p _ h (PY p c h)
theorem HR(s:Str)(f:s.length<=1099511627776):FnOk Tryz.prog 34 [F3 s] (fun rs=>rs=[F3 (V4 s)]):=by
 refine FnOk.intro Tryz.func34 F2 A0 A0 A0 A0 (zz 8 ?_);refine E3 (A54 s f) ?_;refine zc 1 (fun b=>?_) fun b=>?_
 ·have c:s≠[]:=fun e=>by rw[e]at b;cases b
  have d:0<s.length:=List.length_pos_iff.2 c;refine zz 10 ?_;refine B2 (G6 A0 A0 A0) ?_;rw[show V4 s=s.dropLast by unfold V4;rw[A6 b],List.dropLast_eq_take,show ((s.length:Int)-1).toNat=s.length-1 by omega]
 ·refine zz 7 ?_;exact B2 (rs:=[F3 s]) (G6 rfl rfl rfl) (by unfold V4;rw[b];rfl)
theorem lH{s:Str}(h:I0 s=0):s.length<=1048576/\(E2 s).length<=4096:=by
 unfold I0 at h;split at h
 ·cases h
 ·omega
theorem QE(a b:Str)(ha:I0 a=0)(hb:I0 b=0):FnOk Tryz.prog 32 [F3 a,F3 b] (fun rs=>rs=[pChanges (mJ (E2 a) (E2 b)),D3 0]):=by
 obtain⟨h,f⟩:=lH ha;obtain⟨i,g⟩:=lH hb;have c:=GR a B3;have d:=GR b B3;rw[show R1 a=(E2 a,0) by unfold R1;rw[A7 B3]]at c;rw[show R1 b=(E2 b,0) by unfold R1;rw[A7 B3]]at d;refine FnOk.intro Tryz.func32 F2 A0 A0 A0 A0 (zz 8 ?_);refine E3 (c) ?_;refine zc 12 (fun e=>?_) fun e=>?_
 ·cases e
 refine zz 4 ?_;refine E3 (d) ?_;refine zc 12 (fun e=>?_) fun e=>?_
 ·cases e
 refine zz 5 ?_;refine E3 (TU (E2 a) (E2 b) f g) (zz 4 ?_);exact B2 (S6 rfl rfl rfl rfl rfl) rfl
theorem A10(h:Str->Bool){l:List Str}{j:Nat}{s:Str}(a:l[j]?=some s):l6 h (l.take (j+1))=l6 h (l.take j)++(if h (V4 s)=true then [V4 s] else []):=by
 rw[kJ a];unfold l6;rw[B77,B99]
 congr 1
 show ([V4 s]).filter h=_;split<;>rename_i hb<;>simp[hb]
theorem xW(a b p:Str)(ha:I0 a=0)(hb:I0 b=0)(aw:a.length<=890000)(ay:b.length<=890000):FnOk Tryz.prog 15 [F3 a,F3 b,F3 p] (fun rs=>rs=[n7 (j3 a b p).1,D3 (j3 a b p).2]):=by
 have R:=A05 p;unfold j3;by_cases v:rR p≠0
 ·simp only[A6 v]at R ⊢;refine FnOk.intro Tryz.func15 F2 A0 A0 A0 A0 (zz 2 ?_);refine B0 (E8 _ 1 K7) A0 (zz 5 ?_);refine E3 (R) ?_;refine zc 12 (fun q=>?_) fun q=>?_;rotate_left
  ·exact absurd v (A3 q)
  refine zz 3 ?_;refine B0 (E8 _ 1 K7) A0 (zz 3 ?_);exact B2 (rs:=[n7 [],D3 (rR p)]) (S6 rfl rfl rfl rfl rfl) rfl
 simp only[A7 v]at R ⊢;have v:rR p=0:=Decidable.not_not.1 v;obtain⟨L,hL⟩:∃L,L=(parsed p).1:=⟨_,rfl⟩
 have E:1<=L.length/\L.length<=4000/\DV L/\∀n∈L,n.Kids.length<=4000:=by
  unfold rR at v;have Z:(parsed p).2=0:=by
   by_cases h2:(parsed p).2≠0
   ·rw[A6 h2]at v;exact v
   ·exact Decidable.not_not.1 h2
  have hn:p.length<=256:=by
   refine Nat.le_of_not_lt fun hl=>?_;unfold parsed p8 at Z;rw[A6 hl]at Z;cases Z
  obtain⟨hc,hk⟩:=mC (s:=p) (f:=1100) F2 (L:=(parsed p).1) (Prod.ext rfl Z) ((sM 1100).pat _ (Nat.zero_le _) b5x);rw[<-hL]at hc hk;obtain⟨F,G,I⟩:=d6 hc;exact⟨F,G,I,hk⟩
 rw[<-hL]at R;obtain⟨F,G,I,ak⟩:=E;obtain⟨H,hH⟩:∃H,H=hitB p:=⟨_,rfl⟩
 have hM:∀s:Str,s.length<=899000->FnOk Tryz.prog 33 [N9 L,F3 s] (fun rs=>rs=[E1 (H s)]):=fun s w=>by
  refine (QD L s w I F G ak).mono ?_;rintro rs ⟨bb,rfl,af⟩;have e:bb=H s:=by
   rw[hH];unfold hitB;rw[Bool.eq_iff_iff,@decide_eq_true_eq _ (Classical.propDecidable _),af,hL];exact Iff.rfl
  rw[e]
 rw[<-hH];obtain⟨x,hx⟩:∃x,x=E2 a:=⟨_,rfl⟩
 obtain⟨y,hy⟩:∃y,y=E2 b:=⟨_,rfl⟩
 have an:∀s∈x,s.length<=890000:=fun s w=>by rw[hx]at w;have:=uJ _ _ w;omega
 have ao:∀s∈y,s.length<=890000:=fun s w=>by rw[hy]at w;have:=uJ _ _ w;omega
 have am:cO H a b=R6 H x y (mJ x y):=by unfold cO;rw[hx,hy]
 rw[am];obtain⟨av,ad⟩:=lH ha;obtain⟨ax,ae⟩:=lH hb;have A:=QE a b ha hb;have V:=nG a B3;have Y:=nG b B3;rw[<-hx]at ad A V;rw[<-hy]at ae A Y;obtain⟨ab,Q⟩:=wW x y;obtain⟨C,hC⟩:∃C,C=mJ x y:=⟨_,rfl⟩
 rw[<-hC]at A ab Q ⊢;refine FnOk.intro Tryz.func15 F2 A0 A0 A0 A0 (zz 2 ?_);refine B0 (E8 _ 1 K7) A0 (zz 5 ?_);refine E3 (R) ?_;refine zc 12 (fun q=>?_) fun q=>?_
 ·exact absurd rfl (A1 q)
 refine zz 5 ?_;refine E3 (A) ?_;refine zc 12 (fun q=>?_) fun q=>?_
 ·exact absurd rfl (A1 q)
 refine zz 4 ?_;refine E3 (V) (zz 1 ?_);refine E3 (Y) (zz 5 ?_);refine C4 (O9 13 _ K7 A0) A0 (zz 7 ?_);refine C2 (X:=Nat) (fun i=>([(8,B8 AL.Node 8 N7 L),(10,.s (pChanges C).s1),(11,B8 Str 1 K7 x),(12,B8 Str 1 K7 y),(13,.s (.one (.buf 13 Str 1 K7 (R6 H x y (C.take i))))),(14,B7 i)],[(13,.spare (R6 H x y (C.take i)).length 1 9)])) (fun i=>i<=C.length) (fun i=>C.length-i) 0 (Nat.zero_le _) (Sees.of lf lo) ?_;intro i hi;have S:=iL H x y (C.take i);rw[B54]at S;have T:(R6 H x y (C.take i)).length<=4097*8192:=Nat.le_trans S (Nat.mul_le_mul B3 B3);dsimp only at hi ⊢;refine zc 8 (fun q=>?_) fun q=>?_;rotate_left
 ·have ah:i=C.length:=by have:=A3 q;omega
  rw[ah,B51];refine zz 8 ?_;exact B2 (rs:=[n7 (R6 H x y C),D3 0]) (S6 rfl rfl rfl rfl rfl) rfl
 have al:i<C.length:=by have:=A1 q;omega
 obtain⟨c,hc⟩:∃c,c=C[i]:=⟨_,rfl⟩
 have J:C[i]?=some c:=by rw[hc];simp[al]
 obtain⟨q1,q2,q3,q4,q5,q6⟩:=Q c (B52 J);obtain⟨W,hW⟩:∃W,W=R6 H x y (C.take i):=⟨_,rfl⟩
 have hnx:R6 H x y (C.take (i+1))=W++l6 H (Z9 x y c):=by
  rw[KR J,hW];unfold R6;rw[List.flatMap_append,List.flatMap_singleton]
 rw[<-hW]at T ⊢;have aq:=oL x y c;have ag:[]++(x.drop c.Old.toNat).take ((c.Old+c.OldLen).toNat-c.Old.toNat)++(y.drop c.New.toNat).take ((c.New+c.NewLen).toNat-c.New.toNat)=Z9 x y c:=by
  rw[B83];rfl
 have d:C[((i:Nat):Int).toNat]?=some c:=by rw[B45];exact J
 refine zz 4 ?_;refine M6 [38,19,0] [[],[0],[19,0],[38,19,0]] [(0,([744],[])),(19,([744],[44])),(38,([744],[44,63]))] [(0,[]),(1,[]),(2,[]),(3,[]),(4,[]),(5,[]),(6,[]),(7,[]),(8,[]),(9,[]),(10,[]),(11,[]),(12,[]),(13,[]),(14,[]),(15,[]),(16,[]),(17,[]),(18,[]),(19,[0]),(20,[]),(21,[]),(22,[]),(23,[]),(24,[]),(25,[]),(26,[]),(27,[]),(28,[]),(29,[]),(30,[]),(31,[]),(32,[]),(33,[]),(34,[]),(35,[]),(36,[]),(37,[]),(38,[19,0]),(39,[38,19,0])] [(1,[0]),(2,[0]),(3,[0]),(4,[0]),(5,[0]),(6,[0]),(7,[0]),(8,[0]),(9,[0]),(10,[0]),(11,[0]),(12,[0]),(13,[0]),(14,[0]),(15,[0]),(16,[0]),(17,[0]),(18,[0]),(20,[0]),(20,[19,0]),(21,[0]),(21,[19,0]),(22,[0]),(22,[19,0]),(23,[0]),(23,[19,0]),(24,[0]),(24,[19,0]),(25,[0]),(25,[19,0]),(26,[0]),(26,[19,0]),(27,[0]),(27,[19,0]),(28,[0]),(28,[19,0]),(29,[0]),(29,[19,0]),(30,[0]),(30,[19,0]),(31,[0]),(31,[19,0]),(32,[0]),(32,[19,0]),(33,[0]),(33,[19,0]),(34,[0]),(34,[19,0]),(35,[0]),(35,[19,0]),(36,[0]),(36,[19,0]),(37,[0]),(37,[19,0])] D6 D6 (W5 A0 A0 D6 A0 A0 (tD (fun P O hk=>A49 744 _ K7 A0 (by rw[hk];exact rfl))) A0 ?_);refine C5 A0 A0 D6 A0 A0 (C6 A0 A0) (C5 A0 A0 D6 A0 A0 (C6 A0 A0) (C5 A0 A0 D6 A0 A0 (C6 A0 A0) (C5 A0 A0 D6 A0 A0 (A9 A0 (.pure _ _ _ _) A0 B3 d) (C5 A0 A0 D6 A0 A0 (G7 A0) (C5 A0 A0 D6 A0 A0 (H7 A0 A0) (C5 A0 A0 D6 A0 A0 (C6 A0 A0) (C5 A0 A0 D6 A0 A0 (C6 A0 A0) (C5 A0 A0 D6 A0 A0 (A9 A0 (.pure _ _ _ _) A0 B3 d) (C5 A0 A0 D6 A0 A0 (G7 A0) (C5 A0 A0 D6 A0 A0 (H7 A0 A0) (C5 A0 A0 D6 A0 A0 (C6 A0 A0) (C5 A0 A0 D6 A0 A0 (C6 A0 A0) (C5 A0 A0 D6 A0 A0 (A9 A0 (.pure _ _ _ _) A0 B3 d) (C5 A0 A0 D6 A0 A0 (G7 A0) (C5 A0 A0 D6 A0 A0 (H7 A0 A0) (C5 A0 A0 D6 A0 A0 (Y6 A0 A0 oY) (C5 A0 A0 D6 A0 A0 (x6 A0 (.pure _ _ _ _) A0 A0 oY oY oY) (W5 A0 A0 D6 A0 A0 (kT (fun P O=>P0 (Q1 O A0) A0 (Q1 O A0) (.pure _ _ _ _) MR A0)) A0 (C5 A0 A0 D6 A0 A0 (C6 A0 A0) (C5 A0 A0 D6 A0 A0 (C6 A0 A0) (C5 A0 A0 D6 A0 A0 (C6 A0 A0) (C5 A0 A0 D6 A0 A0 (A9 A0 (.pure _ _ _ _) A0 B3 d) (C5 A0 A0 D6 A0 A0 (G7 A0) ?_)))))))))))))))))))))));refine C5 A0 A0 D6 A0 A0 (H7 A0 A0) (C5 A0 A0 D6 A0 A0 (C6 A0 A0) (C5 A0 A0 D6 A0 A0 (C6 A0 A0) (C5 A0 A0 D6 A0 A0 (A9 A0 (.pure _ _ _ _) A0 B3 d) (C5 A0 A0 D6 A0 A0 (G7 A0) (C5 A0 A0 D6 A0 A0 (H7 A0 A0) (C5 A0 A0 D6 A0 A0 (C6 A0 A0) (C5 A0 A0 D6 A0 A0 (C6 A0 A0) (C5 A0 A0 D6 A0 A0 (A9 A0 (.pure _ _ _ _) A0 B3 d) (C5 A0 A0 D6 A0 A0 (G7 A0) (C5 A0 A0 D6 A0 A0 (H7 A0 A0) (C5 A0 A0 D6 A0 A0 (Y6 A0 A0 oY) (C5 A0 A0 D6 A0 A0 (x6 A0 (.pure _ _ _ _) A0 A0 oY oY oY) (W5 A0 A0 D6 A0 A0 (kT (fun P O=>P0 (Q1 O A0) A0 (Q1 O A0) (.pure _ _ _ _) MR A0)) A0 (C5 A0 A0 D6 A0 A0 (sR A0 A0) ?_))))))))))))));refine AT D6 rfl ?_ ?_
 ·refine F5 A0 A0 D6 A0 A0 (C6 A0 A0) (F5 A0 A0 D6 A0 A0 (C6 A0 A0) (F5 A0 A0 D6 A0 A0 (C6 A0 A0) (F5 A0 A0 D6 A0 A0 (A9 A0 (.pure _ _ _ _) A0 B3 d) (F5 A0 A0 D6 A0 A0 (G7 A0) (F5 A0 A0 D6 A0 A0 (H7 A0 A0) (F5 A0 A0 D6 A0 A0 (C6 A0 A0) (F5 A0 A0 D6 A0 A0 (C6 A0 A0) (F5 A0 A0 D6 A0 A0 (A9 A0 (.pure _ _ _ _) A0 B3 d) (F5 A0 A0 D6 A0 A0 (G7 A0) (F5 A0 A0 D6 A0 A0 (H7 A0 A0) (F5 A0 A0 D6 A0 A0 (C6 A0 A0) (F5 A0 A0 D6 A0 A0 (C6 A0 A0) (F5 A0 A0 D6 A0 A0 (A9 A0 (.pure _ _ _ _) A0 B3 d) (F5 A0 A0 D6 A0 A0 (G7 A0) (F5 A0 A0 D6 A0 A0 (H7 A0 A0) (F5 A0 A0 D6 A0 A0 (Y6 A0 A0 oY) (F5 A0 A0 D6 A0 A0 (x6 A0 (.pure _ _ _ _) A0 A0 oY oY oY) (F5 A0 A0 D6 A0 A0 (C6 A0 A0) (F5 A0 A0 D6 A0 A0 (C6 A0 A0) (F5 A0 A0 D6 A0 A0 (C6 A0 A0) (F5 A0 A0 D6 A0 A0 (C6 A0 A0) (F5 A0 A0 D6 A0 A0 (C6 A0 A0) (F5 A0 A0 D6 A0 A0 (C6 A0 A0) ?_)))))))))))))))))))))));refine F5 A0 A0 D6 A0 A0 (A9 A0 (.pure _ _ _ _) A0 B3 d) (F5 A0 A0 D6 A0 A0 (A9 A0 (.pure _ _ _ _) A0 B3 d) (F5 A0 A0 D6 A0 A0 (G7 A0) (F5 A0 A0 D6 A0 A0 (G7 A0) (F5 A0 A0 D6 A0 A0 (H7 A0 A0) (F5 A0 A0 D6 A0 A0 (H7 A0 A0) (F5 A0 A0 D6 A0 A0 (C6 A0 A0) (F5 A0 A0 D6 A0 A0 (C6 A0 A0) (F5 A0 A0 D6 A0 A0 (C6 A0 A0) (F5 A0 A0 D6 A0 A0 (C6 A0 A0) (F5 A0 A0 D6 A0 A0 (A9 A0 (.pure _ _ _ _) A0 B3 d) (F5 A0 A0 D6 A0 A0 (A9 A0 (.pure _ _ _ _) A0 B3 d) (F5 A0 A0 D6 A0 A0 (G7 A0) (F5 A0 A0 D6 A0 A0 (G7 A0) (F5 A0 A0 D6 A0 A0 (H7 A0 A0) (F5 A0 A0 D6 A0 A0 (H7 A0 A0) (F5 A0 A0 D6 A0 A0 (C6 A0 A0) (F5 A0 A0 D6 A0 A0 (C6 A0 A0) (F5 A0 A0 D6 A0 A0 (C6 A0 A0) (F5 A0 A0 D6 A0 A0 (C6 A0 A0) (F5 A0 A0 D6 A0 A0 (A9 A0 (.pure _ _ _ _) A0 B3 d) (F5 A0 A0 D6 A0 A0 (A9 A0 (.pure _ _ _ _) A0 B3 d) (F5 A0 A0 D6 A0 A0 (G7 A0) (F5 A0 A0 D6 A0 A0 (G7 A0) ?_)))))))))))))))))))))));refine F5 A0 A0 D6 A0 A0 (H7 A0 A0) (F5 A0 A0 D6 A0 A0 (H7 A0 A0) (F5 A0 A0 D6 A0 A0 (Y6 A0 A0 oY) (F5 A0 A0 D6 A0 A0 (Y6 A0 A0 oY) (F5 A0 A0 D6 A0 A0 (x6 A0 (.pure _ _ _ _) A0 A0 oY oY oY) (F5 A0 A0 D6 A0 A0 (x6 A0 (.pure _ _ _ _) A0 A0 oY oY oY) ?_)))));exact jQ
 rw[ag];obtain⟨M,D⟩:∃M,M=Z9 x y c:=⟨_,rfl⟩
 have ac:∀s∈M,s.length<=890000:=fun s w=>by
  rw[D]at w;exact (yR w).elim (an s) (ao s)
 have au:M.length<=8192:=by rw[D];omega
 rw[<-D]at hnx ⊢;refine zz 0 ?_;refine C1 (Sees.freezeG (k:=744) A0 A0) (zz 5 ?_);refine C2 (X:=Nat) (fun j=>([(8,B8 AL.Node 8 N7 L),(10,.s (pChanges C).s1),(11,B8 Str 1 K7 x),(12,B8 Str 1 K7 y),(13,.s (.one (.buf 13 Str 1 K7 (W++l6 H (M.take j))))),(14,B7 i),(15,B8 Str 1 K7 M),(16,B7 j)],[(13,.spare (W++l6 H (M.take j)).length 1 9)])) (fun j=>j<=M.length) (fun j=>M.length-j) 0 (Nat.zero_le _) (by show Sees _ _ _ _ [(8,_),(10,_),(11,_),(12,_),(13,.s (.one (.buf 13 Str 1 K7 (W++[])))),(14,_),(15,_),(16,_)] [(13,.spare (W++[]).length 1 9)];rw[B67];exact (Sees.of lf lo)) ?_;intro j hj;have az:(l6 H (M.take j)).length<=8192:=by
  unfold l6;have h1:=List.length_filter_le H ((M.take j).map V4);rw[B68,B54]at h1;omega
 dsimp only at hj ⊢;refine zc 8 (fun q=>?_) fun q=>?_
 ·have aj:j<M.length:=by have:=A1 q;omega
  obtain⟨z,ap⟩:∃z,z=M[j]:=⟨_,rfl⟩
  have K:M[j]?=some z:=by rw[ap];simp[aj]
  have U:M[((j:Nat):Int).toNat]?=some z:=by rw[B45];exact K
  have ba:=ac z (B52 K);have ar:(V4 z).length<=z.length:=by unfold V4;split<;>simp
  have B:=A10 H K;refine zz 8 ?_;refine B0 (A9 A0 (.pure _ _ _ _) A0 B3 U) A0 (zz 1 ?_);refine E3 (HR z B3) (E3 (hM (V4 z) B3) ?_);refine zc 1 (fun q=>?_) fun q=>?_
  ·rw[A6 q]at B;skip;refine zz 4 ?_;refine B0 (A9 A0 (.pure _ _ _ _) A0 B3 U) A0 (zz 1 ?_);refine E3 (HR z B3) (B0 (C0 (c:=K7) (ys:=[V4 z]) (C3 A0 A0 A0 A0 E6) A0 A0 A0) A0 (C4 (X5 A0 A0 A0 (.pure _ _ _ _) b4y A0) A0 (zz 2 ?_)));rw[B57,<-B];refine zz 5 ?_;exact⟨j+1,by omega,by omega,(Sees.of lf lo)⟩
  ·rw[A7 (by rw[q];decide),B67]at B;rw[<-B];refine zz 6 ?_;exact⟨j+1,by omega,by omega,(Sees.of lf lo)⟩
 have ai:j=M.length:=by have:=A3 q;omega
 rw[ai,B51,<-hnx];refine zz 6 ?_;exact⟨i+1,by omega,by omega,(Sees.of lf lo)⟩
def atomsP:List Str:=[[97],[98],[46],[91,97,98,93],[91,94,97,93],[40,97,124,98,41],[40,97,98,41],[91,91,58,97,108,112,104,97,58,93,120,93],[92,43],[40,41],[40,98,124,41],[91,97,45,99,93],[93],[120]]
def marksP:List Str:=[[],[],[],[42],[43],[63],[123,50,125],[123,49,44,50,125],[123,48,44,49,125],[123,50,44,125]]
def zM(b:List Int)(i:Nat):Str:=atomsP.getD (W6 (d5 b (10+(i:Int))) 14).toNat []++marksP.getD (W6 (d5 b (30+(i:Int))) 10).toNat []++(if (d5 b (50+(i:Int))).tmod 6=0 then [124] else [])
def O3(a:List Int):Nat->Str
 | 0=>if (d5 a 1).tmod 5=0 then [94] else []
 | i+1=>O3 a i++zM a i
def j4(a:List Int)(n:Nat):Str:=O3 a n++(if (d5 a 2).tmod 5=0 then [36] else [])
theorem tY{l:List Str}{b:Nat}(h:∀x∈l,x.length<=b)(i:Nat):(l.getD i []).length<=b:=by
 rw[B46];cases a:l[i]? with
 | none=>exact Nat.zero_le _
 | some x=>exact h x (B52 a)
theorem A11(c:List Int)(i:Nat):(zM c i).length<=18:=by
 unfold zM;have d:=tY (l:=atomsP) (b:=12) F2 (W6 (d5 c (10+(i:Int))) 14).toNat
 have f:=tY (l:=marksP) (b:=5) F2 (W6 (d5 c (30+(i:Int))) 10).toNat
 rw[B48,B48];split
 ·simp only[B49,List.length_nil];omega
 ·simp only[List.length_nil];omega
theorem rV(a:List Int):∀i,(O3 a i).length<=1+18*i
 | 0=>by unfold O3;split<;>simp
 | i+1=>by
  have b:=rV a i;have c:=A11 a i;rw[O3,B48];omega
theorem QF(a:List Int)(n:Nat):(j4 a n).length<=2+18*n:=by
 have:=rV a n;unfold j4;rw[B48];split
 ·simp only[B49,List.length_nil];omega
 ·simp only[List.length_nil];omega
theorem mod8{n:Nat}(h:n<=7):W6 (n:Int) 8=n:=by
 unfold W6;rw[VJ ⟨by omega,by omega⟩];omega
theorem get_at{l:List Str}{i:Nat}(h:i<l.length):l[i]?=some (l.getD i []):=by
 rw[B46,B44 h];rfl
theorem atom_at(b:List Int)(i:Nat):atomsP[(W6 (d5 b (10+(i:Int))) 14).toNat]?=some (atomsP.getD (W6 (d5 b (10+(i:Int))) 14).toNat []):=by
 have c:=n9 (d5 b (10+(i:Int))) (n:=14) B3;exact get_at (by rw[show atomsP.length=14 from rfl];omega)
theorem mark_at(b:List Int)(i:Nat):marksP[(W6 (d5 b (30+(i:Int))) 10).toNat]?=some (marksP.getD (W6 (d5 b (30+(i:Int))) 10).toNat []):=by
 have c:=n9 (d5 b (30+(i:Int))) (n:=10) B3;exact get_at (by rw[show marksP.length=10 from rfl];omega)
theorem QG(b:List Int)(n:Nat)(C:n<=7):FnOk Tryz.prog 7 [K8 b,D3 n] (fun rs=>rs=[F3 (j4 b n)]):=by
 have g:=rK (n:Int) 8 B3 B3;rw[mod8 C]at g;refine FnOk.intro Tryz.func7 F2 A0 A0 A0 A0 (zz 6 ?_);refine B0 (C0 (c:=K7) (ys:=atomsP) (C3 A0 A0 A0 A0 (C3 A0 A0 A0 A0 (C3 A0 A0 A0 A0 (C3 A0 A0 A0 A0 (C3 A0 A0 A0 A0 (C3 A0 A0 A0 A0 (C3 A0 A0 A0 A0 (C3 A0 A0 A0 A0 (C3 A0 A0 A0 A0 (C3 A0 A0 A0 A0 (C3 A0 A0 A0 A0 (C3 A0 A0 A0 A0 (C3 A0 A0 A0 A0 (C3 A0 A0 A0 A0 E6)))))))))))))) A0 A0 A0) A0 (zz 4 ?_);refine B0 (C0 (c:=K7) (ys:=marksP) (C3 A0 A0 A0 A0 (C3 A0 A0 A0 A0 (C3 A0 A0 A0 A0 (C3 A0 A0 A0 A0 (C3 A0 A0 A0 A0 (C3 A0 A0 A0 A0 (C3 A0 A0 A0 A0 (C3 A0 A0 A0 A0 (C3 A0 A0 A0 A0 (C3 A0 A0 A0 A0 E6)))))))))) A0 A0 A0) A0 (zz 10 ?_);refine E3 (qH b 1 B3 B3) (zz 3 ?_);refine S7 [(0,B8 Int 1 D2 b),(1,B7 n),(5,B8 Str 1 K7 atomsP),(6,B8 Str 1 K7 marksP),(7,Q6 (O3 b 0))] [] ?_ ?_
 ·skip;refine zc 0 (fun f=>?_) fun f=>?_
  ·have h:=A1 f;skip;refine zz 3 ?_;rw[show O3 b 0=[94] by unfold O3;exact A6 h];exact (Sees.of lf lo)
  ·have h:=A3 f;refine zz 1 ?_;rw[show O3 b 0=[] by unfold O3;exact A7 h];exact (Sees.of lf lo)
 refine zz 6 ?_;refine C2 (X:=Nat) (fun i=>([(0,B8 Int 1 D2 b),(1,B7 n),(5,B8 Str 1 K7 atomsP),(6,B8 Str 1 K7 marksP),(7,Q6 (O3 b i)),(8,B7 i)],[])) (fun i=>i<=n) (fun i=>n-i) 0 (Nat.zero_le _) (Sees.of lf lo) ?_;intro i z;dsimp only at z ⊢;have D:=rV b i;refine zz 5 ?_;refine E3 (g) ?_;refine zc 2 (fun f=>?_) fun f=>?_
 ·have A:i<n:=by have q:=A1 f;(try dsimp only at q);omega
  obtain⟨a,ha⟩:∃a,a=atomsP.getD (W6 (d5 b (10+(i:Int))) 14).toNat []:=⟨_,rfl⟩
  obtain⟨m,v⟩:∃m,m=marksP.getD (W6 (d5 b (30+(i:Int))) 10).toNat []:=⟨_,rfl⟩
  have x:=n9 (d5 b (10+(i:Int))) (n:=14) B3;have w:=n9 (d5 b (30+(i:Int))) (n:=10) B3;have k:=atom_at b i;have l:=mark_at b i;have y:a.length<=12:=by rw[ha];exact tY F2 _
  have B:m.length<=5:=by rw[v];exact tY F2 _
  rw[<-ha]at k;rw[<-v]at l;have j:zM b i=a++m++(if (d5 b (50+(i:Int))).tmod 6=0 then [124] else []):=by rw[ha,v];rfl
  refine zz 10 ?_;refine D1 (K4 (qH b (10+(i:Int)) B3 B3) A0 A0) A0 A0 (D1 (K4 (rK _ 14 B3 B3) A0 A0) A0 A0 (D1 (A9 A0 (.pure _ _ _ _) A0 B3 k) A0 A0 (zz 1 ?_)));refine D1 (gN A0 A0 B3) A0 A0 (zz 4 ?_);refine D1 (K4 (qH b (30+(i:Int)) B3 B3) A0 A0) A0 A0 (D1 (K4 (rK _ 10 B3 B3) A0 A0) A0 A0 (D1 (A9 A0 (.pure _ _ _ _) A0 B3 l) A0 A0 (zz 1 ?_)));refine D1 (gN A0 A0 (by (rw[B48];omega))) A0 A0 ?_;refine zz 7 ?_;refine E3 (qH b (50+(i:Int)) B3 B3) (zz 3 ?_);refine zH [(0,B8 Int 1 D2 b),(1,B7 n),(5,B8 Str 1 K7 atomsP),(6,B8 Str 1 K7 marksP),(7,Q6 (O3 b (i+1))),(8,B7 i)] [] ?_ ?_
  ·skip;refine zc 0 (fun f=>?_) fun f=>?_
   ·have h:=A1 f;skip;refine zz 5 ?_;rw[show O3 b (i+1)=O3 b i++a++m++[124] by rw[O3,j,A6 h];simp only[B57]];exact (Sees.of lf lo)
   ·have h:=A3 f;refine zz 1 ?_;rw[show O3 b (i+1)=O3 b i++a++m by rw[O3,j,A7 h];simp only[B57,B67]];exact (Sees.of lf lo)
  skip;refine zz 5 ?_;exact⟨i+1,by omega,by omega,(Sees.of lf lo)⟩
 have s:i=n:=by have q:=A3 f;(try dsimp only at q);omega
 subst s;refine zz 5 ?_;refine E3 (qH b 2 B3 B3) (zz 3 ?_);refine S7 [(7,Q6 (j4 b i))] [] ?_ ?_
 ·skip;refine zc 0 (fun f=>?_) fun f=>?_
  ·have h:=A1 f;skip;refine zz 2 ?_;refine B0 (gN A0 A0 SC) A0 (zz 2 ?_);rw[show j4 b i=O3 b i++[36] by unfold j4;rw[A6 h]];exact (Sees.of lf lo)
  ·have h:=A3 f;refine zz 1 ?_;rw[show j4 b i=O3 b i by unfold j4;rw[A7 h,B67]];exact (Sees.of lf lo)
 refine zz 6 ?_;exact B2 (rs:=[F3 (j4 b i)]) (G6 rfl rfl rfl) rfl
theorem A12{a b:List Str}{k:Nat}(ha:k<a.length)(hb:k<b.length)(h:a.take k=b.take k)(c:a[k]=b[k]):a.take (k+1)=b.take (k+1):=by
 rw[B76 ha,B76 hb,h,c]
theorem xX(a b:List Str)(ha:a.length<=1073741824):FnOk Tryz.prog 16 [n7 a,n7 b] (fun rs=>rs=[E1 (decide (a=b))]):=by
 refine FnOk.intro Tryz.func16 F2 A0 A0 A0 A0 ?_;refine zc 13 (fun d=>?_) fun d=>?_
 ·have g:a≠b:=fun h=>by subst h;exact absurd (A1 d) dV
  refine zz 5 ?_;exact B2 (G6 rfl rfl rfl) (by rw[A5 g])
 have w:a.length=b.length:=by have:=A3 d;omega
 refine zz 7 ?_;refine C2 (X:=Nat) (fun k=>([(0,B8 Str 1 K7 a),(1,B8 Str 1 K7 b),(5,B7 k)],[])) (fun k=>k<=a.length/\a.take k=b.take k) (fun k=>a.length-k) 0 ⟨Nat.zero_le _,rfl⟩ (Sees.of lf lo) ?_;rintro k ⟨t,n⟩;dsimp only at t n ⊢;refine zc 8 (fun d=>?_) fun d=>?_
 ·have i:k<a.length:=by have:=A1 d;omega
  have f:k<b.length:=by omega
  have c:=fun q=>A12 i f n q;have j:a[k]≠b[k]->a≠b:=fun q h=>by subst h;exact q rfl
  obtain⟨u,o⟩:∃u,u=a[k]:=⟨_,rfl⟩
  obtain⟨v,s⟩:∃v,v=b[k]:=⟨_,rfl⟩
  have l:a[k]?=some u:=by rw[o];simp[i]
  have m:b[k]?=some v:=by rw[s];simp[f]
  rw[<-o,<-s]at c j;refine zz 7 ?_;refine D1 (A9 A0 (.pure _ _ _ _) A0 B3 l) A0 A0 (zz 3 ?_);refine D1 (A9 A0 (.pure _ _ _ _) A0 B3 m) A0 A0 (zz 1 ?_);refine D1 (zF A0 A0) A0 A0 ?_;refine zc 1 (fun d=>?_) fun d=>?_
  ·have g:u≠v:=by simpa using d
   refine zz 5 ?_;exact B2 (G6 rfl rfl rfl) (by rw[A5 (j g)])
  ·have g:u=v:=by simpa using d
   refine zz 6 ?_;exact⟨k+1,⟨i,c g⟩,by omega,Sees.of lf lo⟩
 ·have g:a=b:=OV w (by have:=A3 d;omega) n;refine zz 6 ?_;exact B2 (G6 rfl rfl rfl) (by rw[A4 g])
theorem FM(c:List Int)(n:Int)(p:Str):FnOk Tryz.prog 4 [K8 c,D3 n,F3 p] (fun rs=>rs=[E1 true]):=by
 obtain⟨k,M⟩:∃k:Nat,W6 n 5=(k:Int):=⟨(W6 n 5).toNat,by have:=n9 n (n:=5) B3;omega⟩
 have x:k<=7:=by have:=n9 n (n:=5) B3;omega
 have d:=rK n 5 B3 B3;rw[M]at d;have m:=QG c k x;have y:=QF c k;obtain⟨q,O⟩:∃q,q=j4 c k:=⟨_,rfl⟩
 rw[<-O]at m y;obtain⟨a,ha⟩:∃a,a=vP c 0 6 9:=⟨_,rfl⟩
 obtain⟨b,hb⟩:∃b,b=BF a c 100:=⟨_,rfl⟩
 have I:a.length<=100:=by rw[ha];have:=SS c 0 6 9 B3;omega
 have K:b.length<=1000:=by
  rw[hb];have w:=kY c 100 (E2 a) 0 [];have H:=o4 a;have R:=(VN a).1;unfold BF;simp only[List.length_nil]at w;omega
 have J:=o4 a;have L:=o4 b;have f:I0 a=0:=by unfold I0;rw[A7 B3]
 have i:I0 b=0:=by unfold I0;rw[A7 B3]
 have r:=blob_ok c 0 6 9 B3 B3 B3;have s:=near_ok a c 100 B3 B3;rw[<-ha]at r;rw[<-hb]at s;have j:∀t:Str,(j3 a b t).1.length<=1073741824:=fun t=>by
  unfold j3;split
  ·exact Nat.zero_le _
  ·have w:=iL (hitB t) (E2 a) (E2 b) (mJ (E2 a) (E2 b));have H:=(wW (E2 a) (E2 b)).1;exact Nat.le_trans w (Nat.le_trans (Nat.mul_le_mul (show _<=1100 by omega) (show _<=1100 by omega)) F2)
 refine FnOk.intro Tryz.func4 F2 A0 A0 A0 A0 ?_;refine zc 11 (fun A=>?_) fun A=>?_
 ·refine zz 2 ?_;refine E3 (HN) (zz 3 ?_);exact B2 (rs:=[E1 true]) (G6 rfl rfl rfl) rfl
 have z:p.length<=30:=by have:=A3 A;omega
 have B:=HQ a b q f i B3;have C:=xW a b q f i B3 B3;have D:=HQ a b p f i B3;have E:=xW a b p f i B3 B3;have F:=j q;have G:=j p;obtain⟨u,P⟩:∃u,u=j3 a b q:=⟨_,rfl⟩
 obtain⟨v,Q⟩:∃v,v=j3 a b p:=⟨_,rfl⟩
 rw[<-P]at B C F;rw[<-Q]at D E G;refine zz 4 ?_;refine E3 (r) (zz 6 ?_);refine E3 (s) (zz 8 ?_);refine E3 (d) (E3 (m) (E3 (B) (zz 12 ?_)));refine E3 (d) (E3 (m) (E3 (C) (zz 11 ?_)));refine E3 (D) (zz 11 ?_);refine E3 (E) (zz 10 ?_);refine E3 (xX u.1 u.1 F) (zz 1 ?_);refine J4 A0 A0 A0 (A4 A0) (zz 1 ?_);refine J4 A0 A0 A0 (A4 A0) (zz 1 ?_);refine J4 A0 A0 A0 (A4 A0) (zz 1 ?_);refine B0 (L6 A0 ((A4 A0)) A0) A0 (zz 1 ?_);refine J4 A0 A0 A0 (A4 A0) (zz 1 ?_);refine J4 A0 A0 A0 (A4 A0) (zz 1 ?_);refine J4 A0 A0 A0 (A4 A0) (E3 (xX v.1 v.1 G) (B0 (L6 A0 ((A4 A0)) A0) A0 (zz 1 ?_)));refine J4 A0 A0 A0 (A4 A0) (zz 1 ?_);refine J4 A0 A0 A0 (A4 A0) (zz 1 ?_);refine J4 A0 A0 A0 (A4 A0) (zz 1 ?_);refine B0 (L6 A0 ((A4 A0)) A0) A0 (zz 1 ?_);refine J4 A0 A0 A0 (A4 A0) (E3 (HN) (B0 (L6 A0 ((A4 A0)) A0) A0 (zz 3 ?_)));exact B2 (rs:=[E1 true]) (G6 rfl rfl rfl) rfl
end Go.Proofs.YtabbdaafimcjhaaGreatDoor
