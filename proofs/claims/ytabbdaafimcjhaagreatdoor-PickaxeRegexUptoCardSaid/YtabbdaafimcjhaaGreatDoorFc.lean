
/- Walks of the program's functions. -/
import Derived.Test.YtabbdaafimcjhaaGreatDoorFb
import Derived.RecoverIn
set_option linter.all false
namespace Go.Proofs.YtabbdaafimcjhaaGreatDoor
open Go Go.AL
open Tryz (prog)
set_option maxRecDepth 100000
set_option maxHeartbeats 4000000
abbrev rP(s:Str)(a d:Nat):Ob:=.box [.p (.v (.string ⟨s.toArray⟩)),.p (.v (.int .i64 a)),.p (.v (.int .i64 d)),.mut 811]
abbrev eR(l:List AL.Node):Ob:=.grow 154 AL.Node 8 P5 l
abbrev m7(c:UInt8):S1:=.one (.p (.v (.int .u8 c.toNat)))
abbrev H1:S1:=.one (.ref 810 0)
theorem lE{gf:Fr}{ob:Obs}(s:Str)(a d:Nat)(ha:a<=s.length)(_hs:s.length<=1000)(c:B5 ob 810=some (rP s a d)) :
  AL.Met prog 151 [H1] gf ob [] (fun g ob'=>g=[m7 (s.getD a 0),oA (decide (a<s.length))]/\ob'=ob):=by
 refine AL.Met.intro Tryz.func151 F1 A0 A0 A0 (V7 ?_);refine D6 (E7 A0 c A0) A0 A0 (H3 ?_);refine D6 (E7 A0 c A0) A0 A0 ?_;refine zc 3 (fun e=>?_) fun e=>?_
 ·have b:a=s.length:=by have b:=A1 e;omega
  refine J0 ?_;refine D1 b0z iV (fun _ _ h=>h) ⟨?_,rfl⟩;rw[b,A5 B1,C38,C63 B1];rfl
 ·have b:a<s.length:=by have b:=A3 e;omega
  have f:s[((a:Nat):Int).toNat]?=some (s.getD a 0):=by rw[C37,C38,C36 b];rfl
  refine J0 ?_;refine D6 (E7 A0 c A0) A0 A0 (H3 ?_);refine D6 (E7 A0 c A0) A0 A0 (D6 (G9 A0 A0 B1 f) A0 A0 (P1 ?_));refine D1 b0z iV (fun _ _ h=>h) ⟨?_,rfl⟩;rw[A4 b]
theorem aY{gf:Fr}{ob:Obs}(s:Str)(a d:Nat)(c:UInt8)(ha:a<=s.length)(o:s.length<=1000)(g:B5 ob 810=some (rP s a d)) :
  AL.Met prog 105 [H1,m7 c] gf ob [] (fun q ob'=>q=[oA (decide (s[a]?=some c))]/\ob'=(810,rP s (if s[a]?=some c then a+1 else a) d)::ob):=by
 have p:∀x y:UInt8,((x.toNat:Int)=y.toNat)↔x=y:=fun x y=>⟨fun h=>C89.1 B1,fun h=>by rw[h]⟩
 refine AL.Met.introH Tryz.func105 F1 rfl rfl rfl (fun m=>?_);refine C3 (C04 (l:=[(0,.s H1),(1,.s (m7 c))]) (ob':=(810,rP s a d)::ob) lf m J6 (D3 (L:=[(810,_)]) ⟨g,trivial⟩ O3)) ?_;refine I3 ?_;refine O4 (lE s a d ha o A0) A0 A0 A0 (zz 17 ?_);by_cases e:s[a]?=some c
 ·have f:a<s.length:=(C44.1 e).1;have n:s.getD a 0=c:=by rw[C38,e];rfl
  rw[A4 e,A6 e];refine zc 0 (fun b=>?_) fun b=>?_
  ·rw[x7,A4 f,n]at b;simp at b
  ·refine zz 17 ?_;exact D1 V9 iV (D3 (L:=[(810,_)]) ⟨rfl,trivial⟩ PG) ⟨rfl,rfl⟩
 ·rw[A5 e,A7 e];refine zc 0 (fun b=>?_) fun b=>?_
  ·refine I2 ?_;exact D1 V9 iV (fun _ _ h=>h) ⟨rfl,rfl⟩
  ·rw[x7,C86]at b;have i:a<s.length:=by simpa using b.1
   have j:=A3 b.2;exfalso;refine e ?_;have k:s.getD a 0=c:=(p _ _).1 (C75.1 j);rw[<-k,C38,C36 i];rfl
theorem b1x{p:Prop}(h:p:=by repeat (first | exact Z6 | refine tail_drop rfl ?_ | refine Z7 rfl ?_ | refine mK _ ?_ | refine eK _ ?_)):p:=h
theorem b4x{p:Prop}(h:p:=by repeat (first | exact O3 | refine U3 rfl ?_ | refine obs_fgt _ ?_)):p:=h
theorem b6y{p:Prop}(h:p:=by (simp only[C40,C51];omega)):p:=h
theorem vK{gf:Fr}{ob:Obs}(s:Str)(a d:Nat)(l:List AL.Node)(n:AL.Node)(x:l.length<=1000)(m:B5 ob 810=some (rP s a d))(q:B5 ob 811=some (eR l)) :
  AL.Met prog 153 [H1,(bY n).s1] gf ob [811] (fun w ob'=>w=[P7 l.length]/\ob'=(810,rP s a d)::(811,eR (l++[n]))::Obs.forget 811 ob):=by
 refine AL.Met.introH Tryz.func153 F1 rfl rfl rfl (fun k=>?_);refine C3 (C05 811 (l:=[(0,.s H1),(1,.s (bY n).s1)]) (L:=[(810,_),(811,_)]) lf k J6 ⟨m,q,trivial⟩) ?_;refine J0 ?_;refine C3 (C04 (gf':=Fr.forget 811 gf) (l:=[(0,.s H1),(3,.s (.one (.eref Unit 8 (fun _ j=>(cellsOf P5 n 0 8).getD j (.v undef)) () 0)))]) (ob':=[(810,rP s a d),(811,eR l)]++Obs.forget 811 ob) lf (eL k) J6 (fun _ _ h=>h)) ?_;refine N7 [10,7] [[],[7],[10,7]] [(7,([811],[9])),(10,([],[]))] [(0,[]),(1,[]),(2,[]),(3,[]),(4,[]),(5,[]),(6,[]),(7,[]),(8,[7]),(9,[7]),(10,[7])] [(0,[7])] E4 E4 (C6 A0 A0 E4 A0 A0 (C9 A0 A0) (C6 A0 A0 E4 A0 A0 (C9 A0 A0) (C6 A0 A0 E4 A0 A0 (F3 A0) (C6 A0 A0 E4 A0 A0 (F4 A0) (C6 A0 A0 E4 A0 A0 (E7 A0 A0 A0) (C6 A0 A0 E4 A0 A0 (W8 A0 A0) (C6 A0 A0 E4 A0 A0 (B7 (c:=P5) (ys:=[n]) (C0 A0 A0 A0 A0 D2) A0 A0 A0) (Z4 A0 A0 E4 A0 A0 (mL (fun i b=>R4 (S7 b A0) A0 (S7 b A0) (.pure _ _ _ _) PH A0)) A0 (C6 A0 A0 E4 A0 A0 (F3 A0) (C6 A0 A0 E4 A0 A0 (F4 A0) (Z4 A0 A0 E4 A0 A0 (gV (fun i b=>K5 TySz.out (S7 b A0) A0 (S7 b A0) A0 A0 A0)) A0 ?_)))))))))));refine tE (ks:=[811]) rfl E4 rfl ?_ ?_
 ·refine G4 A0 A0 E4 A0 A0 (C9 A0 A0) ?_;exact lA
 refine I3 ?_;refine B2 (aM A0 A0 b6y) A0 (H3 ?_);refine D1 V9 b1x (D3 (L:=[(810,_),(811,_)]) ⟨rfl,rfl,trivial⟩ b4x) ⟨?_,rfl⟩;rw[C40,C51]
 congr 5
 omega
theorem B56{gf:Fr}{ob:Obs}(s:Str)(a d:Nat)(l:List AL.Node)(z:Set4)(f:l.length<=1000)(b:B5 ob 810=some (rP s a d))(c:B5 ob 811=some (eR l)) :
  AL.Met prog 223 [H1,(S9 z).s1] gf ob [811] (fun g ob'=>g=[P7 l.length]/\ob'=(810,rP s a d)::(811,eR (l++[⟨1,z,0,0,[]⟩]))::Obs.forget 811 ob):=by
 refine AL.Met.introH Tryz.func223 F1 rfl rfl rfl (fun e=>?_);refine C3 (C05 811 (l:=[(0,.s H1),(1,.s (S9 z).s1)]) (L:=[(810,_),(811,_)]) lf e J6 ⟨b,c,trivial⟩) ?_;refine O6 ?_;refine gR ((C07 Int 1 C7 7 7 A0 A0)) (O4 (vK s a d l ⟨1,z,0,0,[]⟩ f A0 A0) A0 A0 A0 (H3 ?_));exact D1 V9 b1x (D3 (L:=[(810,_),(811,_)]) ⟨rfl,rfl,trivial⟩ b4x) ⟨rfl,rfl⟩
theorem WE{gf:Fr}{ob:Obs}(s:Str)(a d:Nat)(l:List AL.Node)(b:Int)(kids:List Int)(m:2<=kids.length)(j:l.length<=1000)(f:B5 ob 810=some (rP s a d))(g:B5 ob 811=some (eR l)) :
  AL.Met prog 106 [H1,P7 b,.one (.p (.list Int 1 C7 kids))] gf ob [811] (fun k ob'=>k=[P7 l.length]/\ob'=(810,rP s a d)::(811,eR (l++[⟨b,⟨0,0,0,0⟩,0,0,kids⟩]))::Obs.forget 811 ob):=by
 refine AL.Met.introH Tryz.func106 F1 rfl rfl rfl (fun h=>?_);refine C3 (C05 811 (l:=[(0,.s H1),(1,.s (P7 b)),(2,B8 Int 1 C7 kids)]) (L:=[(810,_),(811,_)]) lf h J6 ⟨f,g,trivial⟩) ?_;refine zc 16 (fun c=>?_) fun c=>?_
 ·have:=A1 c;omega
 refine zc 5 (fun c=>?_) fun c=>?_
 ·have:=A1 c;omega
 refine I3 ?_;refine O4 (vK s a d l ⟨b,⟨0,0,0,0⟩,0,0,kids⟩ j A0 A0) A0 A0 A0 (H3 ?_);exact D1 V9 b1x (D3 (L:=[(810,_),(811,_)]) ⟨rfl,rfl,trivial⟩ b4x) ⟨rfl,rfl⟩
theorem WF{gf:Fr}{ob:Obs}(b x:Int) :
  AL.Met prog 106 [H1,P7 b,.one (.p (.list Int 1 C7 [x]))] gf ob [] (fun c ob'=>c=[P7 x]/\ob'=ob):=by
 have d:[x][Int.toNat 0]?=some x:=rfl;refine AL.Met.intro Tryz.func106 F1 A0 A0 A0 ?_;refine zc 16 (fun a=>?_) fun a=>?_
 ·exact absurd (A1 a) dV
 refine zc 5 (fun a=>?_) fun a=>?_
 ·refine R3 ?_;exact D1 V9 iV (fun _ _ h=>h) ⟨rfl,rfl⟩
 ·exact absurd rfl (A3 a)
theorem B57(st:AL.State)(b e:Bool):FnOk prog 174 [YV st,E1 b,E1 e] (fun rs=>rs=[I4 (S0 st b e)]):=by
 refine FnOk.intro Tryz.func174 F1 A0 A0 A0 A0 (F5 ?_);refine C2 (w9 3 A0 A0 A0) A0 (B2 (E3 _ 1 C7) A0 ?_);refine zc 13 (fun a=>?_) fun a=>?_
 ·have g:st.Kind=1:=A1 a;refine J0 ?_;refine B2 (B7 (c:=C7) (ys:=[st.Next,st.Other]) (C0 A0 A0 A0 A0 (C0 A0 A0 A0 A0 D2)) A0 A0 A0) A0 (H3 ?_);exact A9 (rs:=[I4 [st.Next,st.Other]]) M1 (by unfold S0;simp[g])
 have g:¬st.Kind=1:=A3 a;refine zc 5 (fun a=>?_) fun a=>?_
 ·have d:st.Kind=2:=A1 a;refine zc 4 (fun a=>?_) fun a=>?_
  ·refine P1 ?_;refine B2 (B7 (c:=C7) (ys:=[st.Next]) (C0 A0 A0 A0 A0 D2) A0 A0 A0) A0 (H3 ?_);exact A9 (rs:=[I4 [st.Next]]) M1 (by unfold S0;simp[d,a])
  ·refine H3 ?_;refine B2 (E3 _ 1 C7) A0 (F5 ?_);exact A9 (rs:=[I4 []]) M1 (by unfold S0;simp[d,a])
 have d:¬st.Kind=2:=A3 a;refine zc 5 (fun a=>?_) fun a=>?_
 ·have f:st.Kind=3:=A1 a;refine zc 4 (fun a=>?_) fun a=>?_
  ·refine P1 ?_;refine B2 (B7 (c:=C7) (ys:=[st.Next]) (C0 A0 A0 A0 A0 D2) A0 A0 A0) A0 (H3 ?_);exact A9 (rs:=[I4 [st.Next]]) M1 (by unfold S0;simp[f,a])
  ·refine H3 ?_;refine B2 (E3 _ 1 C7) A0 (F5 ?_);exact A9 (rs:=[I4 []]) M1 (by unfold S0;simp[f,a])
 have f:¬st.Kind=3:=A3 a;refine H3 ?_;refine B2 (E3 _ 1 C7) A0 (F5 ?_);exact A9 (rs:=[I4 []]) M1 (by unfold S0;simp[g,d,f])
theorem RJ(n:AL.Node)(h:0<=n.Min/\n.Min<=100/\(n.Max = -1\/n.Min<=n.Max/\n.Max<=100)):FnOk prog 180 [bY n] (fun i=>i=[E1 true]):=by
 refine FnOk.intro Tryz.func180 F1 A0 A0 A0 A0 (zz 20 ?_);refine K4 A0 A0 A0 (.gd (.val _)) A0 (fun e=>by obtain⟨b,c⟩:=N0 e;(try rw[b]);(try rw[c]);exact H0 A0) ?_;refine K4 A0 A0 A0 (.gd (.val _)) A0 (fun e=>by obtain⟨b,c⟩:=N0 e;(try rw[b]);(try rw[c]);exact H6 A0 A0) ?_;refine K4 A0 A0 A0 (.gd (.val _)) A0 (fun e=>by obtain⟨b,c⟩:=N0 e;(try rw[b]);(try rw[c]);exact H0 A0) ?_;refine K4 A0 A0 A0 (.gd (.val _)) A0 (fun e=>by obtain⟨b,c⟩:=N0 e;(try rw[b]);(try rw[c]);exact H6 A0 A0) ?_;refine K4 A0 A0 A0 (.gd (.val _)) A0 (fun e=>by obtain⟨b,c⟩:=N0 e;(try rw[b]);(try rw[c]);exact BS A0 A0) ?_;refine G5 ?_;refine K4 A0 A0 A0 (.gd (.gd (.val _))) A0 (fun e=>by obtain⟨b,c,f⟩:=qI e;(try rw[b]);(try rw[c]);(try rw[f]);exact H0 A0) ?_;refine K4 A0 A0 A0 (.gd (.gd (.val _))) A0 (fun e=>by obtain⟨b,c,f⟩:=qI e;(try rw[b]);(try rw[c]);(try rw[f]);exact H6 A0 A0) ?_;refine K4 A0 A0 A0 (.gd (.gd (.val _))) A0 (fun e=>by obtain⟨b,c,f⟩:=qI e;(try rw[b]);(try rw[c]);(try rw[f]);exact PM A0 A0) ?_;refine K4 A0 A0 A0 (.gd (.val _)) A0 (fun e=>by obtain⟨b,c⟩:=N0 e;(try rw[b]);(try rw[c]);exact l8 A0 (fun h=>by first | rfl | (rw[h];rfl)) (fun h=>by first | rfl | (rw[h];rfl))) ?_;refine I2 ?_;refine A9 M1 ?_;simp only[and_pick,or_pick];rw[A4 B1]
theorem bK{n:AL.Node}{i:Int}(h:v6 n i=true):(∀k∈n.Kids,0<=k/\k<i)/\((n.Kind=0\/n.Kind=1\/n.Kind=2\/n.Kind=3)/\n.Kids.length=0\/(n.Kind=4\/n.Kind=5)/\2<=n.Kids.length\/n.Kind=6/\n.Kids.length=1/\0<=n.Min/\n.Min<=100/\(n.Max = -1\/n.Min<=n.Max/\n.Max<=100)):=by
 unfold v6 at h;rw[C39,C47]at h;refine⟨fun k b=>A1 (h.1 k b),?_⟩;have a:=h.2;split at a
 ·rename_i b;exact .inl ⟨b,A1 a⟩
 ·split at a
  ·rename_i b;exact .inr (.inl ⟨b,A1 a⟩)
  ·split at a
   ·rename_i b;exact .inr (.inr ⟨b,A1 a⟩)
   ·cases a
theorem o3{L:List AL.Node}(h:fN L=0):1<=L.length/\L.length<=4000/\∀(i:Nat) n,L[i]?=some n->v6 n i=true:=by
 unfold fN at h;split at h
 ·cases h
 ·split at h
  ·rename_i d b;refine⟨by omega,by omega,fun i n a=>?_⟩;have c:=C47.1 b i (C62.2 (C44.1 a).1)
   rwa[C38,a]at c
  ·cases h
theorem B58(n:AL.Node)(i:Int)(y:v6 n i=true)(k:n.Kids.length<=4000):FnOk prog 154 [bY n,C8 i] (fun rs=>rs=[E1 true]):=by
 obtain⟨A,E⟩:=bK y;refine FnOk.intro Tryz.func154 F1 A0 A0 A0 A0 (zz 14 ?_);refine B9 (X:=Nat) (fun j=>([(1,B6 i),(2,.s (.one (.eref Unit 8 (fun _ j=>(cellsOf P5 n 0 8).getD j (.v undef)) () 0))),(8,B8 Int 1 C7 n.Kids),(9,B6 n.Kids.length),(10,B6 j)],[])) (fun j=>j<=n.Kids.length) (fun j=>n.Kids.length-j) 0 (C41 _) (C1) ?_;intro j z;dsimp only at z ⊢;refine zc 5 (fun a=>?_) fun a=>?_
 ·have h:j<n.Kids.length:=by have:=A1 a;omega
  have C:=getI h;have B:=A _ (C60 C);refine zc 19 (fun a=>?_) fun a=>?_
  ·simp only[or_pick]at a;have:=A1 a;omega
  refine I2 ?_;exact⟨j+1,by omega,by omega,C1⟩
 refine zc 14 (fun a=>?_) fun a=>?_
 ·have c:=A1 a;have b:decide ((n.Kids.length:Int)=0)=true:=A4 B1;refine zc 1 (fun a=>?_) fun a=>?_;rotate_left
  ·exact absurd c (A3 a)
  refine Z2 ?_;exact A9 M1 (by rw[b])
 have l:=A3 a;refine zc 5 (fun a=>?_) fun a=>?_
 ·have c:=A1 a;have b:decide ((n.Kids.length:Int)=0)=true:=A4 B1;refine zc 1 (fun a=>?_) fun a=>?_;rotate_left
  ·exact absurd c (A3 a)
  refine Z2 ?_;exact A9 M1 (by rw[b])
 have m:=A3 a;refine zc 5 (fun a=>?_) fun a=>?_
 ·have c:=A1 a;have b:decide ((n.Kids.length:Int)=0)=true:=A4 B1;refine zc 1 (fun a=>?_) fun a=>?_;rotate_left
  ·exact absurd c (A3 a)
  refine Z2 ?_;exact A9 M1 (by rw[b])
 have p:=A3 a;skip;refine zc 4 (fun a=>?_) fun a=>?_
 ·have c:=A1 a;have b:decide ((n.Kids.length:Int)=0)=true:=A4 B1;refine Z2 ?_;exact A9 M1 (by rw[b])
 have q:=A3 a;refine zc 6 (fun a=>?_) fun a=>?_
 ·have c:=A1 a;have b:decide ((n.Kids.length:Int)>=2)=true:=A4 B1;refine zc 1 (fun a=>?_) fun a=>?_;rotate_left
  ·exact absurd c (A3 a)
  refine Z2 ?_;exact A9 M1 (by rw[b])
 have u:=A3 a;skip;refine zc 4 (fun a=>?_) fun a=>?_
 ·have c:=A1 a;have b:decide ((n.Kids.length:Int)>=2)=true:=A4 B1;refine Z2 ?_;exact A9 M1 (by rw[b])
 have w:=A3 a;refine zc 5 (fun a=>?_) fun a=>?_
 ·have c:=A1 a;have d:decide ((n.Kids.length:Int)=1)=true:=A4 B1;refine I3 ?_;refine G7 A0 A0 A0 d (G5 ?_);refine G7 A0 A0 A0 d (E2 (RJ n B1) (B2 (O2 A0 (d) A0) A0 (H3 ?_)));exact A9 M1 rfl
 have x:=A3 a;exfalso;omega
theorem WG(L:List AL.Node)(e:fN L=0)(hkl:∀n∈L,n.Kids.length<=4000):FnOk prog 107 [P8 L] (fun rs=>rs=[C8 0]):=by
 obtain⟨h,j,g⟩:=o3 e;refine FnOk.intro Tryz.func107 F1 A0 A0 A0 A0 ?_;refine zc 16 (fun a=>?_) fun a=>?_
 ·simp only[or_pick]at a;have:=A1 a;omega
 refine Z2 ?_;refine B9 (X:=Nat) (fun i=>([(13,.s (P8 L).s1),(14,B6 L.length),(15,B6 i)],[])) (fun i=>i<=L.length) (fun i=>L.length-i) 0 (C41 _) (C1) ?_;intro i f;dsimp only at f ⊢;refine zc 5 (fun a=>?_) fun a=>?_
 ·have c:i<L.length:=by have:=A1 a;omega
  obtain⟨n,k⟩:∃n,n=L[i]:=⟨_,rfl⟩
  have d:L[i]?=some n:=by rw[k];simp[c]
  have b:=g i n d;refine R3 ?_;refine C2 (H9 4 A0) A0 (I3 ?_);refine E2 (B58 n i b (hkl n (C60 d))) ?_;refine zc 2 (fun a=>?_) fun a=>?_
  ·cases a
  refine I2 ?_;exact⟨i+1,by omega,by omega,C1⟩
 refine J0 ?_;exact A9 (rs:=[C8 0]) M1 rfl
theorem mT(w:List Int)(a:∀v∈w,0<=v/\v<=4001)(k:Int):0<=I0 w k.toNat/\I0 w k.toNat<=4001:=by
 unfold I0;cases h:w[k.toNat]? with
 | none=>simp
 | some v=>exact a v (C60 h)
theorem b8y{p:Prop}(h:p:=by ((try dsimp only);omega)):p:=h
theorem WH(n:AL.Node)(w:List Int)(i:Int)(G:v6 n i=true)(C:n.Kids.length<=4000)(R:i<=w.length)(P:∀v∈w,0<=v/\v<=4001):FnOk prog 108 [bY n,I4 w] (fun rs=>rs=[C8 (V2 n w)]):=by
 obtain⟨B,Q⟩:=bK G;have A:∀k∈n.Kids,0<=k/\k<w.length:=fun k A=>by have:=B k A;omega
 refine FnOk.intro Tryz.func108 F1 A0 A0 A0 A0 (zz 18 ?_);refine B9 (X:=Nat×Int) (fun x=>([(1,B8 Int 1 C7 w),(2,.s (.one (.eref Unit 8 (fun _ j=>(cellsOf P5 n 0 8).getD j (.v undef)) () 0))),(5,B6 x.2),(9,B8 Int 1 C7 n.Kids),(10,B6 n.Kids.length),(11,B6 x.1)],[])) (fun x=>x.1<=n.Kids.length/\0<=x.2/\x.2<=4001/\w8 w x.2 (n.Kids.drop x.1)=w8 w 0 n.Kids) (fun x=>n.Kids.length-x.1) (0,0) ⟨C41 _,by decide,by decide,rfl⟩ (C1) ?_;rintro⟨j,a⟩ ⟨H,E,F,h⟩;dsimp only at H E F h ⊢;refine zc 5 (fun b=>?_) fun b=>?_
 ·have q:j<n.Kids.length:=by have:=A1 b;omega
  obtain⟨k,p⟩:∃k,k=n.Kids[j]:=⟨_,rfl⟩
  have N:n.Kids[j]?=some k:=by rw[p];simp[q]
  have I:=A k (C60 N);have hb:=mT w P k;have O:w[k.toNat]?=some (I0 w k.toNat):=by
   unfold I0;rw[C36 B1];rfl
  rw[C57 q,<-p,w8]at h;refine zz 23 ?_;exact⟨(j+1,V1 (a+I0 w k.toNat) 4001),⟨by dsimp only;omega,by dsimp only[V1];split<;>omega,by dsimp only[V1];split<;>omega,h⟩,by dsimp only;omega,C1⟩
 have z:j=n.Kids.length:=by have:=A3 b;omega
 have h:a=w8 w 0 n.Kids:=by
  rw[z,List.drop_length]at h;exact h
 have m:V2 n w=if n.Kind=4 then a else if n.Kind=5 then V1 (a+n.Kids.length-1) 4001 else if n.Kind=6 then (if n.Max<0 then V1 (n.Min*a+a+1) 4001 else V1 (n.Min*a+(n.Max-n.Min)*(a+1)) 4001) else 1:=by
  rw[h];rfl
 refine zc 13 (fun b=>?_) fun b=>?_
 ·have l:n.Kind=4:=A1 b;refine J0 ?_;exact A9 (rs:=[C8 a]) M1 (by rw[m,A6 l])
 have c:¬n.Kind=4:=A3 b;refine zc 5 (fun b=>?_) fun b=>?_
 ·have l:n.Kind=5:=A1 b;refine x5 ?_;exact A9 M1 (by rw[m,A7 c,A6 l];rfl)
 have d:¬n.Kind=5:=A3 b;refine zc 5 (fun b=>?_) fun b=>?_
 ·have l:n.Kind=6:=A1 b;have J:0<=n.Min*a:=Int.mul_nonneg B1 B1;have K:n.Min*a<=100*4001:=Int.mul_le_mul B1 B1 B1 B1;refine zc 7 (fun b=>?_) fun b=>?_
  ·have y:n.Max<0:=A1 b;refine zz 13 ?_;exact A9 M1 (by rw[m,A7 c,A7 d,A6 l,A6 y];rfl)
  ·have y:¬n.Max<0:=A3 b;have L:0<=(n.Max-n.Min)*(a+1):=Int.mul_nonneg B1 B1;have M:(n.Max-n.Min)*(a+1)<=100*4002:=Int.mul_le_mul B1 B1 B1 B1;refine V7 ?_;refine B2 (aM A0 A0 b8y) A0 (R3 ?_);exact A9 M1 (by rw[m,A7 c,A7 d,A6 l,A7 y];rfl)
 have u:¬n.Kind=6:=A3 b;refine J0 ?_;exact A9 (rs:=[C8 1]) M1 (by rw[m,A7 c,A7 d,A7 u])
def HU(L:List AL.Node)(i:Nat):List Int:=l4 (L.take i) 0 (List.replicate L.length 0)
theorem sH:∀(l:List AL.Node) (i:Nat) (w:List Int),(l4 l i w).length=w.length
 | [],_,_=>rfl
 | n::r,i,w=>by rw[l4,sH r,C78]
theorem pB:∀(l:List AL.Node) (n:AL.Node) (i:Nat) (w:List Int),l4 (l++[n]) i w=(l4 l i w).set (i+l.length) (V2 n (l4 l i w))
 | [],n,i,w=>rfl
 | x::r,n,i,w=>by
  rw[C92,l4,pB r,l4,C46,show i+1+r.length=i+(r.length+1) by omega]
theorem vL{L:List AL.Node}{i:Nat}{n:AL.Node}(h:L[i]?=some n):HU L (i+1)=(HU L i).set i (V2 n (HU L i)):=by
 have a:=(C44.1 h).1;unfold HU;rw[C52,h,C53,pB,C59,C91,Nat.min_eq_left B1]
theorem qO(L:List AL.Node)(i:Nat):(HU L i).length=L.length:=by unfold HU;rw[sH,C95]
theorem mU(L:List AL.Node):HU L L.length=E9 L:=by unfold HU E9;rw[C48]
theorem qP(w:List Int)(b:∀v∈w,0<=v/\v<=4001):∀(c:List Int) (a:Int),0<=a/\a<=4001->0<=w8 w a c/\w8 w a c<=4001
 | [],_,h=>h
 | k::r,a,h=>by
  have:=mT w b k;exact qP w b r _ (by unfold V1;split<;>omega)
theorem WI{n:AL.Node}{i:Int}(f:v6 n i=true){w:List Int}(j:∀v∈w,0<=v/\v<=4001):0<=V2 n w/\V2 n w<=4001:=by
 obtain⟨_,l⟩:=bK f;obtain⟨c,d⟩:=qP w j n.Kids 0 F1;have b:∀a:Int,0<=a->0<=V1 a 4001/\V1 a 4001<=4001:=fun a ha=>by unfold V1;split<;>omega
 unfold V2;obtain⟨s,e⟩:∃s,s=w8 w 0 n.Kids:=⟨_,rfl⟩
 rw[<-e]at c d;rw[<-e];dsimp only;split
 ·exact⟨c,d⟩
 split
 ·exact b _ B1
 split
 ·rename_i k;have g:0<=n.Min*s:=Int.mul_nonneg B1 c;split
  ·exact b _ B1
  ·have h:0<=(n.Max-n.Min)*(s+1):=Int.mul_nonneg B1 B1;exact b _ B1
 ·decide
theorem MT{L:List AL.Node}(a:∀(i:Nat) n,L[i]?=some n->v6 n i=true):∀i,i<=L.length->∀v∈HU L i,0<=v/\v<=4001
 | 0,_,v,hv=>by
  unfold HU at hv;rw[C79,l4]at hv;rw[(List.mem_replicate.1 hv).2];decide
 | i+1,hi,v,hv=>by
  have b:L[i]?=some L[i]:=C36 B1;rw[vL b]at hv;rcases List.mem_or_eq_of_mem_set hv with h | rfl
  ·exact MT a i B1 v h
  ·exact WI (a i _ b) (MT a i B1)
theorem zK(L:List AL.Node)(l:fN L=0)(hkl:∀n∈L,n.Kids.length<=4000):FnOk prog 65 [P8 L] (fun rs=>rs=[I4 (E9 L)]):=by
 obtain⟨p,q,j⟩:=o3 l;refine FnOk.intro Tryz.func65 F1 A0 A0 A0 A0 (R3 ?_);refine C2 (a8 764 Int C7 0 A0 A0 B1 B1 (fun _=>PE) VH) A0 (O6 ?_);refine B9 (X:=Nat) (fun i=>([(3,.s (.one (.mut 764))),(9,.s (P8 L).s1),(10,B6 L.length),(11,B6 i)],[(764,.arr Int 1 C7 (HU L i))])) (fun i=>i<=L.length) (fun i=>L.length-i) 0 (C41 _) ?_ ?_
 ·rw[show HU L 0=List.replicate ((L.length:Nat):Int).toNat 0 by rw[C37];rfl];exact C1
 intro i g;dsimp only at g ⊢;have x:=qO L i;have hb:=MT j i g;refine zc 5 (fun d=>?_) fun d=>?_
 ·have c:i<L.length:=by have:=A1 d;omega
  obtain⟨n,v⟩:∃n,n=L[i]:=⟨_,rfl⟩
  have f:L[i]?=some n:=by rw[v];simp[c]
  have w:(HU L i)[i]?=some ((HU L i)[i]'B1):=C36 B1;refine R3 ?_;refine C2 (H9 5 A0) A0 (R3 ?_);refine B40 (Sees.freeze (k:=764) A0) (WH n (HU L i) i (j i n f) (hkl n (C60 f)) B1 hb) A0 A0 A0 ?_;rintro _ rfl;refine⟨fun _ _ _ h=>h,?_⟩;refine G5 ?_;refine U0 (G3 TySz.out A0 A0 b7y A0 A0) (G5 ?_);rw[C37,<-vL f];refine P1 ?_;exact⟨i+1,by omega,by omega,C1⟩
 have b:i=L.length:=by have:=A3 d;omega
 rw[b,mU];refine C3 (Sees.freeze (k:=764) A0) (I3 ?_);exact A9 (rs:=[I4 (E9 L)]) M1 rfl
def rQ(L:List AL.Node):Int:=I0 (E9 L) (L.length-1)
theorem zL(L:List AL.Node)(b:fN L=0)(hkl:∀n∈L,n.Kids.length<=4000):FnOk prog 64 [P8 L] (fun rs=>rs=[C8 (rQ L),C8 0]):=by
 obtain⟨d,f,j⟩:=o3 b;have i:(E9 L).length=L.length:=by rw[<-mU];exact qO L _
 refine FnOk.intro Tryz.func64 F1 A0 A0 A0 A0 (Z2 ?_);refine E2 (WG L b hkl) ?_;refine zc 7 (fun c=>?_) fun c=>?_
 ·cases c
 refine F5 ?_;have k:(E9 L)[((L.length:Int)-1).toNat]?=some (rQ L):=by
  rw[show ((L.length:Int)-1).toNat=L.length-1 by omega,rQ,I0,C36 B1];rfl
 refine F5 ?_;refine E2 (zK L b hkl) (Z2 ?_);exact A9 (rs:=[C8 (rQ L),C8 0]) cN rfl
abbrev pat4:Str:=[94,97,43,36]
abbrev ndS:AL.Node:=⟨2,⟨0,0,0,0⟩,0,0,[]⟩
abbrev ndA:AL.Node:=⟨1,⟨0,8589934592,0,0⟩,0,0,[]⟩
abbrev ndR:AL.Node:=⟨6,⟨0,0,0,0⟩,1,-1,[1]⟩
abbrev ndE:AL.Node:=⟨3,⟨0,0,0,0⟩,0,0,[]⟩
abbrev ndC:AL.Node:=⟨4,⟨0,0,0,0⟩,0,0,[0,2,3]⟩
def atI:Nat->Nat
 | 0=>0
 | 1=>1
 | 2=>3
 | _=>4
theorem DM(k q:Nat)(o:Ob):(o.forget q).forget k=(o.forget k).forget q:=by
 cases o with
 | box l=>simp only[Ob.forget,D01];congr 1;exact C81 fun t _=>TC.forget_comm k q t
 | tbx e l=>simp only[Ob.forget,D01];congr 1;exact C81 fun t _=>TC.forget_comm k q t
 | tarr n m l=>simp only[Ob.forget,D01];congr 1;exact C81 fun t _=>TC.forget_comm k q t
 | growT e n m l=>simp only[Ob.forget,D01];congr 1;exact C81 fun t _=>TC.forget_comm k q t
 | growA e α a c b p l=>simp only[Ob.forget,D01];congr 1;exact C81 fun t _=>TC.forget_comm k q t
 | _=>rfl
theorem AZ(k q:Nat)(ob:Obs):Obs.forget k (Obs.forget q ob)=Obs.forget q (Obs.forget k ob):=by
 simp only[Obs.forget,D01,Function.comp_def,DM k q]
theorem RK:IdleFn prog 62 2:=by
 intro vs w hl;obtain⟨x,y,rfl⟩:∃x y,vs=[x,y]:=by
  match vs,hl with
  | [x,y],_=>exact⟨x,y,rfl⟩
 refine⟨M2 ⟨_,rfl,rfl,rfl⟩,?_⟩;have hta:(Instr.typeAssert .nilIface 20 27 true).run prog w=.ok (.tuple #[.int .i64 0,.bool false]) w:=by
  simp only[Instr.typeAssert];rfl
 refine callsDIn_of_wpSIn Tryz.func62 rfl trivial fun c₀ cs hu=>?_;simp only[Tryz.ntmps62,List.size_toArray,C46,List.length_nil,Nat.reduceAdd,Nat.reduceSub,Array.replicate_succ,Array.replicate_zero,List.push_toArray,List.append_toArray,D06,C92];apply wpSIn_seq;apply wpSIn_region;simp[wpOpsSIn,go_sem,recoverD,hu,Exit.thenS,hta];apply wpSIn_seq;apply wpSIn_region;simp[wpOpsSIn,go_sem,Exit.thenS];refine wpSIn_cond (t:=false) (by simp[Act.eval]) ?_;simp only[Bool.false_eq_true,if_false];refine wpSIn_of_wpIn rfl (wpIn_skip ?_);cases c₀;simp_all [bodyPostS,results,Tryz.results62]
theorem BI{P:Program}{fr:Fr}{ob:Obs}{S:Ctx}{G:Gh}{a:Act}{w:World}(h:Sim P S fr ob G a w){t:Tmp}{k:Nat}{tt:TypeId}{l:List TC}{c:Cell}[hty:TyOne P tt](ht:w7 fr t=some (.s (.one (.ref k 0))))(y:B5 ob k=some (.box l))(m:l[0]?=some (.p c)) :
  ∃b z,a.tmps.getD t undef=.pointer (some ⟨b,0,none⟩)/\(loadVar tt ⟨b,0,none⟩).run P w=.ok z w/\(PV.one c).rep (E5 (Mut S ob G) w) z:=by
 obtain⟨b,q,A⟩:=h.slot ht;obtain⟨C,D,B,d,v,ha⟩:=h.box y;rw[q]at d;cases d;obtain⟨z,g,j⟩:=ha.get 0 _ m;exact⟨b,z,A,V5 (ht:=hty) (cell_of_heap v (by simpa using g)),j⟩
theorem retcc{P:Program}{fn:Func}{fr:Fr}{ob:Obs}{t C:Tmp}{k B:Nat}{tt d:TypeId}{D i:List TC}{c y:Cell}[TyOne P tt][TyOne P d](J:fn.results=#[.cell t tt,.cell C d])(K:w7 fr t=some (.s (.one (.ref k 0))))(I:B5 ob k=some (.box D))(E:D[0]?=some (.p c))
  (v:w7 fr C=some (.s (.one (.ref B 0))))(u:B5 ob B=some (.box i))(j:i[0]?=some (.p y)):RetOk P fn fr ob [.one c,.one y]:=by
 unfold RetOk;intro S G a w h;obtain⟨b,z,A,F,H⟩:=BI h (tt:=tt) K I E;obtain⟨L,M,g,m,q⟩:=BI h (tt:=d) v u j;rw[C54]at A g;exact⟨_,by simp[results,J,A,g,asAddr,F,m],[_,_],rfl,H,q,trivial⟩
abbrev MU:List AL.Node:=[ndS,ndA,ndR,ndE,ndC]
theorem five{p:Nat->Prop}(a:p 0)(b:p 1)(c:p 2)(d:p 3)(e:p 4):∀i,i<5->p i
 | 0,_=>a
 | 1,_=>b
 | 2,_=>c
 | 3,_=>d
 | 4,_=>e
theorem H7{K:List Nat}{T rest:Obs}{k:Nat}{o:Ob}(a:B5 rest k=none)(h:∀j x,F0 K j=false->B5 rest j=some x->B5 T j=some x):∀j x,F0 K j=false->B5 rest j=some x->B5 ((k,o)::T) j=some x:=by
 intro j x c b;have:k≠j:=fun e=>by rw[e,b]at a;cases a
 rw[A8 this];exact h j x c b
def G8(ks:List Nat)(ob:Obs):Obs:=ks.foldl (fun f k=>Obs.forget k f) ob
theorem d9{k:Nat}:∀{ks:List Nat} {ob:Obs},B5 ob k=none->B5 (G8 ks ob) k=none
 | [],_,h=>h
 | q::ks,ob,h=>d9 (ks:=ks) (ob:=Obs.forget q ob) (by rw[K3,h];rfl)
theorem vM(k:Nat):∀(a:List Nat) (ob:Obs),G8 a (Obs.forget k ob)=Obs.forget k (G8 a ob)
 | [],_=>rfl
 | q::a,ob=>by
  show G8 a (Obs.forget q (Obs.forget k ob))=Obs.forget k (G8 a (Obs.forget q ob));rw[AZ q k,vM k a]
theorem kC{k:Nat}:∀{a:List Nat} {ob:Obs},F0 a k=true->Obs.forget k (G8 a ob)=G8 a ob
 | [],ob,h=>by cases h
 | q::a,ob,h=>by
  show Obs.forget k (G8 a (Obs.forget q ob))=G8 a (Obs.forget q ob);by_cases b:k=q
  ·subst b;rw[vM,Obs.forget_idem]
  ·have c:F0 a k=true:=by
    rw[aP]at h ⊢;rcases C50.1 h with h | h
    ·exact absurd h b
    ·exact h
   exact kC c
theorem WJ{K b:List Nat}{T ob:Obs}(k:Nat)(e:F0 b k=true)(h:∀j x,F0 K j=false->B5 (G8 b ob) j=some x->B5 T j=some x) :
  ∀j x,F0 K j=false->B5 (G8 b ob) j=some x->B5 (Obs.forget k T) j=some x:=by
 intro j x d a;rw[<-kC e,K3]at a;rw[K3];cases c:B5 (G8 b ob) j with
 | none=>rw[c]at a;cases a
 | some y=>rw[c]at a;rw[h j y d c];exact a
abbrev qAcc:AL.State:=⟨4,⟨0,0,0,0⟩,0,0⟩
abbrev qEnd:AL.State:=⟨3,⟨0,0,0,0⟩,0,0⟩
abbrev qSet:AL.State:=⟨0,⟨0,8589934592,0,0⟩,2,0⟩
abbrev qSp:AL.State:=⟨1,⟨0,0,0,0⟩,3,1⟩
abbrev qSta:AL.State:=⟨2,⟨0,0,0,0⟩,4,0⟩
def oZ(ks:List Nat)(ob:Obs):Obs:=(G8 ks ob).filter fun p=>!F0 ks p.1
theorem DN(k:Nat)(o:Ob):(o.forget k).free k=true:=by
 have key:∀b:List TC,(b.map (TC.forget k)).all (TC.free k)=true:=fun b=>by
  rw[List.all_map,C47];intro t _;exact TC.free_forget k t
 cases o with
 | box b=>exact key b
 | tbx e b=>exact key b
 | tarr n m b=>exact key b
 | growT e n m b=>exact key b
 | growA e α d c g p b=>exact key b
 | _=>rfl
theorem DO{k:Nat}:∀{Z:Obs},Nat.blt k 1000000=true->(∀p∈Z,p.1≠k/\p.2.free k=true)->J9 k Z=true
 | [],h,_=>h
 | (i,o)::r,h,hp=>by
  have a:=hp (i,o) (C56 ..);simp only[J9,C39,C80];exact⟨S4 a.1,a.2,DO h fun p b=>hp p (C55 _ b)⟩
theorem tJ{k:Nat}:∀{Z:Obs} {j:Nat} {x:Ob},J9 k Z=true->B5 Z j=some x->j≠k/\x.free k=true
 | [],j,x,_,h=>by cases h
 | (i,o)::r,j,x,hz,h=>by
  simp only[J9,C39,C80]at hz;by_cases e:i=j
  ·subst e;rw[B3]at h;cases h;exact⟨fun e=>(by rw[e,Nat.beq_refl]at hz;cases hz.1),hz.2.1⟩
  ·rw[A8 e]at h;exact tJ hz.2.2 h
theorem vN{k:Nat}{ks:List Nat}{ob:Obs}(c:F0 ks k=true)(hb:Nat.blt k 1000000=true):J9 k (oZ ks ob)=true:=by
 refine DO hb fun p d=>?_;obtain⟨a,b⟩:=List.mem_filter.1 d;refine⟨fun e=>(by rw[e,c]at b;cases b),?_⟩;rw[<-kC c]at a;obtain⟨q,_,rfl⟩:=C71.1 a;exact DN k q.2
theorem pC{f:Nat->Bool}:∀{ob:Obs} {j:Nat} {x:Ob},B5 (ob.filter fun p=>f p.1) j=some x->B5 ob j=some x
 | [],_,_,h=>by cases h
 | (i, o)::r,j,x,h=>by
  by_cases e:i=j
  ·subst e;rw[D17]at h;split at h
   ·rw[B3]at h ⊢;exact h
   ·rename_i g;exfalso;have:∀(r:Obs),B5 (r.filter fun p=>f p.1) i=none:=by
     intro r;induction r with
     | nil=>rfl
     | cons p r d =>
      obtain⟨a,b⟩:=p;rw[D17];split
      ·rename_i c;have:a≠i:=fun e=>g (by rw[e]at c;exact c);rw[A8 this];exact d
      ·exact d
    rw[this r]at h;cases h
  ·rw[D17]at h;rw[A8 e];split at h
   ·rw[A8 e]at h;exact pC h
   ·exact pC h
theorem oZ_base{K ks:List Nat}{ob:Obs}:∀j x,F0 K j=false->B5 (oZ ks ob) j=some x->B5 (G8 ks ob) j=some x:=fun _ _ _ h=>pC (f:=fun i=>!F0 ks i) h
theorem sJ{K:List Nat}{k:Nat}{T Z:Obs}(c:J9 k Z=true)(h:∀j x,F0 K j=false->B5 Z j=some x->B5 T j=some x):∀j x,F0 K j=false->B5 Z j=some x->B5 (Obs.forget k T) j=some x:=by
 intro j x b a;rw[K3,h j x b a];show some (x.forget k)=some x;rw[Ob.forget_free (tJ c a).2]
theorem getO_mapO(f:Ob->Ob):∀(ob:Obs) (j:Nat),B5 (C06 f ob) j=(B5 ob j).map f
 | [],_=>rfl
 | (i,o)::r,j=>by
  show B5 ((i,f o)::C06 f r) j=_;by_cases e:i=j
  ·subst e;rw[B3,B3];rfl
  ·rw[A8 e,A8 e,getO_mapO f r j]
theorem lF{k j:Nat}(h:j≠k):∀(ob:Obs),B5 (Obs.drop k ob) j=B5 ob j
 | []=>rfl
 | (i,o)::r=>by
  unfold Obs.drop;cases hb:Nat.beq i k
  ·show B5 ((i,o)::Obs.drop k r) j=_;by_cases e:i=j
   ·subst e;rw[B3,B3]
   ·rw[A8 e,A8 e,lF h r]
  ·have:i≠j:=fun e=>h (by rw[<-e];exact C72 hb);rw[A8 this];exact lF h r
theorem dW{K:List Nat}{k:Nat}{α:Type}{ec:Nat}{c:α->Nat->Cell}{xs:List α}{T Z:Obs}(f:J9 k Z=true)(h:∀j x,F0 K j=false->B5 Z j=some x->B5 T j=some x) :
  ∀j x,F0 K j=false->B5 Z j=some x->B5 (C06 (Ob.freeze k α ec c xs) (Obs.drop k T)) j=some x:=by
 intro j x e a;obtain⟨b,d⟩:=tJ f a;rw[getO_mapO,lF b,h j x e a];show some (x.freeze k α ec c xs)=some x;rw[Ob.freeze_free d]
theorem DP{k:Nat}{α:Type}{e:Nat}{c:α->Nat->Cell}{g:List α}{s:SV}(h:s.free k=true):s.freeze k α e c g=s:=by
 cases s with
 | s x=>cases x with
  | one t=>simp only[SV.freeze,S1.freeze,TC.freeze_free (show t.free k=true from h)]
  | agg b=>simp only[SV.freeze,S1.freeze];rw[X6 fun t a=>TC.freeze_free (C47.1 (show b.all (TC.free k)=true from h) t a)]
 | tup l =>
  simp only[SV.freeze];rw[X6 fun x f=>?_];have d:=C47.1 (show l.all (S1.free k)=true from h) x f;cases x with
  | one t=>simp only[S1.freeze,TC.freeze_free (show t.free k=true from d)]
  | agg b=>simp only[S1.freeze];rw[X6 fun t a=>TC.freeze_free (C47.1 (show b.all (TC.free k)=true from d) t a)]
 | _=>rfl
theorem tK{k:Nat}:∀{F:Fr},(∀p∈F,p.2.free k=true)->J2 k F=true
 | [],_=>rfl
 | (i,s)::r,h=>by
  simp only[J2,C39];exact⟨h (i,s) (C56 ..),tK fun p a=>h p (C55 _ a)⟩
theorem B59{F:Fr}{i:Nat}{s:SV}:D5 F i=some s->∃p∈F,p.2=s:=by
 induction F with
 | nil=>intro h;cases h
 | cons p r c =>
  obtain⟨j,t⟩:=p;intro h;by_cases e:j=i
  ·subst e;rw[D4]at h;cases h;exact⟨_,C56 ..,rfl⟩
  ·rw[C4 e]at h;obtain⟨q,a,b⟩:=c h;exact⟨q,C55 _ a,b⟩
theorem B60{a:List Nat}{k:Nat}{α:Type}{b:Nat}{c:α->Nat->Cell}{e:List α}{gf fr:Fr}(g:F0 a k=true)(h:Tail (B4 a gf) fr):Tail (B4 a gf) (C12 (SV.freeze k α b c e) fr):=by
 intro i s f d;have:=h i s f d;rw[qG,this];obtain⟨p,j,rfl⟩:=B59 d;show some (p.2.freeze k α b c e)=some p.2;rw[DP (aS g p j)]
theorem Q0{i k:Nat}{o:Ob}{r:Obs}(a:Nat.beq i k=false)(b:o.free k=true)(c:J9 k r=true):J9 k ((i,o)::r)=true:=by
 simp only[J9,a,b,c,Bool.not_false,Bool.and_self]
theorem pD{i k:Nat}{s:SV}{r:Fr}(a:s.free k=true)(b:J2 k r=true):J2 k ((i,s)::r)=true:=by
 simp only[J2,a,b,Bool.and_self]
theorem WK{b:Bool}(h:b=true):(true&&b)=true:=h
theorem and_tt{a b:Bool}(c:a=true)(d:b=true):(a&&b)=true:=by rw[c,d];rfl
theorem DQ{X:Obs}:∀{Z:Obs} {a:List Nat},(∀j x,F0 a j=false->B5 Z j=some x->B5 X j=some x)->A02 X a Z
 | [],_,_=>trivial
 | (k,o)::r,a,h=>by
  refine⟨?_,DQ fun j x b f=>?_⟩
  ·cases c:F0 a k
   ·exact .inr (h k o c (B3 _ _ _))
   ·exact .inl rfl
  ·have d:k≠j/\F0 a j=false:=by
    refine⟨fun e=>?_,?_⟩
    ·have:F0 (k::a) j=true:=by rw[aP];exact e ▸ C56 ..
     rw[this]at b;cases b
    ·cases c:F0 a j
     ·rfl
     ·have:F0 (k::a) j=true:=by rw[aP];exact C55 _ (aP.1 c)
      rw[this]at b;cases b
   exact h j x d.2 (by rw[A8 d.1];exact f)
abbrev auto5:AL.Auto:=⟨[qAcc,qEnd,qSp,qSet,qSet,qSta],5⟩
theorem pE{gf:Fr}{ob:Obs}(i n:Int)(h:B5 ob 3=some (.box [.p (.v (.int .i64 n))])) :
  AL.Met prog 130 [P7 i,.one (.ref 3 0)] gf ob [] (fun rs ob'=>rs=[oA (decide (0<=i/\i<n))]/\ob'=ob):=by
 refine AL.Met.intro Tryz.func130 F1 A0 A0 A0 (O6 ?_);refine D7 A0 A0 A0 A0 (fun a=>by rw[a];exact E7 A0 h A0) ?_;refine I2 ?_;refine D1 V9 iV (fun _ _ h=>h) ⟨?_,rfl⟩;rw[and_pick]
abbrev aa:Str:=[97,97]
structure AS where
 opn:List Int
 th:List AL.Thread
 sn:List Bool
def topI(x:AS):Int:=I0 x.opn (x.opn.length-1)
def addStep(a:Nat)(fr:Int)(x:AS):AS :=
 if J3 x.sn (topI x).toNat=true then ⟨x.opn.take (x.opn.length-1),x.th,x.sn⟩
 else ⟨x.opn.take (x.opn.length-1)++S0 (auto5.States.getD (topI x).toNat V8) (decide ((a:Int)=0)) (decide ((a:Int)=(aa.length:Int))),x.th++[⟨topI x,fr⟩],x.sn.set (topI x).toNat true⟩
def addIt(a:Nat)(fr:Int)(x:AS):Nat->AS
 | 0=>x
 | n+1=>addStep a fr (addIt a fr x n)
def WL(y:AS):Prop:=0<y.opn.length/\y.opn.length<=10/\0<=topI y/\topI y<6/\y.sn.length=6/\y.th.length<=10
instance (y:AS):Decidable (WL y):=by unfold WL;infer_instance
def addOk(a:Nat)(fr:Int)(x:AS)(n:Nat):Bool:=(List.range n).all (fun k=>decide (WL (addIt a fr x k)))
end Go.Proofs.YtabbdaafimcjhaaGreatDoor
