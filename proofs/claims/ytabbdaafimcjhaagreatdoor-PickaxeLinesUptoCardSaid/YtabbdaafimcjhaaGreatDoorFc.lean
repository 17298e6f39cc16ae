
/- Walks of the program's functions. -/
import Derived.Test.YtabbdaafimcjhaaGreatDoorFb
import Derived.RecoverIn
set_option linter.all false
namespace Go.Proofs.YtabbdaafimcjhaaGreatDoor
open Go Go.AL
set_option maxRecDepth 100000
set_option maxHeartbeats 4000000
abbrev pU(s:Str)(a d:Nat):Ob:=.box [.p (.v (.string ⟨s.toArray⟩)),.p (.v (.int .i64 a)),.p (.v (.int .i64 d)),.mut 811]
abbrev dD(l:List AL.Node):Ob:=.grow 154 AL.Node 8 N7 l
abbrev b8(c:UInt8):S1:=.one (.p (.v (.int .u8 c.toNat)))
abbrev G8:S1:=.one (.ref 810 0)
theorem jR{gf:Fr}{ob:Obs}(s:Str)(a d:Nat)(ha:a<=s.length)(_hs:s.length<=1000)(c:B6 ob 810=some (pU s a d)) :
  AL.Met Tryz.prog 151 [G8] gf ob [] (fun g ob'=>g=[b8 (s.getD a 0),mG (decide (a<s.length))]/\ob'=ob):=by
 refine AL.Met.intro Tryz.func151 F2 A0 A0 A0 (zz 11 ?_);refine D1 (D8 A0 c A0) A0 A0 (zz 3 ?_);refine D1 (D8 A0 c A0) A0 A0 ?_;refine zc 3 (fun e=>?_) fun e=>?_
 ·have b:a=s.length:=by have b:=A1 e;omega
  refine zz 6 ?_;refine C7 (sY rfl rfl rfl) gM (fun _ _ h=>h) ⟨?_,rfl⟩;rw[b,A5 B3,B46,B56 B3];rfl
 ·have b:a<s.length:=by have b:=A3 e;omega
  have f:s[((a:Nat):Int).toNat]?=some (s.getD a 0):=by rw[B45,B46,B44 b];rfl
  refine zz 6 ?_;refine D1 (D8 A0 c A0) A0 A0 (zz 3 ?_);refine D1 (D8 A0 c A0) A0 A0 (D1 (G9 A0 A0 B3 f) A0 A0 (zz 4 ?_));refine C7 (sY rfl rfl rfl) gM (fun _ _ h=>h) ⟨?_,rfl⟩;rw[A4 b]
theorem v7{gf:Fr}{ob:Obs}(s:Str)(a d:Nat)(c:UInt8)(ha:a<=s.length)(o:s.length<=1000)(g:B6 ob 810=some (pU s a d)) :
  AL.Met Tryz.prog 105 [G8,b8 c] gf ob [] (fun q ob'=>q=[mG (decide (s[a]?=some c))]/\ob'=(810,pU s (if s[a]?=some c then a+1 else a) d)::ob):=by
 have p:∀x y:UInt8,((x.toNat:Int)=y.toNat)↔x=y:=fun x y=>⟨fun h=>UInt8.toNat_inj.1 B3,fun h=>by rw[h]⟩
 refine AL.Met.introH Tryz.func105 F2 rfl rfl rfl (fun m=>?_);refine C1 (B13 (l:=[(0,.s G8),(1,.s (b8 c))]) (ob':=(810,pU s a d)::ob) lf m I8 (C8 (L:=[(810,_)]) ⟨g,trivial⟩ N0)) ?_;refine zz 7 ?_;refine H8 (jR s a d ha o A0) A0 A0 A0 ?_;rintro _ _ ⟨rfl,rfl⟩;refine zz 17 ?_;by_cases e:s[a]?=some c
 ·have f:a<s.length:=(List.getElem?_eq_some_iff.1 e).1;have n:s.getD a 0=c:=by rw[B46,e];rfl
  rw[A4 e,A6 e];refine zc 0 (fun b=>?_) fun b=>?_
  ·rw[aI,A4 f,n]at b;simp at b
  ·refine zz 17 ?_;exact C7 (F1 rfl rfl) gM (C8 (L:=[(810,_)]) ⟨rfl,trivial⟩ MS) ⟨rfl,rfl⟩
 ·rw[A5 e,A7 e];refine zc 0 (fun b=>?_) fun b=>?_
  ·refine zz 5 ?_;exact C7 (F1 rfl rfl) gM (fun _ _ h=>h) ⟨rfl,rfl⟩
  ·rw[aI,B72]at b;have i:a<s.length:=by simpa using b.1
   have j:=A3 b.2;exfalso;refine e ?_;have k:s.getD a 0=c:=(p _ _).1 (Decidable.not_not.1 j);rw[<-k,B46,B44 i];rfl
theorem b5w{p:Prop}(h:p:=by repeat (first | exact X0 | refine tail_drop rfl ?_ | refine X1 rfl ?_ | refine kS _ ?_ | refine cV _ ?_)):p:=h
theorem b9w{p:Prop}(h:p:=by repeat (first | exact N0 | refine R9 rfl ?_ | refine obs_fgt _ ?_)):p:=h
theorem b9x{p:Prop}(h:p:=by (simp only[B48,List.length_singleton];omega)):p:=h
theorem tL{gf:Fr}{ob:Obs}(s:Str)(a d:Nat)(l:List AL.Node)(n:AL.Node)(x:l.length<=1000)(m:B6 ob 810=some (pU s a d))(q:B6 ob 811=some (dD l)) :
  AL.Met Tryz.prog 153 [G8,(aG n).s1] gf ob [811] (fun w ob'=>w=[N8 l.length]/\ob'=(810,pU s a d)::(811,dD (l++[n]))::Obs.forget 811 ob):=by
 refine AL.Met.introH Tryz.func153 F2 rfl rfl rfl (fun k=>?_);refine C1 (B14 811 (l:=[(0,.s G8),(1,.s (aG n).s1)]) (L:=[(810,_),(811,_)]) lf k I8 ⟨m,q,trivial⟩) ?_;refine zz 6 ?_;refine C1 (B13 (gf':=Fr.forget 811 gf) (l:=[(0,.s G8),(3,.s (.one (.eref Unit 8 (fun _ j=>(cellsOf N7 n 0 8).getD j (.v undef)) () 0)))]) (ob':=[(810,pU s a d),(811,dD l)]++Obs.forget 811 ob) lf (cX k) I8 (fun _ _ h=>h)) ?_;refine M6 [10,7] [[],[7],[10,7]] [(7,([811],[9])),(10,([],[]))] [(0,[]),(1,[]),(2,[]),(3,[]),(4,[]),(5,[]),(6,[]),(7,[]),(8,[7]),(9,[7]),(10,[7])] [(0,[7])] D6 D6 (C5 A0 A0 D6 A0 A0 (C6 A0 A0) (C5 A0 A0 D6 A0 A0 (C6 A0 A0) (C5 A0 A0 D6 A0 A0 (E7 A0) (C5 A0 A0 D6 A0 A0 (F0 A0) (C5 A0 A0 D6 A0 A0 (D8 A0 A0 A0) (C5 A0 A0 D6 A0 A0 (T9 A0 A0) (C5 A0 A0 D6 A0 A0 (C0 (c:=N7) (ys:=[n]) (C3 A0 A0 A0 A0 E6) A0 A0 A0) (W5 A0 A0 D6 A0 A0 (kT (fun i b=>P0 (Q1 b A0) A0 (Q1 b A0) (.pure _ _ _ _) SC A0)) A0 (C5 A0 A0 D6 A0 A0 (E7 A0) (C5 A0 A0 D6 A0 A0 (F0 A0) (W5 A0 A0 D6 A0 A0 (fJ (fun i b=>K0 TySz.out (Q1 b A0) A0 (Q1 b A0) A0 A0 A0)) A0 ?_)))))))))));refine rI (ks:=[811]) rfl D6 rfl ?_ ?_
 ·refine F5 A0 A0 D6 A0 A0 (C6 A0 A0) ?_;exact jQ
 refine zz 7 ?_;refine B0 (aL A0 A0 b9x) A0 (zz 3 ?_);refine C7 (F1 rfl rfl) b5w (C8 (L:=[(810,_),(811,_)]) ⟨rfl,rfl,trivial⟩ b9w) ⟨?_,rfl⟩;rw[B48,List.length_singleton]
 congr 5
 omega
theorem A65{gf:Fr}{ob:Obs}(s:Str)(a d:Nat)(l:List AL.Node)(z:Set4)(f:l.length<=1000)(b:B6 ob 810=some (pU s a d))(c:B6 ob 811=some (dD l)) :
  AL.Met Tryz.prog 223 [G8,(Q5 z).s1] gf ob [811] (fun g ob'=>g=[N8 l.length]/\ob'=(810,pU s a d)::(811,dD (l++[⟨1,z,0,0,[]⟩]))::Obs.forget 811 ob):=by
 refine AL.Met.introH Tryz.func223 F2 rfl rfl rfl (fun e=>?_);refine C1 (B14 811 (l:=[(0,.s G8),(1,.s (Q5 z).s1)]) (L:=[(810,_),(811,_)]) lf e I8 ⟨b,c,trivial⟩) ?_;refine zz 10 ?_;refine fF ((B16 Int 1 D2 7 7 A0 A0)) (H8 (tL s a d l ⟨1,z,0,0,[]⟩ f A0 A0) A0 A0 A0 ?_);rintro _ _ ⟨rfl,rfl⟩;refine zz 3 ?_;exact C7 (F1 rfl rfl) b5w (C8 (L:=[(810,_),(811,_)]) ⟨rfl,rfl,trivial⟩ b9w) ⟨rfl,rfl⟩
theorem TJ{gf:Fr}{ob:Obs}(s:Str)(a d:Nat)(l:List AL.Node)(b:Int)(kids:List Int)(m:2<=kids.length)(j:l.length<=1000)(f:B6 ob 810=some (pU s a d))(g:B6 ob 811=some (dD l)) :
  AL.Met Tryz.prog 106 [G8,N8 b,.one (.p (.list Int 1 D2 kids))] gf ob [811] (fun k ob'=>k=[N8 l.length]/\ob'=(810,pU s a d)::(811,dD (l++[⟨b,⟨0,0,0,0⟩,0,0,kids⟩]))::Obs.forget 811 ob):=by
 refine AL.Met.introH Tryz.func106 F2 rfl rfl rfl (fun h=>?_);refine C1 (B14 811 (l:=[(0,.s G8),(1,.s (N8 b)),(2,B8 Int 1 D2 kids)]) (L:=[(810,_),(811,_)]) lf h I8 ⟨f,g,trivial⟩) ?_;refine zc 16 (fun c=>?_) fun c=>?_
 ·have:=A1 c;omega
 refine zc 5 (fun c=>?_) fun c=>?_
 ·have:=A1 c;omega
 refine zz 7 ?_;refine H8 (tL s a d l ⟨b,⟨0,0,0,0⟩,0,0,kids⟩ j A0 A0) A0 A0 A0 ?_;rintro _ _ ⟨rfl,rfl⟩;refine zz 3 ?_;exact C7 (F1 rfl rfl) b5w (C8 (L:=[(810,_),(811,_)]) ⟨rfl,rfl,trivial⟩ b9w) ⟨rfl,rfl⟩
theorem TK{gf:Fr}{ob:Obs}(b x:Int) :
  AL.Met Tryz.prog 106 [G8,N8 b,.one (.p (.list Int 1 D2 [x]))] gf ob [] (fun d ob'=>d=[N8 x]/\ob'=ob):=by
 have c:[x][Int.toNat 0]?=some x:=rfl;refine AL.Met.intro Tryz.func106 F2 A0 A0 A0 ?_;refine zc 16 (fun a=>?_) fun a=>?_
 ·exact absurd (A1 a) dV
 refine zc 5 (fun a=>?_) fun a=>?_
 ·refine zz 3 ?_;refine B0 (A9 A0 (.pure _ _ _ _) A0 B3 c) A0 (zz 4 ?_);exact C7 (F1 rfl rfl) gM (fun _ _ h=>h) ⟨rfl,rfl⟩
 ·exact absurd rfl (A3 a)
theorem A66(st:AL.State)(b e:Bool):FnOk Tryz.prog 174 [VU st,E1 b,E1 e] (fun rs=>rs=[K8 (P5 st b e)]):=by
 refine FnOk.intro Tryz.func174 F2 A0 A0 A0 A0 (zz 2 ?_);refine C4 (n8 3 A0 A0 A0) A0 (B0 (E8 _ 1 D2) A0 ?_);refine zc 13 (fun a=>?_) fun a=>?_
 ·have g:st.Kind=1:=A1 a;refine zz 6 ?_;refine B0 (C0 (c:=D2) (ys:=[st.Next,st.Other]) (C3 A0 A0 A0 A0 (C3 A0 A0 A0 A0 E6)) A0 A0 A0) A0 (zz 3 ?_);exact B2 (rs:=[K8 [st.Next,st.Other]]) (G6 rfl rfl rfl) (by unfold P5;simp[g])
 have g:¬st.Kind=1:=A3 a;refine zc 5 (fun a=>?_) fun a=>?_
 ·have d:st.Kind=2:=A1 a;refine zc 4 (fun a=>?_) fun a=>?_
  ·refine zz 4 ?_;refine B0 (C0 (c:=D2) (ys:=[st.Next]) (C3 A0 A0 A0 A0 E6) A0 A0 A0) A0 (zz 3 ?_);exact B2 (rs:=[K8 [st.Next]]) (G6 rfl rfl rfl) (by unfold P5;simp[d,a])
  ·refine zz 3 ?_;refine B0 (E8 _ 1 D2) A0 (zz 2 ?_);exact B2 (rs:=[K8 []]) (G6 rfl rfl rfl) (by unfold P5;simp[d,a])
 have d:¬st.Kind=2:=A3 a;refine zc 5 (fun a=>?_) fun a=>?_
 ·have f:st.Kind=3:=A1 a;refine zc 4 (fun a=>?_) fun a=>?_
  ·refine zz 4 ?_;refine B0 (C0 (c:=D2) (ys:=[st.Next]) (C3 A0 A0 A0 A0 E6) A0 A0 A0) A0 (zz 3 ?_);exact B2 (rs:=[K8 [st.Next]]) (G6 rfl rfl rfl) (by unfold P5;simp[f,a])
  ·refine zz 3 ?_;refine B0 (E8 _ 1 D2) A0 (zz 2 ?_);exact B2 (rs:=[K8 []]) (G6 rfl rfl rfl) (by unfold P5;simp[f,a])
 have f:¬st.Kind=3:=A3 a;refine zz 3 ?_;refine B0 (E8 _ 1 D2) A0 (zz 2 ?_);exact B2 (rs:=[K8 []]) (G6 rfl rfl rfl) (by unfold P5;simp[g,d,f])
theorem OQ(n:AL.Node)(h:0<=n.Min/\n.Min<=100/\(n.Max = -1\/n.Min<=n.Max/\n.Max<=100)):FnOk Tryz.prog 180 [aG n] (fun i=>i=[E1 true]):=by
 refine FnOk.intro Tryz.func180 F2 A0 A0 A0 A0 (zz 20 ?_);refine J5 A0 A0 A0 (.gd (.val _)) A0 (fun e=>by obtain⟨b,c⟩:=P9 e;(try rw[b]);(try rw[c]);exact G7 A0) ?_;refine J5 A0 A0 A0 (.gd (.val _)) A0 (fun e=>by obtain⟨b,c⟩:=P9 e;(try rw[b]);(try rw[c]);exact H7 A0 A0) ?_;refine J5 A0 A0 A0 (.gd (.val _)) A0 (fun e=>by obtain⟨b,c⟩:=P9 e;(try rw[b]);(try rw[c]);exact G7 A0) ?_;refine J5 A0 A0 A0 (.gd (.val _)) A0 (fun e=>by obtain⟨b,c⟩:=P9 e;(try rw[b]);(try rw[c]);exact H7 A0 A0) ?_;refine J5 A0 A0 A0 (.gd (.val _)) A0 (fun e=>by obtain⟨b,c⟩:=P9 e;(try rw[b]);(try rw[c]);exact zU A0 A0) ?_;refine zz 1 ?_;refine J5 A0 A0 A0 (.gd (.gd (.val _))) A0 (fun e=>by obtain⟨b,c,f⟩:=oQ e;(try rw[b]);(try rw[c]);(try rw[f]);exact G7 A0) ?_;refine J5 A0 A0 A0 (.gd (.gd (.val _))) A0 (fun e=>by obtain⟨b,c,f⟩:=oQ e;(try rw[b]);(try rw[c]);(try rw[f]);exact H7 A0 A0) ?_;refine J5 A0 A0 A0 (.gd (.gd (.val _))) A0 (fun e=>by obtain⟨b,c,f⟩:=oQ e;(try rw[b]);(try rw[c]);(try rw[f]);exact MW A0 A0) ?_;refine J5 A0 A0 A0 (.gd (.val _)) A0 (fun e=>by obtain⟨b,c⟩:=P9 e;(try rw[b]);(try rw[c]);exact z6 A0 (fun h=>by first | rfl | (rw[h];rfl)) (fun h=>by first | rfl | (rw[h];rfl))) ?_;refine zz 5 ?_;refine B2 (G6 A0 A0 A0) ?_;simp only[N1,or_pick];rw[A4 B3]
theorem x9{n:AL.Node}{i:Int}(h:m7 n i=true):(∀k∈n.Kids,0<=k/\k<i)/\((n.Kind=0\/n.Kind=1\/n.Kind=2\/n.Kind=3)/\n.Kids.length=0\/(n.Kind=4\/n.Kind=5)/\2<=n.Kids.length\/n.Kind=6/\n.Kids.length=1/\0<=n.Min/\n.Min<=100/\(n.Max = -1\/n.Min<=n.Max/\n.Max<=100)):=by
 unfold m7 at h;rw[B47,List.all_eq_true]at h;refine⟨fun k b=>A1 (h.1 k b),?_⟩;have a:=h.2;split at a
 ·rename_i b;exact .inl ⟨b,A1 a⟩
 ·split at a
  ·rename_i b;exact .inr (.inl ⟨b,A1 a⟩)
  ·split at a
   ·rename_i b;exact .inr (.inr ⟨b,A1 a⟩)
   ·cases a
theorem d6{L:List AL.Node}(h:eF L=0):1<=L.length/\L.length<=4000/\∀(i:Nat) n,L[i]?=some n->m7 n i=true:=by
 unfold eF at h;split at h
 ·cases h
 ·split at h
  ·rename_i d b;refine⟨by omega,by omega,fun i n a=>?_⟩;have c:=List.all_eq_true.1 b i (List.mem_range.2 (List.getElem?_eq_some_iff.1 a).1)
   rwa[B46,a]at c
  ·cases h
theorem A67(n:AL.Node)(i:Int)(B:m7 n i=true)(k:n.Kids.length<=4000):FnOk Tryz.prog 154 [aG n,D3 i] (fun rs=>rs=[E1 true]):=by
 obtain⟨E,G⟩:=x9 B;refine FnOk.intro Tryz.func154 F2 A0 A0 A0 A0 (zz 14 ?_);refine C2 (X:=Nat) (fun j=>([(1,B7 i),(2,.s (.one (.eref Unit 8 (fun _ j=>(cellsOf N7 n 0 8).getD j (.v undef)) () 0))),(8,B8 Int 1 D2 n.Kids),(9,B7 n.Kids.length),(10,B7 j)],[])) (fun j=>j<=n.Kids.length) (fun j=>n.Kids.length-j) 0 (Nat.zero_le _) (Sees.of lf lo) ?_;intro j C;dsimp only at C ⊢;refine zc 5 (fun a=>?_) fun a=>?_
 ·have h:j<n.Kids.length:=by have:=A1 a;omega
  have l:=getI h;have F:=E _ (B52 l);refine zz 5 ?_;refine B0 (A9 A0 (.pure _ _ _ _) A0 B3 l) A0 ?_;refine zc 13 (fun a=>?_) fun a=>?_
  ·simp only[or_pick]at a;have:=A1 a;omega
  refine zz 5 ?_;exact⟨j+1,by omega,by omega,Sees.of lf lo⟩
 refine zc 14 (fun a=>?_) fun a=>?_
 ·have c:=A1 a;have b:decide ((n.Kids.length:Int)=0)=true:=A4 B3;refine zc 1 (fun a=>?_) fun a=>?_;rotate_left
  ·exact absurd c (A3 a)
  refine zz 9 ?_;exact B2 (G6 rfl rfl rfl) (by rw[b])
 have m:=A3 a;refine zc 5 (fun a=>?_) fun a=>?_
 ·have c:=A1 a;have b:decide ((n.Kids.length:Int)=0)=true:=A4 B3;refine zc 1 (fun a=>?_) fun a=>?_;rotate_left
  ·exact absurd c (A3 a)
  refine zz 9 ?_;exact B2 (G6 rfl rfl rfl) (by rw[b])
 have q:=A3 a;refine zc 5 (fun a=>?_) fun a=>?_
 ·have c:=A1 a;have b:decide ((n.Kids.length:Int)=0)=true:=A4 B3;refine zc 1 (fun a=>?_) fun a=>?_;rotate_left
  ·exact absurd c (A3 a)
  refine zz 9 ?_;exact B2 (G6 rfl rfl rfl) (by rw[b])
 have w:=A3 a;skip;refine zc 4 (fun a=>?_) fun a=>?_
 ·have c:=A1 a;have b:decide ((n.Kids.length:Int)=0)=true:=A4 B3;refine zz 9 ?_;exact B2 (G6 rfl rfl rfl) (by rw[b])
 have x:=A3 a;refine zc 6 (fun a=>?_) fun a=>?_
 ·have c:=A1 a;have b:decide ((n.Kids.length:Int)>=2)=true:=A4 B3;refine zc 1 (fun a=>?_) fun a=>?_;rotate_left
  ·exact absurd c (A3 a)
  refine zz 9 ?_;exact B2 (G6 rfl rfl rfl) (by rw[b])
 have y:=A3 a;skip;refine zc 4 (fun a=>?_) fun a=>?_
 ·have c:=A1 a;have b:decide ((n.Kids.length:Int)>=2)=true:=A4 B3;refine zz 9 ?_;exact B2 (G6 rfl rfl rfl) (by rw[b])
 have z:=A3 a;refine zc 5 (fun a=>?_) fun a=>?_
 ·have c:=A1 a;have d:decide ((n.Kids.length:Int)=1)=true:=A4 B3;refine zz 7 ?_;refine J4 A0 A0 A0 d (zz 1 ?_);refine J4 A0 A0 A0 d (E3 (OQ n B3) (B0 (L6 A0 (d) A0) A0 (zz 3 ?_)));exact B2 (G6 rfl rfl rfl) rfl
 have A:=A3 a;exfalso;omega
theorem TL(L:List AL.Node)(f:eF L=0)(hkl:∀n∈L,n.Kids.length<=4000):FnOk Tryz.prog 107 [N9 L] (fun rs=>rs=[D3 0]):=by
 obtain⟨j,k,h⟩:=d6 f;refine FnOk.intro Tryz.func107 F2 A0 A0 A0 A0 ?_;refine zc 16 (fun a=>?_) fun a=>?_
 ·simp only[or_pick]at a;have:=A1 a;omega
 refine zz 9 ?_;refine C2 (X:=Nat) (fun i=>([(13,.s (N9 L).s1),(14,B7 L.length),(15,B7 i)],[])) (fun i=>i<=L.length) (fun i=>L.length-i) 0 (Nat.zero_le _) (Sees.of lf lo) ?_;intro i g;dsimp only at g ⊢;refine zc 5 (fun a=>?_) fun a=>?_
 ·have c:i<L.length:=by have:=A1 a;omega
  obtain⟨n,l⟩:∃n,n=L[i]:=⟨_,rfl⟩
  have d:L[i]?=some n:=by rw[l];simp[c]
  have b:=h i n d;refine zz 6 ?_;refine B0 (A9 A0 (.pure _ _ _ _) A0 B3 d) A0 (zz 1 ?_);refine C4 (H9 4 A0) A0 (zz 7 ?_);refine E3 (A67 n i b (hkl n (B52 d))) ?_;refine zc 2 (fun a=>?_) fun a=>?_
  ·cases a
  refine zz 5 ?_;exact⟨i+1,by omega,by omega,Sees.of lf lo⟩
 refine zz 6 ?_;exact B2 (rs:=[D3 0]) (G6 rfl rfl rfl) rfl
theorem lA(w:List Int)(a:∀v∈w,0<=v/\v<=4001)(k:Int):0<=H4 w k.toNat/\H4 w k.toNat<=4001:=by
 unfold H4;cases h:w[k.toNat]? with
 | none=>simp
 | some v=>exact a v (B52 h)
theorem b0y{p:Prop}(h:p:=by ((try dsimp only);omega)):p:=h
theorem TM(n:AL.Node)(w:List Int)(i:Int)(K:m7 n i=true)(G:n.Kids.length<=4000)(T:i<=w.length)(R:∀v∈w,0<=v/\v<=4001):FnOk Tryz.prog 108 [aG n,K8 w] (fun rs=>rs=[D3 (T0 n w)]):=by
 obtain⟨E,S⟩:=x9 K;have C:∀k∈n.Kids,0<=k/\k<w.length:=fun k C=>by have:=E k C;omega
 refine FnOk.intro Tryz.func108 F2 A0 A0 A0 A0 (zz 18 ?_);refine C2 (X:=Nat×Int) (fun x=>([(1,B8 Int 1 D2 w),(2,.s (.one (.eref Unit 8 (fun _ j=>(cellsOf N7 n 0 8).getD j (.v undef)) () 0))),(5,B7 x.2),(9,B8 Int 1 D2 n.Kids),(10,B7 n.Kids.length),(11,B7 x.1)],[])) (fun x=>x.1<=n.Kids.length/\0<=x.2/\x.2<=4001/\n6 w x.2 (n.Kids.drop x.1)=n6 w 0 n.Kids) (fun x=>n.Kids.length-x.1) (0,0) ⟨Nat.zero_le _,by decide,by decide,rfl⟩ (Sees.of lf lo) ?_;rintro⟨j,a⟩ ⟨L,I,J,h⟩;dsimp only at L I J h ⊢;refine zc 5 (fun b=>?_) fun b=>?_
 ·have y:j<n.Kids.length:=by have:=A1 b;omega
  obtain⟨k,q⟩:∃k,k=n.Kids[j]:=⟨_,rfl⟩
  have H:n.Kids[j]?=some k:=by rw[q];simp[y]
  have M:=C k (B52 H);have hb:=lA w R k;have F:w[k.toNat]?=some (H4 w k.toNat):=by
   unfold H4;rw[B44 B3];rfl
  rw[B55 y,<-q,n6]at h;refine zz 5 ?_;refine B0 (A9 A0 (.pure _ _ _ _) A0 B3 H) A0 (zz 7 ?_);refine B0 (A9 A0 (.pure _ _ _ _) A0 B3 F) A0 (zz 9 ?_);exact⟨(j+1,S9 (a+H4 w k.toNat) 4001),⟨by dsimp only;omega,by dsimp only[S9];split<;>omega,by dsimp only[S9];split<;>omega,h⟩,by dsimp only;omega,Sees.of lf lo⟩
 have B:j=n.Kids.length:=by have:=A3 b;omega
 have h:a=n6 w 0 n.Kids:=by
  rw[B,List.drop_length]at h;exact h
 have m:T0 n w=if n.Kind=4 then a else if n.Kind=5 then S9 (a+n.Kids.length-1) 4001 else if n.Kind=6 then (if n.Max<0 then S9 (n.Min*a+a+1) 4001 else S9 (n.Min*a+(n.Max-n.Min)*(a+1)) 4001) else 1:=by
  rw[h];rfl
 refine zc 13 (fun b=>?_) fun b=>?_
 ·have l:n.Kind=4:=A1 b;refine zz 6 ?_;exact B2 (rs:=[D3 a]) (G6 rfl rfl rfl) (by rw[m,A6 l])
 have c:¬n.Kind=4:=A3 b;refine zc 5 (fun b=>?_) fun b=>?_
 ·have l:n.Kind=5:=A1 b;refine zz 12 ?_;exact B2 (G6 rfl rfl rfl) (by rw[m,A7 c,A6 l];rfl)
 have d:¬n.Kind=5:=A3 b;refine zc 5 (fun b=>?_) fun b=>?_
 ·have l:n.Kind=6:=A1 b;have N:0<=n.Min*a:=Int.mul_nonneg B3 B3;have O:n.Min*a<=100*4001:=Int.mul_le_mul B3 B3 B3 B3;refine zc 7 (fun b=>?_) fun b=>?_
  ·have A:n.Max<0:=A1 b;refine zz 13 ?_;exact B2 (G6 rfl rfl rfl) (by rw[m,A7 c,A7 d,A6 l,A6 A];rfl)
  ·have A:¬n.Max<0:=A3 b;have P:0<=(n.Max-n.Min)*(a+1):=Int.mul_nonneg B3 B3;have Q:(n.Max-n.Min)*(a+1)<=100*4002:=Int.mul_le_mul B3 B3 B3 B3;refine zz 11 ?_;refine B0 (aL A0 A0 b0y) A0 (zz 8 ?_);exact B2 (G6 rfl rfl rfl) (by rw[m,A7 c,A7 d,A6 l,A7 A];rfl)
 have z:¬n.Kind=6:=A3 b;refine zz 6 ?_;exact B2 (rs:=[D3 1]) (G6 rfl rfl rfl) (by rw[m,A7 c,A7 d,A7 z])
def FC(L:List AL.Node)(i:Nat):List Int:=Z7 (L.take i) 0 (List.replicate L.length 0)
theorem qN:∀(l:List AL.Node) (i:Nat) (w:List Int),(Z7 l i w).length=w.length
 | [],_,_=>rfl
 | n::r,i,w=>by rw[Z7,qN r,B65]
theorem nL:∀(l:List AL.Node) (n:AL.Node) (i:Nat) (w:List Int),Z7 (l++[n]) i w=(Z7 l i w).set (i+l.length) (T0 n (Z7 l i w))
 | [],n,i,w=>rfl
 | x::r,n,i,w=>by
  rw[B71,Z7,nL r,Z7,B49,show i+1+r.length=i+(r.length+1) by omega]
theorem tM{L:List AL.Node}{i:Nat}{n:AL.Node}(h:L[i]?=some n):FC L (i+1)=(FC L i).set i (T0 n (FC L i)):=by
 have a:=(List.getElem?_eq_some_iff.1 h).1;unfold FC;rw[List.take_add_one,h,Option.toList_some,nL,B54,Nat.zero_add,Nat.min_eq_left B3]
theorem oV(L:List AL.Node)(i:Nat):(FC L i).length=L.length:=by unfold FC;rw[qN,B74]
theorem lB(L:List AL.Node):FC L L.length=D9 L:=by unfold FC D9;rw[B51]
theorem oW(w:List Int)(b:∀v∈w,0<=v/\v<=4001):∀(c:List Int) (a:Int),0<=a/\a<=4001->0<=n6 w a c/\n6 w a c<=4001
 | [],_,h=>h
 | k::r,a,h=>by
  have:=lA w b k;exact oW w b r _ (by unfold S9;split<;>omega)
theorem TN{n:AL.Node}{i:Int}(f:m7 n i=true){w:List Int}(j:∀v∈w,0<=v/\v<=4001):0<=T0 n w/\T0 n w<=4001:=by
 obtain⟨_,l⟩:=x9 f;obtain⟨c,d⟩:=oW w j n.Kids 0 F2;have b:∀a:Int,0<=a->0<=S9 a 4001/\S9 a 4001<=4001:=fun a ha=>by unfold S9;split<;>omega
 unfold T0;obtain⟨s,e⟩:∃s,s=n6 w 0 n.Kids:=⟨_,rfl⟩
 rw[<-e]at c d;rw[<-e];dsimp only;split
 ·exact⟨c,d⟩
 split
 ·exact b _ B3
 split
 ·rename_i k;have g:0<=n.Min*s:=Int.mul_nonneg B3 c;split
  ·exact b _ B3
  ·have h:0<=(n.Max-n.Min)*(s+1):=Int.mul_nonneg B3 B3;exact b _ B3
 ·decide
theorem KF{L:List AL.Node}(a:∀(i:Nat) n,L[i]?=some n->m7 n i=true):∀i,i<=L.length->∀v∈FC L i,0<=v/\v<=4001
 | 0,_,v,hv=>by
  unfold FC at hv;rw[List.take_zero,Z7]at hv;rw[(List.mem_replicate.1 hv).2];decide
 | i+1,hi,v,hv=>by
  have b:L[i]?=some L[i]:=B44 B3;rw[tM b]at hv;rcases List.mem_or_eq_of_mem_set hv with h | rfl
  ·exact KF a i B3 v h
  ·exact TN (a i _ b) (KF a i B3)
theorem xL(L:List AL.Node)(l:eF L=0)(hkl:∀n∈L,n.Kids.length<=4000):FnOk Tryz.prog 65 [N9 L] (fun rs=>rs=[K8 (D9 L)]):=by
 obtain⟨q,v,j⟩:=d6 l;refine FnOk.intro Tryz.func65 F2 A0 A0 A0 A0 (zz 8 ?_);refine C4 (l7 764 Int D2 0 A0 A0 B3 B3 (fun _=>by first | exact⟨⟨rfl,rfl⟩,trivial⟩ | exact⟨F6 _ _ _,trivial⟩ | exact⟨F6 _ _ _,⟨rfl,rfl⟩,F6 _ _ _,trivial⟩) b7w) A0 ?_;refine zz 10 ?_;refine C2 (X:=Nat) (fun i=>([(3,.s (.one (.mut 764))),(9,.s (N9 L).s1),(10,B7 L.length),(11,B7 i)],[(764,.arr Int 1 D2 (FC L i))])) (fun i=>i<=L.length) (fun i=>L.length-i) 0 (Nat.zero_le _) ?_ ?_
 ·rw[show FC L 0=List.replicate ((L.length:Nat):Int).toNat 0 by rw[B45];rfl];exact Sees.of lf lo
 intro i g;dsimp only at g ⊢;have y:=oV L i;have hb:=KF j i g;refine zc 5 (fun f=>?_) fun f=>?_
 ·have d:i<L.length:=by have:=A1 f;omega
  obtain⟨n,w⟩:∃n,n=L[i]:=⟨_,rfl⟩
  have b:L[i]?=some n:=by rw[w];simp[d]
  have x:(FC L i)[i]?=some ((FC L i)[i]'B3):=B44 B3;refine zz 6 ?_;refine B0 (A9 A0 (.pure _ _ _ _) A0 B3 b) A0 (zz 1 ?_);refine C4 (H9 5 A0) A0 (zz 8 ?_);refine A51 (Sees.freeze (k:=764) A0) (TM n (FC L i) i (j i n b) (hkl n (B52 b)) B3 hb) A0 A0 A0 ?_;rintro _ rfl;refine⟨fun _ _ _ h=>h,?_⟩;refine zz 1 ?_;refine V1 (G5 TySz.out A0 A0 b2y A0 A0) (zz 1 ?_);rw[B45,<-tM b];refine zz 4 ?_;exact⟨i+1,by omega,by omega,Sees.of lf lo⟩
 have c:i=L.length:=by have:=A3 f;omega
 rw[c,lB];refine C1 (Sees.freeze (k:=764) A0) (zz 7 ?_);exact B2 (rs:=[K8 (D9 L)]) (G6 rfl rfl rfl) rfl
def pV(L:List AL.Node):Int:=H4 (D9 L) (L.length-1)
theorem xM(L:List AL.Node)(b:eF L=0)(hkl:∀n∈L,n.Kids.length<=4000):FnOk Tryz.prog 64 [N9 L] (fun rs=>rs=[D3 (pV L),D3 0]):=by
 obtain⟨d,f,k⟩:=d6 b;have j:(D9 L).length=L.length:=by rw[<-lB];exact oV L _
 refine FnOk.intro Tryz.func64 F2 A0 A0 A0 A0 (zz 9 ?_);refine E3 (TL L b hkl) ?_;refine zc 7 (fun c=>?_) fun c=>?_
 ·cases c
 refine zz 2 ?_;have i:(D9 L)[((L.length:Int)-1).toNat]?=some (pV L):=by
  rw[show ((L.length:Int)-1).toNat=L.length-1 by omega,pV,H4,B44 B3];rfl
 refine zz 2 ?_;refine E3 (xL L b hkl) (zz 3 ?_);refine B0 (A9 A0 (.pure _ _ _ _) A0 B3 i) A0 (zz 5 ?_);exact B2 (rs:=[D3 (pV L),D3 0]) (S6 rfl rfl rfl rfl rfl) rfl
abbrev pat4:Str:=[94,97,43,36]
abbrev ndS:AL.Node:=⟨2,⟨0,0,0,0⟩,0,0,[]⟩
abbrev ndA:AL.Node:=⟨1,⟨0,8589934592,0,0⟩,0,0,[]⟩
abbrev ndR:AL.Node:=⟨6,⟨0,0,0,0⟩,1,-1,[1]⟩
abbrev ndE:AL.Node:=⟨3,⟨0,0,0,0⟩,0,0,[]⟩
abbrev ndC:AL.Node:=⟨4,⟨0,0,0,0⟩,0,0,[0,2,3]⟩
def atI:Nat->Nat
 | 0=>0
 | 1=>1
 | 2=>3
 | _=>4
theorem BK(k q:Nat)(o:Ob):(o.forget q).forget k=(o.forget k).forget q:=by
 cases o with
 | box l=>simp only[Ob.forget,B80];congr 1;exact List.map_congr_left fun t _=>TC.forget_comm k q t
 | tbx e l=>simp only[Ob.forget,B80];congr 1;exact List.map_congr_left fun t _=>TC.forget_comm k q t
 | tarr n m l=>simp only[Ob.forget,B80];congr 1;exact List.map_congr_left fun t _=>TC.forget_comm k q t
 | growT e n m l=>simp only[Ob.forget,B80];congr 1;exact List.map_congr_left fun t _=>TC.forget_comm k q t
 | growA e α a c b p l=>simp only[Ob.forget,B80];congr 1;exact List.map_congr_left fun t _=>TC.forget_comm k q t
 | _=>rfl
theorem zB(k q:Nat)(ob:Obs):Obs.forget k (Obs.forget q ob)=Obs.forget q (Obs.forget k ob):=by
 simp only[Obs.forget,B80,Function.comp_def,BK k q]
theorem OS:IdleFn Tryz.prog 62 2:=by
 intro vs w hl;obtain⟨x,y,rfl⟩:∃x y,vs=[x,y]:=by
  match vs,hl with
  | [x,y],_=>exact⟨x,y,rfl⟩
 refine⟨L5 ⟨_,rfl,rfl,rfl⟩,?_⟩;have hta:(Instr.typeAssert .nilIface 20 27 true).run Tryz.prog w=.ok (.tuple #[.int .i64 0,.bool false]) w:=by
  simp only[Instr.typeAssert];rfl
 refine callsDIn_of_wpSIn Tryz.func62 rfl trivial fun c₀ cs hu=>?_;simp only[Tryz.ntmps62,List.size_toArray,B49,List.length_nil,Nat.reduceAdd,Nat.reduceSub,Array.replicate_succ,Array.replicate_zero,List.push_toArray,List.append_toArray,B83,B71];apply wpSIn_seq;apply wpSIn_region;simp[wpOpsSIn,go_sem,recoverD,hu,Exit.thenS,hta];apply wpSIn_seq;apply wpSIn_region;simp[wpOpsSIn,go_sem,Exit.thenS];refine wpSIn_cond (t:=false) (by simp[Act.eval]) ?_;simp only[Bool.false_eq_true,if_false];refine wpSIn_of_wpIn rfl (wpIn_skip ?_);cases c₀;simp_all [bodyPostS,results,Tryz.results62]
theorem zK{P:Program}{fr:Fr}{ob:Obs}{S:Ctx}{G:Gh}{a:Act}{w:World}(h:Sim P S fr ob G a w){t:Tmp}{k:Nat}{tt:TypeId}{l:List TC}{c:Cell}[hty:TyOne P tt](ht:n5 fr t=some (.s (.one (.ref k 0))))(y:B6 ob k=some (.box l))(m:l[0]?=some (.p c)) :
  ∃b z,a.tmps.getD t undef=.pointer (some ⟨b,0,none⟩)/\(loadVar tt ⟨b,0,none⟩).run P w=.ok z w/\(PV.one c).rep (D7 (Mut S ob G) w) z:=by
 obtain⟨b,q,A⟩:=h.slot ht;obtain⟨C,D,B,d,v,ha⟩:=h.box y;rw[q]at d;cases d;obtain⟨z,g,j⟩:=ha.get 0 _ m;exact⟨b,z,A,T5 (ht:=hty) (cell_of_heap v (by simpa using g)),j⟩
theorem retcc{P:Program}{fn:Func}{fr:Fr}{ob:Obs}{t C:Tmp}{k B:Nat}{tt d:TypeId}{D i:List TC}{c y:Cell}[TyOne P tt][TyOne P d](J:fn.results=#[.cell t tt,.cell C d])(K:n5 fr t=some (.s (.one (.ref k 0))))(I:B6 ob k=some (.box D))(E:D[0]?=some (.p c))
  (v:n5 fr C=some (.s (.one (.ref B 0)))) (u:B6 ob B=some (.box i)) (j:i[0]?=some (.p y)):RetOk P fn fr ob [.one c,.one y]:=by
 unfold RetOk;intro S G a w h;obtain⟨b,z,A,F,H⟩:=zK h (tt:=tt) K I E;obtain⟨L,M,g,m,q⟩:=zK h (tt:=d) v u j;rw[Array.getD_eq_getD_getElem?]at A g;exact⟨_,by simp[results,J,A,g,asAddr,F,m],[_,_],rfl,H,q,trivial⟩
abbrev KG:List AL.Node:=[ndS,ndA,ndR,ndE,ndC]
theorem five{p:Nat->Prop}(a:p 0)(b:p 1)(c:p 2)(d:p 3)(e:p 4):∀i,i<5->p i
 | 0,_=>a
 | 1,_=>b
 | 2,_=>c
 | 3,_=>d
 | 4,_=>e
theorem H3{K:List Nat}{T rest:Obs}{k:Nat}{o:Ob}(a:B6 rest k=none)(h:∀j x,E5 K j=false->B6 rest j=some x->B6 T j=some x):∀j x,E5 K j=false->B6 rest j=some x->B6 ((k,o)::T) j=some x:=by
 intro j x c b;have:k≠j:=fun e=>by rw[e,b]at a;cases a
 rw[A8 this];exact h j x c b
def F9(ks:List Nat)(ob:Obs):Obs:=ks.foldl (fun f k=>Obs.forget k f) ob
theorem Y5{k:Nat}:∀{ks:List Nat} {ob:Obs},B6 ob k=none->B6 (F9 ks ob) k=none
 | [],_,h=>h
 | q::ks,ob,h=>Y5 (ks:=ks) (ob:=Obs.forget q ob) (by rw[J3,h];rfl)
theorem tN(k:Nat):∀(a:List Nat) (ob:Obs),F9 a (Obs.forget k ob)=Obs.forget k (F9 a ob)
 | [],_=>rfl
 | q::a,ob=>by
  show F9 a (Obs.forget q (Obs.forget k ob))=Obs.forget k (F9 a (Obs.forget q ob));rw[zB q k,tN k a]
theorem iT{k:Nat}:∀{a:List Nat} {ob:Obs},E5 a k=true->Obs.forget k (F9 a ob)=F9 a ob
 | [],ob,h=>by cases h
 | q::a,ob,h=>by
  show Obs.forget k (F9 a (Obs.forget q ob))=F9 a (Obs.forget q ob);by_cases b:k=q
  ·subst b;rw[tN,Obs.forget_idem]
  ·have c:E5 a k=true:=by
    rw[hasN_iff]at h ⊢;rcases List.mem_cons.1 h with h | h
    ·exact absurd h b
    ·exact h
   exact iT c
theorem TO{K b:List Nat}{T ob:Obs}(k:Nat)(e:E5 b k=true)(h:∀j x,E5 K j=false->B6 (F9 b ob) j=some x->B6 T j=some x) :
  ∀j x,E5 K j=false->B6 (F9 b ob) j=some x->B6 (Obs.forget k T) j=some x:=by
 intro j x d a;rw[<-iT e,J3]at a;rw[J3];cases c:B6 (F9 b ob) j with
 | none=>rw[c]at a;cases a
 | some y=>rw[c]at a;rw[h j y d c];exact a
abbrev qAcc:AL.State:=⟨4,⟨0,0,0,0⟩,0,0⟩
abbrev qEnd:AL.State:=⟨3,⟨0,0,0,0⟩,0,0⟩
abbrev qSet:AL.State:=⟨0,⟨0,8589934592,0,0⟩,2,0⟩
abbrev qSp:AL.State:=⟨1,⟨0,0,0,0⟩,3,1⟩
abbrev qSta:AL.State:=⟨2,⟨0,0,0,0⟩,4,0⟩
def oZ(ks:List Nat)(ob:Obs):Obs:=(F9 ks ob).filter fun p=>!E5 ks p.1
theorem BL(k:Nat)(o:Ob):(o.forget k).free k=true:=by
 have key:∀b:List TC,(b.map (TC.forget k)).all (TC.free k)=true:=fun b=>by
  rw[List.all_map,List.all_eq_true];intro t _;exact TC.free_forget k t
 cases o with
 | box b=>exact key b
 | tbx e b=>exact key b
 | tarr n m b=>exact key b
 | growT e n m b=>exact key b
 | growA e α d c g p b=>exact key b
 | _=>rfl
theorem BM{k:Nat}:∀{Z:Obs},Nat.blt k 1000000=true->(∀p∈Z,p.1≠k/\p.2.free k=true)->J0 k Z=true
 | [],h,_=>h
 | (i,o)::r,h,hp=>by
  have a:=hp (i,o) (List.mem_cons_self ..);simp only[J0,B47,Bool.not_eq_true'];exact⟨P8 a.1,a.2,BM h fun p b=>hp p (List.mem_cons_of_mem _ b)⟩
theorem rM{k:Nat}:∀{Z:Obs} {j:Nat} {x:Ob},J0 k Z=true->B6 Z j=some x->j≠k/\x.free k=true
 | [],j,x,_,h=>by cases h
 | (i,o)::r,j,x,hz,h=>by
  simp only[J0,B47,Bool.not_eq_true']at hz;by_cases e:i=j
  ·subst e;rw[B4]at h;cases h;exact⟨fun e=>(by rw[e,Nat.beq_refl]at hz;cases hz.1),hz.2.1⟩
  ·rw[A8 e]at h;exact rM hz.2.2 h
theorem tO{k:Nat}{ks:List Nat}{ob:Obs}(c:E5 ks k=true)(hb:Nat.blt k 1000000=true):J0 k (oZ ks ob)=true:=by
 refine BM hb fun p d=>?_;obtain⟨a,b⟩:=List.mem_filter.1 d;refine⟨fun e=>(by rw[e,c]at b;cases b),?_⟩;rw[<-iT c]at a;obtain⟨q,_,rfl⟩:=List.mem_map.1 a;exact BL k q.2
theorem nN{f:Nat->Bool}:∀{ob:Obs} {j:Nat} {x:Ob},B6 (ob.filter fun p=>f p.1) j=some x->B6 ob j=some x
 | [],_,_,h=>by cases h
 | (i, o)::r,j,x,h=>by
  by_cases e:i=j
  ·subst e;rw[B94]at h;split at h
   ·rw[B4]at h ⊢;exact h
   ·rename_i g;exfalso;have:∀(r:Obs),B6 (r.filter fun p=>f p.1) i=none:=by
     intro r;induction r with
     | nil=>rfl
     | cons p r d =>
      obtain⟨a,b⟩:=p;rw[B94];split
      ·rename_i c;have:a≠i:=fun e=>g (by rw[e]at c;exact c);rw[A8 this];exact d
      ·exact d
    rw[this r]at h;cases h
  ·rw[B94]at h;rw[A8 e];split at h
   ·rw[A8 e]at h;exact nN h
   ·exact nN h
theorem oZ_base{K ks:List Nat}{ob:Obs}:∀j x,E5 K j=false->B6 (oZ ks ob) j=some x->B6 (F9 ks ob) j=some x:=fun _ _ _ h=>nN (f:=fun i=>!E5 ks i) h
theorem qO{K:List Nat}{k:Nat}{T Z:Obs}(c:J0 k Z=true)(h:∀j x,E5 K j=false->B6 Z j=some x->B6 T j=some x):∀j x,E5 K j=false->B6 Z j=some x->B6 (Obs.forget k T) j=some x:=by
 intro j x b a;rw[J3,h j x b a];show some (x.forget k)=some x;rw[Ob.forget_free (rM c a).2]
theorem getO_mapO(f:Ob->Ob):∀(ob:Obs) (j:Nat),B6 (B15 f ob) j=(B6 ob j).map f
 | [],_=>rfl
 | (i,o)::r,j=>by
  show B6 ((i,f o)::B15 f r) j=_;by_cases e:i=j
  ·subst e;rw[B4,B4];rfl
  ·rw[A8 e,A8 e,getO_mapO f r j]
theorem jS{k j:Nat}(h:j≠k):∀(ob:Obs),B6 (Obs.drop k ob) j=B6 ob j
 | []=>rfl
 | (i,o)::r=>by
  unfold Obs.drop;cases hb:Nat.beq i k
  ·show B6 ((i,o)::Obs.drop k r) j=_;by_cases e:i=j
   ·subst e;rw[B4,B4]
   ·rw[A8 e,A8 e,jS h r]
  ·have:i≠j:=fun e=>h (by rw[<-e];exact Nat.eq_of_beq_eq_true hb);rw[A8 this];exact jS h r
theorem cI{K:List Nat}{k:Nat}{α:Type}{ec:Nat}{c:α->Nat->Cell}{xs:List α}{T Z:Obs}(f:J0 k Z=true)(h:∀j x,E5 K j=false->B6 Z j=some x->B6 T j=some x) :
  ∀j x,E5 K j=false->B6 Z j=some x->B6 (B15 (Ob.freeze k α ec c xs) (Obs.drop k T)) j=some x:=by
 intro j x e a;obtain⟨b,d⟩:=rM f a;rw[getO_mapO,jS b,h j x e a];show some (x.freeze k α ec c xs)=some x;rw[Ob.freeze_free d]
theorem BN{k:Nat}{α:Type}{e:Nat}{c:α->Nat->Cell}{g:List α}{s:SV}(h:s.free k=true):s.freeze k α e c g=s:=by
 cases s with
 | s x=>cases x with
  | one t=>simp only[SV.freeze,S1.freeze,TC.freeze_free (show t.free k=true from h)]
  | agg b=>simp only[SV.freeze,S1.freeze];rw[U6 fun t a=>TC.freeze_free (List.all_eq_true.1 (show b.all (TC.free k)=true from h) t a)]
 | tup l =>
  simp only[SV.freeze];rw[U6 fun x f=>?_];have d:=List.all_eq_true.1 (show l.all (S1.free k)=true from h) x f;cases x with
  | one t=>simp only[S1.freeze,TC.freeze_free (show t.free k=true from d)]
  | agg b=>simp only[S1.freeze];rw[U6 fun t a=>TC.freeze_free (List.all_eq_true.1 (show b.all (TC.free k)=true from d) t a)]
 | _=>rfl
theorem rN{k:Nat}:∀{F:Fr},(∀p∈F,p.2.free k=true)->I3 k F=true
 | [],_=>rfl
 | (i,s)::r,h=>by
  simp only[I3,B47];exact⟨h (i,s) (List.mem_cons_self ..),rN fun p a=>h p (List.mem_cons_of_mem _ a)⟩
theorem A68{F:Fr}{i:Nat}{s:SV}:D4 F i=some s->∃p∈F,p.2=s:=by
 induction F with
 | nil=>intro h;cases h
 | cons p r c =>
  obtain⟨j,t⟩:=p;intro h;by_cases e:j=i
  ·subst e;rw[C9]at h;cases h;exact⟨_,List.mem_cons_self ..,rfl⟩
  ·rw[B9 e]at h;obtain⟨q,a,b⟩:=c h;exact⟨q,List.mem_cons_of_mem _ a,b⟩
theorem A69{a:List Nat}{k:Nat}{α:Type}{b:Nat}{c:α->Nat->Cell}{e:List α}{gf fr:Fr}(g:E5 a k=true)(h:Tail (B5 a gf) fr):Tail (B5 a gf) (B21 (SV.freeze k α b c e) fr):=by
 intro i s f d;have:=h i s f d;rw[oO,this];obtain⟨p,j,rfl⟩:=A68 d;show some (p.2.freeze k α b c e)=some p.2;rw[BN (u6 g p j)]
theorem O1{i k:Nat}{o:Ob}{r:Obs}(a:Nat.beq i k=false)(b:o.free k=true)(c:J0 k r=true):J0 k ((i,o)::r)=true:=by
 simp only[J0,a,b,c,Bool.not_false,Bool.and_self]
theorem nO{i k:Nat}{s:SV}{r:Fr}(a:s.free k=true)(b:I3 k r=true):I3 k ((i,s)::r)=true:=by
 simp only[I3,a,b,Bool.and_self]
theorem TP{b:Bool}(h:b=true):(true&&b)=true:=h
theorem and_tt{a b:Bool}(c:a=true)(d:b=true):(a&&b)=true:=by rw[c,d];rfl
theorem BO{X:Obs}:∀{Z:Obs} {a:List Nat},(∀j x,E5 a j=false->B6 Z j=some x->B6 X j=some x)->XA X a Z
 | [],_,_=>trivial
 | (k,o)::r,a,h=>by
  refine⟨?_,BO fun j x b f=>?_⟩
  ·cases c:E5 a k
   ·exact .inr (h k o c (B4 _ _ _))
   ·exact .inl rfl
  ·have d:k≠j/\E5 a j=false:=by
    refine⟨fun e=>?_,?_⟩
    ·have:E5 (k::a) j=true:=by rw[hasN_iff];exact e ▸ List.mem_cons_self ..
     rw[this]at b;cases b
    ·cases c:E5 a j
     ·rfl
     ·have:E5 (k::a) j=true:=by rw[hasN_iff];exact List.mem_cons_of_mem _ (hasN_iff.1 c)
      rw[this]at b;cases b
   exact h j x d.2 (by rw[A8 d.1];exact f)
abbrev auto5:AL.Auto:=⟨[qAcc,qEnd,qSp,qSet,qSet,qSta],5⟩
theorem nP{gf:Fr}{ob:Obs}(i n:Int)(h:B6 ob 3=some (.box [.p (.v (.int .i64 n))])) :
  AL.Met Tryz.prog 130 [N8 i,.one (.ref 3 0)] gf ob [] (fun rs ob'=>rs=[mG (decide (0<=i/\i<n))]/\ob'=ob):=by
 refine AL.Met.intro Tryz.func130 F2 A0 A0 A0 (zz 10 ?_);refine F7 A0 A0 A0 A0 (fun a=>by rw[a];exact D8 A0 h A0) ?_;refine zz 5 ?_;refine C7 (F1 rfl rfl) gM (fun _ _ h=>h) ⟨?_,rfl⟩;rw[N1]
abbrev aa:Str:=[97,97]
structure AS where
 opn:List Int
 th:List AL.Thread
 sn:List Bool
def ZK(x:AS):Int:=H4 x.opn (x.opn.length-1)
def addStep(a:Nat)(fr:Int)(x:AS):AS :=
 if L9 x.sn (ZK x).toNat=true then ⟨x.opn.take (x.opn.length-1),x.th,x.sn⟩
 else ⟨x.opn.take (x.opn.length-1)++P5 (auto5.States.getD (ZK x).toNat T7) (decide ((a:Int)=0)) (decide ((a:Int)=(aa.length:Int))),x.th++[⟨ZK x,fr⟩],x.sn.set (ZK x).toNat true⟩
def addIt(a:Nat)(fr:Int)(x:AS):Nat->AS
 | 0=>x
 | n+1=>addStep a fr (addIt a fr x n)
def TQ(y:AS):Prop:=0<y.opn.length/\y.opn.length<=10/\0<=ZK y/\ZK y<6/\y.sn.length=6/\y.th.length<=10
instance (y:AS):Decidable (TQ y):=by unfold TQ;infer_instance
def addOk(a:Nat)(fr:Int)(x:AS)(n:Nat):Bool:=(List.range n).all (fun k=>decide (TQ (addIt a fr x k)))
end Go.Proofs.YtabbdaafimcjhaaGreatDoor
