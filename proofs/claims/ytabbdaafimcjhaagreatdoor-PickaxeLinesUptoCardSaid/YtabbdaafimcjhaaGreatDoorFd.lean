
/- Walks of the program's functions. -/
import Derived.Test.YtabbdaafimcjhaaGreatDoorFc
set_option linter.all false
namespace Go.Proofs.YtabbdaafimcjhaaGreatDoor
open Go Go.AL
set_option maxRecDepth 100000
set_option maxHeartbeats 4000000
theorem KH(n:Nat)(d:n<=1000000):AL.Met Tryz.prog 76 [.one (.p (.v (.slice none 0 0))),N8 n] [] [] [] (fun rs ob'=>rs=[.one (.mut 803)]/\ob'=[(803,XJ [])]):=by
 refine AL.Met.intro Tryz.func76 F2 A0 A0 A0 (zz 2 ?_);refine B0 (E8 _ 2 fX) A0 ?_;refine zc 7 (fun a=>?_) fun a=>?_
 ·have b:=A1 a;omega
 refine zz 13 ?_;rw[show (n:Int)-(0-0)=(n:Int) by omega];refine zc 5 (fun a=>?_) fun a=>?_
 ·have b:=A1 a;skip;refine zz 4 ?_;refine B0 (qF A0 A0) A0 (zz 1 ?_);refine C4 (GL 803 A0 A0 B3 B3 A0 A0) A0 (zz 6 ?_);rw[show Int.toNat 0=0 from rfl,List.take_zero];refine C1 (B28 (k:=803) (Str×Str) fX A0) (zz 5 ?_);exact C7 (F1 rfl rfl) gM (ObIn.spec (ob':=[(803,XJ [])]) ⟨rfl,trivial⟩) ⟨rfl,rfl⟩
 ·refine C1 (B26 0 803 (Str×Str) 2 fX 54 A0 A0) (zz 7 ?_);exact C7 (F1 rfl rfl) gM (ObIn.spec (ob':=[(803,XJ [])]) ⟨rfl,trivial⟩) ⟨rfl,rfl⟩
theorem FD(B:List (List (Str×Str)))(f:FewB B):FnOk Tryz.prog 39 [LW B] (fun rs=>rs=[pPairs B.flatten]):=by
 have D:=f.len;have j:B.flatten=aU B B.length:=by unfold aU;rw[B51]
 rw[j];refine FnOk.intro Tryz.func39 F2 A0 A0 A0 A0 (zz 16 ?_);refine C2 (X:=Nat) (fun i=>([(0,B8 (List (Str×Str)) 1 jC B),(3,B7 ((aU B i).length:Nat)),(9,B8 (List (Str×Str)) 1 jC B),(10,B7 B.length),(11,B7 i)],[])) (fun i=>i<=B.length) (fun i=>B.length-i) 0 (Nat.zero_le _) (Sees.of lf lo) ?_;intro i x;dsimp only at x ⊢;have w:=kZ f i;refine zc 5 (fun b=>?_) fun b=>?_
 ·have a:i<B.length:=by have c:=A1 b;(try dsimp only at c);omega
  obtain⟨l,d⟩:∃l,l=B[i]:=⟨_,rfl⟩
  have A:B[i]?=some l:=by rw[d];simp[a]
  have z:=f.lens l (by rw[d];exact B50 a);have v:((aU B (i+1)).length:Int)=(aU B i).length+l.length:=by rw[xK a,B48,d];omega
  refine zz 5 ?_;refine B0 (A9 A0 (.pure _ _ _ _) A0 B3 A) A0 ?_;refine zc 16 (fun b=>?_) fun b=>?_
  ·have c:=A1 b;omega
  refine zz 5 ?_;refine⟨i+1,by omega,by omega,?_⟩;rw[v];exact (Sees.of lf lo)
 have y:i=B.length:=by have c:=A3 b;(try dsimp only at c);omega
 rw[y];have C:=kZ f B.length;refine zz 4 ?_;refine eK (KH (aU B B.length).length B3) A0 A0 A0 A0 ?_;rintro _ _ ⟨rfl,rfl⟩;refine⟨rfl,?_⟩;refine zz 2 ?_;refine zz 8 ?_;refine C2 (X:=Nat) (fun i=>([(6,.s (.one (.mut 803))),(25,B8 (List (Str×Str)) 1 jC B),(26,B7 B.length),(27,B7 i)],[(803,XJ (aU B i))])) (fun i=>i<=B.length) (fun i=>B.length-i) 0 (Nat.zero_le _) (Sees.of lf lo) ?_;intro i x;dsimp only at x ⊢;have w:=kZ f i;refine zc 5 (fun b=>?_) fun b=>?_
 ·have a:i<B.length:=by have c:=A1 b;(try dsimp only at c);omega
  obtain⟨l,d⟩:∃l,l=B[i]:=⟨_,rfl⟩
  have A:B[i]?=some l:=by rw[d];simp[a]
  have z:=f.lens l (by rw[d];exact B50 a);have v:=xK a;rw[<-d]at v;refine zz 5 ?_;refine B0 (A9 A0 (.pure _ _ _ _) A0 B3 A) A0 (zz 6 ?_);refine C4 (P0 A0 A0 A0 (.pure _ _ _ _) B3 A0) A0 (zz 6 ?_);refine⟨i+1,by omega,by omega,?_⟩;rw[v];exact (Sees.of lf lo)
 have q:i=B.length:=by have c:=A3 b;(try dsimp only at c);omega
 rw[q];refine zz 2 ?_;refine C1 (Sees.freezeG (k:=803) A0 A0) (zz 5 ?_);exact B2 (rs:=[pPairs (aU B B.length)]) (G6 rfl rfl rfl) rfl
def X9(B:List (List Str))(i:Nat):List Str:=(B.take i).flatten
theorem eU{B:List (List Str)}{i:Nat}(h:i<B.length):X9 B (i+1)=X9 B i++B[i]:=by
 unfold X9;rw[List.take_add_one,B44 h,Option.toList_some,B87];simp
theorem dE{B:List (List Str)}(h:B.flatten.length<=1000000)(i:Nat):(X9 B i).length<=1000000:=by
 have e:B.flatten=(B.take i).flatten++(B.drop i).flatten:=by rw[<-B87,B91]
 rw[e,B48]at h;unfold X9;omega
abbrev KI(l:List Str):Ob:=.grow 9 Str 1 K7 l
theorem OT(n:Nat)(d:n<=1000000):AL.Met Tryz.prog 86 [.one (.p (.v (.slice none 0 0))),N8 n] [] [] [] (fun rs ob'=>rs=[.one (.mut 804)]/\ob'=[(804,KI [])]):=by
 refine AL.Met.intro Tryz.func86 F2 A0 A0 A0 (zz 2 ?_);refine B0 (E8 _ 1 K7) A0 ?_;refine zc 7 (fun a=>?_) fun a=>?_
 ·have b:=A1 a;omega
 refine zz 13 ?_;rw[show (n:Int)-(0-0)=(n:Int) by omega];refine zc 5 (fun a=>?_) fun a=>?_
 ·have b:=A1 a;skip;refine zz 4 ?_;refine B0 (qF A0 A0) A0 (zz 1 ?_);refine C4 (GL 804 A0 A0 B3 B3 A0 A0) A0 (zz 6 ?_);rw[show Int.toNat 0=0 from rfl,List.take_zero];refine C1 (B28 (k:=804) Str K7 A0) (zz 5 ?_);exact C7 (F1 rfl rfl) gM (ObIn.spec (ob':=[(804,KI [])]) ⟨rfl,trivial⟩) ⟨rfl,rfl⟩
 ·refine C1 (B26 0 804 Str 1 K7 9 A0 A0) (zz 7 ?_);exact C7 (F1 rfl rfl) gM (ObIn.spec (ob':=[(804,KI [])]) ⟨rfl,trivial⟩) ⟨rfl,rfl⟩
theorem KJ(B:List (List Str))(x:B.length<=1000)(b:B.flatten.length<=1000000):FnOk Tryz.prog 44 [pStrss B] (fun rs=>rs=[n7 B.flatten]):=by
 have F:=x;have j:B.flatten=X9 B B.length:=by unfold X9;rw[B51]
 rw[j];refine FnOk.intro Tryz.func44 F2 A0 A0 A0 A0 (zz 16 ?_);refine C2 (X:=Nat) (fun i=>([(0,B8 (List Str) 1 strsC B),(3,B7 ((X9 B i).length:Nat)),(9,B8 (List Str) 1 strsC B),(10,B7 B.length),(11,B7 i)],[])) (fun i=>i<=B.length) (fun i=>B.length-i) 0 (Nat.zero_le _) (Sees.of lf lo) ?_;intro i A;dsimp only at A ⊢;have y:=dE b i;refine zc 5 (fun c=>?_) fun c=>?_
 ·have a:i<B.length:=by have d:=A1 c;(try dsimp only at d);omega
  obtain⟨l,f⟩:∃l,l=B[i]:=⟨_,rfl⟩
  have D:B[i]?=some l:=by rw[f];simp[a]
  have q:=dE b (i+1);have z:(X9 B (i+1)).length=(X9 B i).length+l.length:=by rw[eU a,B48,f]
  have w:((X9 B (i+1)).length:Int)=(X9 B i).length+l.length:=by rw[eU a,B48,f];omega
  refine zz 5 ?_;refine B0 (A9 A0 (.pure _ _ _ _) A0 B3 D) A0 ?_;refine zc 16 (fun c=>?_) fun c=>?_
  ·have d:=A1 c;omega
  refine zz 5 ?_;refine⟨i+1,by omega,by omega,?_⟩;rw[w];exact (Sees.of lf lo)
 have C:i=B.length:=by have d:=A3 c;(try dsimp only at d);omega
 rw[C];have E:=dE b B.length;refine zz 4 ?_;refine eK (OT (X9 B B.length).length B3) A0 A0 A0 A0 ?_;rintro _ _ ⟨rfl,rfl⟩;refine⟨rfl,?_⟩;refine zz 2 ?_;refine zz 8 ?_;refine C2 (X:=Nat) (fun i=>([(6,.s (.one (.mut 804))),(25,B8 (List Str) 1 strsC B),(26,B7 B.length),(27,B7 i)],[(804,KI (X9 B i))])) (fun i=>i<=B.length) (fun i=>B.length-i) 0 (Nat.zero_le _) (Sees.of lf lo) ?_;intro i A;dsimp only at A ⊢;have y:=dE b i;refine zc 5 (fun c=>?_) fun c=>?_
 ·have a:i<B.length:=by have d:=A1 c;(try dsimp only at d);omega
  obtain⟨l,f⟩:∃l,l=B[i]:=⟨_,rfl⟩
  have D:B[i]?=some l:=by rw[f];simp[a]
  have q:=dE b (i+1);have z:(X9 B (i+1)).length=(X9 B i).length+l.length:=by rw[eU a,B48,f]
  have w:=eU a;rw[<-f]at w;refine zz 5 ?_;refine B0 (A9 A0 (.pure _ _ _ _) A0 B3 D) A0 (zz 6 ?_);refine C4 (P0 A0 A0 A0 (.pure _ _ _ _) B3 A0) A0 (zz 6 ?_);refine⟨i+1,by omega,by omega,?_⟩;rw[w];exact (Sees.of lf lo)
 have v:i=B.length:=by have d:=A3 c;(try dsimp only at d);omega
 rw[v];refine zz 2 ?_;refine C1 (Sees.freezeG (k:=804) A0 A0) (zz 5 ?_);exact B2 (rs:=[n7 (X9 B B.length)]) (G6 rfl rfl rfl) rfl
abbrev BP(l:List Int):Ob:=.arr Int 1 D2 l
abbrev W7(l:List Int):Ob:=.grow 3 Int 1 D2 l
theorem b1y{p:Prop}(h:p:=by repeat (first | exact X0 | refine X1 rfl ?_ | refine kS _ ?_)):p:=h
theorem GY{gf:Fr}{ob:Obs}(a d:List Int)(c:Nat)(C:c<a.length)(_hl:a.length<=1000000)(D:d.length<=1000000)(y:B6 ob 5=some (.box [.mut 753]))(z:B6 ob 7=some (.box [.mut 754]))(j:B6 ob 753=some (BP a))(k:B6 ob 754=some (W7 d)) :
  AL.Met Tryz.prog 117 [.one (.p (.v (.int .i64 c))),.one (.ref 5 0),.one (.ref 7 0)] gf ob [754]
   (fun B ob'=>B=[]/\ob'=(5,.box [.mut 753])::(7,.box [.mut 754])::(753,BP (if H4 a c<0 then a.set c 0 else a))::(754,W7 (if H4 a c<0 then d++[(c:Int)] else d))::Obs.forget 754 ob):=by
 have q:=rJ (l:=a) (p:=(c:Int)) B3;rw[B45]at q;refine AL.Met.introH Tryz.func117 F2 rfl rfl rfl (fun A=>?_);refine C1 (B14 754 (l:=[(0,B7 c),(1,.s (.one (.ref 5 0))),(2,.s (.one (.ref 7 0)))]) (L:=[(5,_),(7,_),(753,_),(754,_)]) lf A I8 ⟨y,z,j,k,trivial⟩) ?_;refine zz 5 ?_;refine B0 (M4 A0 A0 q A0) A0 ?_;refine zc 2 (fun w=>?_) fun w=>?_
 ·have g:H4 a c<0:=A1 w;rw[A6 g,A6 g];refine zz 5 ?_;refine V1 (G5 TySz.out A0 A0 B3 A0 A0) (zz 4 ?_);refine B0 (C0 (c:=D2) (ys:=[(c:Int)]) (C3 A0 A0 A0 A0 E6) A0 A0 A0) A0 (C4 (P0 A0 A0 A0 (.pure _ _ _ _) SC A0) A0 (zz 2 ?_));skip;exact T6 (gQ rfl) b1y (C8 (L:=[(5,_),(7,_),(753,_),(754,_)]) ⟨rfl,rfl,rfl,rfl,trivial⟩ b9w) ⟨rfl,rfl⟩
 ·have g:¬H4 a c<0:=A3 w;rw[A7 g,A7 g];refine k5 ?_;exact T6 (gQ rfl) b1y (fun _ _ h=>h) ⟨rfl,rfl⟩
def iU(n i:Nat):List Int:=List.replicate i (-1)++List.replicate (n-i) 0
theorem TR{n i:Nat}(h:i<n):(iU n i).set i (-1)=iU n (i+1):=by
 unfold iU;rw[List.set_append_right _ _ dV,B74,B92,show n-i=(n-(i+1))+1 by omega,List.replicate_succ,List.set_cons_zero,List.replicate_succ',B57];rfl
theorem TS{n i:Nat}(h:i<=n):(iU n i).length=n:=by unfold iU;simp;omega
theorem DInv.last{g:Graph}{e:List Bool}{st:List Int}{k i:Nat}{l b D:List Int}(h:DInv g e st k i l b D)(m:0<b.length):∃c:Nat,b=b.take (b.length-1)++[(c:Int)]/\c<g.length/\b[b.length-1]?=some (c:Int):=by
 have d:b.length-1<b.length:=by omega
 have n:=h.on b[b.length-1] (List.mem_append_right _ (B50 d));have f:b[b.length-1]=(b[b.length-1].toNat:Int):=by omega
 refine⟨b[b.length-1].toNat,?_,by omega,by rw[B44 d];exact congrArg some f⟩;have j:b.take (b.length-1+1)=b:=B69 B3;rw[List.take_add_one,B44 d,Option.toList_some]at j;rw[<-f];exact j.symm
theorem KK(g:Graph)(s:List Int)(G:FewG g)(hr:related g=true)(hs:∀f∈s,0<=f/\f<g.length)(ar:s.length<=1048576) :
  AL.Met Tryz.prog 70 [.one (.p (.list Commit 3 K5 g)),.one (.p (.list Int 1 D2 s))] [] [] [] (fun rs ob'=>∃h,rs=[.one (.mut 753)]/\ob'=[(753,BP h)]/\h.length=g.length/\∀p,p<g.length->H4 h p=if L9 (V9 g s) p=true then (wS g (V9 g s) [] p:Int) else -1):=by
 have hg:=G.len;have ae:=pE hr hs;have U:=lK hr s hs;obtain⟨v,P⟩:∃v,v=V9 g s:=⟨_,rfl⟩
 have W:=@DInv.fin g s;rw[<-P]at ae U;refine AL.Met.intro Tryz.func70 F2 A0 A0 A0 (zz 8 ?_);refine C4 (l7 753 Int D2 0 A0 A0 B3 B3 (fun _=>by first | exact⟨⟨rfl,rfl⟩,trivial⟩ | exact⟨F6 _ _ _,trivial⟩ | exact⟨F6 _ _ _,⟨rfl,rfl⟩,F6 _ _ _,trivial⟩) b7w) A0 ?_;refine C4 (H9 5 A0) A0 (zz 6 ?_);refine B0 (vI A0 A0) A0 (zz 3 ?_);rw[B45];refine C2 (X:=Nat) (fun i=>([(0,B8 Commit 3 K5 g),(1,B8 Int 1 D2 s),(5,.s (.one (.ref 5 0))),(18,B7 g.length),(19,B7 i)],[(5,.box [.mut 753]),(753,BP (iU g.length i))])) (fun i=>i<=g.length) (fun i=>g.length-i) 0 (Nat.zero_le _) (by rw[show iU g.length 0=List.replicate g.length 0 by unfold iU;simp];exact (Sees.of ⟨Y7 rfl,Y7 rfl,Y7 rfl,leE A0 (by first | (simp;done) | (simp;omega)),Y7 rfl,trivial⟩ ⟨rfl,rfl,trivial⟩)) ?_;intro i hi;dsimp only at hi ⊢;have Z:=TS hi;refine zc 5 (fun C=>?_) fun C=>?_
 ·have B:i<g.length:=by have w:=A1 C;(try dsimp only at w);omega
  have al:=TR B;refine zz 11 ?_;refine B0 (E4 A0 A0 A0 B3 (by (rw[Z];omega))) A0 ?_;refine V1 (G5 TySz.out A0 A0 (by (rw[Z];omega)) A0 A0) ?_;refine zz 5 ?_;refine⟨i+1,by omega,by omega,?_⟩;rw[B45,al];exact (Sees.of lf lo)
 have ag:i=g.length:=by have w:=A3 C;(try dsimp only at w);omega
 rw[ag,show iU g.length g.length=List.replicate g.length (-1) by unfold iU;simp];have af:=DInv.start g v;refine zz 3 ?_;refine C4 (H9 7 A0) A0 (zz 2 ?_);refine C1 (B19 754 Int 1 D2 3 (kb:=7) (o:=0) A0 A0 A0) (zz 12 ?_);refine C2 (X:=Nat×List Int×List Int) (fun x=>([(0,B8 Commit 3 K5 g),(5,.s (.one (.ref 5 0))),(7,.s (.one (.ref 7 0))),(8,.s (.one (.clo 117 [] [(5,0),(7,0)]))),(27,B8 Int 1 D2 s),(28,B7 s.length),(29,B7 x.1)],[(5,.box [.mut 753]),(7,.box [.mut 754]),(753,BP x.2.1),(754,W7 x.2.2)])) (fun x=>x.1<=s.length/\DInv g v (s.take x.1) 0 0 x.2.1 x.2.2 []) (fun x=>s.length-x.1) (0,List.replicate g.length (-1),[]) ⟨Nat.zero_le _,af⟩ (Sees.of lf lo) ?_;rintro⟨j,h,d⟩ ⟨hj,q⟩;dsimp only at hj q ⊢;have L:=q.le;have F:=q.len;rw[List.length_nil,Nat.zero_add]at L;refine zc 5 (fun C=>?_) fun C=>?_
 ·have B:j<s.length:=by have w:=A1 C;(try dsimp only at w);omega
  have au:=hs _ (B50 B);obtain⟨c,hc⟩:∃c:Nat,s[j]=(c:Int):=⟨s[j].toNat,by omega⟩
  have hv:s[j]?=some (c:Int):=by rw[B44 B,hc]
  have E:c<g.length:=by omega
  have aj:L9 v c=true:=(ae c).2 ⟨c,by rw[<-hc];exact B50 B,.inl rfl⟩
  obtain⟨K,_⟩:=q.reach (Nat.le_refl _) E aj (s.take (j+1)) (fun f G=>by
   rw[U5 B]at G;rcases G with G | G
   ·exact .inl G
   ·right;rw[G,hc])
  refine zz 5 ?_;refine B0 (A9 A0 (.pure _ _ _ _) A0 B3 hv) A0 (zz 6 ?_);refine rG (GY h d c B3 B3 B3 A0 A0 A0 A0) A0 A0 A0 A0 ?_;rintro _ _ ⟨rfl,rfl⟩;refine zz 5 ?_;exact⟨(j+1,if H4 h c<0 then h.set c 0 else h,if H4 h c<0 then d++[(c:Int)] else d),⟨B,K⟩,by dsimp only;omega,(Sees.of lf lo)⟩
 have ah:j=s.length:=by have w:=A3 C;(try dsimp only at w);omega
 rw[ah,B51]at q;refine zz 3 ?_;refine C2 (X:=List Int×List Int×List Int) (fun x=>([(0,B8 Commit 3 K5 g),(5,.s (.one (.ref 5 0))),(7,.s (.one (.ref 7 0))),(8,.s (.one (.clo 117 [] [(5,0),(7,0)])))],[(5,.box [.mut 753]),(7,.box [.mut 754]),(753,BP x.1),(754,W7 x.2.1)])) (fun x=>DInv g v s x.2.2.length 0 x.1 x.2.1 x.2.2) (fun x=>g.length-x.2.2.length) (h,d,[]) q (Sees.of lf lo) ?_;rintro⟨h,d,D⟩ q;dsimp only at q ⊢;have L:=q.le;have F:=q.len;refine zc 7 (fun C=>?_) fun C=>?_;rotate_left
 ·have w:d=[]:=by
   have w:=A3 C;exact List.length_eq_zero_iff.1 B3
  rw[w]at q;have hF:=W hr hs (by rw[<-P];exact q);refine zz 7 ?_;exact C7 (F1 rfl rfl) gM (ObIn.spec (ob':=[(753,BP h)]) ⟨rfl,trivial⟩) ⟨h,rfl,rfl,F,hF⟩
 have h0:0<d.length:=by have w:=A1 C;omega
 obtain⟨c,e1,E,S⟩:=DInv.last q h0;obtain⟨z,ad⟩:∃z,z=d.take (d.length-1):=⟨_,rfl⟩
 have S:d[((d.length:Int)-1).toNat]?=some (c:Int):=by rw[show ((d.length:Int)-1).toNat=d.length-1 by omega];exact S
 have V:d.take ((d.length:Int)-1).toNat=z:=by rw[ad];congr 1;omega
 rw[<-ad]at e1;have hP:=(by rw[e1]at q;exact q:DInv g v s D.length 0 h (z++[(c:Int)]) D).pop;obtain⟨A,Q⟩:∃A,A=g[c]:=⟨_,rfl⟩
 have an:g[((c:Nat):Int).toNat]?=some A:=by rw[Q];simp[E]
 have H:E9 g c=A.Parents:=by rw[dI E,Q]
 have aq:=G.pars A (by rw[Q];exact B50 E);have ab:L9 v c=true:=by
  have:=(hP.on (c:Int) dV).2.2
  rwa[B45]at this
 have Y:(D++[(c:Int)]).getD D.length 0=(c:Int):=by
  rw[B46,B64 (Nat.le_refl _),B92];rfl
 refine zz 9 ?_;refine B0 (dC A0 A0 S A0) A0 (zz 11 ?_);rw[V];refine zz 4 ?_;refine B0 (A9 A0 (.pure _ _ _ _) A0 B3 an) A0 (zz 6 ?_);refine C2 (X:=Nat×List Int×List Int) (fun x=>([(0,B8 Commit 3 K5 g),(5,.s (.one (.ref 5 0))),(7,.s (.one (.ref 7 0))),(8,.s (.one (.clo 117 [] [(5,0),(7,0)]))),(55,B8 Int 1 D2 A.Parents),(56,B7 A.Parents.length),(57,B7 x.1)],[(5,.box [.mut 753]),(7,.box [.mut 754]),(753,BP x.2.1),(754,W7 x.2.2)])) (fun x=>x.1<=A.Parents.length/\DInv g v s D.length x.1 x.2.1 x.2.2 (D++[(c:Int)])) (fun x=>A.Parents.length-x.1) (0,h,z) ⟨Nat.zero_le _,hP⟩ (Sees.of lf lo) ?_;rintro⟨i,h,d⟩ ⟨hi,q⟩;dsimp only at hi q ⊢;have L:=q.le;have F:=q.len;rw[B48,List.length_singleton]at L;refine zc 5 (fun C=>?_) fun C=>?_;rotate_left
 ·have w:i=A.Parents.length:=by have w:=A3 C;(try dsimp only at w);omega
  rw[w,<-H]at q;have hN:=q.next (k:=D.length) dV Y;refine zz 1 ?_;exact⟨(h,d,D++[(c:Int)]),hN,by dsimp only;rw[B48,List.length_singleton];omega,(Sees.of lf lo)⟩
 have y:i<A.Parents.length:=by have w:=A1 C;(try dsimp only at w);omega
 have ap:=(L7 hr c).1 A.Parents[i] (by rw[H];exact B50 y);obtain⟨p,hp⟩:∃p:Nat,A.Parents[i]=(p:Int):=⟨A.Parents[i].toNat,by omega⟩
 have ao:A.Parents[i]?=some (p:Int):=by rw[B44 y,hp]
 have ak:p<g.length:=by omega
 have ac:L9 v p=true:=by
  have:=U c ab (p:Int) (by rw[H,<-hp];exact B50 y)
  rwa[B45]at this
 obtain⟨K,ai⟩:=q.reach dV ak ac s (fun f G=>.inl G);obtain⟨q1,q2,T⟩:=K.count hr Y (i:=i) (p:=p) (by rw[H];exact y) (by simp only[H];exact hp) ai;have M:=K.len;refine zz 5 ?_;refine B0 (A9 A0 (.pure _ _ _ _) A0 B3 ao) A0 (zz 7 ?_);refine rG (GY h d p B3 B3 B3 A0 A0 A0 A0) A0 A0 A0 A0 ?_;rintro _ _ ⟨rfl,rfl⟩;refine zz 1 ?_;obtain⟨J,O⟩:∃J,J=(if H4 h p<0 then h.set p 0 else h):=⟨_,rfl⟩
 obtain⟨I,R⟩:∃I,I=(if H4 h p<0 then d++[(p:Int)] else d):=⟨_,rfl⟩
 rw[<-O]at q1 q2 M;rw[<-O,<-R]at T ⊢;have am:=rJ (l:=J) (p:=(p:Int)) B3;refine zz 3 ?_;refine B0 (E4 A0 A0 A0 B3 (by (rw[M];omega))) A0 ?_;refine B0 (M4 A0 A0 am A0) A0 (B0 (Y6 A0 A0 (by (rw[B45];omega))) A0 ?_);refine B0 (E4 A0 A0 A0 B3 (by (rw[M];omega))) A0 ?_;refine V1 (G5 TySz.out A0 A0 (by (rw[M];omega)) A0 A0) ?_;refine zz 5 ?_;exact⟨(i+1,bump J p,I),⟨y,T⟩,by dsimp only;omega,(Sees.of lf lo)⟩
abbrev lC(g:Graph):Ob:=.box [.mut 741,.fnc 71 [.list Commit 3 K5 g]]
abbrev sI(n:Int):S1:=.one (.p (.v (.int .i64 n)))
abbrev sIf(n:Int):S1:=.one (.p (.v (.iface 3 (.int .i64 n))))
abbrev FE:S1:=.one (.ifc 125 740 0)
theorem XK{g:Graph}{c:Int}(h:0<=c/\c<g.length):∃b,g[c.toNat]?=some b/\eD g c.toNat=b.Date:=by
 have a:c.toNat<g.length:=by omega
 exact⟨g[c.toNat],by simp[a],by unfold eD;rw[B44 a];rfl⟩
theorem ZL(g:Graph)(a b:Int)(_hg:g.length<=1048576)(ha:0<=a/\a<g.length)(hb:0<=b/\b<g.length):FnOk Tryz.prog 71 [S3 g,D3 a,D3 b] (fun k=>k=[E1 (U7 g a b)]):=by
 obtain⟨x,d,h⟩:=XK ha;obtain⟨y,f,i⟩:=XK hb;unfold U7;rw[h,i];refine FnOk.intro Tryz.func71 F2 A0 A0 A0 A0 (zz 9 ?_);refine D1 (A9 A0 (.pure _ _ _ _) A0 B3 d) A0 A0 (zz 4 ?_);refine D1 (A9 A0 (.pure _ _ _ _) A0 B3 f) A0 A0 ?_;refine zc 4 (fun c=>?_) fun c=>?_
 ·have j:x.Date≠y.Date:=A1 c;refine zz 4 ?_;refine D1 (A9 A0 (.pure _ _ _ _) A0 B3 d) A0 A0 (zz 4 ?_);refine D1 (A9 A0 (.pure _ _ _ _) A0 B3 f) A0 A0 (zz 6 ?_);refine B2 (G6 rfl rfl rfl) (congrArg (fun b=>[E1 b]) (decide_eq_decide.2 ?_));omega
 ·have j:¬x.Date≠y.Date:=A3 c;refine zz 9 ?_;refine B2 (G6 rfl rfl rfl) (congrArg (fun b=>[E1 b]) (decide_eq_decide.2 ?_));omega
theorem BQ{gf:Fr}{ob:Obs}(g:Graph)(l:List Int)(a:B6 ob 740=some (lC g))(b:B6 ob 741=some (W7 l)) :
  AL.Met Tryz.prog 73 [.one (.ref 740 0)] gf ob [] (fun rs ob'=>rs=[sI l.length]/\ob'=ob):=by
 refine AL.Met.intro Tryz.func73 F2 A0 A0 A0 (zz 9 ?_);refine B0 (D8 A0 a A0) A0 (B0 (JI A0 b) A0 (zz 3 ?_));exact C7 (F1 rfl rfl) gM (fun _ _ h=>h) ⟨rfl,rfl⟩
theorem vU{gf:Fr}{ob:Obs}(g:Graph)(l:List Int)(i j:Nat)(w:g.length<=1048576)(u:∀x∈l,0<=x/\x<(g.length:Int))(d:i<l.length)(k:j<l.length)(m:B6 ob 740=some (lC g))(c:B6 ob 741=some (W7 l)) :
  AL.Met Tryz.prog 264 [.one (.ref 740 0),sI i,sI j] gf ob [] (fun y ob'=>y=[.one (.p (.v (.bool (U7 g (H4 l i) (H4 l j)))))]/\ob'=ob):=by
 have q:l[((i:Nat):Int).toNat]?=some (H4 l i):=by rw[B45,Q0 d];simp[d]
 have s:l[((j:Nat):Int).toNat]?=some (H4 l j):=by rw[B45,Q0 k];simp[k]
 have hb:=ZL g (H4 l i) (H4 l j) w (by rw[Q0 d];exact u _ (B50 d)) (by rw[Q0 k];exact u _ (B50 k));refine AL.Met.intro Tryz.func264 F2 A0 A0 A0 (zz 9 ?_);refine D1 (D8 A0 m A0) A0 A0 (zz 3 ?_);refine D1 (D8 A0 m A0) A0 A0 (zz 1 ?_);refine D1 (J7 A0 c A0 B3 B3) A0 A0 (D1 (dC A0 c q A0) A0 A0 (zz 3 ?_));refine D1 (D8 A0 m A0) A0 A0 (zz 1 ?_);refine D1 (J7 A0 c A0 B3 B3) A0 A0 (D1 (dC A0 c s A0) A0 A0 (D1 (n_callC (hb) A0 A0 A0) A0 A0 (zz 3 ?_)));exact C7 (F1 rfl rfl) gM (fun _ _ h=>h) ⟨rfl,rfl⟩
theorem vV{gf:Fr}{ob:Obs}(g:Graph)(l:List Int)(i j:Nat)(x:i<l.length)(q:j<l.length)(y:B6 ob 740=some (lC g))(v:B6 ob 741=some (W7 l)) :
  AL.Met Tryz.prog 267 [.one (.ref 740 0),sI i,sI j] gf ob [] (fun B ob'=>B=[]/\ob'=(741,W7 (o8 l i j))::ob):=by
 have d:l[((i:Nat):Int).toNat]?=some (H4 l i):=by rw[B45,Q0 x];simp[x]
 have m:l[((j:Nat):Int).toNat]?=some (H4 l j):=by rw[B45,Q0 q];simp[q]
 obtain⟨a,ha⟩:∃a,a=H4 l i:=⟨_,rfl⟩
 obtain⟨b,hb⟩:∃b,b=H4 l j:=⟨_,rfl⟩
 rw[<-ha]at d;rw[<-hb]at m;have p:(l.set ((i:Nat):Int).toNat b)[((j:Nat):Int).toNat]?=some (H4 (l.set i b) j):=by
  rw[B45,B45];have:j<(l.set i b).length:=by rw[B65];exact q
  rw[Q0 this];simp[q]
 have w:(l.set ((i:Nat):Int).toNat b).set ((j:Nat):Int).toNat a=o8 l i j:=by rw[ha,hb];rfl
 have c:B6 ((741,W7 l)::ob) 740=some (lC g):=by rw[A8 F2];exact y
 refine AL.Met.introH Tryz.func267 F2 rfl rfl rfl (fun A=>?_);refine C1 (B13 (l:=[(0,.s (.one (.ref 740 0))),(1,B7 i),(2,B7 j)]) (ob':=(741,W7 l)::ob) lf A I8 (C8 (L:=[(741,_)]) ⟨v,trivial⟩ N0)) ?_;skip;refine M6 [27,25] [[],[25],[27,25]] [(25,([],[])),(27,([],[]))] [(0,[]),(1,[]),(2,[]),(3,[]),(4,[]),(5,[]),(6,[]),(7,[]),(8,[]),(9,[]),(10,[]),(11,[]),(12,[]),(13,[]),(14,[]),(15,[]),(16,[]),(17,[]),(18,[]),(19,[]),(20,[]),(21,[]),(22,[]),(23,[]),(24,[]),(25,[]),(26,[25]),(27,[25])] [(9,[25])] D6 D6 (C5 A0 A0 D6 A0 A0 (C6 A0 A0) (C5 A0 A0 D6 A0 A0 (E7 A0) (C5 A0 A0 D6 A0 A0 (F0 A0) (C5 A0 A0 D6 A0 A0 (D8 A0 c A0) (C5 A0 A0 D6 A0 A0 (C6 A0 A0) (C5 A0 A0 D6 A0 A0 (C6 A0 A0) (C5 A0 A0 D6 A0 A0 (E7 A0) (C5 A0 A0 D6 A0 A0 (F0 A0) (C5 A0 A0 D6 A0 A0 (D8 A0 c A0) (C5 A0 A0 D6 A0 A0 (C6 A0 A0) (C5 A0 A0 D6 A0 A0 (C6 A0 A0) (C5 A0 A0 D6 A0 A0 (E7 A0) (C5 A0 A0 D6 A0 A0 (F0 A0) (C5 A0 A0 D6 A0 A0 (D8 A0 c A0) (C5 A0 A0 D6 A0 A0 (C6 A0 A0) (C5 A0 A0 D6 A0 A0 (J7 A0 A0 A0 B3 B3) (C5 A0 A0 D6 A0 A0 (dC A0 A0 m A0) (C5 A0 A0 D6 A0 A0 (C6 A0 A0) (C5 A0 A0 D6 A0 A0 (E7 A0) (C5 A0 A0 D6 A0 A0 (F0 A0) (C5 A0 A0 D6 A0 A0 (D8 A0 c A0) (C5 A0 A0 D6 A0 A0 (C6 A0 A0) (C5 A0 A0 D6 A0 A0 (J7 A0 A0 A0 B3 (by (first | omega | (rw[B65];omega)))) ?_)))))))))))))))))))))));refine C5 A0 A0 D6 A0 A0 (dC A0 A0 d A0) (C5 A0 A0 D6 A0 A0 (J7 A0 A0 A0 B3 B3) (W5 A0 A0 D6 A0 A0 (fJ (fun u k=>bQ (b) TySz.out (Q1 k A0) A0 d (Q1 k A0) A0 A0 A0 (fun _ _ _ h=>cW h) (by intro j v z;rcases j with _ | _ | _ | _ | _ | _ | _ | j<;>first | rfl | omega))) A0 ?_));refine C5 A0 A0 D6 A0 A0 (J7 A0 A0 A0 B3 (by (rw[B65];omega))) ?_;refine W5 A0 A0 D6 A0 A0 (fJ (fun u k=>bQ (a) TySz.out (Q1 k A0) A0 p (Q1 k A0) A0 A0 A0 (fun _ _ _ h=>cW h) (by intro j v z;rcases j with _ | _ | _ | _ | _ | _ | _ | j<;>first | rfl | omega))) A0 ?_;refine AT D6 rfl ?_ ?_
 ·refine F5 A0 A0 D6 A0 A0 (C6 A0 A0) ?_;exact jQ
 rw[w];skip;exact T6 (gQ rfl) b8x (C8 (L:=[(741,_)]) ⟨rfl,trivial⟩ MS) ⟨rfl,rfl⟩
theorem ZM{gf:Fr}{ob:Obs}(g:Graph)(l:List Int)(c:Int)(k:l.length<=1048576)(d:B6 ob 740=some (lC g))(h:B6 ob 741=some (W7 l)) :
  AL.Met Tryz.prog 266 [.one (.ref 740 0),sIf c] gf ob [741] (fun j ob'=>j=[]/\ob'=(740,lC g)::(741,W7 (l++[c]))::Obs.forget 741 ob):=by
 refine AL.Met.introH Tryz.func266 F2 rfl rfl rfl (fun i=>?_);refine C1 (B14 741 (l:=[(0,.s (.one (.ref 740 0))),(1,.s (sIf c))]) (L:=[(740,_),(741,_)]) lf i I8 ⟨d,h,trivial⟩) ?_;skip;refine M6 [11,8] [[],[8],[11,8]] [(8,([741],[8])),(11,([],[]))] [(0,[]),(1,[]),(2,[]),(3,[]),(4,[]),(5,[]),(6,[]),(7,[]),(8,[]),(9,[8]),(10,[8]),(11,[8])] [(0,[8])] D6 D6 (C5 A0 A0 D6 A0 A0 (C6 A0 A0) (C5 A0 A0 D6 A0 A0 (C6 A0 A0) (C5 A0 A0 D6 A0 A0 (E7 A0) (C5 A0 A0 D6 A0 A0 (F0 A0) (C5 A0 A0 D6 A0 A0 (D8 A0 A0 A0) (C5 A0 A0 D6 A0 A0 (C6 A0 A0) (C5 A0 A0 D6 A0 A0 (xD A0 A0) (C5 A0 A0 D6 A0 A0 (C0 (c:=D2) (ys:=[c]) (C3 A0 A0 A0 A0 E6) A0 A0 A0) (W5 A0 A0 D6 A0 A0 (kT (fun b a=>P0 (Q1 a A0) A0 (Q1 a A0) (.pure _ _ _ _) SC A0)) A0 (C5 A0 A0 D6 A0 A0 (E7 A0) (C5 A0 A0 D6 A0 A0 (F0 A0) (W5 A0 A0 D6 A0 A0 (fJ (fun b a=>K0 TySz.out (Q1 a A0) A0 (Q1 a A0) A0 A0 A0)) A0 ?_))))))))))));refine rI (ks:=[741]) rfl D6 rfl ?_ ?_
 ·refine F5 A0 A0 D6 A0 A0 (C6 A0 A0) ?_;exact jQ
 skip;exact T6 (gQ rfl) b5w (C8 (L:=[(740,_),(741,_)]) ⟨rfl,rfl,trivial⟩ b9w) ⟨rfl,rfl⟩
theorem b6x{p:Prop}(h:p:=by repeat (first | exact X0 | refine X1 rfl ?_ | refine kS _ ?_ | refine cV _ ?_)):p:=h
theorem A70{gf:Fr}{ob:Obs}(g:Graph)(l:List Int)(p:l.length<=1048576)(m:0<l.length)(c:B6 ob 740=some (lC g))(d:B6 ob 741=some (W7 l)) :
  AL.Met Tryz.prog 265 [.one (.ref 740 0)] gf ob [741] (fun k ob'=>k=[sIf (H4 l (l.length-1))]/\ob'=(740,lC g)::(741,W7 (l.take (l.length-1)))::Obs.forget 741 ob):=by
 have b:l.length-1<l.length:=by omega
 have j:l[((l.length:Int)-1).toNat]?=some (H4 l (l.length-1)):=by rw[show ((l.length:Int)-1).toNat=l.length-1 by omega,Q0 b];simp[b]
 have i:l.take ((l.length:Int)-1).toNat=l.take (l.length-1):=by congr 1;omega
 refine AL.Met.introH Tryz.func265 F2 rfl rfl rfl (fun h=>?_);refine C1 (B14 741 (l:=[(0,.s (.one (.ref 740 0)))]) (L:=[(740,_),(741,_)]) ⟨Y7 rfl,trivial⟩ h I8 ⟨c,d,trivial⟩) ?_;refine zz 22 ?_;refine B0 (dC A0 A0 j A0) A0 (zz 15 ?_);rw[i];refine zz 7 ?_;exact C7 (F1 rfl rfl) b6x (C8 (L:=[(740,_),(741,_)]) ⟨rfl,rfl,trivial⟩ b9w) ⟨rfl,rfl⟩
theorem up_div(j:Nat)(a:j<=1048576):IntKind.i64.wrap (((j:Int)-1).tdiv 2)=(((j-1) / 2:Nat):Int):=by
 have h:((j:Int)-1).tdiv 2=(((j-1) / 2:Nat):Int):=by
  cases j with
  | zero=>rfl
  | succ j =>
   rw[show (((j+1:Nat):Int)-1)=(j:Int) by omega,Int.tdiv_eq_ediv_of_nonneg B3];omega
 rw[h];exact IntWalk.i64_in _ ⟨by omega,by omega⟩
theorem BR{l:List Int}{n:Int}{i j:Nat}(a:i<l.length)(b:j<l.length)(h:∀x∈l,0<=x/\x<n):∀x∈o8 l i j,0<=x/\x<n:=fun x c=>h x ((II a b x).1 c)
theorem hUp_met{gf:Fr}{ob:Obs}(g:Graph)(l:List Int)(j:Nat)(F:g.length<=1048576)(K:l.length<=1048576)(H:∀x∈l,0<=x/\x<(g.length:Int))(G:j<l.length)(D:B6 ob 740=some (lC g))(E:B6 ob 741=some (W7 l)) :
  AL.Met Tryz.prog 118 [FE,sI j] gf ob [] (fun I ob'=>I=[]/\ob'=(741,W7 (upH (U7 g) (j+1) l j))::ob):=by
 have q:∀o,B6 ((741,o)::ob) 740=some (lC g):=fun o=>by rw[A8 F2];exact D
 refine AL.Met.introH Tryz.func118 F2 rfl rfl rfl (fun z=>?_);refine k3 ?_;obtain⟨R,A⟩:∃R,R=upH (U7 g) (j+1) l j:=⟨_,rfl⟩
 rw[<-A];refine C2 (X:=Nat×List Int×Nat) (fun x=>([(0,.s FE),(1,B7 x.2.2)]++gf,(741,W7 x.2.1)::ob)) (fun x=>upH (U7 g) x.1 x.2.1 x.2.2=R/\x.2.2<x.1/\x.2.1.length=l.length/\x.2.2<l.length/\∀y∈x.2.1,0<=y/\y<(g.length:Int)) (fun x=>x.1) (j+1,l,j) ⟨A.symm,by dsimp only;omega,rfl,G,H⟩ ?_ ?_
 ·exact B13 lf z I8 (C8 (L:=[(741,_)]) ⟨E,trivial⟩ N0)
 rintro⟨f,d,k⟩ ⟨c,v,t,hkl,m⟩;dsimp only at c v t hkl m ⊢;obtain⟨f,rfl⟩:∃C,f=C+1:=⟨f-1,by omega⟩
 rw[upH]at c;have u:=up_div k B3;have e:(k-1) / 2<d.length:=by omega
 refine zz 8 ?_;rw[u];refine zz 2 ?_;by_cases B:(k-1) / 2=k
 ·rw[A6 (.inl B)]at c;have b:decide ((((k-1) / 2:Nat):Int)=(k:Int))=true:=A4 B3;refine zz 5 ?_;refine J9 A0 A0 A0 (by rw[b];decide) A0 ?_;refine J9 A0 A0 A0 (by rw[b];decide) A0 ?_;refine J9 A0 A0 A0 (by rw[b];decide) A0 ?_;refine J9 A0 A0 A0 (by rw[b];decide) A0 ?_;refine J9 A0 A0 A0 (by rw[b];decide) A0 ?_;refine B0 (L6 A0 (b) A0) A0 ?_;refine zc 1 (fun p=>?_) fun p=>?_
  ·refine zz 1 ?_;rw[<-c];exact T6 (gQ rfl) gM (fun _ _ h=>h) ⟨rfl,rfl⟩
  ·cases p
 ·have b:decide ((((k-1) / 2:Nat):Int)=(k:Int))=false:=A5 B3;refine zz 5 ?_;refine J4 A0 A0 A0 b (zz 1 ?_);refine J4 A0 A0 A0 b (zz 1 ?_);refine J4 A0 A0 A0 b (zz 1 ?_);refine J4 A0 A0 A0 b (iP (fun a J w=>by kernel_rfl) (vU g d k ((k-1) / 2) F m B3 e (q _) A0) A0 A0 A0 A0 ?_);rintro _ _ ⟨rfl,rfl⟩;refine J4 A0 A0 A0 b (zz 1 ?_);refine B0 (V3 A0 (b) A0) A0 ?_;refine zc 1 (fun p=>?_) fun p=>?_
  ·have hb:U7 g (H4 d k) (H4 d ((k-1) / 2))=false:=by simpa using p
   rw[A6 (.inr hb)]at c;refine zz 1 ?_;rw[<-c];exact T6 (gQ rfl) gM (fun _ _ h=>h) ⟨rfl,rfl⟩
  ·have hb:U7 g (H4 d k) (H4 d ((k-1) / 2))=true:=by simpa using p
   rw[A7 (by rw[hb];simp[B])]at c;refine zz 6 ?_;refine iP (fun a J w=>by kernel_rfl) (vV g d ((k-1) / 2) k e B3 (q _) A0) A0 A0 A0 A0 ?_;rintro _ _ ⟨rfl,rfl⟩;refine zz 5 ?_;refine⟨(f,o8 d ((k-1) / 2) k,(k-1) / 2),⟨c,by dsimp only;omega,by dsimp only;rw[O5];exact t,by dsimp only;omega,BR e B3 m⟩,by dsimp only;omega,?_⟩;exact B13 lf z I8 (C8 (L:=[(741,_)]) ⟨rfl,trivial⟩ MS)
theorem ZN{gf:Fr}{ob:Obs}(g:Graph)(l:List Int)(n:Nat)(K:g.length<=1048576)(Z:l.length<=1048576)(W:∀x∈l,0<=x/\x<(g.length:Int))(hn:n<=l.length)(S:B6 ob 740=some (lC g))(T:B6 ob 741=some (W7 l)) :
  AL.Met Tryz.prog 119 [FE,sI 0,sI n] gf ob [] (fun Y ob'=>∃b,Y=[.one (.p (.v (.bool b)))]/\ob'=(741,W7 (fV (U7 g) n (n+1) l 0))::ob):=by
 have u:∀o,B6 ((741,o)::ob) 740=some (lC g):=fun o=>by rw[A8 F2];exact S
 refine AL.Met.introH Tryz.func119 F2 rfl rfl rfl (fun C=>?_);refine zz 11 ?_;obtain⟨R,J⟩:∃R,R=fV (U7 g) n (n+1) l 0:=⟨_,rfl⟩
 rw[<-J];refine C2 (X:=Nat×List Int×Nat) (fun x=>([(0,.s FE),(1,B7 0),(2,B7 n),(7,B7 x.2.2)]++gf,(741,W7 x.2.1)::ob)) (fun x=>fV (U7 g) n x.1 x.2.1 x.2.2=R/\n<x.1+x.2.2/\x.2.1.length=l.length/\x.2.2<=l.length/\∀y∈x.2.1,0<=y/\y<(g.length:Int)) (fun x=>x.1) (n+1,l,0) ⟨J.symm,by dsimp only;omega,rfl,Nat.zero_le _,W⟩ ?_ ?_
 ·exact B13 lf C I8 (C8 (L:=[(741,_)]) ⟨T,trivial⟩ N0)
 rintro⟨f,c,i⟩ ⟨q,H,D,F,r⟩;dsimp only at q H D F r ⊢;have A:n<=2*i+1->c=R:=fun h=>by
  cases f with
  | zero=>exact q
  | succ f=>rw[fV,A6 h]at q;exact q
 refine zc 19 (fun m=>?_) fun m=>?_
 ·have U:=A1 (or_pick.symm.trans m);rw[A B3];refine zz 9 ?_;exact C7 (F1 rfl rfl) gM (fun _ _ h=>h) ⟨_,rfl,rfl⟩
 have U:=A3 (or_pick.symm.trans m);have G:2*i+1<n:=by omega
 obtain⟨f,rfl⟩:∃Q,f=Q+1:=⟨f-1,by omega⟩
 rw[fV,A7 B3]at q;obtain⟨N,O,P⟩:=YF (bf:=U7 g) (l:=c) G;have t:zC (U7 g) n c i=if 2*i+2<n/\U7 g (H4 c (2*i+2)) (H4 c (2*i+1))=true then 2*i+2 else 2*i+1:=rfl
 obtain⟨j,V⟩:∃j,j=zC (U7 g) n c i:=⟨_,rfl⟩
 rw[<-V]at q N O P t;rw[show 2*(i:Int)+1=((2*i+1:Nat):Int) by omega];refine zz 13 ?_;rw[show ((2*i+1:Nat):Int)+1=((2*i+2:Nat):Int) by omega];refine zz 1 ?_;obtain⟨B,E⟩:∃B,B=(decide (2*i+2<n)&&U7 g (H4 c (2*i+2)) (H4 c (2*i+1))):=⟨_,rfl⟩
 have d:j=if B=true then 2*i+2 else 2*i+1:=by rw[t,E];simp only[B47,decide_eq_true_eq]
 refine S7 ([(0,.s FE),(1,B7 0),(2,B7 n),(7,B7 i),(9,B7 ((2*i+1:Nat):Int)),(10,B7 ((2*i+2:Nat):Int)),(33,K9 B)]++gf) ((741,W7 c)::ob) ?_ ?_
 ·by_cases I:2*i+2<n
  ·have k:decide (((2*i+2:Nat):Int)<(n:Int))=true:=A4 B3;have z:B=U7 g (H4 c (2*i+2)) (H4 c (2*i+1)):=by rw[E,A4 I,Bool.true_and]
   rw[z];refine zz 5 ?_;refine J4 A0 A0 A0 k (zz 1 ?_);refine J4 A0 A0 A0 k (zz 1 ?_);refine J4 A0 A0 A0 k (zz 1 ?_);refine J4 A0 A0 A0 k (iP (fun a M w=>by kernel_rfl) (vU g c (2*i+2) (2*i+1) K r B3 B3 (u _) A0) A0 A0 A0 A0 ?_);rintro _ _ ⟨rfl,rfl⟩;refine B0 (L6 A0 (k) A0) A0 (zz 1 ?_);exact B13 lf C I8 (fun _ _ h=>h)
  ·have k:decide (((2*i+2:Nat):Int)<(n:Int))=false:=A5 B3;have z:B=false:=by rw[E,A5 I,Bool.false_and]
   rw[z];refine zz 5 ?_;refine J9 A0 A0 A0 (by rw[k];decide) A0 ?_;refine J9 A0 A0 A0 (by rw[k];decide) A0 ?_;refine J9 A0 A0 A0 (by rw[k];decide) A0 ?_;refine J9 A0 A0 A0 (by rw[k];decide) A0 ?_;refine B0 (V3 A0 (k) A0) A0 (zz 1 ?_);exact B13 lf C I8 (fun _ _ h=>h)
 skip;refine S7 ([(0,.s FE),(1,B7 0),(2,B7 n),(7,B7 i),(9,B7 j)]++gf) ((741,W7 c)::ob) ?_ ?_
 ·refine zc 0 (fun m=>?_) fun m=>?_
  ·rw[A6 m]at d;skip;refine zz 4 ?_;rw[d];exact B13 lf C I8 (fun _ _ h=>h)
  ·rw[A7 (by rw[m];decide)]at d;refine zz 1 ?_;rw[d];exact B13 lf C I8 (fun _ _ h=>h)
 refine zz 6 ?_;refine iP (fun a M w=>by kernel_rfl) (vU g c j i K r B3 B3 (u _) A0) A0 A0 A0 A0 ?_;rintro _ _ ⟨rfl,rfl⟩;refine zc 2 (fun m=>?_) fun m=>?_
 ·have hb:U7 g (H4 c j) (H4 c i)=false:=by simpa using m
  rw[A6 hb]at q;rw[<-q];refine zz 9 ?_;exact C7 (F1 rfl rfl) gM (fun _ _ h=>h) ⟨_,rfl,rfl⟩
 ·have hb:U7 g (H4 c j) (H4 c i)=true:=by simpa using m
  rw[A7 (by rw[hb];decide)]at q;refine zz 6 ?_;refine iP (fun a M w=>by kernel_rfl) (vV g c i j B3 B3 (u _) A0) A0 A0 A0 A0 ?_;rintro _ _ ⟨rfl,rfl⟩;refine zz 5 ?_;refine⟨(f,o8 c i j,j),⟨q,by dsimp only;omega,by dsimp only;rw[O5];exact D,by dsimp only;omega,BR B3 B3 r⟩,by dsimp only;omega,?_⟩;exact B13 lf C I8 (C8 (L:=[(741,_)]) ⟨rfl,trivial⟩ MS)
theorem GZ{gf:Fr}{ob:Obs}(g:Graph)(l:List Int)(c:Int)(r:g.length<=1000)(u:l.length<=1000)(p:∀x∈l,0<=x/\x<(g.length:Int))(m:0<=c/\c<g.length)(i:B6 ob 740=some (lC g))(j:B6 ob 741=some (W7 l)) :
  AL.Met Tryz.prog 72 [FE,sIf c] gf ob [741] (fun rs ob'=>rs=[]/\ob'=(740,lC g)::(741,W7 (uQ (U7 g) l c))::Obs.forget 741 ob):=by
 have f:∀x∈l++[c],0<=x/\x<(g.length:Int):=fun x d=>by
  rcases List.mem_append.1 d with d | d
  ·exact p x d
  ·rw[List.mem_singleton.1 d];exact m
 have b:(l++[c]).length=l.length+1:=by simp
 have o:upH (U7 g) (l.length+1) (l++[c]) l.length=uQ (U7 g) l c:=rfl;refine AL.Met.introH Tryz.func72 F2 rfl rfl rfl (fun k=>?_);refine C1 (B14 741 (l:=[(0,.s FE),(1,.s (sIf c))]) (L:=[(740,_),(741,_)]) lf k I8 ⟨i,j,trivial⟩) ?_;refine zz 4 ?_;refine iP (fun a q w=>by kernel_rfl) (ZM g l c B3 A0 A0) A0 A0 A0 A0 ?_;rintro _ _ ⟨rfl,rfl⟩;refine zz 4 ?_;refine iP (fun a q w=>by kernel_rfl) (BQ g (l++[c]) A0 A0) A0 A0 A0 A0 ?_;rintro _ _ ⟨rfl,rfl⟩;refine B0 (aL A0 A0 (by (rw[b];omega))) A0 ?_;refine H8 ((by rw[b,show (((l.length+1:Nat):Int))-1=((l.length:Nat):Int) by omega];exact hUp_met g (l++[c]) l.length B3 B3 f B3 A0 A0)) A0 A0 A0 ?_;rintro _ _ ⟨rfl,rfl⟩;refine zz 1 ?_;rw[o];skip;exact T6 (gQ rfl) b6x (C8 (L:=[(740,_),(741,_)]) ⟨rfl,rfl,trivial⟩ b9w) ⟨rfl,rfl⟩
theorem A71{gf:Fr}{ob:Obs}(g:Graph)(l:List Int)(A:g.length<=1000)(B:l.length<=1000)(o:0<l.length)(v:∀x∈l,0<=x/\x<(g.length:Int))(q:B6 ob 740=some (lC g))(r:B6 ob 741=some (W7 l)) :
  AL.Met Tryz.prog 74 [FE] gf ob [741] (fun rs ob'=>rs=[sIf (H4 (sE (U7 g) l) (l.length-1))]/\ob'=(740,lC g)::(741,W7 ((sE (U7 g) l).take (l.length-1)))::Obs.forget 741 ob):=by
 have y:=O5 l 0 (l.length-1);have m:=BR (n:=(g.length:Int)) (i:=0) (j:=l.length-1) o B3 v;have c:fV (U7 g) (l.length-1) (l.length-1+1) (o8 l 0 (l.length-1)) 0=sE (U7 g) l:=by unfold sE;rw[show l.length-1+1=l.length by omega]
 have d:(sE (U7 g) l).length=l.length:=by
  rw[<-c]
  exact (by
   have key:∀(f i:Nat) (x:List Int),(fV (U7 g) (l.length-1) f x i).length=x.length:=by
    intro f;induction f with
    | zero=>intro i x;rfl
    | succ f z =>
     intro i x;rw[fV];split
     ·rfl
     ·split
      ·rfl
      ·rw[z,O5]
   rw[key,O5])
 refine AL.Met.introH Tryz.func74 F2 rfl rfl rfl (fun u=>?_);refine C1 (B14 741 (l:=[(0,.s FE)]) (L:=[(740,_),(741,_)]) ⟨Y7 rfl,trivial⟩ u I8 ⟨q,r,trivial⟩) ?_;refine zz 7 ?_;refine iP (fun a p w=>by kernel_rfl) (BQ g l A0 A0) A0 A0 A0 A0 ?_;rintro _ _ ⟨rfl,rfl⟩;refine zz 3 ?_;rw[show ((l.length:Nat):Int)-1=((l.length-1:Nat):Int) by omega];refine zz 4 ?_;refine iP (fun a p w=>by kernel_rfl) (vV g l 0 (l.length-1) o B3 A0 A0) A0 A0 A0 A0 ?_;rintro _ _ ⟨rfl,rfl⟩;refine zz 5 ?_;refine H8 (ZN g (o8 l 0 (l.length-1)) (l.length-1) B3 B3 m B3 A0 A0) A0 A0 A0 ?_;rintro _ _ ⟨b,rfl,rfl⟩;refine zz 1 ?_;rw[c];refine zz 3 ?_;refine iP (fun a p w=>by kernel_rfl) ((by rw[<-d];exact A70 g (sE (U7 g) l) B3 B3 A0 A0)) A0 A0 A0 A0 ?_;rintro _ _ ⟨rfl,rfl⟩;refine zz 2 ?_;rw[d];refine zz 1 ?_;exact C7 (F1 rfl rfl) b6x (C8 (L:=[(740,_),(741,_)]) ⟨rfl,rfl,trivial⟩ b9w) ⟨rfl,rfl⟩
theorem OInv.ub{g:Graph}{a:List Bool}{k i:Nat}{d c b:List Int}(h:OInv g a k i d c b)(p:Nat)(c:p<g.length):-1<=H4 d p/\H4 d p<=g.length:=by
 cases e:L9 a p
 ·have:=h.off p c e;omega
 ·have f:=h.cnt p c e;have j:=LV g a (b.take k) p;split at f<;>omega
theorem ZO(g:Graph)(s:Int)(h:FewT g):FnOk Tryz.prog 37 [S3 g,K8 [s]] (fun rs=>rs=[K8 (p5 g s).1,D3 (p5 g s).2]):=by
 have hg:=h.few.len;refine FnOk.intro Tryz.func37 F2 A0 A0 A0 A0 (zz 9 ?_);refine E3 (XI g h) ?_;refine zc 7 (fun d=>?_) fun d=>?_
 ·have D:P2 g≠0:=A1 d;refine zz 3 ?_;refine B0 (E8 _ 1 D2) A0 (zz 3 ?_);exact B2 (rs:=[K8 [],D3 (P2 g)]) (S6 rfl rfl rfl rfl rfl) (by unfold p5;rw[A6 D])
 have D:¬P2 g≠0:=A3 d;have K:=fT (Decidable.not_not.1 D);refine zz 9 ?_;refine C2 (X:=Nat) (fun i=>([(0,B8 Commit 3 K5 g),(1,B8 Int 1 D2 [s]),(23,B8 Int 1 D2 [s]),(24,B7 1),(25,B7 i)],[])) (fun i=>i<=1/\(i=1->bD g s)) (fun i=>1-i) 0 ⟨Nat.zero_le _,fun h=>by cases h⟩ (Sees.of lf lo) ?_;rintro i ⟨U,hs⟩;dsimp only at U hs ⊢;refine zc 5 (fun d=>?_) fun d=>?_
 ·have G:i=0:=by have D:=A1 d;omega
  subst G;have hv:[s][((0:Nat):Int).toNat]?=some s:=rfl;refine zz 5 ?_;refine B0 (A9 A0 (.pure _ _ _ _) A0 B3 hv) A0 (zz 7 ?_);refine E3 (dis_ok g s) ?_;refine zc 2 (fun d=>?_) fun d=>?_
  ·have z:¬bD g s:=by simpa using d
   refine zz 2 ?_;refine B0 (E8 _ 1 D2) A0 (zz 3 ?_);exact B2 (rs:=[K8 [],D3 5]) (S6 rfl rfl rfl rfl rfl) (by unfold p5;rw[A7 D,A7 z])
  ·have z:bD g s:=by simpa using d
   refine zz 5 ?_;exact⟨1,⟨Nat.le_refl _,fun _=>z⟩,by omega,(Sees.of lf lo)⟩
 have ah:i=1:=by have D:=A3 d;omega
 have hs:=hs ah;have ab:p5 g s=(uS g [s],0):=by unfold p5;rw[A7 D,A6 hs]
 rw[ab];have ad:∀f∈[s],0<=f/\f<g.length:=fun f hf=>by rw[List.mem_singleton.1 hf];exact hs
 refine zz 10 ?_;refine eK (KK g [s] h.few K.rel ad dV) A0 A0 A0 A0 ?_;rintro _ _ ⟨q,rfl,rfl,j,O⟩;refine⟨rfl,?_⟩;refine zz 2 ?_;have T:=lK K.rel [s] ad;obtain⟨y,E⟩:∃y,y=V9 g [s]:=⟨_,rfl⟩
 have aj:y.length=g.length:=by rw[E];exact QK g _
 have W:uS g [s]=wR g y (g.length+1) []:=by rw[E];rfl
 rw[<-E]at O T;rw[W];have ao:∀p,p<g.length -> -1<=H4 q p/\H4 q p<=g.length:=fun p v=>by
  rw[O p v];have:=LV g y [] p;split<;>omega
 refine zz 3 ?_;refine B0 (NP (cs:=[.list Commit 3 K5 g]) A0 A0) A0 (zz 1 ?_);refine C4 (n8 740 A0 A0 A0) A0 (zz 4 ?_);refine C1 (B19 741 Int 1 D2 3 (kb:=740) (o:=0) A0 A0 A0) (zz 2 ?_);refine B0 (vI A0 A0) A0 (zz 3 ?_);refine C2 (X:=Nat×List Int) (fun x=>([(0,B8 Commit 3 K5 g),(10,.s (.one (.mut 753))),(11,.s (.one (.ref 740 0))),(42,.s (.one (.mut 753))),(43,B7 g.length),(44,B7 x.1)],[(740,lC g),(741,W7 x.2),(753,BP q)])) (fun x=>x.1<=g.length/\HInv g q x.2 x.1) (fun x=>g.length-x.1) (0,[]) ⟨Nat.zero_le _,HInv.nil g q⟩ (by rw[<-j];exact (Sees.of lf lo)) ?_;rintro⟨i,v⟩ ⟨U,R⟩;dsimp only at U R ⊢;have Z:=R.le;refine zc 5 (fun d=>?_) fun d=>?_
 ·have G:i<g.length:=by have D:=A1 d;(try dsimp only at D);omega
  have J:=rJ (l:=q) (p:=(i:Int)) B3;rw[B45]at J;have S:=R.step;have ak:∀x∈v,0<=x/\x<(g.length:Int):=fun x hx=>by have:=R.rng x hx;omega
  refine zz 7 ?_;refine B0 (M4 A0 A0 J A0) A0 ?_;refine zc 8 (fun d=>?_) fun d=>?_
  ·have z:H4 q i=0:=A1 d;rw[A6 z]at S;skip;refine zz 2 ?_;refine B0 (kW A0 D6) A0 (zz 2 ?_);refine H8 (GZ g v i hg B3 ak B3 A0 A0) A0 A0 A0 ?_;rintro _ _ ⟨rfl,rfl⟩;refine zz 5 ?_;exact⟨(i+1,uQ (U7 g) v i),⟨G,S⟩,by dsimp only;omega,(Sees.of lf lo)⟩
  ·have z:¬H4 q i=0:=A3 d;rw[A7 z]at S;refine zz 5 ?_;exact⟨(i+1,v),⟨G,S⟩,by dsimp only;omega,(Sees.of lf lo)⟩
 have ai:i=g.length:=by have D:=A3 d;(try dsimp only at D);omega
 rw[ai]at R;have w:=OInv.start j aj O R;refine zz 3 ?_;refine C4 (O9 14 _ D2 A0) A0 (zz 3 ?_);refine C2 (X:=List Int×List Int×List Int) (fun x=>([(0,B8 Commit 3 K5 g),(10,.s (.one (.mut 753))),(11,.s (.one (.ref 740 0))),(14,.s (.one (.buf 14 Int 1 D2 x.2.2)))],[(14,.spare x.2.2.length 1 3),(740,lC g),(741,W7 x.2.1),(753,BP x.1)])) (fun x=>OInv g y x.2.2.length 0 x.1 x.2.1 x.2.2/\wR g y (g.length+1-x.2.2.length) x.2.2=wR g y (g.length+1) []) (fun x=>g.length+1-x.2.2.length) (q,v,[]) ⟨w,rfl⟩ (Sees.of lf lo) ?_;rintro⟨q,v,B⟩ ⟨w,F⟩;dsimp only at w F ⊢;obtain⟨ap,Z⟩:=w.le;have j:=w.len;refine zz 4 ?_;refine H8 (BQ g v A0 A0) A0 A0 A0 ?_;rintro _ _ ⟨rfl,rfl⟩;refine zc 2 (fun d=>?_) fun d=>?_;rotate_left
 ·have z:v=[]:=by
   have z:=A3 d;exact List.length_eq_zero_iff.1 B3
  rw[z]at w;have hb:=w.fin;rw[A92 B3]at F;rw[<-F];refine zz 8 ?_;exact B2 (rs:=[K8 B,D3 0]) (S6 rfl rfl rfl rfl rfl) rfl
 have H:0<v.length:=by have z:=A1 d;omega
 obtain⟨b1,b2,b3⟩:=w.pop H;have hm:H4 v 0∈v:=by rw[Q0 H];exact B50 H
 have ar:=w.hpr _ hm;obtain⟨c,hc⟩:∃c:Nat,H4 v 0=(c:Int):=⟨(H4 v 0).toNat,by omega⟩
 rw[A26 B3 B3,b1,hc]at F;rw[hc]at b2 b3;have M:c<g.length:=by omega
 obtain⟨C,P⟩:∃C,C=g[c]:=⟨_,rfl⟩
 have al:g[((c:Nat):Int).toNat]?=some C:=by rw[P];simp[M]
 have I:E9 g c=C.Parents:=by rw[dI M,P]
 have an:=h.few.pars C (by rw[P];exact B50 M);obtain⟨Q,L⟩:∃Q,Q=(sE (U7 g) v).take (v.length-1):=⟨_,rfl⟩
 refine zz 5 ?_;refine B0 (kW A0 D6) A0 (H8 (A71 g v hg B3 H w.hpr A0 A0) A0 A0 A0 ?_);rintro _ _ ⟨rfl,rfl⟩;refine B0 (xD A0 A0) A0 (zz 2 ?_);rw[b3,<-L];rw[<-L]at b2;refine zz 4 ?_;refine B0 (C0 (c:=D2) (ys:=[(c:Int)]) (C3 A0 A0 A0 A0 E6) A0 A0 A0) A0 (zz 7 ?_);refine B0 (A9 A0 (.pure _ _ _ _) A0 B3 al) A0 (zz 6 ?_);refine C2 (X:=Nat×List Int×List Int) (fun x=>([(0,B8 Commit 3 K5 g),(10,.s (.one (.mut 753))),(11,.s (.one (.ref 740 0))),(14,.s (.one (.buf 14 Int 1 D2 (B++[(c:Int)])))),(72,B8 Int 1 D2 C.Parents),(73,B7 C.Parents.length),(74,B7 x.1)],[(14,.spare (B++[(c:Int)]).length 1 3),(740,lC g),(741,W7 x.2.2),(753,BP x.2.1)])) (fun x=>x.1<=C.Parents.length/\OInv g y B.length x.1 x.2.1 x.2.2 (B++[(c:Int)])) (fun x=>C.Parents.length-x.1) (0,q,Q) ⟨Nat.zero_le _,b2⟩ (Sees.of lf lo) ?_;rintro⟨i,q,v⟩ ⟨U,w⟩;dsimp only at U w ⊢;obtain⟨V,Z⟩:=w.le;have j:=w.len;have au:=OInv.ub w;have af:(B++[(c:Int)])[B.length]?=some (c:Int):=by rw[B64 (Nat.le_refl _),B92];rfl
 rw[B48,List.length_singleton]at V;refine zc 5 (fun d=>?_) fun d=>?_;rotate_left
 ·have z:i=C.Parents.length:=by have D:=A3 d;(try dsimp only at D);omega
  rw[z,<-I]at w;have S:=w.next dV af;refine zz 1 ?_;refine⟨(q,v,B++[(c:Int)]),⟨S,?_⟩,by dsimp only;rw[B48,List.length_singleton];omega,(Sees.of lf lo)⟩;dsimp only;rw[<-F,B48,List.length_singleton]
  congr 1<;>omega
 have A:i<C.Parents.length:=by have D:=A1 d;(try dsimp only at D);omega
 have aq:=(L7 K.rel c).1 C.Parents[i] (by rw[I];exact B50 A);obtain⟨p,Y⟩:∃p:Nat,C.Parents[i]=(p:Int):=⟨C.Parents[i].toNat,by omega⟩
 have am:C.Parents[i]?=some (p:Int):=by rw[B44 A,Y]
 obtain⟨s1,s2,s3,s4,s5⟩:=w.step K.rel T dV af (i:=i) (p:=p) (by rw[I];exact A) (by simp only[I];exact Y);have J:=rJ (l:=q) (p:=(p:Int)) B3;have ae:(b9 q p)[((p:Nat):Int).toNat]?=some (H4 q p-1):=by
  unfold b9;rw[B45,B89 B3]
 have ag:(b9 q p).length=g.length:=by unfold b9;rw[B65,j]
 have ac:q.set ((p:Nat):Int).toNat (H4 q ((p:Nat):Int).toNat-1)=b9 q p:=rfl;refine zz 5 ?_;refine B0 (A9 A0 (.pure _ _ _ _) A0 B3 am) A0 (zz 7 ?_);refine B0 (E4 A0 A0 A0 B3 (by (rw[j];omega))) A0 ?_;refine B0 (M4 A0 A0 J A0) A0 (B0 (aL A0 A0 (by (rw[B45];omega))) A0 ?_);refine B0 (E4 A0 A0 A0 B3 (by (rw[j];omega))) A0 ?_;refine V1 (G5 TySz.out A0 A0 (by (rw[j];omega)) A0 A0) ?_;refine zz 1 ?_;rw[ac];refine zz 4 ?_;refine B0 (E4 A0 A0 A0 B3 (by (rw[ag];omega))) A0 ?_;refine B0 (M4 A0 A0 ae A0) A0 ?_;refine zc 2 (fun d=>?_) fun d=>?_
 ·have z:H4 q p-1=0:=A1 d;rw[A6 z]at s5;skip;refine zz 2 ?_;refine B0 (kW A0 D6) A0 (zz 2 ?_);refine H8 (GZ g v p hg B3 w.hpr B3 A0 A0) A0 A0 A0 ?_;rintro _ _ ⟨rfl,rfl⟩;refine zz 5 ?_;exact⟨(i+1,b9 q p,uQ (U7 g) v p),⟨A,s5⟩,by dsimp only;omega,(Sees.of lf lo)⟩
 ·have z:¬H4 q p-1=0:=A3 d;rw[A7 z]at s5;refine zz 5 ?_;exact⟨(i+1,b9 q p,v),⟨A,s5⟩,by dsimp only;omega,(Sees.of lf lo)⟩
abbrev isS(l:List Int):S1:=.one (.p (.list Int 1 D2 l))
theorem A72(f:Str×Str->Bool)(g:Graph)(c:Nat):(Q4 g c).flatten.any f=w9 f g c:=by
 unfold w9;rw[List.any_flatten]
theorem xN(g:Graph)(s:Int)(f:FuncId)(α:Type)(I:Nat)(H:α->Nat->Cell)(v:α)(j:Str×Str->Bool)(h:FewT g)(Q:Short g)
  (Z:Valid g->∀c:Nat,c<g.length->∀x∈(Q4 g c).flatten,AL.Met Tryz.prog f [OP x,.one (.eref α I H v 0)] [] [] [] (fun rs ob'=>rs=[mG (j x)]/\ob'=[])) :
  AL.Met Tryz.prog 22 [.one (.p (.list Commit 3 K5 g)),N8 s,.one (.fncE f α I H v)] [] [] [] (fun rs ob'=>rs=[isS (Y2 j g s).1,N8 (Y2 j g s).2]/\ob'=[]):=by
 refine AL.Met.intro Tryz.func22 F2 A0 A0 A0 (zz 9 ?_);refine B0 (C0 (c:=D2) (ys:=[s]) (C3 A0 A0 A0 A0 E6) A0 A0 A0) A0 (E3 (ZO g s h) ?_);refine zc 12 (fun q=>?_) fun q=>?_
 ·have B:(p5 g s).2≠0:=A1 q;refine zz 3 ?_;refine B0 (E8 _ 1 D2) A0 (zz 3 ?_);exact C7 (RetOk.s2 (S6 rfl rfl rfl rfl rfl)) gM (ObIn.spec (ob':=[]) trivial) ⟨by unfold Y2;rw[A6 B],rfl⟩
 have B:¬(p5 g s).2≠0:=A3 q;obtain⟨R,A,D⟩:Valid g/\(∀x∈(p5 g s).1,0<=x/\x<(g.length:Int))/\(p5 g s).1.Nodup:=by
  unfold p5 at B ⊢;split at B
  ·rename_i J;exact absurd J B
  ·rename_i J;rw[A7 J];have:=fT (Decidable.not_not.1 J);split
   ·exact⟨this,(yK g [s]).2,(yK g [s]).1⟩
   ·exact⟨this,(fun _ h=>by cases h),List.nodup_nil⟩
 have z:Y2 j g s=((p5 g s).1.filter fun c=>w9 j g c.toNat,0):=by unfold Y2;rw[A7 B]
 rw[z];obtain⟨O,U⟩:∃O,O=(p5 g s).1:=⟨_,rfl⟩
 rw[<-U]at A D ⊢;have V:=bA D A;have hg:=h.few.len;refine zz 3 ?_;refine C4 (O9 10 _ D2 A0) A0 (zz 9 ?_);refine C2 (X:=Nat) (fun k=>([(0,B8 Commit 3 K5 g),(2,.s (.one (.fncE f α I H v))),(10,.s (.one (.buf 10 Int 1 D2 ((O.take k).filter fun c=>w9 j g c.toNat)))),(23,B8 Int 1 D2 O),(24,B7 O.length),(25,B7 k)],[(10,.spare ((O.take k).filter fun c=>w9 j g c.toNat).length 1 3)])) (fun k=>k<=O.length) (fun k=>O.length-k) 0 (Nat.zero_le _) (Sees.of lf lo) ?_;intro k hk;dsimp only at hk ⊢;have C:=List.length_filter_le (fun c:Int=>w9 j g c.toNat) (O.take k);rw[B54]at C;refine zc 5 (fun q=>?_) fun q=>?_;rotate_left
 ·have P:k=O.length:=by have K:=A3 q;(try dsimp only at K);omega
  rw[P,B51];refine zz 8 ?_;exact C7 (RetOk.s2 (S6 rfl rfl rfl rfl rfl)) gM (ObIn.spec (ob':=[]) trivial) ⟨rfl,rfl⟩
 have y:k<O.length:=by have K:=A1 q;(try dsimp only at K);omega
 have Y:=A _ (B50 y);obtain⟨c,W⟩:∃c:Nat,O[k]=(c:Int):=⟨O[k].toNat,by omega⟩
 have G:O[k]?=some (c:Int):=by rw[B44 y,W]
 have m:(O.take (k+1)).filter (fun c=>w9 j g c.toNat)=((O.take k).filter fun c=>w9 j g c.toNat)++(if w9 j g c=true then [(c:Int)] else []):=by
  rw[List.take_add_one,G,Option.toList_some,B99]
  congr 1
  rw[B94,B45];rfl
 obtain⟨F,T⟩:∃F,F=(O.take k).filter fun c=>w9 j g c.toNat:=⟨_,rfl⟩
 rw[<-T]at C m ⊢;have S:=vS h R c;have w:=kZ S (Q4 g c).length;unfold aU at w;rw[B51]at w;have M:=Z R c B3;have L:=A72 j g c;refine zz 5 ?_;refine B0 (A9 A0 (.pure _ _ _ _) A0 B3 G) A0 (zz 7 ?_);refine E3 (GW g c h R Q B3) (E3 (FD (Q4 g c) S) (zz 1 ?_));refine eK (vT f α I H v j (Q4 g c).flatten B3 M) A0 A0 A0 A0 ?_;rintro _ _ ⟨rfl,rfl⟩;refine⟨rfl,?_⟩;refine zz 1 ?_;rw[L];refine zc 0 (fun q=>?_) fun q=>?_
 ·rw[A6 q]at m;skip;refine zz 3 ?_;refine B0 (C0 (c:=D2) (ys:=[(c:Int)]) (C3 A0 A0 A0 A0 E6) A0 A0 A0) A0 (zz 7 ?_);refine⟨k+1,by omega,by omega,?_⟩;rw[m];exact (Sees.of lf lo)
 ·rw[q,A7 F2,B67]at m;refine zz 5 ?_;refine⟨k+1,by omega,by omega,?_⟩;rw[m];exact (Sees.of lf lo)
theorem OU(g:Graph)(s:Int)(a:Str)(h:FewT g)(f:Short g)(m:a.length<=1073741824):FnOk Tryz.prog 28 [S3 g,D3 s,F3 a] (fun rs=>rs=[K8 (bX g s a).1,D3 (bX g s a).2]):=by
 refine FnOk.intro Tryz.func28 F2 A0 A0 A0 A0 (zz 2 ?_);refine B0 (n_boxE A0 A0) A0 (B0 (E8 _ 1 D2) A0 ?_);refine zc 10 (fun b=>?_) fun b=>?_
 ·have e:a=[]:=A1 b;refine zz 2 ?_;refine B0 (E8 _ 1 D2) A0 (zz 3 ?_);exact B2 (rs:=[K8 [],D3 2]) (S6 rfl rfl rfl rfl rfl) (by unfold bX;rw[A6 e])
 have e:¬a=[]:=A3 b;refine zc 7 (fun b=>?_) fun b=>?_
 ·have j:(256:Int)<a.length:=A1 b;refine zz 2 ?_;refine B0 (E8 _ 1 D2) A0 (zz 3 ?_);exact B2 (rs:=[K8 [],D3 1]) (S6 rfl rfl rfl rfl rfl) (by unfold bX;rw[A7 e,A6 B3])
 have j:¬(256:Int)<a.length:=A3 b;have d:bX g s a=Y2 (differs a) g s:=by unfold bX;rw[A7 e,A7 B3]
 rw[d];refine zz 5 ?_;refine B0 (xE A0) A0 ?_
 refine eK (xN g s 55 Unit 1 (cE a) () (differs a) h f (fun n c p x o=>by
  obtain⟨l,k,i⟩:=List.mem_flatten.1 o;have hb:=(vS h n c).strs l k x i
  exact A64 a x m hb.1 hb.2)) rfl rfl rfl rfl ?_
 rintro _ _ ⟨rfl,rfl⟩;refine⟨rfl,?_⟩;refine zz 5 ?_;refine zz 1 ?_;exact B2 (rs:=[K8 (Y2 (differs a) g s).1,D3 (Y2 (differs a) g s).2]) (S6 rfl rfl rfl rfl rfl) rfl
theorem TT(g:Graph)(c:Int)(nd:Str)(h:FewT g)(K:Short g)(Z:nd.length<=1073741824):FnOk Tryz.prog 29 [S3 g,D3 c,F3 nd] (fun rs=>rs=[K8 (bY g c nd).1,D3 (bY g c nd).2]):=by
 refine FnOk.intro Tryz.func29 F2 A0 A0 A0 A0 (zz 10 ?_);refine bN (ZJ g c h K) A0 A0 A0 ?_;rintro _ ⟨_,rfl⟩;refine zz 6 ?_;refine zc 5 (fun v=>?_) fun v=>?_
 ·have d:y6 g c≠0:=A1 v;refine zz 3 ?_;refine B0 (E8 _ 1 D2) A0 (zz 3 ?_);exact B2 (rs:=[K8 [],D3 (y6 g c)]) (S6 rfl rfl rfl rfl rfl) (by unfold bY;rw[A6 d])
 have d:¬y6 g c≠0:=A3 v;obtain⟨hv,ad,G⟩:=xI (Decidable.not_not.1 d);obtain⟨k,rfl⟩:∃k:Nat,c=(k:Int):=⟨c.toNat,by omega⟩
 have J:bY g (k:Int) nd=((Q4 g k).map (p6 nd),0):=by unfold bY;rw[A7 d,B45]
 rw[J];have F:=vS h hv k;refine zz 3 ?_;refine C4 (O9 10 _ D2 A0) A0 (zz 6 ?_);refine E3 (GW g k h hv K B3) (zz 3 ?_);obtain⟨B,M⟩:∃B,B=Q4 g k:=⟨_,rfl⟩
 rw[<-M]at F ⊢;have ac:=F.len;refine zz 1 ?_;refine C2 (X:=Nat) (fun p=>([(2,Q6 nd),(10,.s (.one (.buf 10 Int 1 D2 ((B.take p).map (p6 nd))))),(27,B8 (List (Str×Str)) 1 jC B),(28,B7 B.length),(29,B7 p)],[(10,.spare ((B.take p).map (p6 nd)).length 1 3)])) (fun p=>p<=B.length) (fun p=>B.length-p) 0 (Nat.zero_le _) (Sees.of lf lo) ?_;intro p hp;dsimp only at hp ⊢;have Q:((B.take p).map (p6 nd)).length<=33:=by rw[B68,B54];omega
 refine zc 5 (fun v=>?_) fun v=>?_;rotate_left
 ·have R:p=B.length:=by have d:=A3 v;(try dsimp only at d);omega
  rw[R,B51];refine zz 8 ?_;exact B2 (rs:=[K8 (B.map (p6 nd)),D3 0]) (S6 rfl rfl rfl rfl rfl) rfl
 have q:p<B.length:=by have d:=A1 v;(try dsimp only at d);omega
 have T:=OO (nd:=nd) q;obtain⟨l,P⟩:∃l,l=B[p]:=⟨_,rfl⟩
 have U:B[p]?=some l:=by rw[P];simp[q]
 have z:l∈B:=by rw[P];exact B50 q
 have ae:=F.lens l z;rw[<-P]at T;obtain⟨S,hS⟩:∃S,S=(B.take p).map (p6 nd):=⟨_,rfl⟩
 rw[<-hS]at T Q ⊢;refine zz 5 ?_;refine B0 (A9 A0 (.pure _ _ _ _) A0 B3 U) A0 (zz 15 ?_);refine C2 (X:=Nat) (fun i=>([(2,Q6 nd),(10,.s (.one (.buf 10 Int 1 D2 S))),(13,B7 (p6 nd (l.take i))),(27,B8 (List (Str×Str)) 1 jC B),(28,B7 B.length),(29,B7 p),(33,B8 (Str×Str) 2 fX l),(34,B7 l.length),(35,B7 i)],[(10,.spare S.length 1 3)])) (fun i=>i<=l.length) (fun i=>l.length-i) 0 (Nat.zero_le _) (Sees.of lf lo) ?_;intro i hi;dsimp only at hi ⊢;refine zc 5 (fun v=>?_) fun v=>?_
 ·have j:i<l.length:=by have d:=A1 v;(try dsimp only at d);omega
  have C:=A63 (nd:=nd) j;obtain⟨x,W⟩:∃x,x=l[i]:=⟨_,rfl⟩
  have V:l[i]?=some x:=by rw[W];simp[j]
  have w:=F.strs l z x (by rw[W];exact B50 j);rw[<-W]at C;have L:=BI (nd:=nd) (l:=l.take i) fun y hy=>F.strs l z y (List.mem_of_mem_take hy);rw[B54]at L;have G:=tK nd x.1 w.1;have N:=tK nd x.2 w.2;obtain⟨s0,A⟩:∃s0,s0=p6 nd (l.take i):=⟨_,rfl⟩
  obtain⟨u1,D⟩:∃u1,u1=m6 nd x.1:=⟨_,rfl⟩
  obtain⟨u2,E⟩:∃u2,u2=m6 nd x.2:=⟨_,rfl⟩
  have Y:min i l.length<=400:=by omega
  have ab:-6710887200<=s0/\s0<=6710887200:=by rw[A];omega
  rw[<-D]at G;rw[<-E]at N;rw[<-A,<-D,<-E]at C;rw[<-A];clear L;have H:=oU nd x.1 Z w.1;have I:=oU nd x.2 Z w.2;rw[<-D]at H;rw[<-E]at I;refine zz 5 ?_;refine B0 (A9 A0 (.pure _ _ _ _) A0 B3 V) A0 (zz 1 ?_);refine C4 (H9 15 A0) A0 (zz 7 ?_);refine D1 (K4 (I) A0 A0) A0 A0 (zz 3 ?_);refine D1 (K4 (H) A0 A0) A0 A0 (D1 (aL A0 A0 B3) A0 A0 (zz 7 ?_));refine⟨i+1,by omega,by omega,?_⟩;rw[C];exact (Sees.of lf lo)
 ·have O:i=l.length:=by have d:=A3 v;(try dsimp only at d);omega
  rw[O,B51];refine zz 4 ?_;refine B0 (C0 (c:=D2) (ys:=[p6 nd l]) (C3 A0 A0 A0 A0 E6) A0 A0 A0) A0 (zz 7 ?_);refine⟨p+1,by omega,by omega,?_⟩;rw[T];exact (Sees.of lf lo)
theorem TU(a b:List Str)(ha:a.length<=4096)(hb:b.length<=4096):FnOk Tryz.prog 59 [n7 a,n7 b] (fun d=>d=[pChanges (sB (J8 (D5 [a,b]) a) (J8 (D5 [a,b]) b))]):=by
 have f:(J8 (D5 [a,b]) a).length=a.length:=by simp[J8]
 have i:(J8 (D5 [a,b]) b).length=b.length:=by simp[J8]
 refine FnOk.intro Tryz.func59 F2 A0 A0 A0 A0 (zz 8 ?_);refine B0 (C0 (c:=strsC) (ys:=[a,b]) (C3 A0 A0 A0 A0 (C3 A0 A0 A0 A0 E6)) A0 A0 A0) A0 (E3 (ids_ok [a,b] b2y dV) (zz 5 ?_));refine D1 (A9 A0 (.pure _ _ _ _) A0 B3 A0) A0 A0 (zz 2 ?_);refine D1 (A9 A0 (.pure _ _ _ _) A0 B3 A0) A0 A0 (zz 1 ?_);refine D1 (K4 (walk_ok _ _ B3 B3) A0 A0) A0 A0 (zz 3 ?_);exact B2 (G6 rfl rfl rfl) rfl
theorem check12_good{p:Patch}(b:¬uI p≠0):wO p.Hunks=true:=by
 by_cases a:wO p.Hunks=true
 ·exact a
 ·exfalso;apply b;unfold uI;split
  ·decide
  ·rw[A6 (by simpa using a)];decide
theorem OV{α:Type}{a b:List α}{k:Nat}(d:a.length=b.length)(c:k=a.length)(h:a.take k=b.take k):a=b:=by
 subst c;rw[B51,d,B51]at h;exact h
theorem BS(n:Int):FnOk Tryz.prog 125 [D3 n] (fun a=>a=[E1 (decide (O7 n))]):=by
 refine FnOk.intro Tryz.func125 F2 A0 A0 A0 A0 (zz 15 ?_);refine B2 (G6 A0 A0 A0) ?_;simp only[N1];rfl
theorem ZP{gf:Fr}{ob:Obs}(p:List Span):AL.Met Tryz.prog 173 [.one (.p (.list Span 2 spanC p))] gf ob [] (fun b ob'=>b=[.one (.full Span 2 spanC p)]/\ob'=ob):=by
 refine AL.Met.intro Tryz.func173 F2 A0 A0 A0 (zz 11 ?_);refine B0 (SK A0 (.pure _ _ _ _) A0 A0 B3 B3 (by first | rfl | omega)) A0 ?_;refine zz 2 ?_;rw[show p.take (p.length:Int).toNat=p by simp];refine zz 1 ?_;exact C7 (F1 rfl rfl) gM (fun _ _ h=>h) ⟨rfl,rfl⟩
def gX(i j:Int):List Span->List Change
 | []=>[]
 | x::r=>(if x.From>i\/x.To>j then [⟨i,x.From-i,j,x.To-j⟩] else [])++gX (x.From+1) (x.To+1) r
theorem xO(m n:Int):∀(p:List Span) (i j:Int),gX i j (p++[⟨m,n⟩])=y5 i j p m n
 | [],i,j=>by simp[gX,y5]
 | x::r,i,j=>by
  rw[B71,gX,y5,xO m n r]
theorem FF(p:List Span)(m n:Int)(S:p.length<=536870912)(H:-1099511627776<=m/\m<=1099511627776)(I:-1099511627776<=n/\n<=1099511627776)(hb:∀s∈p,-1099511627776<=s.From/\s.From<=1099511627776 /\ -1099511627776<=s.To/\s.To<=1099511627776) :
  FnOk Tryz.prog 126 [pSpans p,D3 m,D3 n] (fun R=>R=[pChanges (lM p m n)]):=by
 refine FnOk.intro Tryz.func126 F2 A0 A0 A0 A0 (zz 6 ?_);refine C4 (O9 7 _ changeC A0) A0 (zz 10 ?_);refine H8 (ZP p) A0 A0 A0 ?_;rintro _ _ ⟨rfl,rfl⟩;refine zz 3 ?_;refine B0 (C0 (c:=spanC) (ys:=[⟨m,n⟩]) (C3 A0 A0 A0 A0 E6) A0 A0 A0) A0 (C4 (EV 18 A0 A0 (.pure _ _ _ _) b2y dV A0) A0 (zz 3 ?_));obtain⟨q,A⟩:∃q,q=p++[(⟨m,n⟩:Span)]:=⟨_,rfl⟩
 have Q:q.length=p.length+1:=by rw[A];simp
 have F:∀s∈q,-1099511627776<=s.From/\s.From<=1099511627776 /\ -1099511627776<=s.To/\s.To<=1099511627776:=by
  intro s K;rw[A]at K;rcases List.mem_append.1 K with h | h
  ·exact hb s h
  ·simp at h;subst h;exact⟨H.1,H.2,I.1,I.2⟩
 have z:lM p m n=gX 0 0 q:=by rw[A,xO];rfl
 rw[<-A];refine zz 1 ?_;refine C2 (X:=Nat×Int×Int×List Change) (fun x=>([(7,.s (.one (.buf 7 Change 4 changeC x.2.2.2))),(8,B7 x.2.1),(9,B7 x.2.2.1),(18,.s (.one (.buf 18 Span 2 spanC q))),(19,B7 q.length),(20,B7 x.1)],[(7,.spare x.2.2.2.length 4 72)])) (fun x=>x.1<=q.length/\x.2.2.2++gX x.2.1 x.2.2.1 (q.drop x.1)=lM p m n/\(-1099511627777<=x.2.1/\x.2.1<=1099511627777)/\(-1099511627777<=x.2.2.1/\x.2.2.1<=1099511627777)/\x.2.2.2.length<=x.1) (fun x=>q.length-x.1) (0,0,0,[]) ⟨Nat.zero_le _,z.symm,by decide,by decide,Nat.le_refl _⟩ (Sees.of lf lo) ?_;rintro⟨k,i,j,G⟩ ⟨P,w,N,O,E⟩;dsimp only at P w N O E ⊢;refine zc 5 (fun l=>?_) fun l=>?_
 ·have y:k<q.length:=by have:=A1 l;omega
  have L:q[k]?=some q[k]:=by simp[y]
  have C:=F _ (B50 y);obtain⟨c,M⟩:∃c,c=q[k]:=⟨_,rfl⟩
  rw[B55 y,gX]at w;rw[<-M]at L w C;refine zz 5 ?_;refine B0 (A9 A0 (.buf _ _ _ _ _) A0 B3 L) A0 (zz 1 ?_);refine C4 (H9 11 A0) A0 (zz 2 ?_);obtain⟨g,d⟩:∃g,g=G++(if c.From>i\/c.To>j then [⟨i,c.From-i,j,c.To-j⟩] else []):=⟨_,rfl⟩
  have J:g.length<=k+1:=by rw[d,B48];split<;>simp<;>omega
  rw[<-B57,<-d]at w;refine mV [(7,.s (.one (.buf 7 Change 4 changeC g))),(8,B7 i),(9,B7 j),(11,.s (.one (.ref 11 0))),(18,.s (.one (.buf 18 Span 2 spanC q))),(19,B7 q.length),(20,B7 k)] [(7,.spare g.length 4 72),(11,.box [.p (.v (.int .i64 c.From)),.p (.v (.int .i64 c.To))])] ?_ ?_
  ·refine zc 13 (fun l=>?_) fun l=>?_
   ·simp only[or_pick]at l;have B:=A1 l;rw[A6 B]at d;skip;refine zz 13 ?_;refine B0 (C0 (c:=changeC) (ys:=[⟨i,c.From-i,j,c.To-j⟩]) (C3 A0 A0 A0 A0 E6) A0 A0 A0) A0 (zz 3 ?_);rw[d];exact Sees.of lf lo
   ·simp only[or_pick]at l;have B:=A3 l;rw[A7 B,B67]at d;refine zz 1 ?_;rw[d];exact Sees.of lf lo
  ·skip;refine zz 14 ?_;exact⟨(k+1,c.From+1,c.To+1,g),⟨by dsimp only;omega,w,⟨by dsimp only;omega,by dsimp only;omega⟩,⟨by dsimp only;omega,by dsimp only;omega⟩,by dsimp only;omega⟩,by dsimp only;omega,Sees.of lf lo⟩
 ·have D:k=q.length:=by have:=A3 l;omega
  rw[D,B59 (Nat.le_refl _),gX,B67]at w;refine zz 7 ?_;exact B2 (G6 rfl rfl rfl) (by rw[<-w])
theorem OW{m n:Int}:∀{p:List Span} {i j:Int},Asc m n i j p->∀k (h:k<p.length),(k=0->i<=p[k].From/\j<=p[k].To)/\(∀a:0<k,p[k-1].From<p[k].From/\p[k-1].To<p[k].To)/\p[k].From<m/\p[k].To<n
 | [],_,_,_,k,h=>by simp at h
 | x::r,i,j,ha,k,h=>by
  obtain⟨f,g,b⟩:=ha;cases k with
  | zero=>have:=b.le;exact⟨fun _=>⟨f,g⟩,fun a=>absurd a B3,by show x.From<m;omega,by show x.To<n;omega⟩
  | succ k =>
   obtain⟨g1,c,d,e⟩:=OW b k (by simpa using h);refine⟨fun a=>absurd a B3,fun _=>?_,by simpa using d,by simpa using e⟩;cases k with
   | zero =>
    obtain⟨q1,q⟩:=g1 rfl;have l:0<r.length:=by simpa using h
    show x.From<r[0].From/\x.To<r[0].To;omega
   | succ k=>simpa using c B3
theorem FG(p:List Span)(m n:Int)(Q:O7 m)(R:O7 n)(ha:Asc m n 0 0 p)(S:p.length<=536870912) :
  FnOk Tryz.prog 84 [pSpans p,D3 m,D3 n] (fun W=>W=[pChanges (lM p m n),D3 0]):=by
 obtain⟨B,C⟩:=Q;obtain⟨D,E⟩:=R;have G:=OW ha;have hb:∀s∈p,0<=s.From/\s.From<=4096/\0<=s.To/\s.To<=4096:=by
  have key:∀(p:List Span) (i j:Int),Asc m n i j p->0<=i->0<=j->∀s∈p,0<=s.From/\s.From<=4096/\0<=s.To/\s.To<=4096:=by
   intro p;induction p with
   | nil=>intro _ _ _ _ _ s y;simp at y
   | cons x r V =>
    rintro i j ⟨Y,Z,H⟩ h4 h5 s y;have:=H.le;rcases List.mem_cons.1 y with rfl | y
    ·omega
    ·exact V _ _ H B3 B3 s y
  exact key p 0 0 ha B3 B3
 refine FnOk.intro Tryz.func84 F2 A0 A0 A0 A0 (zz 9 ?_);refine E3 (BS m) (zz 3 ?_);refine F7 A0 A0 A0 A0 (fun I=>by have U:=I;(try simp at U);rw[I];exact K4 (BS n) A0 A0) ?_;refine zc 3 (fun q=>?_) fun q=>?_
 ·exfalso;simp only[<-decide_not,or_pick]at q;have h:¬O7 m\/¬O7 n:=A1 q;rcases h with h | h
  ·exact h ⟨B,C⟩
  ·exact h ⟨D,E⟩
 refine t8 [(0,B8 Span 2 spanC p),(1,B7 m),(2,B7 n)] [] (Sees.of lf lo) (zz 4 ?_);refine C4 (H9 8 A0) A0 (zz 10 ?_);obtain⟨a,d⟩:∃a:Nat->Span,a=fun k=>if k=0 then ⟨-1,-1⟩ else p.getD (k-1) ⟨0,0⟩:=⟨_,rfl⟩
 refine C2 (X:=Nat) (fun k=>([(0,B8 Span 2 spanC p),(1,B7 m),(2,B7 n),(8,.s (.one (.ref 8 0))),(20,B8 Span 2 spanC p),(21,B7 p.length),(22,B7 k)],[(8,.box [.p (.v (.int .i64 (a k).From)),.p (.v (.int .i64 (a k).To))])])) (fun k=>k<=p.length) (fun k=>p.length-k) 0 (Nat.zero_le _) ?_ ?_
 ·rw[show a 0=⟨-1,-1⟩ by rw[d];rfl];exact Sees.of lf lo
 intro k P;dsimp only at P ⊢;refine zc 5 (fun q=>?_) fun q=>?_
 ·have w:k<p.length:=by have:=A1 q;omega
  have J:p[k]?=some p[k]:=by simp[w]
  obtain⟨g1,L,M,N⟩:=G k w;have l:a (k+1)=p[k]:=by rw[d];simp[w]
  have g:(a k).From<p[k].From/\(a k).To<p[k].To:=by
   rw[d];by_cases z:k=0
   ·have:=g1 z;simp only[z,if_true]at this ⊢;omega
   ·have:=L B3;simp only[z,if_false];have e:p.getD (k-1) ⟨0,0⟩=p[k-1]:=by simp[show k-1<p.length by omega]
    rw[e];exact this
  obtain⟨c,O⟩:∃c,c=p[k]:=⟨_,rfl⟩
  rw[<-O]at J M N l g;obtain⟨K,A⟩:∃K,K=a k:=⟨_,rfl⟩
  rw[<-A]at g ⊢;refine zz 5 ?_;refine B0 (A9 A0 (.pure _ _ _ _) A0 B3 J) A0 (zz 1 ?_);refine C4 (H9 10 A0) A0 ?_;refine zc 30 (fun q=>?_) fun q=>?_
  ·exfalso;simp only[or_pick]at q;have:=A1 q;omega
  ·refine zz 9 ?_;refine⟨k+1,by omega,by omega,?_⟩;rw[l];exact Sees.of lf lo
 ·refine zz 6 ?_;refine bN (FF p m n S B3 B3 (fun s y=>by have:=hb s y;omega)) A0 A0 A0 ?_;rintro _ rfl;refine zz 4 ?_;exact B2 (S6 rfl rfl rfl rfl rfl) rfl
theorem tP{l:List Int}{i:Nat}(h:i<l.length):l[i]?=some (l.getD i 0):=by simp[h]
theorem OX(a b:List Int):FnOk Tryz.prog 83 [K8 a,K8 b] (fun c=>c=[E1 (decide ((a.length:Int)<=4096/\(b.length:Int)<=4096))]):=by
 refine FnOk.intro Tryz.func83 F2 A0 A0 A0 A0 (zz 17 ?_);exact B2 (G6 rfl rfl rfl) (by simp only[N1])
theorem FH(a b:List Int)(ha:a.length<=1073741824):FnOk Tryz.prog 127 [K8 a,K8 b] (fun s=>s=[D3 (c8 a b)]):=by
 refine FnOk.intro Tryz.func127 F2 A0 A0 A0 A0 (zz 10 ?_);refine C2 (X:=Nat) (fun k=>([(0,B8 Int 1 D2 a),(1,B8 Int 1 D2 b),(5,B7 k)],[])) (fun k=>k<=a.length/\k<=b.length/\c8 a b=k+c8 (a.drop k) (b.drop k)) (fun k=>a.length-k) 0 ⟨Nat.zero_le _,Nat.zero_le _,by simp⟩ (Sees.of lf lo) ?_;rintro k ⟨q,l,i⟩;dsimp only at q l i ⊢;refine zz 10 ?_;refine G3 A0 A0 (fun c=>by rw[c];exact qA A0 (.pure _ _ _ _)) A0 A0 ?_;refine zz 5 ?_;refine G3 A0 A0 (fun c=>by have m:=c;(try simp at m);rw[c];exact A9 A0 (.pure _ _ _ _) A0 B3 (tP B3)) A0 A0 ?_;refine zz 3 ?_;refine G3 A0 A0 (fun c=>by have m:=c;(try simp at m);rw[c];exact A9 A0 (.pure _ _ _ _) A0 B3 (tP B3)) A0 A0 ?_;refine zc 4 (fun g=>?_) fun g=>?_
 ·simp only[N1]at g;obtain⟨⟨d,f⟩,j⟩:=A1 g;have d:k<a.length:=by omega
  have f:k<b.length:=by omega
  rw[DJ a b k d f,A6 (by simpa[d,f] using j)]at i;refine zz 7 ?_;exact⟨k+1,⟨by omega,by omega,by omega⟩,by omega,Sees.of lf lo⟩
 ·simp only[N1]at g;have h:=A3 g;have o:c8 (a.drop k) (b.drop k)=0:=by
   by_cases n:k<a.length/\k<b.length
   ·obtain⟨d,f⟩:=n;rw[DJ a b k d f,A7];intro j;exact h ⟨⟨by omega,by omega⟩,by simpa[d,f] using j⟩
   ·exact A21 a b k n
  rw[o]at i;refine zz 7 ?_;exact B2 (G6 rfl rfl rfl) (by rw[i];rfl)
theorem FI(a b:List Int)(ha:a.length<=4096)(hb:b.length<=4096):FnOk Tryz.prog 128 [K8 a,K8 b] (fun rs=>rs=[pU16s (flat a b (fun _ _=>true))]):=by
 obtain⟨W,G⟩:∃W,W=b.length+1:=⟨_,rfl⟩
 have B:∀i:Nat,i<=a.length+1->0<=(i:Int)*(W:Int)/\(i:Int)*(W:Int)<=16789506:=by
  intro i U;have V:i*W<=4098*4097:=Nat.mul_le_mul B3 B3;have Y:((i*W:Nat):Int)=(i:Int)*W:=by push_cast;rfl
  omega
 have d:∀i:Nat,(i:Int)*(W:Int)=((i*W:Nat):Int):=fun i=>by push_cast;rfl
 have H:∀done,(flat a b done).length=(a.length+1)*W:=fun done=>by rw[yG,G]
 have E:∀i j,dist (a.drop i) (b.drop j)<=8192:=fun i j=>by
  have:=pF (a.drop i) (b.drop j);simp only[B53]at this;omega
 have ae:∀i j:Nat,i<=a.length->j<=b.length->i*W+j<(a.length+1)*W:=fun i j U A=>by rw[G];exact (zO U A).1
 refine FnOk.intro Tryz.func128 F2 A0 A0 A0 A0 (zz 11 ?_);refine t8 [(0,B8 Int 1 D2 a),(1,B8 Int 1 D2 b),(5,B7 W)] [] (Sees.of ⟨⟨_,rfl,.same _⟩,⟨_,rfl,.same _⟩,⟨_,rfl,.eq (by rw[G];simp)⟩,trivial⟩ trivial) ?_;have ap:=B (a.length+1) (Nat.le_refl _);have S:((a.length:Int)+1)=((a.length+1:Nat):Int):=by omega
 refine zz 6 ?_;refine B0 (sS A0 A0 (by (rw[S];omega))) A0 ?_;refine C4 (l7 20 Int sD 0 A0 A0 (by (rw[S];omega)) (by (rw[S];omega)) (fun _=>by first | exact⟨⟨rfl,rfl⟩,trivial⟩ | exact⟨F6 _ _ _,trivial⟩ | exact⟨F6 _ _ _,⟨rfl,rfl⟩,F6 _ _ _,trivial⟩) A0) A0 ?_;refine zz 2 ?_;refine t8 [(0,B8 Int 1 D2 a),(1,B8 Int 1 D2 b),(5,B7 W),(6,.s (.one (.mut 20)))] [(20,.arr Int 1 sD (flat a b (fun _ _=>false)))] ?_ ?_
 ·refine Sees.of ⟨⟨_,rfl,.same _⟩,⟨_,rfl,.same _⟩,⟨_,rfl,.same _⟩,⟨_,rfl,.same _⟩,trivial⟩ ⟨?_,trivial⟩;rw[<-A20,S,d,B45,G];rfl
 refine zz 8 ?_;refine C2 (X:=Nat) (fun j=>([(0,B8 Int 1 D2 a),(1,B8 Int 1 D2 b),(5,B7 W),(6,.s (.one (.mut 20))),(22,B7 b.length),(23,B7 j)],[(20,.arr Int 1 sD (flat a b (fun r q=>decide (r=a.length/\q<j))))])) (fun j=>j<=b.length) (fun j=>b.length-j) 0 (Nat.zero_le _) ?_ ?_
 ·rw[show flat a b (fun r q=>decide (r=a.length/\q<0))=flat a b (fun _ _=>false) from lV fun r q _ _=>.inl dV];exact Sees.of lf lo
 intro j A;dsimp only at A ⊢;refine zc 5 (fun w=>?_) fun w=>?_
 ·have ao:j<b.length:=by have:=A1 w;omega
  have aq:=B a.length B3;have an:=ae a.length j (Nat.le_refl _) B3;have Z:=d a.length;have z:=H (fun r q=>decide (r=a.length/\q<j));have C:(flat a b (fun r q=>decide (r=a.length/\q<j))).set (((a.length:Int)*(W:Int)+(j:Int)).toNat) (IntKind.u16.wrap ((b.length:Int)-j))=flat a b (fun r q=>decide (r=a.length/\q<j+1)):=by
   rw[show ((a.length:Int)*(W:Int)+(j:Int)).toNat=a.length*(b.length+1)+j by rw[Z,G];omega,VO _ B3];refine QV (Nat.le_refl _) B3 ?_ dV (fun r q hr hq M=>?_)
   ·rw[B59 (Nat.le_refl a.length),dist,B53];omega
   ·rw[decide_eq_decide];omega
  refine zz 21 ?_;refine B0 (E4 A0 A0 A0 B3 (by (rw[z];omega))) A0 ?_;refine V1 (G5 TySz.out A0 A0 (by (rw[z];omega)) A0 A0) ?_;refine zz 5 ?_;refine⟨j+1,by omega,by omega,?_⟩;rw[<-C];exact Sees.of lf lo
 ·have af:j=b.length:=by have:=A3 w;omega
  subst af
  rw[show flat a b (fun r q=>decide (r=a.length/\q<b.length))=flat a b (fun r _=>decide (a.length<=r)) from lV fun r q hr hq=>by
   by_cases h:r=a.length/\q=b.length
   ·right;rw[h.1,h.2,B59 (Nat.le_refl _),B59 (Nat.le_refl _)];exact fU []
   ·left;rw[decide_eq_decide];omega]
  refine zz 10 ?_;refine C2 (X:=Nat) (fun i=>([(0,B8 Int 1 D2 a),(1,B8 Int 1 D2 b),(5,B7 W),(6,.s (.one (.mut 20))),(8,B7 ((i:Int)-1))],[(20,.arr Int 1 sD (flat a b (fun r _=>decide (i<=r))))])) (fun i=>i<=a.length) (fun i=>i) a.length (Nat.le_refl _) (Sees.of lf lo) ?_;intro i U;dsimp only at U ⊢;refine zc 6 (fun w=>?_) fun w=>?_
  ·obtain⟨i,rfl⟩:∃r,i=r+1:=⟨i-1,by have:=A1 w;omega⟩
   refine t8 [(0,B8 Int 1 D2 a),(1,B8 Int 1 D2 b),(5,B7 W),(6,.s (.one (.mut 20))),(8,B7 i)] [(20,.arr Int 1 sD (flat a b (fun r _=>decide (i+1<=r))))] (Sees.of ⟨Y7 rfl,Y7 rfl,Y7 rfl,Y7 rfl,leE A0 (by first | (simp;done) | (simp;omega)),trivial⟩ ⟨rfl,trivial⟩) ?_;obtain⟨P,T⟩:∃P,P=i*W:=⟨_,rfl⟩
   obtain⟨N,hN⟩:∃N,N=(a.length+1)*W:=⟨_,rfl⟩
   have D:(i:Int)*(W:Int)=(P:Int):=by rw[T];exact d i
   have f:((i:Int)+1)*(W:Int)=(P:Int)+W:=by rw[Int.add_mul,Int.one_mul,D]
   have F:((i:Int)+2)*(W:Int)=(P:Int)+W+W:=by rw[Int.add_mul,D];omega
   have ai:P+W+W<=N:=by
    have V:(i+2)*W<=(a.length+1)*W:=B60 _ B3;have Y:(i+2)*W=i*W+W+W:=by rw[B70];omega
    omega
   have ah:N<=16789506:=by have:=B (a.length+1) (Nat.le_refl _);have:=d (a.length+1);omega
   have z:∀done,(flat a b done).length=N:=fun done=>by rw[H,hN]
   refine zz 8 ?_;refine D1 (sS A0 A0 (by (rw[D];omega))) A0 A0 ?_;refine zz 3 ?_;refine D1 (sS A0 A0 (by (rw[f];omega))) A0 A0 ?_;refine D1 (nB A0 A0 A0 A0 (by (first | (rw[D];omega) | (rw[D,f];omega) | (rw[f,z];omega))) (by (first | (rw[D];omega) | (rw[D,f];omega) | (rw[f,z];omega))) (by (first | (rw[D];omega) | (rw[D,f];omega) | (rw[f,z];omega)))) A0 A0 ?_;refine zz 4 ?_;refine D1 (sS A0 A0 (by (rw[f];omega))) A0 A0 ?_;refine zz 3 ?_;refine D1 (sS A0 A0 (by (rw[F];omega))) A0 A0 ?_;refine D1 (nB A0 A0 A0 A0 (by (first | (rw[f];omega) | (rw[f,F];omega) | (rw[F,z];omega))) (by (first | (rw[f];omega) | (rw[f,F];omega) | (rw[F,z];omega))) (by (first | (rw[f];omega) | (rw[f,F];omega) | (rw[F,z];omega)))) A0 A0 ?_;refine zz 3 ?_;have J:∀j,j<=b.length->(flat a b (fun r q=>decide (i+1<=r\/(r=i/\j<=q))))[P+j]?=some (dist (a.drop i) (b.drop j):Int):=fun j A=>by
    rw[T,G,DI B3 A,A6 dV]
   have x:∀j j',j<=b.length->(flat a b (fun r q=>decide (i+1<=r\/(r=i/\j'<=q))))[P+W+j]?=some (dist (a.drop (i+1)) (b.drop j):Int):=fun j j' A=>by
    rw[show P+W+j=(i+1)*(b.length+1)+j by rw[T,G,B70];omega,DI B3 A,A6 dV]
   refine t8 [(0,B8 Int 1 D2 a),(1,B8 Int 1 D2 b),(5,B7 W),(6,.s (.one (.mut 20))),(8,B7 i),(9,.s (.one (.msl 20 1 P W))),(10,.s (.one (.msl 20 1 (P+W) W)))] [(20,.arr Int 1 sD (flat a b (fun r _=>decide (i+1<=r))))] ?_ ?_
   ·refine Sees.of ⟨⟨_,rfl,.same _⟩,⟨_,rfl,.same _⟩,⟨_,rfl,.same _⟩,⟨_,rfl,.same _⟩,⟨_,rfl,.same _⟩,⟨_,rfl,.eq ?_⟩,⟨_,rfl,.eq ?_⟩,trivial⟩ ⟨rfl,trivial⟩
    ·rw[D,f];congr 3<;>omega
    ·rw[f,F];congr 3<;>omega
   have I:∀(done c:Nat->Nat->Bool) (j:Nat) (v:Int),j<=b.length->v=(dist (a.drop i) (b.drop j):Int)->c i j=true->(∀r q,r<=a.length->q<=b.length->¬(r=i/\q=j)->c r q=done r q)->(flat a b done).set (P+j) v=flat a b c:=by
    intro done c j v A hv V Y;rw[T,G];exact QV B3 A hv V Y
   have ag:(flat a b (fun r _=>decide (i+1<=r))).set (P+((b.length:Nat):Int).toNat) (IntKind.u16.wrap ((a.length:Int)-i))=flat a b (fun r q=>decide (i+1<=r\/(r=i/\b.length<=q))):=by
    rw[B45,VO _ B3];refine I _ _ _ _ (Nat.le_refl _) ?_ dV (fun r q hr hq M=>?_)
    ·rw[B59 (Nat.le_refl b.length),fU,B53];omega
    ·rw[decide_eq_decide];omega
   refine zz 10 ?_;refine B0 (X2 A0 A0 B3 B3) A0 (V1 (G5 TySz.out A0 A0 (by (rw[z];omega)) A0 A0) ?_);refine zz 1 ?_;rw[ag];refine zz 8 ?_;refine C2 (X:=Nat) (fun j=>([(0,B8 Int 1 D2 a),(1,B8 Int 1 D2 b),(5,B7 W),(6,.s (.one (.mut 20))),(8,B7 i),(9,.s (.one (.msl 20 1 P W))),(10,.s (.one (.msl 20 1 (P+W) W))),(11,B7 ((j:Int)-1))],[(20,.arr Int 1 sD (flat a b (fun r q=>decide (i+1<=r\/(r=i/\j<=q)))))])) (fun j=>j<=b.length) (fun j=>j) b.length (Nat.le_refl _) (Sees.of lf lo) ?_;intro j A;dsimp only at A ⊢;refine zc 6 (fun w=>?_) fun w=>?_
   ·obtain⟨j,rfl⟩:∃r,j=r+1:=⟨j-1,by have:=A1 w;omega⟩
    have O:a[i]?=some a[i]:=by simp[show i<a.length by omega]
    have R:b[j]?=some b[j]:=by simp[show j<b.length by omega]
    have y:=IB a b i j B3 B3;have aj:=E i j;have ak:=E (i+1) j;have al:=E i (j+1);have am:=E (i+1) (j+1);obtain⟨u,hu⟩:∃u,u=a[i]:=⟨_,rfl⟩
    obtain⟨v,hv⟩:∃v,v=b[j]:=⟨_,rfl⟩
    rw[<-hu]at O y;rw[<-hv]at R y;have C:(flat a b (fun r q=>decide (i+1<=r\/(r=i/\j+1<=q)))).set (P+j) (dist (a.drop i) (b.drop j):Int)=flat a b (fun r q=>decide (i+1<=r\/(r=i/\j<=q))):=I _ _ _ _ B3 rfl dV (fun r q hr hq M=>by rw[decide_eq_decide];omega);refine t8 [(0,B8 Int 1 D2 a),(1,B8 Int 1 D2 b),(5,B7 W),(6,.s (.one (.mut 20))),(8,B7 i),(9,.s (.one (.msl 20 1 P W))),(10,.s (.one (.msl 20 1 (P+W) W))),(11,B7 j)] [(20,.arr Int 1 sD (flat a b (fun r q=>decide (i+1<=r\/(r=i/\j+1<=q)))))] (Sees.of ⟨Y7 rfl,Y7 rfl,Y7 rfl,Y7 rfl,Y7 rfl,Y7 rfl,Y7 rfl,leE A0 (by first | (simp;done) | (simp;omega)),trivial⟩ ⟨rfl,trivial⟩) (IZ (zz 0 ?_));refine mV [(0,B8 Int 1 D2 a),(1,B8 Int 1 D2 b),(5,B7 W),(6,.s (.one (.mut 20))),(8,B7 i),(9,.s (.one (.msl 20 1 P W))),(10,.s (.one (.msl 20 1 (P+W) W))),(11,B7 j)] [(20,.arr Int 1 sD (flat a b (fun r q=>decide (i+1<=r\/(r=i/\j<=q)))))] ?_ ?_
    ·refine zz 5 ?_;refine D1 (A9 A0 (.pure _ _ _ _) A0 B3 O) A0 A0 (zz 3 ?_);refine D1 (A9 A0 (.pure _ _ _ _) A0 B3 R) A0 A0 ?_;refine zc 3 (fun w=>?_) fun w=>?_
     ·rw[A6 (A1 w)]at y;rw[y]at C;have hg:=x (j+1) (j+1) B3;have ad:(flat a b (fun r q=>decide (i+1<=r\/(r=i/\j+1<=q))))[P+W+((j:Int)+1).toNat]?=some (dist (a.drop (i+1)) (b.drop (j+1)):Int):=by rw[show ((j:Int)+1).toNat=j+1 by omega];exact hg
      skip;refine zz 6 ?_;refine B0 (X2 A0 A0 B3 B3) A0 (B0 (M4 A0 A0 ad A0) A0 (B0 (X2 A0 A0 B3 B3) A0 (V1 (G5 TySz.out A0 A0 (by (rw[z];omega)) A0 A0) ?_)));refine zz 1 ?_;rw[show P+((j:Nat):Int).toNat=P+j by omega,C];exact Sees.of lf lo
     ·rw[A7 (A3 w)]at y;have ab:=x j (j+1) B3;have ac:=J (j+1) B3;have K:(flat a b (fun r q=>decide (i+1<=r\/(r=i/\j+1<=q))))[P+W+((j:Nat):Int).toNat]?=some (dist (a.drop (i+1)) (b.drop j):Int):=by rw[B45];exact ab
      have L:(flat a b (fun r q=>decide (i+1<=r\/(r=i/\j+1<=q))))[P+((j:Int)+1).toNat]?=some (dist (a.drop i) (b.drop (j+1)):Int):=by rw[show ((j:Int)+1).toNat=j+1 by omega];exact ac
      have Q:IntKind.u16.wrap ((if (dist (a.drop i) (b.drop (j+1)):Int)<(dist (a.drop (i+1)) (b.drop j):Int) then (dist (a.drop i) (b.drop (j+1)):Int) else (dist (a.drop (i+1)) (b.drop j):Int))+1)=(dist (a.drop i) (b.drop j):Int):=by
       rw[VO _ (by split<;>omega),y];split<;>omega
      skip;refine zz 5 ?_;refine D1 (X2 A0 A0 B3 B3) A0 A0 (D1 (M4 A0 A0 K A0) A0 A0 (zz 3 ?_));refine D1 (X2 A0 A0 B3 B3) A0 A0 (D1 (M4 A0 A0 L A0) A0 A0 (D1 (n_min A0 A0) A0 A0 (D1 (WU A0 A0) A0 A0 (D1 (X2 A0 A0 B3 B3) A0 A0 (FY (G5 TySz.out A0 A0 (by (rw[z];omega)) A0 A0) A0 ?_)))));refine zz 1 ?_;rw[Q,show P+((j:Nat):Int).toNat=P+j by omega,C];exact Sees.of lf lo
    ·skip;refine zz 5 ?_;exact⟨j,by omega,by omega,Sees.of lf lo⟩
   ·obtain rfl:j=0:=by have:=A3 w;omega
    rw[show flat a b (fun r q=>decide (i+1<=r\/(r=i/\0<=q)))=flat a b (fun r _=>decide (i<=r)) from lV fun r q _ _=>.inl (by rw[decide_eq_decide];omega)];refine zz 6 ?_;exact⟨i,by omega,by omega,Sees.of lf lo⟩
  ·obtain rfl:i=0:=by have:=A3 w;omega
   rw[show flat a b (fun r _=>decide (0<=r))=flat a b (fun _ _=>true) from lV fun r q _ _=>.inl dV];refine C1 (Sees.freeze (k:=20) A0) (zz 7 ?_);exact B2 (G6 rfl rfl rfl) rfl
theorem i64_id{n:Int}(h:-9223372036854775808<=n/\n<=9223372036854775807):IntKind.i64.wrap n=n:=IntWalk.i64_in _ h
theorem XL{gf:Fr}{ob:Obs}(a b:List Int)(i j:Nat)(ha:a.length<=4096)(hb:b.length<=4096)(m:i<=a.length)(q:j<=b.length)(y:B6 ob 8=some (.box [.p (.list Int 1 sD (flat a b (fun _ _=>true)))]))(w:B6 ob 3=some (.box [.p (.list Int 1 D2 b)])) :
  AL.Met Tryz.prog 129 [.one (.p (.v (.int .i64 i))),.one (.p (.v (.int .i64 j))),.one (.ref 8 0),.one (.ref 3 0)] gf ob [] (fun C ob'=>C=[.one (.p (.v (.int .i64 (dist (a.drop i) (b.drop j):Int))))]/\ob'=ob):=by
 have k:=DI (a:=a) (b:=b) (done:=fun _ _=>true) m q;rw[A6 rfl]at k;have B:=(zO (a:=a) (b:=b) m q).1;have D:=yG a b (fun _ _=>true);have c:(i:Int)*((b.length:Int)+1)=((i*(b.length+1):Nat):Int):=by push_cast;rfl
 have z:i*(b.length+1)<=4096*4097:=Nat.mul_le_mul B3 B3;have g:(a.length+1)*(b.length+1)<=4097*4097:=Nat.mul_le_mul B3 B3;have d:(flat a b (fun _ _=>true))[((i:Int)*((b.length:Int)+1)+j).toNat]?=some (dist (a.drop i) (b.drop j):Int):=by
  rw[c,show (((i*(b.length+1):Nat):Int)+j).toNat=i*(b.length+1)+j by omega];exact k
 have A:=pF (a.drop i) (b.drop j);simp only[B53]at A;refine AL.Met.intro Tryz.func129 F2 A0 A0 A0 (zz 6 ?_);refine B0 (D8 A0 y A0) A0 (zz 1 ?_);refine B0 (D8 A0 w A0) A0 (zz 2 ?_);refine B0 (sS A0 A0 (by (rw[c];omega))) A0 ?_;refine zz 1 ?_;refine B0 (Y6 A0 A0 (by (rw[c];omega))) A0 ?_;refine B0 (A9 A0 (.pure _ _ _ _) A0 B3 d) A0 (zz 4 ?_);rw[i64_id B3];refine zz 1 ?_;exact C7 (F1 rfl rfl) gM (fun _ _ h=>h) ⟨rfl,rfl⟩
theorem A73(a b:List Int)(ha:a.length<=4096)(hb:b.length<=4096):FnOk Tryz.prog 85 [K8 a,K8 b] (fun rs=>rs=[pSpans (J1 0 0 a b)]):=by
 obtain⟨n,R⟩:∃n,n=c8 a b:=⟨_,rfl⟩
 have S:=QW a b;rw[<-R]at S;have B:=DK a b 0 0;rw[<-R]at B;refine FnOk.intro Tryz.func85 F2 A0 A0 A0 A0 (zz 2 ?_);refine C4 (n8 3 A0 A0 A0) A0 (zz 4 ?_);refine C4 (O9 5 _ spanC A0) A0 (zz 5 ?_);refine E3 (FH a b B3) (zz 2 ?_);rw[<-R];refine zz 7 ?_;refine C2 (X:=Nat) (fun k=>([(0,B8 Int 1 D2 a),(3,.s (.one (.ref 3 0))),(5,.s (.one (.buf 5 Span 2 spanC (Y1 0 0 k)))),(6,B7 n),(15,B7 n),(16,B7 k)],[(3,.box [.p (.list Int 1 D2 b)]),(5,.spare (Y1 0 0 k).length 2 144)])) (fun k=>k<=n) (fun k=>n-k) 0 (Nat.zero_le _) (Sees.of lf lo) ?_;intro k hk;dsimp only at hk ⊢;have W:=CY 0 0 k;refine zc 5 (fun w=>?_) fun w=>?_
 ·have ac:k<n:=by have:=A1 w;omega
  have Y:=LI 0 0 k;refine zz 13 ?_;refine B0 (C0 (c:=spanC) (ys:=[⟨(k:Int),(k:Int)⟩]) (C3 A0 A0 A0 A0 E6) A0 A0 A0) A0 (zz 7 ?_);refine⟨k+1,by omega,by omega,?_⟩;rw[Y,show (0:Int)+(k:Int)=k by omega];exact Sees.of lf lo
 have Q:k=n:=by have:=A3 w;omega
 subst Q;obtain⟨m,F⟩:∃m,m=a.drop k:=⟨_,rfl⟩
 obtain⟨d,H⟩:∃d,d=b.drop k:=⟨_,rfl⟩
 have G:m.length<=4096:=by rw[F,B53];omega
 have I:d.length<=4096:=by rw[H,B53];omega
 rw[Int.zero_add,<-F,<-H]at B;refine zz 5 ?_;refine D1 (FV A0 (.pure _ _ _ _) A0 B3 B3) A0 A0 (zz 2 ?_);refine D1 (FV A0 (.pure _ _ _ _) A0 B3 B3) A0 A0 (zz 1 ?_);refine FY (K0 TySz.out A0 A0 A0 A0 A0 A0) A0 (zz 1 ?_);rw[B45,<-F,<-H];refine zz 4 ?_;refine E3 (FI m d G I) (C4 (H9 8 A0) A0 (zz 14 ?_));refine C2 (X:=Nat×Nat×List Span) (fun x=>([(0,B8 Int 1 D2 m),(3,.s (.one (.ref 3 0))),(5,.s (.one (.buf 5 Span 2 spanC x.2.2))),(6,B7 k),(8,.s (.one (.ref 8 0))),(9,.s (.one (.clo 129 [] [(8,0),(3,0)]))),(10,B7 x.1),(11,B7 x.2.1)],[(3,.box [.p (.list Int 1 D2 d)]),(5,.spare x.2.2.length 2 144),(8,.box [.p (.list Int 1 sD (flat m d (fun _ _=>true)))])])) (fun x=>x.1<=m.length/\x.2.1<=d.length/\x.2.2.length<=k+x.1/\J1 0 0 a b=x.2.2++J1 (k+x.1) (k+x.2.1) (m.drop x.1) (d.drop x.2.1)) (fun x=>(m.length-x.1)+(d.length-x.2.1)) (0,0,Y1 0 0 k) ⟨Nat.zero_le _,Nat.zero_le _,by rw[W];exact Nat.le_refl _,by simpa using B⟩ (Sees.of lf lo) ?_;rintro⟨i,j,y⟩ ⟨Z,P,U,E⟩;dsimp only at Z P U E ⊢;refine zc 14 (fun w=>?_) fun w=>?_
 ·simp only[or_pick]at w;have J:=A1 w;refine t8 [(0,B8 Int 1 D2 m),(3,.s (.one (.ref 3 0))),(5,.s (.one (.buf 5 Span 2 spanC y))),(6,B7 k),(8,.s (.one (.ref 8 0))),(9,.s (.one (.clo 129 [] [(8,0),(3,0)]))),(10,B7 i),(11,B7 j)] [(3,.box [.p (.list Int 1 D2 d)]),(5,.spare y.length 2 144),(8,.box [.p (.list Int 1 sD (flat m d (fun _ _=>true)))])] (Sees.of lf lo) (zz 12 ?_);refine G3 A0 A0 (fun K=>by rw[K];exact qA A0 (.pure _ _ _ _)) A0 A0 ?_;refine zz 5 ?_;refine G3 A0 A0 (fun K=>by have V:=K;(try simp at V);rw[K];exact A9 A0 (.pure _ _ _ _) A0 B3 (tP B3)) A0 A0 ?_;refine zz 3 ?_;refine G3 A0 A0 (fun K=>by have V:=K;(try simp at V);rw[K];exact A9 A0 (.pure _ _ _ _) A0 B3 (tP B3)) A0 A0 ?_;refine zc 5 (fun w=>?_) fun w=>?_
  ·simp only[N1]at w;obtain⟨⟨M,z⟩,A⟩:=A1 w;have M:i<m.length:=by omega
   have z:j<d.length:=by omega
   rw[dL m d i j M z,A6 (by simpa[M,z] using A)]at E;refine t8 [(0,B8 Int 1 D2 m),(3,.s (.one (.ref 3 0))),(5,.s (.one (.buf 5 Span 2 spanC y))),(6,B7 k),(8,.s (.one (.ref 8 0))),(9,.s (.one (.clo 129 [] [(8,0),(3,0)]))),(10,B7 i),(11,B7 j)] [(3,.box [.p (.list Int 1 D2 d)]),(5,.spare y.length 2 144),(8,.box [.p (.list Int 1 sD (flat m d (fun _ _=>true)))])] (Sees.of lf lo) (zz 10 ?_);refine B0 (C0 (c:=spanC) (ys:=[⟨(k:Int)+i,(k:Int)+j⟩]) (C3 A0 A0 A0 A0 E6) A0 A0 A0) A0 (zz 11 ?_);refine⟨(i+1,j+1,y++[⟨(k:Int)+i,(k:Int)+j⟩]),⟨by dsimp only;omega,by dsimp only;omega,by simp;omega,?_⟩,by dsimp only;omega,Sees.of lf lo⟩;dsimp only;rw[E,B57]
   congr 2
  ·simp only[N1]at w;have T:=A3 w;refine t8 [(0,B8 Int 1 D2 m),(3,.s (.one (.ref 3 0))),(5,.s (.one (.buf 5 Span 2 spanC y))),(6,B7 k),(8,.s (.one (.ref 8 0))),(9,.s (.one (.clo 129 [] [(8,0),(3,0)]))),(10,B7 i),(11,B7 j)] [(3,.box [.p (.list Int 1 D2 d)]),(5,.spare y.length 2 144),(8,.box [.p (.list Int 1 sD (flat m d (fun _ _=>true)))])] (Sees.of lf lo) ?_;by_cases M:i<m.length
   ·have C:decide ((i:Int)<(m.length:Int))=true:=A4 B3;have O:=pF (m.drop (i+1)) (d.drop j);simp only[B53]at O;have D:¬j<d.length->dist (m.drop (i+1)) (d.drop j)+1=dist (m.drop i) (d.drop j)/\J1 (k+i) (k+j) (m.drop i) (d.drop j)=J1 (k+i+1) (k+j) (m.drop (i+1)) (d.drop j):=by
     intro ab;rw[show d.drop j=[] from B59 B3,fU,fU,B53,B53,r5,r5];exact⟨by omega,rfl⟩
    have N:j<d.length->J1 (k+i) (k+j) (m.drop i) (d.drop j)=if dist (m.drop (i+1)) (d.drop j)+1=dist (m.drop i) (d.drop j) then J1 (k+i+1) (k+j) (m.drop (i+1)) (d.drop j) else J1 (k+i) (k+j+1) (m.drop i) (d.drop (j+1)):=by
     intro z;rw[dL m d i j M z,A7];intro A;exact T ⟨⟨by omega,by omega⟩,by simpa[M,z] using A⟩
    refine zz 7 ?_;refine J4 A0 A0 A0 C (zz 1 ?_);refine J4 A0 A0 A0 C (zz 1 ?_);refine J4 A0 A0 A0 C (zz 1 ?_);refine J4 A0 A0 A0 C (zz 1 ?_);refine J4 A0 A0 A0 C (rG (XL m d (i+1) j G I B3 P A0 A0) A0 A0 A0 A0 ?_);rintro _ _ ⟨rfl,rfl⟩;refine J4 A0 A0 A0 C (zz 1 ?_);refine J4 A0 A0 A0 C (zz 1 ?_);refine J4 A0 A0 A0 C (zz 1 ?_);refine J4 A0 A0 A0 C (zz 1 ?_);refine J4 A0 A0 A0 C (rG (XL m d i j G I Z P A0 A0) A0 A0 A0 A0 ?_);rintro _ _ ⟨rfl,rfl⟩;refine J4 A0 A0 A0 C ?_;refine zc 4 (fun w=>?_) fun w=>?_
    ·simp only[N1]at w;obtain⟨_,A⟩:=A1 w;have A:dist (m.drop (i+1)) (d.drop j)+1=dist (m.drop i) (d.drop j):=by omega
     have L:J1 (k+i) (k+j) (m.drop i) (d.drop j)=J1 (k+i+1) (k+j) (m.drop (i+1)) (d.drop j):=by
      by_cases z:j<d.length
      ·rw[N z,A6 A]
      ·exact (D z).2
     rw[L]at E;skip;refine zz 5 ?_;refine⟨(i+1,j,y),⟨by dsimp only;omega,by dsimp only;omega,by dsimp only;omega,?_⟩,by dsimp only;omega,Sees.of lf lo⟩;dsimp only;rw[E,show (k:Int)+(i:Int)+1=(k:Int)+((i+1:Nat):Int) by omega]
    ·simp only[N1]at w;have A:=A3 w;have A:¬dist (m.drop (i+1)) (d.drop j)+1=dist (m.drop i) (d.drop j):=fun q=>A ⟨by omega,by omega⟩;have z:j<d.length:=by
      by_cases z:j<d.length
      ·exact z
      ·exact absurd (D z).1 A
     rw[N z,A7 A]at E;skip;refine zz 5 ?_;refine⟨(i,j+1,y),⟨by dsimp only;omega,by dsimp only;omega,by dsimp only;omega,?_⟩,by dsimp only;omega,Sees.of lf lo⟩;dsimp only;rw[E,show (k:Int)+(j:Int)+1=(k:Int)+((j+1:Nat):Int) by omega]
   ·have v:decide ((i:Int)<(m.length:Int))=false:=A5 B3;have z:j<d.length:=by omega
    refine zz 7 ?_;refine J9 A0 A0 A0 (by rw[v];decide) A0 ?_;refine J9 A0 A0 A0 (by rw[v];decide) A0 ?_;refine J9 A0 A0 A0 (by rw[v];decide) A0 ?_;refine J9 A0 A0 A0 (by rw[v];decide) A0 ?_;refine J9 A0 A0 A0 (by rw[v];decide) A0 ?_;refine J9 A0 A0 A0 (by rw[v];decide) A0 ?_;refine J9 A0 A0 A0 (by rw[v];decide) A0 ?_;refine J9 A0 A0 A0 (by rw[v];decide) A0 ?_;refine J9 A0 A0 A0 (by rw[v];decide) A0 ?_;refine J9 A0 A0 A0 (by rw[v];decide) A0 ?_;refine J9 A0 A0 A0 (by rw[v];decide) A0 ?_;refine B0 (V3 A0 (v) A0) A0 ?_;refine zc 2 (fun w=>?_) fun w=>?_
    ·cases w
    ·skip;refine zz 5 ?_;refine⟨(i,j+1,y),⟨by dsimp only;omega,by dsimp only;omega,by dsimp only;omega,?_⟩,by dsimp only;omega,Sees.of lf lo⟩;dsimp only;rw[E,show m.drop i=[] from B59 B3,X3,X3]
 ·simp only[or_pick]at w;have J:=A3 w;rw[show m.drop i=[] from B59 B3,X3,B67]at E;refine zz 7 ?_;exact B2 (G6 rfl rfl rfl) (by rw[E])
theorem TV(a b:List Int)(ha:a.length<=4096)(hb:b.length<=4096):FnOk Tryz.prog 43 [K8 a,K8 b] (fun rs=>rs=[pChanges (sB a b),D3 0]):=by
 have d:=DA a b 0 0;rw[Int.zero_add,Int.zero_add]at d;have e:=qX 0 0 a b;refine FnOk.intro Tryz.func43 F2 A0 A0 A0 A0 (zz 10 ?_);refine E3 (OX a b) ?_;refine zc 2 (fun c=>?_) fun c=>?_
 ·exfalso;have h:decide ((a.length:Int)<=4096/\(b.length:Int)<=4096)=true:=A4 ⟨by omega,by omega⟩;rw[h]at c;cases c
 refine zz 5 ?_;refine E3 (A73 a b ha hb) (zz 4 ?_);refine E3 (FG (J1 0 0 a b) a.length b.length ⟨by omega,by omega⟩ ⟨by omega,by omega⟩ d B3) (zz 6 ?_);exact B2 (S6 rfl rfl rfl rfl rfl) rfl
end Go.Proofs.YtabbdaafimcjhaaGreatDoor
