
/- Walks of the program's functions. -/
import Derived.Test.YtabbdaafimcjhaaGreatDoorFc
set_option linter.all false
namespace Go.Proofs.YtabbdaafimcjhaaGreatDoor
open Go Go.AL
open Tryz (prog)
set_option maxRecDepth 100000
set_option maxHeartbeats 4000000
theorem MV(n:Nat)(d:n<=1000000):AL.Met prog 76 [.one (.p (.v (.slice none 0 0))),P7 n] [] [] [] (fun rs ob'=>rs=[.one (.mut 803)]/\ob'=[(803,A12 [])]):=by
 refine AL.Met.intro Tryz.func76 F1 A0 A0 A0 (F5 ?_);refine B2 (E3 _ 2 dD) A0 ?_;refine zc 7 (fun a=>?_) fun a=>?_
 ·have b:=A1 a;omega
 refine zz 13 ?_;rw[show (n:Int)-(0-0)=(n:Int) by omega];refine zc 5 (fun a=>?_) fun a=>?_
 ·have b:=A1 a;skip;refine P1 ?_;refine B2 (sB A0 A0) A0 (G5 ?_);refine C2 (JC 803 A0 A0 B1 B1 A0 A0) A0 (J0 ?_);rw[show Int.toNat 0=0 from rfl,C79];refine C3 (C20 (k:=803) (Str×Str) dD A0) (I2 ?_);exact D1 V9 iV (ObIn.spec (ob':=[(803,A12 [])]) ⟨rfl,trivial⟩) ⟨rfl,rfl⟩
 ·refine C3 (C19 0 803 (Str×Str) 2 dD 54 A0 A0) (I3 ?_);exact D1 V9 iV (ObIn.spec (ob':=[(803,A12 [])]) ⟨rfl,trivial⟩) ⟨rfl,rfl⟩
theorem HV(B:List (List (Str×Str)))(f:FewB B):FnOk prog 39 [wS B] (fun rs=>rs=[pPairs B.flatten]):=by
 have C:=f.len;have j:B.flatten=cQ B B.length:=by unfold cQ;rw[C48]
 rw[j];refine FnOk.intro Tryz.func39 F1 A0 A0 A0 A0 (zz 16 ?_);refine B9 (X:=Nat) (fun i=>([(0,B8 (List (Str×Str)) 1 aH B),(3,B6 ((cQ B i).length:Nat)),(9,B8 (List (Str×Str)) 1 aH B),(10,B6 B.length),(11,B6 i)],[])) (fun i=>i<=B.length) (fun i=>B.length-i) 0 (C41 _) (C1) ?_;intro i x;dsimp only at x ⊢;have w:=mS f i;refine zc 5 (fun b=>?_) fun b=>?_
 ·have a:i<B.length:=by have c:=A1 b;(try dsimp only at c);omega
  obtain⟨l,d⟩:∃l,l=B[i]:=⟨_,rfl⟩
  have D:B[i]?=some l:=by rw[d];simp[a]
  have z:=f.lens l (by rw[d];exact C43 a);have v:((cQ B (i+1)).length:Int)=(cQ B i).length+l.length:=by rw[zJ a,C40,d];omega
  refine zc 22 (fun b=>?_) fun b=>?_
  ·have c:=A1 b;omega
  refine I2 ?_;refine⟨i+1,by omega,by omega,?_⟩;rw[v];exact (C1)
 have y:i=B.length:=by have c:=A3 b;(try dsimp only at c);omega
 rw[y];have A:=mS f B.length;refine P1 ?_;refine fS (MV (cQ B B.length).length B1) A0 A0 A0 A0 ?_;rintro _ _ ⟨rfl,rfl⟩;refine⟨rfl,?_⟩;refine F5 ?_;refine R3 ?_;refine B9 (X:=Nat) (fun i=>([(6,.s (.one (.mut 803))),(25,B8 (List (Str×Str)) 1 aH B),(26,B6 B.length),(27,B6 i)],[(803,A12 (cQ B i))])) (fun i=>i<=B.length) (fun i=>B.length-i) 0 (C41 _) (C1) ?_;intro i x;dsimp only at x ⊢;have w:=mS f i;refine zc 5 (fun b=>?_) fun b=>?_
 ·have a:i<B.length:=by have c:=A1 b;(try dsimp only at c);omega
  obtain⟨l,d⟩:∃l,l=B[i]:=⟨_,rfl⟩
  have D:B[i]?=some l:=by rw[d];simp[a]
  have z:=f.lens l (by rw[d];exact C43 a);have v:=zJ a;rw[<-d]at v;refine x5 ?_;refine C2 (R4 A0 A0 A0 (.pure _ _ _ _) B1 A0) A0 (J0 ?_);refine⟨i+1,by omega,by omega,?_⟩;rw[v];exact (C1)
 have q:i=B.length:=by have c:=A3 b;(try dsimp only at c);omega
 rw[q];refine F5 ?_;refine C3 (Sees.freezeG (k:=803) A0 A0) (I2 ?_);exact A9 (rs:=[pPairs (cQ B B.length)]) M1 rfl
def c8(B:List (List Str))(i:Nat):List Str:=(B.take i).flatten
theorem gF{B:List (List Str)}{i:Nat}(h:i<B.length):c8 B (i+1)=c8 B i++B[i]:=by
 unfold c8;rw[C52,C36 h,C53,D11];simp
theorem eS{B:List (List Str)}(h:B.flatten.length<=1000000)(i:Nat):(c8 B i).length<=1000000:=by
 have e:B.flatten=(B.take i).flatten++(B.drop i).flatten:=by rw[<-D11,D16]
 rw[e,C40]at h;unfold c8;omega
abbrev MW(l:List Str):Ob:=.grow 9 Str 1 L8 l
theorem RL(n:Nat)(d:n<=1000000):AL.Met prog 86 [.one (.p (.v (.slice none 0 0))),P7 n] [] [] [] (fun rs ob'=>rs=[.one (.mut 804)]/\ob'=[(804,MW [])]):=by
 refine AL.Met.intro Tryz.func86 F1 A0 A0 A0 (F5 ?_);refine B2 (E3 _ 1 L8) A0 ?_;refine zc 7 (fun a=>?_) fun a=>?_
 ·have b:=A1 a;omega
 refine zz 13 ?_;rw[show (n:Int)-(0-0)=(n:Int) by omega];refine zc 5 (fun a=>?_) fun a=>?_
 ·have b:=A1 a;skip;refine P1 ?_;refine B2 (sB A0 A0) A0 (G5 ?_);refine C2 (JC 804 A0 A0 B1 B1 A0 A0) A0 (J0 ?_);rw[show Int.toNat 0=0 from rfl,C79];refine C3 (C20 (k:=804) Str L8 A0) (I2 ?_);exact D1 V9 iV (ObIn.spec (ob':=[(804,MW [])]) ⟨rfl,trivial⟩) ⟨rfl,rfl⟩
 ·refine C3 (C19 0 804 Str 1 L8 9 A0 A0) (I3 ?_);exact D1 V9 iV (ObIn.spec (ob':=[(804,MW [])]) ⟨rfl,trivial⟩) ⟨rfl,rfl⟩
theorem MX(B:List (List Str))(x:B.length<=1000)(b:B.flatten.length<=1000000):FnOk prog 44 [pStrss B] (fun rs=>rs=[cG B.flatten]):=by
 have E:=x;have j:B.flatten=c8 B B.length:=by unfold c8;rw[C48]
 rw[j];refine FnOk.intro Tryz.func44 F1 A0 A0 A0 A0 (zz 16 ?_);refine B9 (X:=Nat) (fun i=>([(0,B8 (List Str) 1 strsC B),(3,B6 ((c8 B i).length:Nat)),(9,B8 (List Str) 1 strsC B),(10,B6 B.length),(11,B6 i)],[])) (fun i=>i<=B.length) (fun i=>B.length-i) 0 (C41 _) (C1) ?_;intro i A;dsimp only at A ⊢;have y:=eS b i;refine zc 5 (fun c=>?_) fun c=>?_
 ·have a:i<B.length:=by have d:=A1 c;(try dsimp only at d);omega
  obtain⟨l,f⟩:∃l,l=B[i]:=⟨_,rfl⟩
  have F:B[i]?=some l:=by rw[f];simp[a]
  have q:=eS b (i+1);have z:(c8 B (i+1)).length=(c8 B i).length+l.length:=by rw[gF a,C40,f]
  have w:((c8 B (i+1)).length:Int)=(c8 B i).length+l.length:=by rw[gF a,C40,f];omega
  refine zc 22 (fun c=>?_) fun c=>?_
  ·have d:=A1 c;omega
  refine I2 ?_;refine⟨i+1,by omega,by omega,?_⟩;rw[w];exact (C1)
 have C:i=B.length:=by have d:=A3 c;(try dsimp only at d);omega
 rw[C];have D:=eS b B.length;refine P1 ?_;refine fS (RL (c8 B B.length).length B1) A0 A0 A0 A0 ?_;rintro _ _ ⟨rfl,rfl⟩;refine⟨rfl,?_⟩;refine F5 ?_;refine R3 ?_;refine B9 (X:=Nat) (fun i=>([(6,.s (.one (.mut 804))),(25,B8 (List Str) 1 strsC B),(26,B6 B.length),(27,B6 i)],[(804,MW (c8 B i))])) (fun i=>i<=B.length) (fun i=>B.length-i) 0 (C41 _) (C1) ?_;intro i A;dsimp only at A ⊢;have y:=eS b i;refine zc 5 (fun c=>?_) fun c=>?_
 ·have a:i<B.length:=by have d:=A1 c;(try dsimp only at d);omega
  obtain⟨l,f⟩:∃l,l=B[i]:=⟨_,rfl⟩
  have F:B[i]?=some l:=by rw[f];simp[a]
  have q:=eS b (i+1);have z:(c8 B (i+1)).length=(c8 B i).length+l.length:=by rw[gF a,C40,f]
  have w:=gF a;rw[<-f]at w;refine x5 ?_;refine C2 (R4 A0 A0 A0 (.pure _ _ _ _) B1 A0) A0 (J0 ?_);refine⟨i+1,by omega,by omega,?_⟩;rw[w];exact (C1)
 have v:i=B.length:=by have d:=A3 c;(try dsimp only at d);omega
 rw[v];refine F5 ?_;refine C3 (Sees.freezeG (k:=804) A0 A0) (I2 ?_);exact A9 (rs:=[cG (c8 B B.length)]) M1 rfl
abbrev DR(l:List Int):Ob:=.arr Int 1 C7 l
abbrev Z5(l:List Int):Ob:=.grow 3 Int 1 C7 l
theorem b9y{p:Prop}(h:p:=by repeat (first | exact Z6 | refine Z7 rfl ?_ | refine mK _ ?_)):p:=h
theorem JN{gf:Fr}{ob:Obs}(a d:List Int)(c:Nat)(C:c<a.length)(_hl:a.length<=1000000)(D:d.length<=1000000)(y:B5 ob 5=some (.box [.mut 753]))(z:B5 ob 7=some (.box [.mut 754]))(j:B5 ob 753=some (DR a))(k:B5 ob 754=some (Z5 d)) :
  AL.Met prog 117 [.one (.p (.v (.int .i64 c))),.one (.ref 5 0),.one (.ref 7 0)] gf ob [754]
   (fun B ob'=>B=[]/\ob'=(5,.box [.mut 753])::(7,.box [.mut 754])::(753,DR (if I0 a c<0 then a.set c 0 else a))::(754,Z5 (if I0 a c<0 then d++[(c:Int)] else d))::Obs.forget 754 ob):=by
 have q:=tG (l:=a) (p:=(c:Int)) B1;rw[C37]at q;refine AL.Met.introH Tryz.func117 F1 rfl rfl rfl (fun A=>?_);refine C3 (C05 754 (l:=[(0,B6 c),(1,.s (.one (.ref 5 0))),(2,.s (.one (.ref 7 0)))]) (L:=[(5,_),(7,_),(753,_),(754,_)]) lf A J6 ⟨y,z,j,k,trivial⟩) ?_;refine I2 ?_;refine B2 (M7 A0 A0 q A0) A0 ?_;refine zc 2 (fun w=>?_) fun w=>?_
 ·have g:I0 a c<0:=A1 w;rw[A6 g,A6 g];refine I2 ?_;refine U0 (G3 TySz.out A0 A0 B1 A0 A0) (P1 ?_);refine B2 (B7 (c:=C7) (ys:=[(c:Int)]) (C0 A0 A0 A0 A0 D2) A0 A0 A0) A0 (C2 (R4 A0 A0 A0 (.pure _ _ _ _) PH A0) A0 (F5 ?_));skip;exact V6 (iZ rfl) b9y (D3 (L:=[(5,_),(7,_),(753,_),(754,_)]) ⟨rfl,rfl,rfl,rfl,trivial⟩ b4x) ⟨rfl,rfl⟩
 ·have g:¬I0 a c<0:=A3 w;rw[A7 g,A7 g];refine k5 ?_;exact V6 (iZ rfl) b9y (fun _ _ h=>h) ⟨rfl,rfl⟩
def kD(n i:Nat):List Int:=List.replicate i (-1)++List.replicate (n-i) 0
theorem WM{n i:Nat}(h:i<n):(kD n i).set i (-1)=kD n (i+1):=by
 unfold kD;rw[List.set_append_right _ _ dV,C95,D18,show n-i=(n-(i+1))+1 by omega,List.replicate_succ,List.set_cons_zero,List.replicate_succ',C65];rfl
theorem WN{n i:Nat}(h:i<=n):(kD n i).length=n:=by unfold kD;simp;omega
theorem DInv.last{g:Graph}{e:List Bool}{st:List Int}{k i:Nat}{l b D:List Int}(h:DInv g e st k i l b D)(m:0<b.length):∃c:Nat,b=b.take (b.length-1)++[(c:Int)]/\c<g.length/\b[b.length-1]?=some (c:Int):=by
 have d:b.length-1<b.length:=by omega
 have n:=h.on b[b.length-1] (List.mem_append_right _ (C43 d));have f:b[b.length-1]=(b[b.length-1].toNat:Int):=by omega
 refine⟨b[b.length-1].toNat,?_,by omega,by rw[C36 d];exact congrArg some f⟩;have j:b.take (b.length-1+1)=b:=C83 B1;rw[C52,C36 d,C53]at j;rw[<-f];exact j.symm
theorem MY(g:Graph)(s:List Int)(G:FewG g)(hr:related g=true)(hs:∀f∈s,0<=f/\f<g.length)(ap:s.length<=1048576) :
  AL.Met prog 70 [.one (.p (.list Commit 3 F2 g)),.one (.p (.list Int 1 C7 s))] [] [] [] (fun rs ob'=>∃h,rs=[.one (.mut 753)]/\ob'=[(753,DR h)]/\h.length=g.length/\∀p,p<g.length->I0 h p=if J3 (P2 g s) p=true then (yP g (P2 g s) [] p:Int) else -1):=by
 have hg:=G.len;have ae:=rA hr hs;have U:=nD hr s hs;obtain⟨v,P⟩:∃v,v=P2 g s:=⟨_,rfl⟩
 have W:=@DInv.fin g s;rw[<-P]at ae U;refine AL.Met.intro Tryz.func70 F1 A0 A0 A0 (R3 ?_);refine C2 (a8 753 Int C7 0 A0 A0 B1 B1 (fun _=>PE) VH) A0 (C2 (H9 5 A0) A0 (J0 ?_));refine B2 (xI A0 A0) A0 (H3 ?_);rw[C37];refine B9 (X:=Nat) (fun i=>([(0,B8 Commit 3 F2 g),(1,B8 Int 1 C7 s),(5,.s (.one (.ref 5 0))),(18,B6 g.length),(19,B6 i)],[(5,.box [.mut 753]),(753,DR (kD g.length i))])) (fun i=>i<=g.length) (fun i=>g.length-i) 0 (C41 _) (by rw[show kD g.length 0=List.replicate g.length 0 by unfold kD;simp];exact (Sees.of ⟨i6 rfl,i6 rfl,i6 rfl,leE A0 (by first | (simp;done) | (simp;omega)),i6 rfl,trivial⟩ ⟨rfl,rfl,trivial⟩)) ?_;intro i hi;dsimp only at hi ⊢;have Z:=WN hi;refine zc 5 (fun C=>?_) fun C=>?_
 ·have B:i<g.length:=by have w:=A1 C;(try dsimp only at w);omega
  have al:=WM B;refine V7 ?_;refine B2 (D9 A0 A0 A0 B1 (by (rw[Z];omega))) A0 ?_;refine U0 (G3 TySz.out A0 A0 (by (rw[Z];omega)) A0 A0) ?_;refine I2 ?_;refine⟨i+1,by omega,by omega,?_⟩;rw[C37,al];exact (C1)
 have ag:i=g.length:=by have w:=A3 C;(try dsimp only at w);omega
 rw[ag,show kD g.length g.length=List.replicate g.length (-1) by unfold kD;simp];have af:=DInv.start g v;refine H3 ?_;refine C2 (H9 7 A0) A0 (F5 ?_);refine C3 (C10 754 Int 1 C7 3 (kb:=7) (o:=0) A0 A0 A0) (x5 ?_);refine B9 (X:=Nat×List Int×List Int) (fun x=>([(0,B8 Commit 3 F2 g),(5,.s (.one (.ref 5 0))),(7,.s (.one (.ref 7 0))),(8,.s (.one (.clo 117 [] [(5,0),(7,0)]))),(27,B8 Int 1 C7 s),(28,B6 s.length),(29,B6 x.1)],[(5,.box [.mut 753]),(7,.box [.mut 754]),(753,DR x.2.1),(754,Z5 x.2.2)])) (fun x=>x.1<=s.length/\DInv g v (s.take x.1) 0 0 x.2.1 x.2.2 []) (fun x=>s.length-x.1) (0,List.replicate g.length (-1),[]) ⟨C41 _,af⟩ (C1) ?_;rintro⟨j,h,d⟩ ⟨hj,q⟩;dsimp only at hj q ⊢;have L:=q.le;have F:=q.len;rw[List.length_nil,C91]at L;refine zc 5 (fun C=>?_) fun C=>?_
 ·have B:j<s.length:=by have w:=A1 C;(try dsimp only at w);omega
  have aq:=hs _ (C43 B);obtain⟨c,hc⟩:∃c:Nat,s[j]=(c:Int):=⟨s[j].toNat,by omega⟩
  have hv:s[j]?=some (c:Int):=by rw[C36 B,hc]
  have E:c<g.length:=by omega
  have aj:J3 v c=true:=(ae c).2 ⟨c,by rw[<-hc];exact C43 B,.inl rfl⟩
  obtain⟨K,_⟩:=q.reach (C45 _) E aj (s.take (j+1)) (fun f G=>by
   rw[X5 B]at G;rcases G with G | G
   ·exact .inl G
   ·right;rw[G,hc])
  refine x5 ?_;refine tC (JN h d c B1 B1 B1 A0 A0 A0 A0) A0 A0 A0 A0 ?_;rintro _ _ ⟨rfl,rfl⟩;refine I2 ?_;exact⟨(j+1,if I0 h c<0 then h.set c 0 else h,if I0 h c<0 then d++[(c:Int)] else d),⟨B,K⟩,by dsimp only;omega,(C1)⟩
 have ah:j=s.length:=by have w:=A3 C;(try dsimp only at w);omega
 rw[ah,C48]at q;refine H3 ?_;refine B9 (X:=List Int×List Int×List Int) (fun x=>([(0,B8 Commit 3 F2 g),(5,.s (.one (.ref 5 0))),(7,.s (.one (.ref 7 0))),(8,.s (.one (.clo 117 [] [(5,0),(7,0)])))],[(5,.box [.mut 753]),(7,.box [.mut 754]),(753,DR x.1),(754,Z5 x.2.1)])) (fun x=>DInv g v s x.2.2.length 0 x.1 x.2.1 x.2.2) (fun x=>g.length-x.2.2.length) (h,d,[]) q (C1) ?_;rintro⟨h,d,D⟩ q;dsimp only at q ⊢;have L:=q.le;have F:=q.len;refine zc 7 (fun C=>?_) fun C=>?_;rotate_left
 ·have w:d=[]:=by
   have w:=A3 C;exact List.length_eq_zero_iff.1 B1
  rw[w]at q;have hF:=W hr hs (by rw[<-P];exact q);refine I3 ?_;exact D1 V9 iV (ObIn.spec (ob':=[(753,DR h)]) ⟨rfl,trivial⟩) ⟨h,rfl,rfl,F,hF⟩
 have h0:0<d.length:=by have w:=A1 C;omega
 obtain⟨c,e1,E,S⟩:=DInv.last q h0;obtain⟨z,ad⟩:∃z,z=d.take (d.length-1):=⟨_,rfl⟩
 have S:d[((d.length:Int)-1).toNat]?=some (c:Int):=by rw[show ((d.length:Int)-1).toNat=d.length-1 by omega];exact S
 have V:d.take ((d.length:Int)-1).toNat=z:=by rw[ad];congr 1;omega
 rw[<-ad]at e1;have hP:=(by rw[e1]at q;exact q:DInv g v s D.length 0 h (z++[(c:Int)]) D).pop;obtain⟨A,Q⟩:∃A,A=g[c]:=⟨_,rfl⟩
 have ar:g[((c:Nat):Int).toNat]?=some A:=by rw[Q];simp[E]
 have H:D8 g c=A.Parents:=by rw[c9 E,Q]
 have ao:=G.pars A (by rw[Q];exact C43 E);have ab:J3 v c=true:=by
  have:=(hP.on (c:Int) dV).2.2
  rwa[C37]at this
 have Y:(D++[(c:Int)]).getD D.length 0=(c:Int):=by
  rw[C38,C76 (C45 _),D18];rfl
 refine Z2 ?_;refine B2 (eQ A0 A0 S A0) A0 (V7 ?_);rw[V];refine V7 ?_;refine B9 (X:=Nat×List Int×List Int) (fun x=>([(0,B8 Commit 3 F2 g),(5,.s (.one (.ref 5 0))),(7,.s (.one (.ref 7 0))),(8,.s (.one (.clo 117 [] [(5,0),(7,0)]))),(55,B8 Int 1 C7 A.Parents),(56,B6 A.Parents.length),(57,B6 x.1)],[(5,.box [.mut 753]),(7,.box [.mut 754]),(753,DR x.2.1),(754,Z5 x.2.2)])) (fun x=>x.1<=A.Parents.length/\DInv g v s D.length x.1 x.2.1 x.2.2 (D++[(c:Int)])) (fun x=>A.Parents.length-x.1) (0,h,z) ⟨C41 _,hP⟩ (C1) ?_;rintro⟨i,h,d⟩ ⟨hi,q⟩;dsimp only at hi q ⊢;have L:=q.le;have F:=q.len;rw[C40,C51]at L;refine zc 5 (fun C=>?_) fun C=>?_;rotate_left
 ·have w:i=A.Parents.length:=by have w:=A3 C;(try dsimp only at w);omega
  rw[w,<-H]at q;have hN:=q.next (k:=D.length) dV Y;refine G5 ?_;exact⟨(h,d,D++[(c:Int)]),hN,by dsimp only;rw[C40,C51];omega,(C1)⟩
 have y:i<A.Parents.length:=by have w:=A1 C;(try dsimp only at w);omega
 have an:=(K6 hr c).1 A.Parents[i] (by rw[H];exact C43 y);obtain⟨p,hp⟩:∃p:Nat,A.Parents[i]=(p:Int):=⟨A.Parents[i].toNat,by omega⟩
 have au:A.Parents[i]?=some (p:Int):=by rw[C36 y,hp]
 have ak:p<g.length:=by omega
 have ac:J3 v p=true:=by
  have:=U c ab (p:Int) (by rw[H,<-hp];exact C43 y)
  rwa[C37]at this
 obtain⟨K,ai⟩:=q.reach dV ak ac s (fun f G=>.inl G);obtain⟨q1,q2,T⟩:=K.count hr Y (i:=i) (p:=p) (by rw[H];exact y) (by simp only[H];exact hp) ai;have M:=K.len;refine zz 13 ?_;refine tC (JN h d p B1 B1 B1 A0 A0 A0 A0) A0 A0 A0 A0 ?_;rintro _ _ ⟨rfl,rfl⟩;refine G5 ?_;obtain⟨J,O⟩:∃J,J=(if I0 h p<0 then h.set p 0 else h):=⟨_,rfl⟩
 obtain⟨I,R⟩:∃I,I=(if I0 h p<0 then d++[(p:Int)] else d):=⟨_,rfl⟩
 rw[<-O]at q1 q2 M;rw[<-O,<-R]at T ⊢;have am:=tG (l:=J) (p:=(p:Int)) B1;refine H3 ?_;refine B2 (D9 A0 A0 A0 B1 (by (rw[M];omega))) A0 ?_;refine B2 (M7 A0 A0 am A0) A0 (B2 (Z3 A0 A0 (by (rw[C37];omega))) A0 ?_);refine B2 (D9 A0 A0 A0 B1 (by (rw[M];omega))) A0 ?_;refine U0 (G3 TySz.out A0 A0 (by (rw[M];omega)) A0 A0) ?_;refine I2 ?_;exact⟨(i+1,bump J p,I),⟨y,T⟩,by dsimp only;omega,(C1)⟩
abbrev mV(g:Graph):Ob:=.box [.mut 741,.fnc 71 [.list Commit 3 F2 g]]
abbrev sI(n:Int):S1:=.one (.p (.v (.int .i64 n)))
abbrev sIf(n:Int):S1:=.one (.p (.v (.iface 3 (.int .i64 n))))
abbrev HW:S1:=.one (.ifc 125 740 0)
theorem A13{g:Graph}{c:Int}(h:0<=c/\c<g.length):∃b,g[c.toNat]?=some b/\j7 g c.toNat=b.Date:=by
 have a:c.toNat<g.length:=by omega
 exact⟨g[c.toNat],by simp[a],by unfold j7;rw[C36 a];rfl⟩
theorem A74(g:Graph)(a b:Int)(_hg:g.length<=1048576)(ha:0<=a/\a<g.length)(hb:0<=b/\b<g.length):FnOk prog 71 [I9 g,C8 a,C8 b] (fun h=>h=[E1 (X7 g a b)]):=by
 obtain⟨x,i,d⟩:=A13 ha;obtain⟨y,j,e⟩:=A13 hb;unfold X7;rw[d,e];refine FnOk.intro Tryz.func71 F1 A0 A0 A0 A0 ?_;refine zc 19 (fun c=>?_) fun c=>?_
 ·have f:x.Date≠y.Date:=A1 c;refine zz 16 ?_;refine A9 M1 (congrArg (fun b=>[E1 b]) (decide_eq_decide.2 ?_));omega
 ·have f:¬x.Date≠y.Date:=A3 c;refine Z2 ?_;refine A9 M1 (congrArg (fun b=>[E1 b]) (decide_eq_decide.2 ?_));omega
theorem DT{gf:Fr}{ob:Obs}(g:Graph)(l:List Int)(a:B5 ob 740=some (mV g))(b:B5 ob 741=some (Z5 l)) :
  AL.Met prog 73 [.one (.ref 740 0)] gf ob [] (fun rs ob'=>rs=[sI l.length]/\ob'=ob):=by
 refine AL.Met.intro Tryz.func73 F1 A0 A0 A0 (Z2 ?_);refine B2 (E7 A0 a A0) A0 (B2 (LW A0 b) A0 (H3 ?_));exact D1 V9 iV (fun _ _ h=>h) ⟨rfl,rfl⟩
theorem xU{gf:Fr}{ob:Obs}(g:Graph)(l:List Int)(i j:Nat)(w:g.length<=1048576)(u:∀x∈l,0<=x/\x<(g.length:Int))(d:i<l.length)(k:j<l.length)(m:B5 ob 740=some (mV g))(c:B5 ob 741=some (Z5 l)) :
  AL.Met prog 264 [.one (.ref 740 0),sI i,sI j] gf ob [] (fun y ob'=>y=[.one (.p (.v (.bool (X7 g (I0 l i) (I0 l j)))))]/\ob'=ob):=by
 have q:l[((i:Nat):Int).toNat]?=some (I0 l i):=by rw[C37,S6 d];simp[d]
 have s:l[((j:Nat):Int).toNat]?=some (I0 l j):=by rw[C37,S6 k];simp[k]
 have hb:=A74 g (I0 l i) (I0 l j) w (by rw[S6 d];exact u _ (C43 d)) (by rw[S6 k];exact u _ (C43 k));refine AL.Met.intro Tryz.func264 F1 A0 A0 A0 (Z2 ?_);refine D6 (E7 A0 m A0) A0 A0 (H3 ?_);refine D6 (E7 A0 m A0) A0 A0 (G5 ?_);refine D6 (K9 A0 c A0 B1 B1) A0 A0 (D6 (eQ A0 c q A0) A0 A0 (H3 ?_));refine D6 (E7 A0 m A0) A0 A0 (G5 ?_);refine D6 (K9 A0 c A0 B1 B1) A0 A0 (D6 (eQ A0 c s A0) A0 A0 (D6 (n_callC (hb) A0 A0 A0) A0 A0 (H3 ?_)));exact D1 V9 iV (fun _ _ h=>h) ⟨rfl,rfl⟩
theorem xV{gf:Fr}{ob:Obs}(g:Graph)(l:List Int)(i j:Nat)(x:i<l.length)(q:j<l.length)(y:B5 ob 740=some (mV g))(v:B5 ob 741=some (Z5 l)) :
  AL.Met prog 267 [.one (.ref 740 0),sI i,sI j] gf ob [] (fun B ob'=>B=[]/\ob'=(741,Z5 (y4 l i j))::ob):=by
 have d:l[((i:Nat):Int).toNat]?=some (I0 l i):=by rw[C37,S6 x];simp[x]
 have m:l[((j:Nat):Int).toNat]?=some (I0 l j):=by rw[C37,S6 q];simp[q]
 obtain⟨a,ha⟩:∃a,a=I0 l i:=⟨_,rfl⟩
 obtain⟨b,hb⟩:∃b,b=I0 l j:=⟨_,rfl⟩
 rw[<-ha]at d;rw[<-hb]at m;have p:(l.set ((i:Nat):Int).toNat b)[((j:Nat):Int).toNat]?=some (I0 (l.set i b) j):=by
  rw[C37,C37];have:j<(l.set i b).length:=by rw[C78];exact q
  rw[S6 this];simp[q]
 have w:(l.set ((i:Nat):Int).toNat b).set ((j:Nat):Int).toNat a=y4 l i j:=by rw[ha,hb];rfl
 have c:B5 ((741,Z5 l)::ob) 740=some (mV g):=by rw[A8 F1];exact y
 refine AL.Met.introH Tryz.func267 F1 rfl rfl rfl (fun A=>?_);refine C3 (C04 (l:=[(0,.s (.one (.ref 740 0))),(1,B6 i),(2,B6 j)]) (ob':=(741,Z5 l)::ob) lf A J6 (D3 (L:=[(741,_)]) ⟨v,trivial⟩ O3)) ?_;skip;refine N7 [27,25] [[],[25],[27,25]] [(25,([],[])),(27,([],[]))] [(0,[]),(1,[]),(2,[]),(3,[]),(4,[]),(5,[]),(6,[]),(7,[]),(8,[]),(9,[]),(10,[]),(11,[]),(12,[]),(13,[]),(14,[]),(15,[]),(16,[]),(17,[]),(18,[]),(19,[]),(20,[]),(21,[]),(22,[]),(23,[]),(24,[]),(25,[]),(26,[25]),(27,[25])] [(9,[25])] E4 E4 (C6 A0 A0 E4 A0 A0 (C9 A0 A0) (C6 A0 A0 E4 A0 A0 (F3 A0) (C6 A0 A0 E4 A0 A0 (F4 A0) (C6 A0 A0 E4 A0 A0 (E7 A0 c A0) (C6 A0 A0 E4 A0 A0 (C9 A0 A0) (C6 A0 A0 E4 A0 A0 (C9 A0 A0) (C6 A0 A0 E4 A0 A0 (F3 A0) (C6 A0 A0 E4 A0 A0 (F4 A0) (C6 A0 A0 E4 A0 A0 (E7 A0 c A0) (C6 A0 A0 E4 A0 A0 (C9 A0 A0) (C6 A0 A0 E4 A0 A0 (C9 A0 A0) (C6 A0 A0 E4 A0 A0 (F3 A0) (C6 A0 A0 E4 A0 A0 (F4 A0) (C6 A0 A0 E4 A0 A0 (E7 A0 c A0) (C6 A0 A0 E4 A0 A0 (C9 A0 A0) (C6 A0 A0 E4 A0 A0 (K9 A0 A0 A0 B1 B1) (C6 A0 A0 E4 A0 A0 (eQ A0 A0 m A0) (C6 A0 A0 E4 A0 A0 (C9 A0 A0) (C6 A0 A0 E4 A0 A0 (F3 A0) (C6 A0 A0 E4 A0 A0 (F4 A0) (C6 A0 A0 E4 A0 A0 (E7 A0 c A0) (C6 A0 A0 E4 A0 A0 (C9 A0 A0) (C6 A0 A0 E4 A0 A0 (K9 A0 A0 A0 B1 (by (first | omega | (rw[C78];omega)))) ?_)))))))))))))))))))))));refine C6 A0 A0 E4 A0 A0 (eQ A0 A0 d A0) (C6 A0 A0 E4 A0 A0 (K9 A0 A0 A0 B1 B1) (Z4 A0 A0 E4 A0 A0 (gV (fun u k=>dH (b) TySz.out (S7 k A0) A0 d (S7 k A0) A0 A0 A0 (fun _ _ _ h=>cL h) (by intro j v z;rcases j with _ | _ | _ | _ | _ | _ | _ | j<;>first | rfl | omega))) A0 ?_));refine C6 A0 A0 E4 A0 A0 (K9 A0 A0 A0 B1 (by (rw[C78];omega))) ?_;refine Z4 A0 A0 E4 A0 A0 (gV (fun u k=>dH (a) TySz.out (S7 k A0) A0 p (S7 k A0) A0 A0 A0 (fun _ _ _ h=>cL h) (by intro j v z;rcases j with _ | _ | _ | _ | _ | _ | _ | j<;>first | rfl | omega))) A0 ?_;refine CQ E4 rfl ?_ ?_
 ·refine G4 A0 A0 E4 A0 A0 (C9 A0 A0) ?_;exact lA
 rw[w];skip;exact V6 (iZ rfl) b4y (D3 (L:=[(741,_)]) ⟨rfl,trivial⟩ PG) ⟨rfl,rfl⟩
theorem A75{gf:Fr}{ob:Obs}(g:Graph)(l:List Int)(c:Int)(k:l.length<=1048576)(d:B5 ob 740=some (mV g))(h:B5 ob 741=some (Z5 l)) :
  AL.Met prog 266 [.one (.ref 740 0),sIf c] gf ob [741] (fun j ob'=>j=[]/\ob'=(740,mV g)::(741,Z5 (l++[c]))::Obs.forget 741 ob):=by
 refine AL.Met.introH Tryz.func266 F1 rfl rfl rfl (fun i=>?_);refine C3 (C05 741 (l:=[(0,.s (.one (.ref 740 0))),(1,.s (sIf c))]) (L:=[(740,_),(741,_)]) lf i J6 ⟨d,h,trivial⟩) ?_;skip;refine N7 [11,8] [[],[8],[11,8]] [(8,([741],[8])),(11,([],[]))] [(0,[]),(1,[]),(2,[]),(3,[]),(4,[]),(5,[]),(6,[]),(7,[]),(8,[]),(9,[8]),(10,[8]),(11,[8])] [(0,[8])] E4 E4 (C6 A0 A0 E4 A0 A0 (C9 A0 A0) (C6 A0 A0 E4 A0 A0 (C9 A0 A0) (C6 A0 A0 E4 A0 A0 (F3 A0) (C6 A0 A0 E4 A0 A0 (F4 A0) (C6 A0 A0 E4 A0 A0 (E7 A0 A0 A0) (C6 A0 A0 E4 A0 A0 (C9 A0 A0) (C6 A0 A0 E4 A0 A0 (zA A0 A0) (C6 A0 A0 E4 A0 A0 (B7 (c:=C7) (ys:=[c]) (C0 A0 A0 A0 A0 D2) A0 A0 A0) (Z4 A0 A0 E4 A0 A0 (mL (fun b a=>R4 (S7 a A0) A0 (S7 a A0) (.pure _ _ _ _) PH A0)) A0 (C6 A0 A0 E4 A0 A0 (F3 A0) (C6 A0 A0 E4 A0 A0 (F4 A0) (Z4 A0 A0 E4 A0 A0 (gV (fun b a=>K5 TySz.out (S7 a A0) A0 (S7 a A0) A0 A0 A0)) A0 ?_))))))))))));refine tE (ks:=[741]) rfl E4 rfl ?_ ?_
 ·refine G4 A0 A0 E4 A0 A0 (C9 A0 A0) ?_;exact lA
 skip;exact V6 (iZ rfl) b1x (D3 (L:=[(740,_),(741,_)]) ⟨rfl,rfl,trivial⟩ b4x) ⟨rfl,rfl⟩
theorem b1y{p:Prop}(h:p:=by repeat (first | exact Z6 | refine Z7 rfl ?_ | refine mK _ ?_ | refine eK _ ?_)):p:=h
theorem B61{gf:Fr}{ob:Obs}(g:Graph)(l:List Int)(p:l.length<=1048576)(m:0<l.length)(c:B5 ob 740=some (mV g))(d:B5 ob 741=some (Z5 l)) :
  AL.Met prog 265 [.one (.ref 740 0)] gf ob [741] (fun k ob'=>k=[sIf (I0 l (l.length-1))]/\ob'=(740,mV g)::(741,Z5 (l.take (l.length-1)))::Obs.forget 741 ob):=by
 have b:l.length-1<l.length:=by omega
 have j:l[((l.length:Int)-1).toNat]?=some (I0 l (l.length-1)):=by rw[show ((l.length:Int)-1).toNat=l.length-1 by omega,S6 b];simp[b]
 have i:l.take ((l.length:Int)-1).toNat=l.take (l.length-1):=by congr 1;omega
 refine AL.Met.introH Tryz.func265 F1 rfl rfl rfl (fun h=>?_);refine C3 (C05 741 (l:=[(0,.s (.one (.ref 740 0)))]) (L:=[(740,_),(741,_)]) ⟨i6 rfl,trivial⟩ h J6 ⟨c,d,trivial⟩) ?_;refine zz 22 ?_;refine B2 (eQ A0 A0 j A0) A0 (zz 15 ?_);rw[i];refine I3 ?_;exact D1 V9 b1y (D3 (L:=[(740,_),(741,_)]) ⟨rfl,rfl,trivial⟩ b4x) ⟨rfl,rfl⟩
theorem up_div(j:Nat)(a:j<=1048576):IntKind.i64.wrap (((j:Int)-1).tdiv 2)=(((j-1) / 2:Nat):Int):=by
 have h:((j:Int)-1).tdiv 2=(((j-1) / 2:Nat):Int):=by
  cases j with
  | zero=>rfl
  | succ j =>
   rw[show (((j+1:Nat):Int)-1)=(j:Int) by omega,Int.tdiv_eq_ediv_of_nonneg B1];omega
 rw[h];exact IntWalk.i64_in _ ⟨by omega,by omega⟩
theorem DU{l:List Int}{n:Int}{i j:Nat}(a:i<l.length)(b:j<l.length)(h:∀x∈l,0<=x/\x<n):∀x∈y4 l i j,0<=x/\x<n:=fun x c=>h x ((KV a b x).1 c)
theorem hUp_met{gf:Fr}{ob:Obs}(g:Graph)(l:List Int)(j:Nat)(F:g.length<=1048576)(K:l.length<=1048576)(H:∀x∈l,0<=x/\x<(g.length:Int))(G:j<l.length)(D:B5 ob 740=some (mV g))(E:B5 ob 741=some (Z5 l)) :
  AL.Met prog 118 [HW,sI j] gf ob [] (fun I ob'=>I=[]/\ob'=(741,Z5 (upH (X7 g) (j+1) l j))::ob):=by
 have q:∀o,B5 ((741,o)::ob) 740=some (mV g):=fun o=>by rw[A8 F1];exact D
 refine AL.Met.introH Tryz.func118 F1 rfl rfl rfl (fun z=>?_);refine k3 ?_;obtain⟨R,A⟩:∃R,R=upH (X7 g) (j+1) l j:=⟨_,rfl⟩
 rw[<-A];refine B9 (X:=Nat×List Int×Nat) (fun x=>([(0,.s HW),(1,B6 x.2.2)]++gf,(741,Z5 x.2.1)::ob)) (fun x=>upH (X7 g) x.1 x.2.1 x.2.2=R/\x.2.2<x.1/\x.2.1.length=l.length/\x.2.2<l.length/\∀y∈x.2.1,0<=y/\y<(g.length:Int)) (fun x=>x.1) (j+1,l,j) ⟨A.symm,by dsimp only;omega,rfl,G,H⟩ ?_ ?_
 ·exact C04 lf z J6 (D3 (L:=[(741,_)]) ⟨E,trivial⟩ O3)
 rintro⟨f,d,k⟩ ⟨c,v,t,hkl,m⟩;dsimp only at c v t hkl m ⊢;obtain⟨f,rfl⟩:∃C,f=C+1:=⟨f-1,by omega⟩
 rw[upH]at c;have u:=up_div k B1;have e:(k-1) / 2<d.length:=by omega
 refine R3 ?_;rw[u];refine F5 ?_;by_cases B:(k-1) / 2=k
 ·rw[A6 (.inl B)]at c;have b:decide ((((k-1) / 2:Nat):Int)=(k:Int))=true:=A4 B1;refine I2 ?_;refine L1 A0 A0 A0 (by rw[b];decide) A0 ?_;refine L1 A0 A0 A0 (by rw[b];decide) A0 ?_;refine L1 A0 A0 A0 (by rw[b];decide) A0 ?_;refine L1 A0 A0 A0 (by rw[b];decide) A0 ?_;refine L1 A0 A0 A0 (by rw[b];decide) A0 ?_;refine B2 (O2 A0 (b) A0) A0 ?_;refine zc 1 (fun p=>?_) fun p=>?_
  ·refine G5 ?_;rw[<-c];exact V6 (iZ rfl) iV (fun _ _ h=>h) ⟨rfl,rfl⟩
  ·cases p
 ·have b:decide ((((k-1) / 2:Nat):Int)=(k:Int))=false:=A5 B1;refine I2 ?_;refine G7 A0 A0 A0 b (G5 ?_);refine G7 A0 A0 A0 b (G5 ?_);refine G7 A0 A0 A0 b (G5 ?_);refine G7 A0 A0 A0 b (jX (fun a J w=>by kernel_rfl) (xU g d k ((k-1) / 2) F m B1 e (q _) A0) A0 A0 A0 A0 ?_);rintro _ _ ⟨rfl,rfl⟩;refine G7 A0 A0 A0 b (G5 ?_);refine B2 (Y2 A0 (b) A0) A0 ?_;refine zc 1 (fun p=>?_) fun p=>?_
  ·have hb:X7 g (I0 d k) (I0 d ((k-1) / 2))=false:=by simpa using p
   rw[A6 (.inr hb)]at c;refine G5 ?_;rw[<-c];exact V6 (iZ rfl) iV (fun _ _ h=>h) ⟨rfl,rfl⟩
  ·have hb:X7 g (I0 d k) (I0 d ((k-1) / 2))=true:=by simpa using p
   rw[A7 (by rw[hb];simp[B])]at c;refine J0 ?_;refine jX (fun a J w=>by kernel_rfl) (xV g d ((k-1) / 2) k e B1 (q _) A0) A0 A0 A0 A0 ?_;rintro _ _ ⟨rfl,rfl⟩;refine I2 ?_;refine⟨(f,y4 d ((k-1) / 2) k,(k-1) / 2),⟨c,by dsimp only;omega,by dsimp only;rw[Q6];exact t,by dsimp only;omega,DU e B1 m⟩,by dsimp only;omega,?_⟩;exact C04 lf z J6 (D3 (L:=[(741,_)]) ⟨rfl,trivial⟩ PG)
theorem A76{gf:Fr}{ob:Obs}(g:Graph)(l:List Int)(n:Nat)(K:g.length<=1048576)(Z:l.length<=1048576)(W:∀x∈l,0<=x/\x<(g.length:Int))(hn:n<=l.length)(S:B5 ob 740=some (mV g))(T:B5 ob 741=some (Z5 l)) :
  AL.Met prog 119 [HW,sI 0,sI n] gf ob [] (fun Y ob'=>∃b,Y=[.one (.p (.v (.bool b)))]/\ob'=(741,Z5 (iH (X7 g) n (n+1) l 0))::ob):=by
 have u:∀o,B5 ((741,o)::ob) 740=some (mV g):=fun o=>by rw[A8 F1];exact S
 refine AL.Met.introH Tryz.func119 F1 rfl rfl rfl (fun C=>?_);refine V7 ?_;obtain⟨R,J⟩:∃R,R=iH (X7 g) n (n+1) l 0:=⟨_,rfl⟩
 rw[<-J];refine B9 (X:=Nat×List Int×Nat) (fun x=>([(0,.s HW),(1,B6 0),(2,B6 n),(7,B6 x.2.2)]++gf,(741,Z5 x.2.1)::ob)) (fun x=>iH (X7 g) n x.1 x.2.1 x.2.2=R/\n<x.1+x.2.2/\x.2.1.length=l.length/\x.2.2<=l.length/\∀y∈x.2.1,0<=y/\y<(g.length:Int)) (fun x=>x.1) (n+1,l,0) ⟨J.symm,by dsimp only;omega,rfl,C41 _,W⟩ ?_ ?_
 ·exact C04 lf C J6 (D3 (L:=[(741,_)]) ⟨T,trivial⟩ O3)
 rintro⟨f,c,i⟩ ⟨q,H,D,F,r⟩;dsimp only at q H D F r ⊢;have A:n<=2*i+1->c=R:=fun h=>by
  cases f with
  | zero=>exact q
  | succ f=>rw[iH,A6 h]at q;exact q
 refine zc 19 (fun m=>?_) fun m=>?_
 ·have U:=A1 (or_pick.symm.trans m);rw[A B1];refine Z2 ?_;exact D1 V9 iV (fun _ _ h=>h) ⟨_,rfl,rfl⟩
 have U:=A3 (or_pick.symm.trans m);have G:2*i+1<n:=by omega
 obtain⟨f,rfl⟩:∃Q,f=Q+1:=⟨f-1,by omega⟩
 rw[iH,A7 B1]at q;obtain⟨N,O,P⟩:=A34 (bf:=X7 g) (l:=c) G;have t:BB (X7 g) n c i=if 2*i+2<n/\X7 g (I0 c (2*i+2)) (I0 c (2*i+1))=true then 2*i+2 else 2*i+1:=rfl
 obtain⟨j,V⟩:∃j,j=BB (X7 g) n c i:=⟨_,rfl⟩
 rw[<-V]at q N O P t;rw[show 2*(i:Int)+1=((2*i+1:Nat):Int) by omega];refine zz 13 ?_;rw[show ((2*i+1:Nat):Int)+1=((2*i+2:Nat):Int) by omega];refine G5 ?_;obtain⟨B,E⟩:∃B,B=(decide (2*i+2<n)&&X7 g (I0 c (2*i+2)) (I0 c (2*i+1))):=⟨_,rfl⟩
 have d:j=if B=true then 2*i+2 else 2*i+1:=by rw[t,E];simp only[C39,decide_eq_true_eq]
 refine U9 ([(0,.s HW),(1,B6 0),(2,B6 n),(7,B6 i),(9,B6 ((2*i+1:Nat):Int)),(10,B6 ((2*i+2:Nat):Int)),(33,L6 B)]++gf) ((741,Z5 c)::ob) ?_ ?_
 ·by_cases I:2*i+2<n
  ·have k:decide (((2*i+2:Nat):Int)<(n:Int))=true:=A4 B1;have z:B=X7 g (I0 c (2*i+2)) (I0 c (2*i+1)):=by rw[E,A4 I,C84]
   rw[z];refine I2 ?_;refine G7 A0 A0 A0 k (G5 ?_);refine G7 A0 A0 A0 k (G5 ?_);refine G7 A0 A0 A0 k (G5 ?_);refine G7 A0 A0 A0 k (jX (fun a M w=>by kernel_rfl) (xU g c (2*i+2) (2*i+1) K r B1 B1 (u _) A0) A0 A0 A0 A0 ?_);rintro _ _ ⟨rfl,rfl⟩;refine B2 (O2 A0 (k) A0) A0 (G5 ?_);exact C04 lf C J6 (fun _ _ h=>h)
  ·have k:decide (((2*i+2:Nat):Int)<(n:Int))=false:=A5 B1;have z:B=false:=by rw[E,A5 I,Bool.false_and]
   rw[z];refine I2 ?_;refine L1 A0 A0 A0 (by rw[k];decide) A0 ?_;refine L1 A0 A0 A0 (by rw[k];decide) A0 ?_;refine L1 A0 A0 A0 (by rw[k];decide) A0 ?_;refine L1 A0 A0 A0 (by rw[k];decide) A0 ?_;refine B2 (Y2 A0 (k) A0) A0 (G5 ?_);exact C04 lf C J6 (fun _ _ h=>h)
 skip;refine U9 ([(0,.s HW),(1,B6 0),(2,B6 n),(7,B6 i),(9,B6 j)]++gf) ((741,Z5 c)::ob) ?_ ?_
 ·refine zc 0 (fun m=>?_) fun m=>?_
  ·rw[A6 m]at d;skip;refine P1 ?_;rw[d];exact C04 lf C J6 (fun _ _ h=>h)
  ·rw[A7 (by rw[m];decide)]at d;refine G5 ?_;rw[d];exact C04 lf C J6 (fun _ _ h=>h)
 refine J0 ?_;refine jX (fun a M w=>by kernel_rfl) (xU g c j i K r B1 B1 (u _) A0) A0 A0 A0 A0 ?_;rintro _ _ ⟨rfl,rfl⟩;refine zc 2 (fun m=>?_) fun m=>?_
 ·have hb:X7 g (I0 c j) (I0 c i)=false:=by simpa using m
  rw[A6 hb]at q;rw[<-q];refine Z2 ?_;exact D1 V9 iV (fun _ _ h=>h) ⟨_,rfl,rfl⟩
 ·have hb:X7 g (I0 c j) (I0 c i)=true:=by simpa using m
  rw[A7 (by rw[hb];decide)]at q;refine J0 ?_;refine jX (fun a M w=>by kernel_rfl) (xV g c i j B1 B1 (u _) A0) A0 A0 A0 A0 ?_;rintro _ _ ⟨rfl,rfl⟩;refine I2 ?_;refine⟨(f,y4 c i j,j),⟨q,by dsimp only;omega,by dsimp only;rw[Q6];exact D,by dsimp only;omega,DU B1 B1 r⟩,by dsimp only;omega,?_⟩;exact C04 lf C J6 (D3 (L:=[(741,_)]) ⟨rfl,trivial⟩ PG)
theorem JO{gf:Fr}{ob:Obs}(g:Graph)(l:List Int)(c:Int)(r:g.length<=1000)(u:l.length<=1000)(p:∀x∈l,0<=x/\x<(g.length:Int))(m:0<=c/\c<g.length)(i:B5 ob 740=some (mV g))(j:B5 ob 741=some (Z5 l)) :
  AL.Met prog 72 [HW,sIf c] gf ob [741] (fun rs ob'=>rs=[]/\ob'=(740,mV g)::(741,Z5 (wQ (X7 g) l c))::Obs.forget 741 ob):=by
 have f:∀x∈l++[c],0<=x/\x<(g.length:Int):=fun x d=>by
  rcases C49.1 d with d | d
  ·exact p x d
  ·rw[C42.1 d];exact m
 have b:(l++[c]).length=l.length+1:=by simp
 have o:upH (X7 g) (l.length+1) (l++[c]) l.length=wQ (X7 g) l c:=rfl;refine AL.Met.introH Tryz.func72 F1 rfl rfl rfl (fun k=>?_);refine C3 (C05 741 (l:=[(0,.s HW),(1,.s (sIf c))]) (L:=[(740,_),(741,_)]) lf k J6 ⟨i,j,trivial⟩) ?_;refine P1 ?_;refine jX (fun a q w=>by kernel_rfl) (A75 g l c B1 A0 A0) A0 A0 A0 A0 ?_;rintro _ _ ⟨rfl,rfl⟩;refine P1 ?_;refine jX (fun a q w=>by kernel_rfl) (DT g (l++[c]) A0 A0) A0 A0 A0 A0 ?_;rintro _ _ ⟨rfl,rfl⟩;refine B2 (aM A0 A0 (by (rw[b];omega))) A0 ?_;refine CC ((by rw[b,show (((l.length+1:Nat):Int))-1=((l.length:Nat):Int) by omega];exact hUp_met g (l++[c]) l.length B1 B1 f B1 A0 A0)) A0 A0 A0 ?_;rintro _ _ ⟨rfl,rfl⟩;refine G5 ?_;rw[o];skip;exact V6 (iZ rfl) b1y (D3 (L:=[(740,_),(741,_)]) ⟨rfl,rfl,trivial⟩ b4x) ⟨rfl,rfl⟩
theorem B62{gf:Fr}{ob:Obs}(g:Graph)(l:List Int)(A:g.length<=1000)(B:l.length<=1000)(o:0<l.length)(v:∀x∈l,0<=x/\x<(g.length:Int))(q:B5 ob 740=some (mV g))(r:B5 ob 741=some (Z5 l)) :
  AL.Met prog 74 [HW] gf ob [741] (fun rs ob'=>rs=[sIf (I0 (tY (X7 g) l) (l.length-1))]/\ob'=(740,mV g)::(741,Z5 ((tY (X7 g) l).take (l.length-1)))::Obs.forget 741 ob):=by
 have y:=Q6 l 0 (l.length-1);have m:=DU (n:=(g.length:Int)) (i:=0) (j:=l.length-1) o B1 v;have c:iH (X7 g) (l.length-1) (l.length-1+1) (y4 l 0 (l.length-1)) 0=tY (X7 g) l:=by unfold tY;rw[show l.length-1+1=l.length by omega]
 have d:(tY (X7 g) l).length=l.length:=by
  rw[<-c]
  exact (by
   have key:∀(f i:Nat) (x:List Int),(iH (X7 g) (l.length-1) f x i).length=x.length:=by
    intro f;induction f with
    | zero=>intro i x;rfl
    | succ f z =>
     intro i x;rw[iH];split
     ·rfl
     ·split
      ·rfl
      ·rw[z,Q6]
   rw[key,Q6])
 refine AL.Met.introH Tryz.func74 F1 rfl rfl rfl (fun u=>?_);refine C3 (C05 741 (l:=[(0,.s HW)]) (L:=[(740,_),(741,_)]) ⟨i6 rfl,trivial⟩ u J6 ⟨q,r,trivial⟩) ?_;refine I3 ?_;refine jX (fun a p w=>by kernel_rfl) (DT g l A0 A0) A0 A0 A0 A0 ?_;rintro _ _ ⟨rfl,rfl⟩;refine H3 ?_;rw[show ((l.length:Nat):Int)-1=((l.length-1:Nat):Int) by omega];refine P1 ?_;refine jX (fun a p w=>by kernel_rfl) (xV g l 0 (l.length-1) o B1 A0 A0) A0 A0 A0 A0 ?_;rintro _ _ ⟨rfl,rfl⟩;refine I2 ?_;refine CC (A76 g (y4 l 0 (l.length-1)) (l.length-1) B1 B1 m B1 A0 A0) A0 A0 A0 ?_;rintro _ _ ⟨b,rfl,rfl⟩;refine G5 ?_;rw[c];refine H3 ?_;refine jX (fun a p w=>by kernel_rfl) ((by rw[<-d];exact B61 g (tY (X7 g) l) B1 B1 A0 A0)) A0 A0 A0 A0 ?_;rintro _ _ ⟨rfl,rfl⟩;refine F5 ?_;rw[d];refine G5 ?_;exact D1 V9 b1y (D3 (L:=[(740,_),(741,_)]) ⟨rfl,rfl,trivial⟩ b4x) ⟨rfl,rfl⟩
theorem OInv.ub{g:Graph}{a:List Bool}{k i:Nat}{d c b:List Int}(h:OInv g a k i d c b)(p:Nat)(c:p<g.length):-1<=I0 d p/\I0 d p<=g.length:=by
 cases e:J3 a p
 ·have:=h.off p c e;omega
 ·have f:=h.cnt p c e;have j:=OK g a (b.take k) p;split at f<;>omega
theorem A77(g:Graph)(s:Int)(h:FewT g):FnOk prog 37 [I9 g,I4 [s]] (fun rs=>rs=[I4 (N6 g s).1,C8 (N6 g s).2]):=by
 have hg:=h.few.len;refine FnOk.intro Tryz.func37 F1 A0 A0 A0 A0 (Z2 ?_);refine E2 (A11 g h) ?_;refine zc 7 (fun d=>?_) fun d=>?_
 ·have D:K7 g≠0:=A1 d;refine H3 ?_;refine B2 (E3 _ 1 C7) A0 (H3 ?_);exact A9 (rs:=[I4 [],C8 (K7 g)]) cN (by unfold N6;rw[A6 D])
 have D:¬K7 g≠0:=A3 d;have K:=x9 (C75.1 D);refine Z2 ?_;refine B9 (X:=Nat) (fun i=>([(0,B8 Commit 3 F2 g),(1,B8 Int 1 C7 [s]),(23,B8 Int 1 C7 [s]),(24,B6 1),(25,B6 i)],[])) (fun i=>i<=1/\(i=1->p6 g s)) (fun i=>1-i) 0 ⟨C41 _,fun h=>by cases h⟩ (C1) ?_;rintro i ⟨U,hs⟩;dsimp only at U hs ⊢;refine zc 5 (fun d=>?_) fun d=>?_
 ·have G:i=0:=by have D:=A1 d;omega
  subst G;have hv:[s][((0:Nat):Int).toNat]?=some s:=rfl;refine zz 13 ?_;refine E2 (dis_ok g s) ?_;refine zc 2 (fun d=>?_) fun d=>?_
  ·have z:¬p6 g s:=by simpa using d
   refine F5 ?_;refine B2 (E3 _ 1 C7) A0 (H3 ?_);exact A9 (rs:=[I4 [],C8 5]) cN (by unfold N6;rw[A7 D,A7 z])
  ·have z:p6 g s:=by simpa using d
   refine I2 ?_;exact⟨1,⟨C45 _,fun _=>z⟩,by omega,(C1)⟩
 have ah:i=1:=by have D:=A3 d;omega
 have hs:=hs ah;have ab:N6 g s=(nR g [s],0):=by unfold N6;rw[A7 D,A6 hs]
 rw[ab];have ad:∀f∈[s],0<=f/\f<g.length:=fun f hf=>by rw[C42.1 hf];exact hs
 refine O6 ?_;refine fS (MY g [s] h.few K.rel ad dV) A0 A0 A0 A0 ?_;rintro _ _ ⟨q,rfl,rfl,j,O⟩;refine⟨rfl,?_⟩;refine F5 ?_;have T:=nD K.rel [s] ad;obtain⟨y,E⟩:∃y,y=P2 g [s]:=⟨_,rfl⟩
 have aj:y.length=g.length:=by rw[E];exact pN g _
 have W:nR g [s]=rV g y (g.length+1) []:=by rw[E];rfl
 rw[<-E]at O T;rw[W];have am:∀p,p<g.length -> -1<=I0 q p/\I0 q p<=g.length:=fun p v=>by
  rw[O p v];have:=OK g y [] p;split<;>omega
 refine H3 ?_;refine B2 (QD (cs:=[.list Commit 3 F2 g]) A0 A0) A0 (G5 ?_);refine C2 (w9 740 A0 A0 A0) A0 (P1 ?_);refine C3 (C10 741 Int 1 C7 3 (kb:=740) (o:=0) A0 A0 A0) (F5 ?_);refine B2 (xI A0 A0) A0 (H3 ?_);refine B9 (X:=Nat×List Int) (fun x=>([(0,B8 Commit 3 F2 g),(10,.s (.one (.mut 753))),(11,.s (.one (.ref 740 0))),(42,.s (.one (.mut 753))),(43,B6 g.length),(44,B6 x.1)],[(740,mV g),(741,Z5 x.2),(753,DR q)])) (fun x=>x.1<=g.length/\HInv g q x.2 x.1) (fun x=>g.length-x.1) (0,[]) ⟨C41 _,HInv.nil g q⟩ (by rw[<-j];exact (C1)) ?_;rintro⟨i,v⟩ ⟨U,R⟩;dsimp only at U R ⊢;have Z:=R.le;refine zc 5 (fun d=>?_) fun d=>?_
 ·have G:i<g.length:=by have D:=A1 d;(try dsimp only at D);omega
  have J:=tG (l:=q) (p:=(i:Int)) B1;rw[C37]at J;have S:=R.step;have ak:∀x∈v,0<=x/\x<(g.length:Int):=fun x hx=>by have:=R.rng x hx;omega
  refine I3 ?_;refine B2 (M7 A0 A0 J A0) A0 ?_;refine zc 8 (fun d=>?_) fun d=>?_
  ·have z:I0 q i=0:=A1 d;rw[A6 z]at S;skip;refine F5 ?_;refine B2 (mO A0 E4) A0 (F5 ?_);refine O4 (JO g v i hg B1 ak B1 A0 A0) A0 A0 A0 (I2 ?_);exact⟨(i+1,wQ (X7 g) v i),⟨G,S⟩,by dsimp only;omega,(C1)⟩
  ·have z:¬I0 q i=0:=A3 d;rw[A7 z]at S;refine I2 ?_;exact⟨(i+1,v),⟨G,S⟩,by dsimp only;omega,(C1)⟩
 have ai:i=g.length:=by have D:=A3 d;(try dsimp only at D);omega
 rw[ai]at R;have w:=OInv.start j aj O R;refine H3 ?_;refine C2 (L2 14 _ C7 A0) A0 (H3 ?_);refine B9 (X:=List Int×List Int×List Int) (fun x=>([(0,B8 Commit 3 F2 g),(10,.s (.one (.mut 753))),(11,.s (.one (.ref 740 0))),(14,.s (.one (.buf 14 Int 1 C7 x.2.2)))],[(14,.spare x.2.2.length 1 3),(740,mV g),(741,Z5 x.2.1),(753,DR x.1)])) (fun x=>OInv g y x.2.2.length 0 x.1 x.2.1 x.2.2/\rV g y (g.length+1-x.2.2.length) x.2.2=rV g y (g.length+1) []) (fun x=>g.length+1-x.2.2.length) (q,v,[]) ⟨w,rfl⟩ (C1) ?_;rintro⟨q,v,B⟩ ⟨w,F⟩;dsimp only at w F ⊢;obtain⟨an,Z⟩:=w.le;have j:=w.len;refine P1 ?_;refine O4 (DT g v A0 A0) A0 A0 A0 ?_;refine zc 2 (fun d=>?_) fun d=>?_;rotate_left
 ·have z:v=[]:=by
   have z:=A3 d;exact List.length_eq_zero_iff.1 B1
  rw[z]at w;have hb:=w.fin;rw[TT B1]at F;rw[<-F];refine R3 ?_;exact A9 (rs:=[I4 B,C8 0]) cN rfl
 have H:0<v.length:=by have z:=A1 d;omega
 obtain⟨b1,b2,b3⟩:=w.pop H;have hm:I0 v 0∈v:=by rw[S6 H];exact C43 H
 have ap:=w.hpr _ hm;obtain⟨c,hc⟩:∃c:Nat,I0 v 0=(c:Int):=⟨(I0 v 0).toNat,by omega⟩
 rw[KX B1 B1,b1,hc]at F;rw[hc]at b2 b3;have M:c<g.length:=by omega
 obtain⟨C,P⟩:∃C,C=g[c]:=⟨_,rfl⟩
 have ar:g[((c:Nat):Int).toNat]?=some C:=by rw[P];simp[M]
 have I:D8 g c=C.Parents:=by rw[c9 M,P]
 have al:=h.few.pars C (by rw[P];exact C43 M);obtain⟨Q,L⟩:∃Q,Q=(tY (X7 g) v).take (v.length-1):=⟨_,rfl⟩
 refine I2 ?_;refine B2 (mO A0 E4) A0 (O4 (B62 g v hg B1 H w.hpr A0 A0) A0 A0 A0 (B2 (zA A0 A0) A0 (F5 ?_)));rw[b3,<-L];rw[<-L]at b2;refine P1 ?_;refine B2 (B7 (c:=C7) (ys:=[(c:Int)]) (C0 A0 A0 A0 A0 D2) A0 A0 A0) A0 (zz 14 ?_);refine B9 (X:=Nat×List Int×List Int) (fun x=>([(0,B8 Commit 3 F2 g),(10,.s (.one (.mut 753))),(11,.s (.one (.ref 740 0))),(14,.s (.one (.buf 14 Int 1 C7 (B++[(c:Int)])))),(72,B8 Int 1 C7 C.Parents),(73,B6 C.Parents.length),(74,B6 x.1)],[(14,.spare (B++[(c:Int)]).length 1 3),(740,mV g),(741,Z5 x.2.2),(753,DR x.2.1)])) (fun x=>x.1<=C.Parents.length/\OInv g y B.length x.1 x.2.1 x.2.2 (B++[(c:Int)])) (fun x=>C.Parents.length-x.1) (0,q,Q) ⟨C41 _,b2⟩ (C1) ?_;rintro⟨i,q,v⟩ ⟨U,w⟩;dsimp only at U w ⊢;obtain⟨V,Z⟩:=w.le;have j:=w.len;have aq:=OInv.ub w;have af:(B++[(c:Int)])[B.length]?=some (c:Int):=by rw[C76 (C45 _),D18];rfl
 rw[C40,C51]at V;refine zc 5 (fun d=>?_) fun d=>?_;rotate_left
 ·have z:i=C.Parents.length:=by have D:=A3 d;(try dsimp only at D);omega
  rw[z,<-I]at w;have S:=w.next dV af;refine G5 ?_;refine⟨(q,v,B++[(c:Int)]),⟨S,?_⟩,by dsimp only;rw[C40,C51];omega,(C1)⟩;dsimp only;rw[<-F,C40,C51]
  congr 1<;>omega
 have A:i<C.Parents.length:=by have D:=A1 d;(try dsimp only at D);omega
 have ao:=(K6 K.rel c).1 C.Parents[i] (by rw[I];exact C43 A);obtain⟨p,Y⟩:∃p:Nat,C.Parents[i]=(p:Int):=⟨C.Parents[i].toNat,by omega⟩
 have au:C.Parents[i]?=some (p:Int):=by rw[C36 A,Y]
 obtain⟨s1,s2,s3,s4,s5⟩:=w.step K.rel T dV af (i:=i) (p:=p) (by rw[I];exact A) (by simp only[I];exact Y);have J:=tG (l:=q) (p:=(p:Int)) B1;have ae:(m9 q p)[((p:Nat):Int).toNat]?=some (I0 q p-1):=by
  unfold m9;rw[C37,D13 B1]
 have ag:(m9 q p).length=g.length:=by unfold m9;rw[C78,j]
 have ac:q.set ((p:Nat):Int).toNat (I0 q ((p:Nat):Int).toNat-1)=m9 q p:=rfl;refine zz 13 ?_;refine B2 (D9 A0 A0 A0 B1 (by (rw[j];omega))) A0 ?_;refine B2 (M7 A0 A0 J A0) A0 (B2 (aM A0 A0 (by (rw[C37];omega))) A0 ?_);refine B2 (D9 A0 A0 A0 B1 (by (rw[j];omega))) A0 ?_;refine U0 (G3 TySz.out A0 A0 (by (rw[j];omega)) A0 A0) ?_;refine G5 ?_;rw[ac];refine P1 ?_;refine B2 (D9 A0 A0 A0 B1 (by (rw[ag];omega))) A0 ?_;refine B2 (M7 A0 A0 ae A0) A0 ?_;refine zc 2 (fun d=>?_) fun d=>?_
 ·have z:I0 q p-1=0:=A1 d;rw[A6 z]at s5;skip;refine F5 ?_;refine B2 (mO A0 E4) A0 (F5 ?_);refine O4 (JO g v p hg B1 w.hpr B1 A0 A0) A0 A0 A0 (I2 ?_);exact⟨(i+1,m9 q p,wQ (X7 g) v p),⟨A,s5⟩,by dsimp only;omega,(C1)⟩
 ·have z:¬I0 q p-1=0:=A3 d;rw[A7 z]at s5;refine I2 ?_;exact⟨(i+1,m9 q p,v),⟨A,s5⟩,by dsimp only;omega,(C1)⟩
abbrev isS(l:List Int):S1:=.one (.p (.list Int 1 C7 l))
theorem B63(f:Str×Str->Bool)(g:Graph)(c:Nat):(L9 g c).flatten.any f=R0 f g c:=by
 unfold R0;rw[List.any_flatten]
theorem zM(g:Graph)(s:Int)(f:FuncId)(α:Type)(H:Nat)(G:α->Nat->Cell)(v:α)(j:Str×Str->Bool)(h:FewT g)(P:Short g)
  (Z:Valid g->∀c:Nat,c<g.length->∀x∈(L9 g c).flatten,AL.Met prog f [RH x,.one (.eref α H G v 0)] [] [] [] (fun rs ob'=>rs=[oA (j x)]/\ob'=[])) :
  AL.Met prog 22 [.one (.p (.list Commit 3 F2 g)),P7 s,.one (.fncE f α H G v)] [] [] [] (fun rs ob'=>rs=[isS (Q7 j g s).1,P7 (Q7 j g s).2]/\ob'=[]):=by
 refine AL.Met.intro Tryz.func22 F1 A0 A0 A0 (Z2 ?_);refine B2 (B7 (c:=C7) (ys:=[s]) (C0 A0 A0 A0 A0 D2) A0 A0 A0) A0 (E2 (A77 g s h) ?_);refine zc 12 (fun q=>?_) fun q=>?_
 ·have B:(N6 g s).2≠0:=A1 q;refine H3 ?_;refine B2 (E3 _ 1 C7) A0 (H3 ?_);exact D1 (RetOk.s2 cN) iV (ObIn.spec (ob':=[]) trivial) ⟨by unfold Q7;rw[A6 B],rfl⟩
 have B:¬(N6 g s).2≠0:=A3 q;obtain⟨Q,A,D⟩:Valid g/\(∀x∈(N6 g s).1,0<=x/\x<(g.length:Int))/\(N6 g s).1.Nodup:=by
  unfold N6 at B ⊢;split at B
  ·rename_i I;exact absurd I B
  ·rename_i I;rw[A7 I];have:=x9 (C75.1 I);split
   ·exact⟨this,(bX g [s]).2,(bX g [s]).1⟩
   ·exact⟨this,(fun _ h=>by cases h),List.nodup_nil⟩
 have z:Q7 j g s=((N6 g s).1.filter fun c=>R0 j g c.toNat,0):=by unfold Q7;rw[A7 B]
 rw[z];obtain⟨O,U⟩:∃O,O=(N6 g s).1:=⟨_,rfl⟩
 rw[<-U]at A D ⊢;have V:=p5 D A;have hg:=h.few.len;refine H3 ?_;refine C2 (L2 10 _ C7 A0) A0 (Z2 ?_);refine B9 (X:=Nat) (fun k=>([(0,B8 Commit 3 F2 g),(2,.s (.one (.fncE f α H G v))),(10,.s (.one (.buf 10 Int 1 C7 ((O.take k).filter fun c=>R0 j g c.toNat)))),(23,B8 Int 1 C7 O),(24,B6 O.length),(25,B6 k)],[(10,.spare ((O.take k).filter fun c=>R0 j g c.toNat).length 1 3)])) (fun k=>k<=O.length) (fun k=>O.length-k) 0 (C41 _) (C1) ?_;intro k hk;dsimp only at hk ⊢;have C:=List.length_filter_le (fun c:Int=>R0 j g c.toNat) (O.take k);rw[C59]at C;refine zc 5 (fun q=>?_) fun q=>?_;rotate_left
 ·have M:k=O.length:=by have J:=A3 q;(try dsimp only at J);omega
  rw[M,C48];refine R3 ?_;exact D1 (RetOk.s2 cN) iV (ObIn.spec (ob':=[]) trivial) ⟨rfl,rfl⟩
 have y:k<O.length:=by have J:=A1 q;(try dsimp only at J);omega
 have Y:=A _ (C43 y);obtain⟨c,W⟩:∃c:Nat,O[k]=(c:Int):=⟨O[k].toNat,by omega⟩
 have R:O[k]?=some (c:Int):=by rw[C36 y,W]
 have m:(O.take (k+1)).filter (fun c=>R0 j g c.toNat)=((O.take k).filter fun c=>R0 j g c.toNat)++(if R0 j g c=true then [(c:Int)] else []):=by
  rw[C52,R,C53,D20]
  congr 1
  rw[D17,C37];rfl
 obtain⟨F,T⟩:∃F,F=(O.take k).filter fun c=>R0 j g c.toNat:=⟨_,rfl⟩
 rw[<-T]at C m ⊢;have S:=qN h Q c;have w:=mS S (L9 g c).length;unfold cQ at w;rw[C48]at w;have L:=Z Q c B1;have K:=B63 j g c;refine zz 13 ?_;refine E2 (JL g c h Q P B1) (E2 (HV (L9 g c) S) (G5 ?_));refine fS (xS f α H G v j (L9 g c).flatten B1 L) A0 A0 A0 A0 ?_;rintro _ _ ⟨rfl,rfl⟩;refine⟨rfl,?_⟩;refine G5 ?_;rw[K];refine zc 0 (fun q=>?_) fun q=>?_
 ·rw[A6 q]at m;skip;refine H3 ?_;refine B2 (B7 (c:=C7) (ys:=[(c:Int)]) (C0 A0 A0 A0 A0 D2) A0 A0 A0) A0 (I3 ?_);refine⟨k+1,by omega,by omega,?_⟩;rw[m];exact (C1)
 ·rw[q,A7 F1,C77]at m;refine I2 ?_;refine⟨k+1,by omega,by omega,?_⟩;rw[m];exact (C1)
theorem RM(g:Graph)(s:Int)(a:Str)(h:FewT g)(f:Short g)(m:a.length<=1073741824):FnOk prog 28 [I9 g,C8 s,F6 a] (fun rs=>rs=[I4 (dN g s a).1,C8 (dN g s a).2]):=by
 refine FnOk.intro Tryz.func28 F1 A0 A0 A0 A0 (F5 ?_);refine B2 (n_boxE A0 A0) A0 (B2 (E3 _ 1 C7) A0 ?_);refine zc 10 (fun b=>?_) fun b=>?_
 ·have e:a=[]:=A1 b;refine F5 ?_;refine B2 (E3 _ 1 C7) A0 (H3 ?_);exact A9 (rs:=[I4 [],C8 2]) cN (by unfold dN;rw[A6 e])
 have e:¬a=[]:=A3 b;refine zc 7 (fun b=>?_) fun b=>?_
 ·have j:(256:Int)<a.length:=A1 b;refine F5 ?_;refine B2 (E3 _ 1 C7) A0 (H3 ?_);exact A9 (rs:=[I4 [],C8 1]) cN (by unfold dN;rw[A7 e,A6 B1])
 have j:¬(256:Int)<a.length:=A3 b;have d:dN g s a=Q7 (differs a) g s:=by unfold dN;rw[A7 e,A7 B1]
 rw[d];refine I2 ?_;refine B2 (zB A0) A0 ?_
 refine fS (zM g s 55 Unit 1 (cE a) () (differs a) h f (fun n c p x o=>by
  obtain⟨l,k,i⟩:=List.mem_flatten.1 o;have hb:=(qN h n c).strs l k x i
  exact B55 a x m hb.1 hb.2)) rfl rfl rfl rfl ?_
 rintro _ _ ⟨rfl,rfl⟩;refine⟨rfl,?_⟩;refine I2 ?_;refine G5 ?_;exact A9 (rs:=[I4 (Q7 (differs a) g s).1,C8 (Q7 (differs a) g s).2]) cN rfl
theorem WO(g:Graph)(c:Int)(nd:Str)(h:FewT g)(K:Short g)(W:nd.length<=1073741824):FnOk prog 29 [I9 g,C8 c,F6 nd] (fun rs=>rs=[I4 (dO g c nd).1,C8 (dO g c nd).2]):=by
 refine FnOk.intro Tryz.func29 F1 A0 A0 A0 A0 (O6 ?_);refine r8 (A73 g c h K) A0 A0 A0 ?_;rintro _ ⟨_,rfl⟩;refine J0 ?_;refine zc 5 (fun v=>?_) fun v=>?_
 ·have d:bO g c≠0:=A1 v;refine H3 ?_;refine B2 (E3 _ 1 C7) A0 (H3 ?_);exact A9 (rs:=[I4 [],C8 (bO g c)]) cN (by unfold dO;rw[A6 d])
 have d:¬bO g c≠0:=A3 v;obtain⟨Z,ac,G⟩:=zH (C75.1 d);obtain⟨k,rfl⟩:∃k:Nat,c=(k:Int):=⟨c.toNat,by omega⟩
 have J:dO g (k:Int) nd=((L9 g k).map (y6 nd),0):=by unfold dO;rw[A7 d,C37]
 rw[J];have F:=qN h Z k;refine H3 ?_;refine C2 (L2 10 _ C7 A0) A0 (J0 ?_);refine E2 (JL g k h Z K B1) (H3 ?_);obtain⟨B,M⟩:∃B,B=L9 g k:=⟨_,rfl⟩
 rw[<-M]at F ⊢;have ab:=F.len;refine G5 ?_;refine B9 (X:=Nat) (fun p=>([(2,P6 nd),(10,.s (.one (.buf 10 Int 1 C7 ((B.take p).map (y6 nd))))),(27,B8 (List (Str×Str)) 1 aH B),(28,B6 B.length),(29,B6 p)],[(10,.spare ((B.take p).map (y6 nd)).length 1 3)])) (fun p=>p<=B.length) (fun p=>B.length-p) 0 (C41 _) (C1) ?_;intro p hp;dsimp only at hp ⊢;have Q:((B.take p).map (y6 nd)).length<=33:=by rw[C74,C59];omega
 refine zc 5 (fun v=>?_) fun v=>?_;rotate_left
 ·have R:p=B.length:=by have d:=A3 v;(try dsimp only at d);omega
  rw[R,C48];refine R3 ?_;exact A9 (rs:=[I4 (B.map (y6 nd)),C8 0]) cN rfl
 have q:p<B.length:=by have d:=A1 v;(try dsimp only at d);omega
 have T:=RG (nd:=nd) q;obtain⟨l,P⟩:∃l,l=B[p]:=⟨_,rfl⟩
 have ae:B[p]?=some l:=by rw[P];simp[q]
 have z:l∈B:=by rw[P];exact C43 q
 have ad:=F.lens l z;rw[<-P]at T;obtain⟨S,hS⟩:∃S,S=(B.take p).map (y6 nd):=⟨_,rfl⟩
 rw[<-hS]at T Q ⊢;refine zz 21 ?_;refine B9 (X:=Nat) (fun i=>([(2,P6 nd),(10,.s (.one (.buf 10 Int 1 C7 S))),(13,B6 (y6 nd (l.take i))),(27,B8 (List (Str×Str)) 1 aH B),(28,B6 B.length),(29,B6 p),(33,B8 (Str×Str) 2 dD l),(34,B6 l.length),(35,B6 i)],[(10,.spare S.length 1 3)])) (fun i=>i<=l.length) (fun i=>l.length-i) 0 (C41 _) (C1) ?_;intro i hi;dsimp only at hi ⊢;refine zc 5 (fun v=>?_) fun v=>?_
 ·have j:i<l.length:=by have d:=A1 v;(try dsimp only at d);omega
  have C:=B54 (nd:=nd) j;obtain⟨x,U⟩:∃x,x=l[i]:=⟨_,rfl⟩
  have af:l[i]?=some x:=by rw[U];simp[j]
  have w:=F.strs l z x (by rw[U];exact C43 j);rw[<-U]at C;have L:=DK (nd:=nd) (l:=l.take i) fun y hy=>F.strs l z y (C97 hy);rw[C59]at L;have G:=vJ nd x.1 w.1;have N:=vJ nd x.2 w.2;obtain⟨s0,A⟩:∃s0,s0=y6 nd (l.take i):=⟨_,rfl⟩
  obtain⟨u1,D⟩:∃u1,u1=u9 nd x.1:=⟨_,rfl⟩
  obtain⟨u2,E⟩:∃u2,u2=u9 nd x.2:=⟨_,rfl⟩
  have V:min i l.length<=400:=by omega
  have Y:-6710887200<=s0/\s0<=6710887200:=by rw[A];omega
  rw[<-D]at G;rw[<-E]at N;rw[<-A,<-D,<-E]at C;rw[<-A];clear L;have H:=qM nd x.1 W w.1;have I:=qM nd x.2 W w.2;rw[<-D]at H;rw[<-E]at I;refine I3 ?_;refine C2 (H9 15 A0) A0 (I3 ?_);refine D6 (I5 (I) A0 A0) A0 A0 (H3 ?_);refine D6 (I5 (H) A0 A0) A0 A0 (D6 (aM A0 A0 B1) A0 A0 (I3 ?_));refine⟨i+1,by omega,by omega,?_⟩;rw[C];exact (C1)
 ·have O:i=l.length:=by have d:=A3 v;(try dsimp only at d);omega
  rw[O,C48];refine P1 ?_;refine B2 (B7 (c:=C7) (ys:=[y6 nd l]) (C0 A0 A0 A0 A0 D2) A0 A0 A0) A0 (I3 ?_);refine⟨p+1,by omega,by omega,?_⟩;rw[T];exact (C1)
theorem WP(a b:List Str)(ha:a.length<=4096)(hb:b.length<=4096):FnOk prog 59 [cG a,cG b] (fun d=>d=[pChanges (tV (L0 (E0 [a,b]) a) (L0 (E0 [a,b]) b))]):=by
 have f:(L0 (E0 [a,b]) a).length=a.length:=by simp[L0]
 have i:(L0 (E0 [a,b]) b).length=b.length:=by simp[L0]
 refine FnOk.intro Tryz.func59 F1 A0 A0 A0 A0 (R3 ?_);refine B2 (B7 (c:=strsC) (ys:=[a,b]) (C0 A0 A0 A0 A0 (C0 A0 A0 A0 A0 D2)) A0 A0 A0) A0 (E2 (ids_ok [a,b] b7y dV) (zz 5 ?_));refine D6 (C5 rfl (.pure _ _ _ _) rfl (by omega) rfl) rfl rfl (zz 2 ?_);refine D6 (C5 rfl (.pure _ _ _ _) rfl (by omega) rfl) rfl rfl (zz 1 ?_);refine D6 (I5 (walk_ok _ _ B1 B1) A0 A0) A0 A0 (H3 ?_);exact A9 M1 rfl
theorem check12_good{p:Patch}(b:¬wI p≠0):yM p.Hunks=true:=by
 by_cases a:yM p.Hunks=true
 ·exact a
 ·exfalso;apply b;unfold wI;split
  ·decide
  ·rw[A6 (by simpa using a)];decide
theorem DV(n:Int):FnOk prog 125 [C8 n] (fun a=>a=[E1 (decide (R1 n))]):=by
 refine FnOk.intro Tryz.func125 F1 A0 A0 A0 A0 (zz 15 ?_);refine A9 M1 ?_;simp only[and_pick];rfl
theorem A78{gf:Fr}{ob:Obs}(p:List Span):AL.Met prog 173 [.one (.p (.list Span 2 spanC p))] gf ob [] (fun b ob'=>b=[.one (.full Span 2 spanC p)]/\ob'=ob):=by
 refine AL.Met.intro Tryz.func173 F1 A0 A0 A0 (V7 ?_);refine B2 (VA A0 (.pure _ _ _ _) A0 A0 B1 B1 (by first | rfl | omega)) A0 ?_;refine F5 ?_;rw[show p.take (p.length:Int).toNat=p by simp];refine G5 ?_;exact D1 V9 iV (fun _ _ h=>h) ⟨rfl,rfl⟩
def jI(i j:Int):List Span->List Change
 | []=>[]
 | x::r=>(if x.From>i\/x.To>j then [⟨i,x.From-i,j,x.To-j⟩] else [])++jI (x.From+1) (x.To+1) r
theorem zN(m n:Int):∀(p:List Span) (i j:Int),jI i j (p++[⟨m,n⟩])=bN i j p m n
 | [],i,j=>by simp[jI,bN]
 | x::r,i,j=>by
  rw[C92,jI,bN,zN m n r]
theorem HX(p:List Span)(m n:Int)(S:p.length<=536870912)(H:-1099511627776<=m/\m<=1099511627776)(I:-1099511627776<=n/\n<=1099511627776)(hb:∀s∈p,-1099511627776<=s.From/\s.From<=1099511627776 /\ -1099511627776<=s.To/\s.To<=1099511627776) :
  FnOk prog 126 [pSpans p,C8 m,C8 n] (fun R=>R=[pChanges (nF p m n)]):=by
 refine FnOk.intro Tryz.func126 F1 A0 A0 A0 A0 (J0 ?_);refine C2 (L2 7 _ changeC A0) A0 (O6 ?_);refine O4 (A78 p) A0 A0 A0 (H3 ?_);refine B2 (B7 (c:=spanC) (ys:=[⟨m,n⟩]) (C0 A0 A0 A0 A0 D2) A0 A0 A0) A0 (C2 (HJ 18 A0 A0 (.pure _ _ _ _) b7y dV A0) A0 (H3 ?_));obtain⟨q,A⟩:∃q,q=p++[(⟨m,n⟩:Span)]:=⟨_,rfl⟩
 have Q:q.length=p.length+1:=by rw[A];simp
 have F:∀s∈q,-1099511627776<=s.From/\s.From<=1099511627776 /\ -1099511627776<=s.To/\s.To<=1099511627776:=by
  intro s K;rw[A]at K;rcases C49.1 K with h | h
  ·exact hb s h
  ·simp at h;subst h;exact⟨H.1,H.2,I.1,I.2⟩
 have z:nF p m n=jI 0 0 q:=by rw[A,zN];rfl
 rw[<-A];refine G5 ?_;refine B9 (X:=Nat×Int×Int×List Change) (fun x=>([(7,.s (.one (.buf 7 Change 4 changeC x.2.2.2))),(8,B6 x.2.1),(9,B6 x.2.2.1),(18,.s (.one (.buf 18 Span 2 spanC q))),(19,B6 q.length),(20,B6 x.1)],[(7,.spare x.2.2.2.length 4 72)])) (fun x=>x.1<=q.length/\x.2.2.2++jI x.2.1 x.2.2.1 (q.drop x.1)=nF p m n/\(-1099511627777<=x.2.1/\x.2.1<=1099511627777)/\(-1099511627777<=x.2.2.1/\x.2.2.1<=1099511627777)/\x.2.2.2.length<=x.1) (fun x=>q.length-x.1) (0,0,0,[]) ⟨C41 _,z.symm,by decide,by decide,C45 _⟩ (C1) ?_;rintro⟨k,i,j,G⟩ ⟨P,w,N,O,E⟩;dsimp only at P w N O E ⊢;refine zc 5 (fun l=>?_) fun l=>?_
 ·have y:k<q.length:=by have:=A1 l;omega
  have L:q[k]?=some q[k]:=by simp[y]
  have C:=F _ (C43 y);obtain⟨c,M⟩:∃c,c=q[k]:=⟨_,rfl⟩
  rw[C57 y,jI]at w;rw[<-M]at L w C;refine I2 ?_;refine B2 (C5 A0 (.buf _ _ _ _ _) A0 B1 L) A0 (G5 ?_);refine C2 (H9 11 A0) A0 (F5 ?_);obtain⟨g,d⟩:∃g,g=G++(if c.From>i\/c.To>j then [⟨i,c.From-i,j,c.To-j⟩] else []):=⟨_,rfl⟩
  have J:g.length<=k+1:=by rw[d,C40];split<;>simp<;>omega
  rw[<-C65,<-d]at w;refine oM [(7,.s (.one (.buf 7 Change 4 changeC g))),(8,B6 i),(9,B6 j),(11,.s (.one (.ref 11 0))),(18,.s (.one (.buf 18 Span 2 spanC q))),(19,B6 q.length),(20,B6 k)] [(7,.spare g.length 4 72),(11,.box [.p (.v (.int .i64 c.From)),.p (.v (.int .i64 c.To))])] ?_ ?_
  ·refine zc 13 (fun l=>?_) fun l=>?_
   ·simp only[or_pick]at l;have B:=A1 l;rw[A6 B]at d;skip;refine zz 13 ?_;refine B2 (B7 (c:=changeC) (ys:=[⟨i,c.From-i,j,c.To-j⟩]) (C0 A0 A0 A0 A0 D2) A0 A0 A0) A0 (H3 ?_);rw[d];exact C1
   ·simp only[or_pick]at l;have B:=A3 l;rw[A7 B,C77]at d;refine G5 ?_;rw[d];exact C1
  ·skip;refine zz 14 ?_;exact⟨(k+1,c.From+1,c.To+1,g),⟨by dsimp only;omega,w,⟨by dsimp only;omega,by dsimp only;omega⟩,⟨by dsimp only;omega,by dsimp only;omega⟩,by dsimp only;omega⟩,by dsimp only;omega,C1⟩
 ·have D:k=q.length:=by have:=A3 l;omega
  rw[D,C64 (C45 _),jI,C77]at w;refine I3 ?_;exact A9 M1 (by rw[<-w])
theorem RN{m n:Int}:∀{p:List Span} {i j:Int},Asc m n i j p->∀k (h:k<p.length),(k=0->i<=p[k].From/\j<=p[k].To)/\(∀a:0<k,p[k-1].From<p[k].From/\p[k-1].To<p[k].To)/\p[k].From<m/\p[k].To<n
 | [],_,_,_,k,h=>by simp at h
 | x::r,i,j,ha,k,h=>by
  obtain⟨f,g,b⟩:=ha;cases k with
  | zero=>have:=b.le;exact⟨fun _=>⟨f,g⟩,fun a=>absurd a B1,by show x.From<m;omega,by show x.To<n;omega⟩
  | succ k =>
   obtain⟨g1,c,d,e⟩:=RN b k (by simpa using h);refine⟨fun a=>absurd a B1,fun _=>?_,by simpa using d,by simpa using e⟩;cases k with
   | zero =>
    obtain⟨q1,q⟩:=g1 rfl;have l:0<r.length:=by simpa using h
    show x.From<r[0].From/\x.To<r[0].To;omega
   | succ k=>simpa using c B1
theorem HY(p:List Span)(m n:Int)(O:R1 m)(P:R1 n)(ha:Asc m n 0 0 p)(Q:p.length<=536870912) :
  FnOk prog 84 [pSpans p,C8 m,C8 n] (fun V=>V=[pChanges (nF p m n),C8 0]):=by
 obtain⟨A,B⟩:=O;obtain⟨C,D⟩:=P;have E:=RN ha;have hb:∀s∈p,0<=s.From/\s.From<=4096/\0<=s.To/\s.To<=4096:=by
  have key:∀(p:List Span) (i j:Int),Asc m n i j p->0<=i->0<=j->∀s∈p,0<=s.From/\s.From<=4096/\0<=s.To/\s.To<=4096:=by
   intro p;induction p with
   | nil=>intro _ _ _ _ _ s w;simp at w
   | cons x r U =>
    rintro i j ⟨W,Y,G⟩ Z h5 s w;have:=G.le;rcases C50.1 w with rfl | w
    ·omega
    ·exact U _ _ G B1 B1 s w
  exact key p 0 0 ha B1 B1
 refine FnOk.intro Tryz.func84 F1 A0 A0 A0 A0 (Z2 ?_);refine E2 (DV m) (H3 ?_);refine D7 A0 A0 A0 A0 (fun H=>by have R:=H;(try simp at R);rw[H];exact I5 (DV n) A0 A0) ?_;refine zc 3 (fun q=>?_) fun q=>?_
 ·exfalso;simp only[<-decide_not,or_pick]at q;have h:¬R1 m\/¬R1 n:=A1 q;rcases h with h | h
  ·exact h ⟨A,B⟩
  ·exact h ⟨C,D⟩
 refine aN [(0,B8 Span 2 spanC p),(1,B6 m),(2,B6 n)] [] (C1) (P1 ?_);refine C2 (H9 8 A0) A0 (O6 ?_);obtain⟨a,d⟩:∃a:Nat->Span,a=fun k=>if k=0 then ⟨-1,-1⟩ else p.getD (k-1) ⟨0,0⟩:=⟨_,rfl⟩
 refine B9 (X:=Nat) (fun k=>([(0,B8 Span 2 spanC p),(1,B6 m),(2,B6 n),(8,.s (.one (.ref 8 0))),(20,B8 Span 2 spanC p),(21,B6 p.length),(22,B6 k)],[(8,.box [.p (.v (.int .i64 (a k).From)),.p (.v (.int .i64 (a k).To))])])) (fun k=>k<=p.length) (fun k=>p.length-k) 0 (C41 _) ?_ ?_
 ·rw[show a 0=⟨-1,-1⟩ by rw[d];rfl];exact C1
 intro k N;dsimp only at N ⊢;refine zc 5 (fun q=>?_) fun q=>?_
 ·have u:k<p.length:=by have:=A1 q;omega
  have S:p[k]?=some p[k]:=by simp[u]
  obtain⟨g1,J,K,L⟩:=E k u;have l:a (k+1)=p[k]:=by rw[d];simp[u]
  have g:(a k).From<p[k].From/\(a k).To<p[k].To:=by
   rw[d];by_cases y:k=0
   ·have:=g1 y;simp only[y,if_true]at this ⊢;omega
   ·have:=J B1;simp only[y,if_false];have e:p.getD (k-1) ⟨0,0⟩=p[k-1]:=by simp[show k-1<p.length by omega]
    rw[e];exact this
  obtain⟨c,M⟩:∃c,c=p[k]:=⟨_,rfl⟩
  rw[<-M]at S K L l g;obtain⟨I,z⟩:∃I,I=a k:=⟨_,rfl⟩
  rw[<-z]at g ⊢;refine I3 ?_;refine C2 (H9 10 A0) A0 ?_;refine zc 30 (fun q=>?_) fun q=>?_
  ·exfalso;simp only[or_pick]at q;have:=A1 q;omega
  ·refine Z2 ?_;refine⟨k+1,by omega,by omega,?_⟩;rw[l];exact C1
 ·refine J0 ?_;refine r8 (HX p m n Q B1 B1 (fun s w=>by have:=hb s w;omega)) A0 A0 A0 ?_;rintro _ rfl;refine P1 ?_;exact A9 cN rfl
theorem vO{l:List Int}{i:Nat}(h:i<l.length):l[i]?=some (l.getD i 0):=by simp[h]
theorem RO(a b:List Int):FnOk prog 83 [I4 a,I4 b] (fun c=>c=[E1 (decide ((a.length:Int)<=4096/\(b.length:Int)<=4096))]):=by
 refine FnOk.intro Tryz.func83 F1 A0 A0 A0 A0 (zz 17 ?_);exact A9 M1 (by simp only[and_pick])
theorem HZ(a b:List Int)(ha:a.length<=1073741824):FnOk prog 127 [I4 a,I4 b] (fun s=>s=[C8 (n5 a b)]):=by
 refine FnOk.intro Tryz.func127 F1 A0 A0 A0 A0 (O6 ?_);refine B9 (X:=Nat) (fun k=>([(0,B8 Int 1 C7 a),(1,B8 Int 1 C7 b),(5,B6 k)],[])) (fun k=>k<=a.length/\k<=b.length/\n5 a b=k+n5 (a.drop k) (b.drop k)) (fun k=>a.length-k) 0 ⟨C41 _,C41 _,by simp⟩ (C1) ?_;rintro k ⟨q,l,i⟩;dsimp only at q l i ⊢;refine zz 16 ?_;refine F9 A0 A0 (fun f=>by have m:=f;(try simp at m);rw[f];exact C5 A0 (.pure _ _ _ _) A0 B1 (vO B1)) A0 A0 ?_;refine H3 ?_;refine F9 A0 A0 (fun f=>by have m:=f;(try simp at m);rw[f];exact C5 A0 (.pure _ _ _ _) A0 B1 (vO B1)) A0 A0 ?_;refine zc 4 (fun g=>?_) fun g=>?_
 ·simp only[and_pick]at g;obtain⟨⟨c,d⟩,j⟩:=A1 g;have c:k<a.length:=by omega
  have d:k<b.length:=by omega
  rw[FO a b k c d,A6 (by simpa[c,d] using j)]at i;refine I3 ?_;exact⟨k+1,⟨by omega,by omega,by omega⟩,by omega,C1⟩
 ·simp only[and_pick]at g;have h:=A3 g;have o:n5 (a.drop k) (b.drop k)=0:=by
   by_cases n:k<a.length/\k<b.length
   ·obtain⟨c,d⟩:=n;rw[FO a b k c d,A7];intro j;exact h ⟨⟨by omega,by omega⟩,by simpa[c,d] using j⟩
   ·exact B12 a b k n
  rw[o]at i;refine I3 ?_;exact A9 M1 (by rw[i];rfl)
theorem IA(a b:List Int)(ha:a.length<=4096)(hb:b.length<=4096):FnOk prog 128 [I4 a,I4 b] (fun rs=>rs=[pU16s (flat a b (fun _ _=>true))]):=by
 obtain⟨W,F⟩:∃W,W=b.length+1:=⟨_,rfl⟩
 have A:∀i:Nat,i<=a.length+1->0<=(i:Int)*(W:Int)/\(i:Int)*(W:Int)<=16789506:=by
  intro i R;have S:i*W<=4098*4097:=Nat.mul_le_mul B1 B1;have T:((i*W:Nat):Int)=(i:Int)*W:=by push_cast;rfl
  omega
 have d:∀i:Nat,(i:Int)*(W:Int)=((i*W:Nat):Int):=fun i=>by push_cast;rfl
 have G:∀done,(flat a b done).length=(a.length+1)*W:=fun done=>by rw[AD,F]
 have D:∀i j,dist (a.drop i) (b.drop j)<=8192:=fun i j=>by
  have:=rB (a.drop i) (b.drop j);simp only[C61]at this;omega
 have ab:∀i j:Nat,i<=a.length->j<=b.length->i*W+j<(a.length+1)*W:=fun i j R z=>by rw[F];exact (BM R z).1
 refine FnOk.intro Tryz.func128 F1 A0 A0 A0 A0 (V7 ?_);refine aN [(0,B8 Int 1 C7 a),(1,B8 Int 1 C7 b),(5,B6 W)] [] (Sees.of ⟨⟨_,rfl,.same _⟩,⟨_,rfl,.same _⟩,⟨_,rfl,.eq (by rw[F];simp)⟩,trivial⟩ trivial) ?_;have ao:=A (a.length+1) (C45 _);have O:((a.length:Int)+1)=((a.length+1:Nat):Int):=by omega
 refine J0 ?_;refine B2 (rW A0 A0 (by (rw[O];omega))) A0 ?_;refine C2 (a8 20 Int tX 0 A0 A0 (by (rw[O];omega)) (by (rw[O];omega)) (fun _=>PE) A0) A0 ?_;refine F5 ?_;refine aN [(0,B8 Int 1 C7 a),(1,B8 Int 1 C7 b),(5,B6 W),(6,.s (.one (.mut 20)))] [(20,.arr Int 1 tX (flat a b (fun _ _=>false)))] ?_ ?_
 ·refine Sees.of ⟨⟨_,rfl,.same _⟩,⟨_,rfl,.same _⟩,⟨_,rfl,.same _⟩,⟨_,rfl,.same _⟩,trivial⟩ ⟨?_,trivial⟩;rw[<-B11,O,d,C37,F];rfl
 refine R3 ?_;refine B9 (X:=Nat) (fun j=>([(0,B8 Int 1 C7 a),(1,B8 Int 1 C7 b),(5,B6 W),(6,.s (.one (.mut 20))),(22,B6 b.length),(23,B6 j)],[(20,.arr Int 1 tX (flat a b (fun r q=>decide (r=a.length/\q<j))))])) (fun j=>j<=b.length) (fun j=>b.length-j) 0 (C41 _) ?_ ?_
 ·rw[show flat a b (fun r q=>decide (r=a.length/\q<0))=flat a b (fun _ _=>false) from nP fun r q _ _=>.inl dV];exact C1
 intro j z;dsimp only at z ⊢;refine zc 5 (fun p=>?_) fun p=>?_
 ·have an:j<b.length:=by have:=A1 p;omega
  have ap:=A a.length B1;have am:=ab a.length j (C45 _) B1;have U:=d a.length;have y:=G (fun r q=>decide (r=a.length/\q<j));have B:(flat a b (fun r q=>decide (r=a.length/\q<j))).set (((a.length:Int)*(W:Int)+(j:Int)).toNat) (IntKind.u16.wrap ((b.length:Int)-j))=flat a b (fun r q=>decide (r=a.length/\q<j+1)):=by
   rw[show ((a.length:Int)*(W:Int)+(j:Int)).toNat=a.length*(b.length+1)+j by rw[U,F];omega,YP _ B1];refine TM (C45 _) B1 ?_ dV (fun r q hr hq L=>?_)
   ·rw[C64 (C45 a.length),dist,C61];omega
   ·rw[decide_eq_decide];omega
  refine zz 21 ?_;refine B2 (D9 A0 A0 A0 B1 (by (rw[y];omega))) A0 ?_;refine U0 (G3 TySz.out A0 A0 (by (rw[y];omega)) A0 A0) ?_;refine I2 ?_;refine⟨j+1,by omega,by omega,?_⟩;rw[<-B];exact C1
 ·have ac:j=b.length:=by have:=A3 p;omega
  subst ac
  rw[show flat a b (fun r q=>decide (r=a.length/\q<b.length))=flat a b (fun r _=>decide (a.length<=r)) from nP fun r q hr hq=>by
   by_cases h:r=a.length/\q=b.length
   ·right;rw[h.1,h.2,C64 (C45 _),C64 (C45 _)];exact iG []
   ·left;rw[decide_eq_decide];omega]
  refine O6 ?_;refine B9 (X:=Nat) (fun i=>([(0,B8 Int 1 C7 a),(1,B8 Int 1 C7 b),(5,B6 W),(6,.s (.one (.mut 20))),(8,B6 ((i:Int)-1))],[(20,.arr Int 1 tX (flat a b (fun r _=>decide (i<=r))))])) (fun i=>i<=a.length) (fun i=>i) a.length (C45 _) (C1) ?_;intro i R;dsimp only at R ⊢;refine zc 6 (fun p=>?_) fun p=>?_
  ·obtain⟨i,rfl⟩:∃r,i=r+1:=⟨i-1,by have:=A1 p;omega⟩
   refine aN [(0,B8 Int 1 C7 a),(1,B8 Int 1 C7 b),(5,B6 W),(6,.s (.one (.mut 20))),(8,B6 i)] [(20,.arr Int 1 tX (flat a b (fun r _=>decide (i+1<=r))))] (Sees.of ⟨i6 rfl,i6 rfl,i6 rfl,i6 rfl,leE A0 (by first | (simp;done) | (simp;omega)),trivial⟩ ⟨rfl,trivial⟩) ?_;obtain⟨P,Q⟩:∃P,P=i*W:=⟨_,rfl⟩
   obtain⟨N,hN⟩:∃N,N=(a.length+1)*W:=⟨_,rfl⟩
   have C:(i:Int)*(W:Int)=(P:Int):=by rw[Q];exact d i
   have f:((i:Int)+1)*(W:Int)=(P:Int)+W:=by rw[Int.add_mul,Int.one_mul,C]
   have E:((i:Int)+2)*(W:Int)=(P:Int)+W+W:=by rw[Int.add_mul,C];omega
   have ah:P+W+W<=N:=by
    have S:(i+2)*W<=(a.length+1)*W:=C70 _ B1;have T:(i+2)*W=i*W+W+W:=by rw[C88];omega
    omega
   have ag:N<=16789506:=by have:=A (a.length+1) (C45 _);have:=d (a.length+1);omega
   have y:∀done,(flat a b done).length=N:=fun done=>by rw[G,hN]
   refine R3 ?_;refine D6 (rW A0 A0 (by (rw[C];omega))) A0 A0 ?_;refine H3 ?_;refine D6 (rW A0 A0 (by (rw[f];omega))) A0 A0 ?_;refine D6 (oR A0 A0 A0 A0 (by (first | (rw[C];omega) | (rw[C,f];omega) | (rw[f,y];omega))) (by (first | (rw[C];omega) | (rw[C,f];omega) | (rw[f,y];omega))) (by (first | (rw[C];omega) | (rw[C,f];omega) | (rw[f,y];omega)))) A0 A0 ?_;refine P1 ?_;refine D6 (rW A0 A0 (by (rw[f];omega))) A0 A0 ?_;refine H3 ?_;refine D6 (rW A0 A0 (by (rw[E];omega))) A0 A0 ?_;refine D6 (oR A0 A0 A0 A0 (by (first | (rw[f];omega) | (rw[f,E];omega) | (rw[E,y];omega))) (by (first | (rw[f];omega) | (rw[f,E];omega) | (rw[E,y];omega))) (by (first | (rw[f];omega) | (rw[f,E];omega) | (rw[E,y];omega)))) A0 A0 ?_;refine H3 ?_;have I:∀j,j<=b.length->(flat a b (fun r q=>decide (i+1<=r\/(r=i/\j<=q))))[P+j]?=some (dist (a.drop i) (b.drop j):Int):=fun j z=>by
    rw[Q,F,FN B1 z,A6 dV]
   have w:∀j j',j<=b.length->(flat a b (fun r q=>decide (i+1<=r\/(r=i/\j'<=q))))[P+W+j]?=some (dist (a.drop (i+1)) (b.drop j):Int):=fun j j' z=>by
    rw[show P+W+j=(i+1)*(b.length+1)+j by rw[Q,F,C88];omega,FN B1 z,A6 dV]
   refine aN [(0,B8 Int 1 C7 a),(1,B8 Int 1 C7 b),(5,B6 W),(6,.s (.one (.mut 20))),(8,B6 i),(9,.s (.one (.msl 20 1 P W))),(10,.s (.one (.msl 20 1 (P+W) W)))] [(20,.arr Int 1 tX (flat a b (fun r _=>decide (i+1<=r))))] ?_ ?_
   ·refine Sees.of ⟨⟨_,rfl,.same _⟩,⟨_,rfl,.same _⟩,⟨_,rfl,.same _⟩,⟨_,rfl,.same _⟩,⟨_,rfl,.same _⟩,⟨_,rfl,.eq ?_⟩,⟨_,rfl,.eq ?_⟩,trivial⟩ ⟨rfl,trivial⟩
    ·rw[C,f];congr 3<;>omega
    ·rw[f,E];congr 3<;>omega
   have H:∀(done c:Nat->Nat->Bool) (j:Nat) (v:Int),j<=b.length->v=(dist (a.drop i) (b.drop j):Int)->c i j=true->(∀r q,r<=a.length->q<=b.length->¬(r=i/\q=j)->c r q=done r q)->(flat a b done).set (P+j) v=flat a b c:=by
    intro done c j v z hv S T;rw[Q,F];exact TM B1 z hv S T
   have ad:(flat a b (fun r _=>decide (i+1<=r))).set (P+((b.length:Nat):Int).toNat) (IntKind.u16.wrap ((a.length:Int)-i))=flat a b (fun r q=>decide (i+1<=r\/(r=i/\b.length<=q))):=by
    rw[C37,YP _ B1];refine H _ _ _ _ (C45 _) ?_ dV (fun r q hr hq L=>?_)
    ·rw[C64 (C45 b.length),iG,C61];omega
    ·rw[decide_eq_decide];omega
   refine O6 ?_;refine B2 (Z8 A0 A0 B1 B1) A0 (U0 (G3 TySz.out A0 A0 (by (rw[y];omega)) A0 A0) ?_);refine G5 ?_;rw[ad];refine R3 ?_;refine B9 (X:=Nat) (fun j=>([(0,B8 Int 1 C7 a),(1,B8 Int 1 C7 b),(5,B6 W),(6,.s (.one (.mut 20))),(8,B6 i),(9,.s (.one (.msl 20 1 P W))),(10,.s (.one (.msl 20 1 (P+W) W))),(11,B6 ((j:Int)-1))],[(20,.arr Int 1 tX (flat a b (fun r q=>decide (i+1<=r\/(r=i/\j<=q)))))])) (fun j=>j<=b.length) (fun j=>j) b.length (C45 _) (C1) ?_;intro j z;dsimp only at z ⊢;refine zc 6 (fun p=>?_) fun p=>?_
   ·obtain⟨j,rfl⟩:∃r,j=r+1:=⟨j-1,by have:=A1 p;omega⟩
    have ae:a[i]?=some a[i]:=by simp[show i<a.length by omega]
    have af:b[j]?=some b[j]:=by simp[show j<b.length by omega]
    have x:=KP a b i j B1 B1;have ai:=D i j;have aj:=D (i+1) j;have ak:=D i (j+1);have al:=D (i+1) (j+1);obtain⟨u,hu⟩:∃u,u=a[i]:=⟨_,rfl⟩
    obtain⟨v,hv⟩:∃v,v=b[j]:=⟨_,rfl⟩
    rw[<-hu]at ae x;rw[<-hv]at af x;have B:(flat a b (fun r q=>decide (i+1<=r\/(r=i/\j+1<=q)))).set (P+j) (dist (a.drop i) (b.drop j):Int)=flat a b (fun r q=>decide (i+1<=r\/(r=i/\j<=q))):=H _ _ _ _ B1 rfl dV (fun r q hr hq L=>by rw[decide_eq_decide];omega);refine aN [(0,B8 Int 1 C7 a),(1,B8 Int 1 C7 b),(5,B6 W),(6,.s (.one (.mut 20))),(8,B6 i),(9,.s (.one (.msl 20 1 P W))),(10,.s (.one (.msl 20 1 (P+W) W))),(11,B6 j)] [(20,.arr Int 1 tX (flat a b (fun r q=>decide (i+1<=r\/(r=i/\j+1<=q)))))] (Sees.of ⟨i6 rfl,i6 rfl,i6 rfl,i6 rfl,i6 rfl,i6 rfl,i6 rfl,leE A0 (by first | (simp;done) | (simp;omega)),trivial⟩ ⟨rfl,trivial⟩) (LO (uI ?_));refine oM [(0,B8 Int 1 C7 a),(1,B8 Int 1 C7 b),(5,B6 W),(6,.s (.one (.mut 20))),(8,B6 i),(9,.s (.one (.msl 20 1 P W))),(10,.s (.one (.msl 20 1 (P+W) W))),(11,B6 j)] [(20,.arr Int 1 tX (flat a b (fun r q=>decide (i+1<=r\/(r=i/\j<=q)))))] ?_ ?_
    ·refine zc 13 (fun p=>?_) fun p=>?_
     ·rw[A6 (A1 p)]at x;rw[x]at B;have hg:=w (j+1) (j+1) B1;have Z:(flat a b (fun r q=>decide (i+1<=r\/(r=i/\j+1<=q))))[P+W+((j:Int)+1).toNat]?=some (dist (a.drop (i+1)) (b.drop (j+1)):Int):=by rw[show ((j:Int)+1).toNat=j+1 by omega];exact hg
      skip;refine J0 ?_;refine B2 (Z8 A0 A0 B1 B1) A0 (B2 (M7 A0 A0 Z A0) A0 (B2 (Z8 A0 A0 B1 B1) A0 (U0 (G3 TySz.out A0 A0 (by (rw[y];omega)) A0 A0) ?_)));refine G5 ?_;rw[show P+((j:Nat):Int).toNat=P+j by omega,B];exact C1
     ·rw[A7 (A3 p)]at x;have V:=w j (j+1) B1;have Y:=I (j+1) B1;have J:(flat a b (fun r q=>decide (i+1<=r\/(r=i/\j+1<=q))))[P+W+((j:Nat):Int).toNat]?=some (dist (a.drop (i+1)) (b.drop j):Int):=by rw[C37];exact V
      have K:(flat a b (fun r q=>decide (i+1<=r\/(r=i/\j+1<=q))))[P+((j:Int)+1).toNat]?=some (dist (a.drop i) (b.drop (j+1)):Int):=by rw[show ((j:Int)+1).toNat=j+1 by omega];exact Y
      have M:IntKind.u16.wrap ((if (dist (a.drop i) (b.drop (j+1)):Int)<(dist (a.drop (i+1)) (b.drop j):Int) then (dist (a.drop i) (b.drop (j+1)):Int) else (dist (a.drop (i+1)) (b.drop j):Int))+1)=(dist (a.drop i) (b.drop j):Int):=by
       rw[YP _ (by split<;>omega),x];split<;>omega
      skip;refine I2 ?_;refine D6 (Z8 A0 A0 B1 B1) A0 A0 (D6 (M7 A0 A0 J A0) A0 A0 (H3 ?_));refine D6 (Z8 A0 A0 B1 B1) A0 A0 (D6 (M7 A0 A0 K A0) A0 A0 (D6 (n_min A0 A0) A0 A0 (D6 (ZV A0 A0) A0 A0 (D6 (Z8 A0 A0 B1 B1) A0 A0 (BZ (G3 TySz.out A0 A0 (by (rw[y];omega)) A0 A0) A0 ?_)))));refine G5 ?_;rw[M,show P+((j:Nat):Int).toNat=P+j by omega,B];exact C1
    ·skip;refine I2 ?_;exact⟨j,by omega,by omega,C1⟩
   ·obtain rfl:j=0:=by have:=A3 p;omega
    rw[show flat a b (fun r q=>decide (i+1<=r\/(r=i/\0<=q)))=flat a b (fun r _=>decide (i<=r)) from nP fun r q _ _=>.inl (by rw[decide_eq_decide];omega)];refine J0 ?_;exact⟨i,by omega,by omega,C1⟩
  ·obtain rfl:i=0:=by have:=A3 p;omega
   rw[show flat a b (fun r _=>decide (0<=r))=flat a b (fun _ _=>true) from nP fun r q _ _=>.inl dV];refine C3 (Sees.freeze (k:=20) A0) (I3 ?_);exact A9 M1 rfl
theorem i64_id{n:Int}(h:-9223372036854775808<=n/\n<=9223372036854775807):IntKind.i64.wrap n=n:=IntWalk.i64_in _ h
theorem A14{gf:Fr}{ob:Obs}(a b:List Int)(i j:Nat)(ha:a.length<=4096)(hb:b.length<=4096)(k:i<=a.length)(m:j<=b.length)(u:B5 ob 8=some (.box [.p (.list Int 1 tX (flat a b (fun _ _=>true)))]))(q:B5 ob 3=some (.box [.p (.list Int 1 C7 b)])) :
  AL.Met prog 129 [.one (.p (.v (.int .i64 i))),.one (.p (.v (.int .i64 j))),.one (.ref 8 0),.one (.ref 3 0)] gf ob [] (fun B ob'=>B=[.one (.p (.v (.int .i64 (dist (a.drop i) (b.drop j):Int))))]/\ob'=ob):=by
 have g:=FN (a:=a) (b:=b) (done:=fun _ _=>true) k m;rw[A6 rfl]at g;have A:=(BM (a:=a) (b:=b) k m).1;have C:=AD a b (fun _ _=>true);have c:(i:Int)*((b.length:Int)+1)=((i*(b.length+1):Nat):Int):=by push_cast;rfl
 have w:i*(b.length+1)<=4096*4097:=Nat.mul_le_mul B1 B1;have d:(a.length+1)*(b.length+1)<=4097*4097:=Nat.mul_le_mul B1 B1;have z:(flat a b (fun _ _=>true))[((i:Int)*((b.length:Int)+1)+j).toNat]?=some (dist (a.drop i) (b.drop j):Int):=by
  rw[c,show (((i*(b.length+1):Nat):Int)+j).toNat=i*(b.length+1)+j by omega];exact g
 have y:=rB (a.drop i) (b.drop j);simp only[C61]at y;refine AL.Met.intro Tryz.func129 F1 A0 A0 A0 (J0 ?_);refine B2 (E7 A0 u A0) A0 (G5 ?_);refine B2 (E7 A0 q A0) A0 (F5 ?_);refine B2 (rW A0 A0 (by (rw[c];omega))) A0 ?_;refine G5 ?_;refine B2 (Z3 A0 A0 (by (rw[c];omega))) A0 ?_;refine I2 ?_;rw[i64_id B1];refine G5 ?_;exact D1 V9 iV (fun _ _ h=>h) ⟨rfl,rfl⟩
theorem B64(a b:List Int)(ha:a.length<=4096)(hb:b.length<=4096):FnOk prog 85 [I4 a,I4 b] (fun rs=>rs=[pSpans (K0 0 0 a b)]):=by
 obtain⟨n,R⟩:∃n,n=n5 a b:=⟨_,rfl⟩
 have S:=TN a b;rw[<-R]at S;have B:=FP a b 0 0;rw[<-R]at B;refine FnOk.intro Tryz.func85 F1 A0 A0 A0 A0 (F5 ?_);refine C2 (w9 3 A0 A0 A0) A0 (P1 ?_);refine C2 (L2 5 _ spanC A0) A0 (I2 ?_);refine E2 (HZ a b B1) (F5 ?_);rw[<-R];refine I3 ?_;refine B9 (X:=Nat) (fun k=>([(0,B8 Int 1 C7 a),(3,.s (.one (.ref 3 0))),(5,.s (.one (.buf 5 Span 2 spanC (d6 0 0 k)))),(6,B6 n),(15,B6 n),(16,B6 k)],[(3,.box [.p (.list Int 1 C7 b)]),(5,.spare (d6 0 0 k).length 2 144)])) (fun k=>k<=n) (fun k=>n-k) 0 (C41 _) (C1) ?_;intro k hk;dsimp only at hk ⊢;have W:=FE 0 0 k;refine zc 5 (fun w=>?_) fun w=>?_
 ·have ac:k<n:=by have:=A1 w;omega
  have Y:=NX 0 0 k;refine zz 13 ?_;refine B2 (B7 (c:=spanC) (ys:=[⟨(k:Int),(k:Int)⟩]) (C0 A0 A0 A0 A0 D2) A0 A0 A0) A0 (I3 ?_);refine⟨k+1,by omega,by omega,?_⟩;rw[Y,show (0:Int)+(k:Int)=k by omega];exact C1
 have Q:k=n:=by have:=A3 w;omega
 subst Q;obtain⟨m,F⟩:∃m,m=a.drop k:=⟨_,rfl⟩
 obtain⟨d,H⟩:∃d,d=b.drop k:=⟨_,rfl⟩
 have G:m.length<=4096:=by rw[F,C61];omega
 have I:d.length<=4096:=by rw[H,C61];omega
 rw[Int.zero_add,<-F,<-H]at B;refine I2 ?_;refine D6 (IR A0 (.pure _ _ _ _) A0 B1 B1) A0 A0 (F5 ?_);refine D6 (IR A0 (.pure _ _ _ _) A0 B1 B1) A0 A0 (G5 ?_);refine BZ (K5 TySz.out A0 A0 A0 A0 A0 A0) A0 (G5 ?_);rw[C37,<-F,<-H];refine P1 ?_;refine E2 (IA m d G I) (C2 (H9 8 A0) A0 (zz 14 ?_));refine B9 (X:=Nat×Nat×List Span) (fun x=>([(0,B8 Int 1 C7 m),(3,.s (.one (.ref 3 0))),(5,.s (.one (.buf 5 Span 2 spanC x.2.2))),(6,B6 k),(8,.s (.one (.ref 8 0))),(9,.s (.one (.clo 129 [] [(8,0),(3,0)]))),(10,B6 x.1),(11,B6 x.2.1)],[(3,.box [.p (.list Int 1 C7 d)]),(5,.spare x.2.2.length 2 144),(8,.box [.p (.list Int 1 tX (flat m d (fun _ _=>true)))])])) (fun x=>x.1<=m.length/\x.2.1<=d.length/\x.2.2.length<=k+x.1/\K0 0 0 a b=x.2.2++K0 (k+x.1) (k+x.2.1) (m.drop x.1) (d.drop x.2.1)) (fun x=>(m.length-x.1)+(d.length-x.2.1)) (0,0,d6 0 0 k) ⟨C41 _,C41 _,by rw[W];exact C45 _,by simpa using B⟩ (C1) ?_;rintro⟨i,j,y⟩ ⟨Z,P,U,E⟩;dsimp only at Z P U E ⊢;refine zc 14 (fun w=>?_) fun w=>?_
 ·simp only[or_pick]at w;have J:=A1 w;refine aN [(0,B8 Int 1 C7 m),(3,.s (.one (.ref 3 0))),(5,.s (.one (.buf 5 Span 2 spanC y))),(6,B6 k),(8,.s (.one (.ref 8 0))),(9,.s (.one (.clo 129 [] [(8,0),(3,0)]))),(10,B6 i),(11,B6 j)] [(3,.box [.p (.list Int 1 C7 d)]),(5,.spare y.length 2 144),(8,.box [.p (.list Int 1 tX (flat m d (fun _ _=>true)))])] (C1) (zz 18 ?_);refine F9 A0 A0 (fun M=>by have V:=M;(try simp at V);rw[M];exact C5 A0 (.pure _ _ _ _) A0 B1 (vO B1)) A0 A0 ?_;refine H3 ?_;refine F9 A0 A0 (fun M=>by have V:=M;(try simp at V);rw[M];exact C5 A0 (.pure _ _ _ _) A0 B1 (vO B1)) A0 A0 ?_;refine zc 5 (fun w=>?_) fun w=>?_
  ·simp only[and_pick]at w;obtain⟨⟨L,z⟩,A⟩:=A1 w;have L:i<m.length:=by omega
   have z:j<d.length:=by omega
   rw[eZ m d i j L z,A6 (by simpa[L,z] using A)]at E;refine aN [(0,B8 Int 1 C7 m),(3,.s (.one (.ref 3 0))),(5,.s (.one (.buf 5 Span 2 spanC y))),(6,B6 k),(8,.s (.one (.ref 8 0))),(9,.s (.one (.clo 129 [] [(8,0),(3,0)]))),(10,B6 i),(11,B6 j)] [(3,.box [.p (.list Int 1 C7 d)]),(5,.spare y.length 2 144),(8,.box [.p (.list Int 1 tX (flat m d (fun _ _=>true)))])] (C1) (O6 ?_);refine B2 (B7 (c:=spanC) (ys:=[⟨(k:Int)+i,(k:Int)+j⟩]) (C0 A0 A0 A0 A0 D2) A0 A0 A0) A0 (V7 ?_);refine⟨(i+1,j+1,y++[⟨(k:Int)+i,(k:Int)+j⟩]),⟨by dsimp only;omega,by dsimp only;omega,by simp;omega,?_⟩,by dsimp only;omega,C1⟩;dsimp only;rw[E,C65]
   congr 2
  ·simp only[and_pick]at w;have T:=A3 w;refine aN [(0,B8 Int 1 C7 m),(3,.s (.one (.ref 3 0))),(5,.s (.one (.buf 5 Span 2 spanC y))),(6,B6 k),(8,.s (.one (.ref 8 0))),(9,.s (.one (.clo 129 [] [(8,0),(3,0)]))),(10,B6 i),(11,B6 j)] [(3,.box [.p (.list Int 1 C7 d)]),(5,.spare y.length 2 144),(8,.box [.p (.list Int 1 tX (flat m d (fun _ _=>true)))])] (C1) ?_;by_cases L:i<m.length
   ·have C:decide ((i:Int)<(m.length:Int))=true:=A4 B1;have O:=rB (m.drop (i+1)) (d.drop j);simp only[C61]at O;have D:¬j<d.length->dist (m.drop (i+1)) (d.drop j)+1=dist (m.drop i) (d.drop j)/\K0 (k+i) (k+j) (m.drop i) (d.drop j)=K0 (k+i+1) (k+j) (m.drop (i+1)) (d.drop j):=by
     intro ab;rw[show d.drop j=[] from C64 B1,iG,iG,C61,C61,z7,z7];exact⟨by omega,rfl⟩
    have N:j<d.length->K0 (k+i) (k+j) (m.drop i) (d.drop j)=if dist (m.drop (i+1)) (d.drop j)+1=dist (m.drop i) (d.drop j) then K0 (k+i+1) (k+j) (m.drop (i+1)) (d.drop j) else K0 (k+i) (k+j+1) (m.drop i) (d.drop (j+1)):=by
     intro z;rw[eZ m d i j L z,A7];intro A;exact T ⟨⟨by omega,by omega⟩,by simpa[L,z] using A⟩
    refine I3 ?_;refine G7 A0 A0 A0 C (G5 ?_);refine G7 A0 A0 A0 C (G5 ?_);refine G7 A0 A0 A0 C (G5 ?_);refine G7 A0 A0 A0 C (G5 ?_);refine G7 A0 A0 A0 C (tC (A14 m d (i+1) j G I B1 P A0 A0) A0 A0 A0 A0 ?_);rintro _ _ ⟨rfl,rfl⟩;refine G7 A0 A0 A0 C (G5 ?_);refine G7 A0 A0 A0 C (G5 ?_);refine G7 A0 A0 A0 C (G5 ?_);refine G7 A0 A0 A0 C (G5 ?_);refine G7 A0 A0 A0 C (tC (A14 m d i j G I Z P A0 A0) A0 A0 A0 A0 ?_);rintro _ _ ⟨rfl,rfl⟩;refine G7 A0 A0 A0 C ?_;refine zc 4 (fun w=>?_) fun w=>?_
    ·simp only[and_pick]at w;obtain⟨_,A⟩:=A1 w;have A:dist (m.drop (i+1)) (d.drop j)+1=dist (m.drop i) (d.drop j):=by omega
     have K:K0 (k+i) (k+j) (m.drop i) (d.drop j)=K0 (k+i+1) (k+j) (m.drop (i+1)) (d.drop j):=by
      by_cases z:j<d.length
      ·rw[N z,A6 A]
      ·exact (D z).2
     rw[K]at E;skip;refine I2 ?_;refine⟨(i+1,j,y),⟨by dsimp only;omega,by dsimp only;omega,by dsimp only;omega,?_⟩,by dsimp only;omega,C1⟩;dsimp only;rw[E,show (k:Int)+(i:Int)+1=(k:Int)+((i+1:Nat):Int) by omega]
    ·simp only[and_pick]at w;have A:=A3 w;have A:¬dist (m.drop (i+1)) (d.drop j)+1=dist (m.drop i) (d.drop j):=fun q=>A ⟨by omega,by omega⟩;have z:j<d.length:=by
      by_cases z:j<d.length
      ·exact z
      ·exact absurd (D z).1 A
     rw[N z,A7 A]at E;skip;refine I2 ?_;refine⟨(i,j+1,y),⟨by dsimp only;omega,by dsimp only;omega,by dsimp only;omega,?_⟩,by dsimp only;omega,C1⟩;dsimp only;rw[E,show (k:Int)+(j:Int)+1=(k:Int)+((j+1:Nat):Int) by omega]
   ·have v:decide ((i:Int)<(m.length:Int))=false:=A5 B1;have z:j<d.length:=by omega
    refine I3 ?_;refine L1 A0 A0 A0 (by rw[v];decide) A0 ?_;refine L1 A0 A0 A0 (by rw[v];decide) A0 ?_;refine L1 A0 A0 A0 (by rw[v];decide) A0 ?_;refine L1 A0 A0 A0 (by rw[v];decide) A0 ?_;refine L1 A0 A0 A0 (by rw[v];decide) A0 ?_;refine L1 A0 A0 A0 (by rw[v];decide) A0 ?_;refine L1 A0 A0 A0 (by rw[v];decide) A0 ?_;refine L1 A0 A0 A0 (by rw[v];decide) A0 ?_;refine L1 A0 A0 A0 (by rw[v];decide) A0 ?_;refine L1 A0 A0 A0 (by rw[v];decide) A0 ?_;refine L1 A0 A0 A0 (by rw[v];decide) A0 ?_;refine B2 (Y2 A0 (v) A0) A0 ?_;refine zc 2 (fun w=>?_) fun w=>?_
    ·cases w
    ·skip;refine I2 ?_;refine⟨(i,j+1,y),⟨by dsimp only;omega,by dsimp only;omega,by dsimp only;omega,?_⟩,by dsimp only;omega,C1⟩;dsimp only;rw[E,show m.drop i=[] from C64 B1,Z9,Z9]
 ·simp only[or_pick]at w;have J:=A3 w;rw[show m.drop i=[] from C64 B1,Z9,C77]at E;refine I3 ?_;exact A9 M1 (by rw[E])
theorem WQ(a b:List Int)(ha:a.length<=4096)(hb:b.length<=4096):FnOk prog 43 [I4 a,I4 b] (fun rs=>rs=[pChanges (tV a b),C8 0]):=by
 have d:=FG a b 0 0;rw[Int.zero_add,Int.zero_add]at d;have e:=sT 0 0 a b;refine FnOk.intro Tryz.func43 F1 A0 A0 A0 A0 (O6 ?_);refine E2 (RO a b) ?_;refine zc 2 (fun c=>?_) fun c=>?_
 ·exfalso;have h:decide ((a.length:Int)<=4096/\(b.length:Int)<=4096)=true:=A4 ⟨by omega,by omega⟩;rw[h]at c;cases c
 refine I2 ?_;refine E2 (B64 a b ha hb) (P1 ?_);refine E2 (HY (K0 0 0 a b) a.length b.length ⟨by omega,by omega⟩ ⟨by omega,by omega⟩ d B1) (J0 ?_);exact A9 cN rfl
end Go.Proofs.YtabbdaafimcjhaaGreatDoor
