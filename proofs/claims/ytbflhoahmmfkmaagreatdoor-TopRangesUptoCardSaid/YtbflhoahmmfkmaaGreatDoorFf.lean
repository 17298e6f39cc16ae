/- Walks of the program's functions. -/
import Derived.Test.YtbflhoahmmfkmaaGreatDoorFe
set_option linter.all false
namespace Go.Proofs.YtbflhoahmmfkmaaGreatDoor
open Go Go.AL
set_option maxRecDepth 100000
set_option maxHeartbeats 1000000
abbrev rO(l:List Int):Ob:=.arr Int 1 G1 l
abbrev R7(l:List Int):Ob:=.grow 3 Int 1 G1 l
theorem vI{gf:Fr}{ob:Obs}(a d:List Int)(c:Nat)(C:c<a.length)(_hl:a.length<=1000000)(D:d.length<=1000000)(y:C5 ob 5=some (.box [.mut 753]))(z:C5 ob 7=some (.box [.mut 754]))(j:C5 ob 753=some (rO a))(k:C5 ob 754=some (R7 d)) :
  AL.Met Tryz.prog 93 [.one (.p (.v (.int .i64 c))),.one (.ref 5 0),.one (.ref 7 0)] gf ob [754]
   (fun B ob'=>B=[]/\ob'=(5,.box [.mut 753])::(7,.box [.mut 754])::(753,rO (if I8 a c<0 then a.set c 0 else a))::(754,R7 (if I8 a c<0 then d++[(c:Int)] else d))::Obs.forget 754 ob):=by
 have q:=jM (l:=a) (p:=(c:Int)) (by omega);rw[WV]at q;refine AL.Met.introH Tryz.func93 (by decide) rfl rfl rfl (fun A=>?_);refine G8 (VZ 754 (l:=[(0,C7 c),(1,.s (.one (.ref 5 0))),(2,.s (.one (.ref 7 0)))]) (L:=[(5,_),(7,_),(753,_),(754,_)]) ⟨B4 rfl,B4 rfl,B4 rfl,trivial⟩ A (by repeat (first | exact C3 | refine C4 rfl ?_)) ⟨y,z,j,k,trivial⟩) ?_;refine k2 ?_;refine A7 (A6 (B2 Z Z Z) Z (A6 (A8 Z Z) Z (A6 (E2 Z Z Z (by omega) (by omega)) Z (A6 (L1 Z Z q Z) Z (A6 (F3 Z Z) Z (B0 ?_))))));refine k1 ?_;refine B9 rfl (fun w=>?_) (fun w=>?_)
 ·have g:I8 a c<0:=A0 w;rw[A4 g,A4 g];refine k2 ?_;refine A7 (A6 (B2 Z Z Z) Z (A6 (A8 Z Z) Z (A6 (E2 Z Z Z (by omega) (by omega)) Z (F7 (J8 TySz.out Z Z (by omega) Z Z) (B0 ?_)))));refine k1 ?_;refine A7 (A6 (B2 Z Z Z) Z (A6 (A8 Z Z) Z (A6 (D9 (c:=G1) (ys:=[(c:Int)]) (D8 Z Z Z Z H5) Z Z Z) Z (D6 (aG Z Z Z (.pure _ _ _ _) (by (simp only[WW,XD];omega)) Z) Z (F7 (C1 TySz.out Z Z Z Z Z Z) (B0 ?_))))));skip;exact X1 (eM rfl) (by repeat (first | exact C3 | refine C4 rfl ?_ | refine U2 _ ?_)) (G9 (L:=[(5,_),(7,_),(753,_),(754,_)]) ⟨rfl,rfl,rfl,rfl,trivial⟩ (by repeat (first | exact F6 | refine G3 rfl ?_ | refine gL _ ?_))) ⟨rfl,rfl⟩
 ·have g:¬I8 a c<0:=A1 w;rw[A5 g,A5 g];refine k5 ?_;exact X1 (eM rfl) (by repeat (first | exact C3 | refine C4 rfl ?_ | refine U2 _ ?_)) (fun _ _ h=>h) ⟨rfl,rfl⟩
def cH(n i:Nat):List Int:=List.replicate i (-1)++List.replicate (n-i) 0
theorem EJ{n i:Nat}(h:i<n):(cH n i).set i (-1)=cH n (i+1):=by
 unfold cH;rw[List.set_append_right _ _ (by simp),XT,YK,show n-i=(n-(i+1))+1 by omega,List.replicate_succ,List.set_cons_zero,List.replicate_succ',XH];rfl
theorem EK{n i:Nat}(h:i<=n):(cH n i).length=n:=by unfold cH;simp;omega
theorem DInv.last{g:Graph}{e:List Bool}{st:List Int}{k i:Nat}{l b D:List Int}(h:DInv g e st k i l b D)(m:0<b.length):∃c:Nat,b=b.take (b.length-1)++[(c:Int)]/\c<g.length/\b[b.length-1]?=some (c:Int):=by
 have d:b.length-1<b.length:=by omega
 have n:=h.on b[b.length-1] (List.mem_append_right _ (WY d));have f:b[b.length-1]=(b[b.length-1].toNat:Int):=by omega
 refine⟨b[b.length-1].toNat,?_,by omega,by rw[WT d];exact congrArg some f⟩;have j:b.take (b.length-1+1)=b:=XN (by omega);rw[List.take_add_one,WT d,Option.toList_some]at j;rw[<-f];exact j.symm
theorem xY(g:Graph)(s:List Int)(G:FewG g)(hr:related g=true)(hs:∀f∈s,0<=f/\f<g.length)(au:s.length<=1048576) :
  AL.Met Tryz.prog 44 [.one (.p (.list Commit 3 H3 g)),.one (.p (.list Int 1 G1 s))] [] [] [] (fun rs ob'=>∃h,rs=[.one (.mut 753)]/\ob'=[(753,rO h)]/\h.length=g.length/\∀p,p<g.length->I8 h p=if L4 (J3 g s) p=true then (nR g (J3 g s) [] p:Int) else -1):=by
 have hg:=G.len;have af:=dD hr hs;have U:=eG hr s hs;obtain⟨v,P⟩:∃v,v=J3 g s:=⟨_,rfl⟩
 have W:=@DInv.fin g s;rw[<-P]at af U;refine AL.Met.intro Tryz.func44 (by decide) Z Z Z ?_;refine k2 ?_;refine A7 (A6 (A9 Z Z) Z (B0 ?_));refine k1 (k2 ?_);refine A7 (A6 (A8 Z Z) Z (A6 (F0 Z (.pure _ _ _ _)) Z (D6 (aZ 753 Int G1 0 Z Z (by omega) (by omega) (fun _=>by first | exact⟨⟨rfl,rfl⟩,trivial⟩ | exact⟨I5 _ _ _,trivial⟩ | exact⟨I5 _ _ _,⟨rfl,rfl⟩,I5 _ _ _,trivial⟩ | exact⟨⟨rfl,rfl⟩,⟨rfl,rfl⟩,trivial⟩) (by first | rfl | (simp[I2,M9,Ob.free,SV.free,S1.free,TC.free]<;>rfl))) Z ?_)));refine D6 (I1 5 Z) Z (F7 (C1 TySz.out Z Z Z Z Z Z) (B0 ?_));refine k1 (k2 (k2 ?_));refine A7 (A6 (B2 Z Z Z) Z (A6 (cP Z Z) Z (A6 (A8 Z Z) Z (B0 ?_))));refine k1 (k3 ?_);rw[WV];refine E4 (X:=Nat) (fun i=>([(0,E3 Commit 3 H3 g),(1,E3 Int 1 G1 s),(5,.s (.one (.ref 5 0))),(18,C7 g.length),(19,C7 i)],[(5,.box [.mut 753]),(753,rO (cH g.length i))])) (fun i=>i<=g.length) (fun i=>g.length-i) 0 (Nat.zero_le _) (by rw[show cH g.length 0=List.replicate g.length 0 by unfold cH;simp];exact (Sees.of ⟨B4 rfl,B4 rfl,B4 rfl,TI Z (by first | (simp;done) | (simp;omega)),B4 rfl,trivial⟩ ⟨rfl,rfl,trivial⟩)) ?_;intro i hi;dsimp only at hi ⊢;have ab:=EK hi;refine k2 ?_;refine A7 (A6 (F3 Z Z) Z (B0 ?_));refine k1 (k2 ?_);refine B9 rfl (fun C=>?_) (fun C=>?_)
 ·have B:i<g.length:=by have w:=A0 C;(try dsimp only at w);omega
  have am:=EJ B;refine k5 (k1 (k2 (k3 (k2 ?_))));refine A7 (A6 (A8 Z Z) Z (A6 (A9 Z Z) Z (B0 ?_)));refine k1 ?_;refine A7 (A6 (B2 Z Z Z) Z (A6 (A8 Z Z) Z (A6 (E2 Z Z Z (by omega) (by (rw[ab];omega))) Z ?_)));refine F7 (J8 TySz.out Z Z (by (rw[ab];omega)) Z Z) ?_;refine B0 ?_;refine k4 (k1 ?_);refine A7 (A6 (D5 Z Z (by omega)) Z (A6 (A8 Z Z) Z (B0 ?_)));refine k1 ?_;refine⟨i+1,by omega,by omega,?_⟩;rw[WV,am];exact (Sees.of ⟨B4 rfl,B4 rfl,B4 rfl,B4 rfl,B4 rfl,trivial⟩ ⟨rfl,rfl,trivial⟩)
 have ah:i=g.length:=by have w:=A1 C;(try dsimp only at w);omega
 rw[ah,show cH g.length g.length=List.replicate g.length (-1) by unfold cH;simp];have ag:=DInv.start g v;refine k6 (k2 ?_);refine A7 (D6 (I1 7 Z) Z (B0 ?_));refine k1 (k2 ?_);refine G8 (WD 754 Int 1 G1 3 (kb:=7) (o:=0) Z Z Z) ?_;refine A7 (A6 (dI Z Z) Z (A6 (A9 Z Z) Z (B0 ?_)));refine k1 (k2 (k2 ?_));refine A7 (A6 (A8 Z Z) Z (A6 (F0 Z (.pure _ _ _ _)) Z (A6 (A8 Z Z) Z (B0 ?_))));refine k1 (k3 ?_);refine E4 (X:=Nat×List Int×List Int) (fun x=>([(0,E3 Commit 3 H3 g),(5,.s (.one (.ref 5 0))),(7,.s (.one (.ref 7 0))),(8,.s (.one (.clo 93 [] [(5,0),(7,0)]))),(27,E3 Int 1 G1 s),(28,C7 s.length),(29,C7 x.1)],[(5,.box [.mut 753]),(7,.box [.mut 754]),(753,rO x.2.1),(754,R7 x.2.2)])) (fun x=>x.1<=s.length/\DInv g v (s.take x.1) 0 0 x.2.1 x.2.2 []) (fun x=>s.length-x.1) (0,List.replicate g.length (-1),[]) ⟨Nat.zero_le _,ag⟩ (Sees.of ⟨B4 rfl,B4 rfl,B4 rfl,B4 rfl,B4 rfl,B4 rfl,B4 rfl,trivial⟩ ⟨rfl,rfl,rfl,rfl,trivial⟩) ?_;rintro⟨j,h,d⟩ ⟨hj,q⟩;dsimp only at hj q ⊢;have L:=q.le;have F:=q.len;rw[XD,Nat.zero_add]at L;refine k2 ?_;refine A7 (A6 (F3 Z Z) Z (B0 ?_));refine k1 (k2 ?_);refine B9 rfl (fun C=>?_) (fun C=>?_)
 ·have B:j<s.length:=by have w:=A0 C;(try dsimp only at w);omega
  have av:=hs _ (WY B);obtain⟨c,hc⟩:∃c:Nat,s[j]=(c:Int):=⟨s[j].toNat,by omega⟩
  have hv:s[j]?=some (c:Int):=by rw[WT B,hc]
  have E:c<g.length:=by omega
  have ak:L4 v c=true:=(af c).2 ⟨c,by rw[<-hc];exact WY B,.inl rfl⟩
  obtain⟨K,_⟩:=q.reach (Nat.le_refl _) E ak (s.take (j+1)) (fun f G=>by
   rw[Q9 B]at G;rcases G with G | G
   ·exact .inl G
   ·right;rw[G,hc])
  refine k5 (k1 (k2 (k3 (k2 ?_))));refine A7 (A6 (B8 Z (.pure _ _ _ _) Z (by omega) hv) Z (A6 (C0 Z Z) Z (A6 (A9 Z Z) Z (B0 ?_))));refine k1 ?_;refine A7 (A6 (A8 Z Z) Z (A6 (A8 Z Z) Z (jH (vI h d c (by omega) (by omega) (by omega) Z Z Z Z) Z Z Z Z ?_)));rintro _ _ ⟨rfl,rfl⟩;refine B0 ?_;refine k4 (k1 ?_);refine A7 (A6 (D5 Z Z (by omega)) Z (A6 (A8 Z Z) Z (B0 ?_)));refine k1 ?_;exact⟨(j+1,if I8 h c<0 then h.set c 0 else h,if I8 h c<0 then d++[(c:Int)] else d),⟨B,K⟩,by dsimp only;omega,(Sees.of ⟨B4 rfl,B4 rfl,B4 rfl,B4 rfl,B4 rfl,B4 rfl,B4 rfl,trivial⟩ ⟨rfl,rfl,rfl,rfl,trivial⟩)⟩
 have ai:j=s.length:=by have w:=A1 C;(try dsimp only at w);omega
 rw[ai,XF]at q;refine k6 (k2 (k3 ?_));refine E4 (X:=List Int×List Int×List Int) (fun x=>([(0,E3 Commit 3 H3 g),(5,.s (.one (.ref 5 0))),(7,.s (.one (.ref 7 0))),(8,.s (.one (.clo 93 [] [(5,0),(7,0)])))],[(5,.box [.mut 753]),(7,.box [.mut 754]),(753,rO x.1),(754,R7 x.2.1)])) (fun x=>DInv g v s x.2.2.length 0 x.1 x.2.1 x.2.2) (fun x=>g.length-x.2.2.length) (h,d,[]) q (Sees.of ⟨B4 rfl,B4 rfl,B4 rfl,B4 rfl,trivial⟩ ⟨rfl,rfl,rfl,rfl,trivial⟩) ?_;rintro⟨h,d,D⟩ q;dsimp only at q ⊢;have L:=q.le;have F:=q.len;refine k2 (k2 ?_);refine A7 (A6 (B2 Z Z Z) Z (A6 (y7 Z Z) Z (A6 (P5 Z Z) Z (B0 ?_))));refine k1 ?_;refine B9 rfl (fun C=>?_) (fun C=>?_);rotate_left
 ·have w:d=[]:=by
   have w:=A1 C;exact List.length_eq_zero_iff.1 (by omega)
  rw[w]at q;have hF:=W hr hs (by rw[<-P];exact q);refine k6 (k2 ?_);refine A7 (A6 (B2 Z Z Z) Z (A6 (A9 Z Z) Z (B0 ?_)));refine k1 (I9 ?_);exact I6 (X2 rfl rfl) (by repeat (first | exact C3 | refine C4 rfl ?_ | refine F8 _ ?_)) (ObIn.spec (ob':=[(753,rO h)]) ⟨rfl,trivial⟩) ⟨h,rfl,rfl,F,hF⟩
 have h0:0<d.length:=by have w:=A0 C;omega
 obtain⟨c,e1,E,S⟩:=DInv.last q h0;obtain⟨z,ae⟩:∃z,z=d.take (d.length-1):=⟨_,rfl⟩
 have S:d[((d.length:Int)-1).toNat]?=some (c:Int):=by rw[show ((d.length:Int)-1).toNat=d.length-1 by omega];exact S
 have V:d.take ((d.length:Int)-1).toNat=z:=by rw[ae];congr 1;omega
 rw[<-ae]at e1;have hP:=(by rw[e1]at q;exact q:DInv g v s D.length 0 h (z++[(c:Int)]) D).pop;obtain⟨A,Q⟩:∃A,A=g[c]:=⟨_,rfl⟩
 have ao:g[((c:Nat):Int).toNat]?=some A:=by rw[Q];simp[E]
 have H:E1 g c=A.Parents:=by rw[X8 E,Q]
 have ar:=G.pars A (by rw[Q];exact WY E);have ac:L4 v c=true:=by
  have:=(hP.on (c:Int) (by simp)).2.2
  rwa[WV]at this
 have Y:(D++[(c:Int)]).getD D.length 0=(c:Int):=by
  rw[XC,XJ (Nat.le_refl _),YK];rfl
 refine k5 (k1 (k3 (k2 ?_)));refine A7 (A6 (B2 Z Z Z) Z (A6 (B2 Z Z Z) Z (A6 (y7 Z Z) Z (A6 (O5 Z Z (by omega)) Z (A6 (K9 Z Z Z (by omega) (by omega)) Z (A6 (u0 Z Z S Z) Z (A6 (A9 Z Z) Z (B0 ?_))))))));refine k1 (k2 ?_);refine A7 (A6 (B2 Z Z Z) Z (A6 (B2 Z Z Z) Z (A6 (y7 Z Z) Z (A6 (O5 Z Z (by omega)) Z (D6 (pQ Z Z Z (by omega) (by omega) Z) Z (F7 (C1 TySz.out Z Z Z Z Z Z) (B0 ?_)))))));rw[V];refine k1 (k2 ?_);refine A7 (A6 (A8 Z Z) Z (A6 (A8 Z Z) Z (A6 (B8 Z (.pure _ _ _ _) Z (by omega) ao) Z (A6 (C9 Z) Z (A6 (C0 Z Z) Z (A6 (F0 Z (.pure _ _ _ _)) Z (A6 (A8 Z Z) Z (B0 ?_))))))));refine k1 (k3 ?_);refine E4 (X:=Nat×List Int×List Int) (fun x=>([(0,E3 Commit 3 H3 g),(5,.s (.one (.ref 5 0))),(7,.s (.one (.ref 7 0))),(8,.s (.one (.clo 93 [] [(5,0),(7,0)]))),(55,E3 Int 1 G1 A.Parents),(56,C7 A.Parents.length),(57,C7 x.1)],[(5,.box [.mut 753]),(7,.box [.mut 754]),(753,rO x.2.1),(754,R7 x.2.2)])) (fun x=>x.1<=A.Parents.length/\DInv g v s D.length x.1 x.2.1 x.2.2 (D++[(c:Int)])) (fun x=>A.Parents.length-x.1) (0,h,z) ⟨Nat.zero_le _,hP⟩ (Sees.of ⟨B4 rfl,B4 rfl,B4 rfl,B4 rfl,B4 rfl,B4 rfl,B4 rfl,trivial⟩ ⟨rfl,rfl,rfl,rfl,trivial⟩) ?_;rintro⟨i,h,d⟩ ⟨hi,q⟩;dsimp only at hi q ⊢;have L:=q.le;have F:=q.len;rw[WX,List.length_singleton]at L;refine k2 ?_;refine A7 (A6 (F3 Z Z) Z (B0 ?_));refine k1 (k2 ?_);refine B9 rfl (fun C=>?_) (fun C=>?_);rotate_left
 ·have w:i=A.Parents.length:=by have w:=A1 C;(try dsimp only at w);omega
  rw[w,<-H]at q;have hN:=q.next (k:=D.length) (by simp) Y;refine k6 (k7 (k7 (k8 Z (k4 (k1 ?_)))));exact⟨(h,d,D++[(c:Int)]),hN,by dsimp only;rw[WX,List.length_singleton];omega,(Sees.of ⟨B4 rfl,B4 rfl,B4 rfl,B4 rfl,trivial⟩ ⟨rfl,rfl,rfl,rfl,trivial⟩)⟩
 have y:i<A.Parents.length:=by have w:=A0 C;(try dsimp only at w);omega
 have aq:=(K2 hr c).1 A.Parents[i] (by rw[H];exact WY y);obtain⟨p,hp⟩:∃p:Nat,A.Parents[i]=(p:Int):=⟨A.Parents[i].toNat,by omega⟩
 have ap:A.Parents[i]?=some (p:Int):=by rw[WT y,hp]
 have al:p<g.length:=by omega
 have ad:L4 v p=true:=by
  have:=U c ac (p:Int) (by rw[H,<-hp];exact WY y)
  rwa[WV]at this
 obtain⟨K,aj⟩:=q.reach (by simp) al ad s (fun f G=>.inl G);obtain⟨q1,q2,T⟩:=K.count hr Y (i:=i) (p:=p) (by rw[H];exact y) (by simp only[H];exact hp) aj;have M:=K.len;refine k5 (k1 (k2 (k3 (k2 ?_))));refine A7 (A6 (B8 Z (.pure _ _ _ _) Z (by omega) ap) Z (A6 (C0 Z Z) Z (A6 (A9 Z Z) Z (B0 ?_))));refine k1 (k2 ?_);refine A7 (A6 (A8 Z Z) Z (A6 (A8 Z Z) Z (jH (vI h d p (by omega) (by omega) (by omega) Z Z Z Z) Z Z Z Z ?_)));rintro _ _ ⟨rfl,rfl⟩;refine B0 ?_;obtain⟨J,O⟩:∃J,J=(if I8 h p<0 then h.set p 0 else h):=⟨_,rfl⟩
 obtain⟨I,R⟩:∃I,I=(if I8 h p<0 then d++[(p:Int)] else d):=⟨_,rfl⟩
 rw[<-O]at q1 q2 M;rw[<-O,<-R]at T ⊢;have an:=jM (l:=J) (p:=(p:Int)) (by omega);refine k1 ?_;refine A7 (A6 (B2 Z Z Z) Z (A6 (A8 Z Z) Z (A6 (E2 Z Z Z (by omega) (by (rw[M];omega))) Z ?_)));refine A6 (L1 Z Z an Z) Z (A6 (D5 Z Z (by (rw[WV];omega))) Z ?_);refine A6 (E2 Z Z Z (by omega) (by (rw[M];omega))) Z ?_;refine F7 (J8 TySz.out Z Z (by (rw[M];omega)) Z Z) ?_;refine B0 ?_;refine k4 (k1 ?_);refine A7 (A6 (D5 Z Z (by omega)) Z (A6 (A8 Z Z) Z (B0 ?_)));refine k1 ?_;exact⟨(i+1,bump J p,I),⟨y,T⟩,by dsimp only;omega,(Sees.of ⟨B4 rfl,B4 rfl,B4 rfl,B4 rfl,B4 rfl,B4 rfl,B4 rfl,trivial⟩ ⟨rfl,rfl,rfl,rfl,trivial⟩)⟩
abbrev dR(g:Graph):Ob:=.box [.mut 741,.fnc 45 [.list Commit 3 H3 g]]
abbrev sI(n:Int):S1:=.one (.p (.v (.int .i64 n)))
abbrev SZ(n:Int):S1:=.one (.p (.v (.iface 3 (.int .i64 n))))
abbrev tX:S1:=.one (.ifc 92 740 0)
theorem GP{g:Graph}{c:Int}(h:0<=c/\c<g.length):∃b,g[c.toNat]?=some b/\x4 g c.toNat=b.Date:=by
 have a:c.toNat<g.length:=by omega
 exact⟨g[c.toNat],by simp[a],by unfold x4;rw[WT a];rfl⟩
theorem JA(g:Graph)(a b:Int)(_hg:g.length<=1048576)(ha:0<=a/\a<g.length)(hb:0<=b/\b<g.length):FnOk Tryz.prog 45 [H4 g,E8 a,E8 b] (fun k=>k=[H6 (R2 g a b)]):=by
 obtain⟨x,d,h⟩:=GP ha;obtain⟨y,f,i⟩:=GP hb;unfold R2;rw[h,i];refine FnOk.intro Tryz.func45 (by decide) Z Z Z Z ?_;refine k2 ?_;refine A7 (A6 (A9 Z Z) Z (B0 ?_));refine k1 (k2 (k2 ?_));refine D7 (by kernel_rfl) (by kernel_rfl) (B3 (A8 Z Z) Z Z (B3 (A8 Z Z) Z Z (B3 (B8 Z (.pure _ _ _ _) Z (by omega) d) Z Z (B3 (C9 Z) Z Z (B3 (C0 Z Z) Z Z (B3 (A8 Z Z) Z Z (B3 (A8 Z Z) Z Z (B3 (B8 Z (.pure _ _ _ _) Z (by omega) f) Z Z (B3 (C9 Z) Z Z (B3 (C0 Z Z) Z Z (B3 (N5 Z Z) Z Z (M5 ?_))))))))))));refine k1 ?_;refine B9 rfl (fun c=>?_) (fun c=>?_)
 ·have j:x.Date≠y.Date:=A0 c;refine k2 ?_;refine D7 (by kernel_rfl) (by kernel_rfl) (B3 (A8 Z Z) Z Z (B3 (A8 Z Z) Z Z (B3 (B8 Z (.pure _ _ _ _) Z (by omega) d) Z Z (B3 (C9 Z) Z Z (B3 (C0 Z Z) Z Z (B3 (A8 Z Z) Z Z (B3 (A8 Z Z) Z Z (B3 (B8 Z (.pure _ _ _ _) Z (by omega) f) Z Z (B3 (C9 Z) Z Z (B3 (C0 Z Z) Z Z (B3 (P5 Z Z) Z Z (B3 (A9 Z Z) Z Z (M5 ?_)))))))))))));refine k1 (I9 (N4 ?_));refine C2 (J5 rfl rfl rfl) (congrArg (fun b=>[H6 b]) (decide_eq_decide.2 ?_));omega
 ·have j:¬x.Date≠y.Date:=A1 c;refine k5 (k1 (k2 ?_));refine A7 (A6 (A8 Z Z) Z (A6 (A8 Z Z) Z (A6 (F3 Z Z) Z (A6 (A9 Z Z) Z (B0 ?_)))));refine k1 (I9 ?_);refine C2 (J5 rfl rfl rfl) (congrArg (fun b=>[H6 b]) (decide_eq_decide.2 ?_));omega
theorem rP{gf:Fr}{ob:Obs}(g:Graph)(l:List Int)(a:C5 ob 740=some (dR g))(b:C5 ob 741=some (R7 l)) :
  AL.Met Tryz.prog 47 [.one (.ref 740 0)] gf ob [] (fun rs ob'=>rs=[sI l.length]/\ob'=ob):=by
 refine AL.Met.intro Tryz.func47 (by decide) Z Z Z ?_;refine k2 ?_;refine A7 (A6 (A9 Z Z) Z (B0 ?_));refine k1 (k2 ?_);refine A7 (A6 (A8 Z Z) Z (A6 (B5 Z) Z (A6 (B1 Z) Z (A6 (B2 Z a Z) Z (A6 (y7 Z b) Z (A6 (A9 Z Z) Z (B0 ?_)))))));refine k1 (I9 ?_);exact I6 (X2 rfl rfl) (by repeat (first | exact C3 | refine C4 rfl ?_ | refine F8 _ ?_)) (fun _ _ h=>h) ⟨rfl,rfl⟩
theorem nA{gf:Fr}{ob:Obs}(g:Graph)(l:List Int)(i j:Nat)(w:g.length<=1048576)(u:∀x∈l,0<=x/\x<(g.length:Int))(d:i<l.length)(k:j<l.length)(m:C5 ob 740=some (dR g))(c:C5 ob 741=some (R7 l)) :
  AL.Met Tryz.prog 370 [.one (.ref 740 0),sI i,sI j] gf ob [] (fun y ob'=>y=[.one (.p (.v (.bool (R2 g (I8 l i) (I8 l j)))))]/\ob'=ob):=by
 have q:l[((i:Nat):Int).toNat]?=some (I8 l i):=by rw[WV,O9 d];simp[d]
 have s:l[((j:Nat):Int).toNat]?=some (I8 l j):=by rw[WV,O9 k];simp[k]
 have hb:=JA g (I8 l i) (I8 l j) w (by rw[O9 d];exact u _ (WY d)) (by rw[O9 k];exact u _ (WY k));refine AL.Met.intro Tryz.func370 (by decide) Z Z Z ?_;refine k2 ?_;refine A7 (A6 (A9 Z Z) Z (B0 ?_));refine k1 (k2 ?_);refine D7 (by kernel_rfl) (by kernel_rfl) (B3 (A8 Z Z) Z Z (B3 (B5 Z) Z Z (B3 (B1 Z) Z Z (B3 (B2 Z m Z) Z Z (B3 (A8 Z Z) Z Z (B3 (B5 Z) Z Z (B3 (B1 Z) Z Z (B3 (B2 Z m Z) Z Z (B3 (A8 Z Z) Z Z (B3 (K9 Z c Z (by omega) (by omega)) Z Z (B3 (u0 Z c q Z) Z Z (B3 (A8 Z Z) Z Z (B3 (B5 Z) Z Z (B3 (B1 Z) Z Z (B3 (B2 Z m Z) Z Z (B3 (A8 Z Z) Z Z (B3 (K9 Z c Z (by omega) (by omega)) Z Z (B3 (u0 Z c s Z) Z Z (B3 (OQ (hb) Z Z Z) Z Z (B3 (A9 Z Z) Z Z (M5 ?_)))))))))))))))))))));refine k1 (I9 ?_);exact I6 (X2 rfl rfl) (by repeat (first | exact C3 | refine C4 rfl ?_ | refine F8 _ ?_)) (fun _ _ h=>h) ⟨rfl,rfl⟩
theorem nB{gf:Fr}{ob:Obs}(g:Graph)(l:List Int)(i j:Nat)(x:i<l.length)(q:j<l.length)(y:C5 ob 740=some (dR g))(v:C5 ob 741=some (R7 l)) :
  AL.Met Tryz.prog 373 [.one (.ref 740 0),sI i,sI j] gf ob [] (fun B ob'=>B=[]/\ob'=(741,R7 (Y0 l i j))::ob):=by
 have d:l[((i:Nat):Int).toNat]?=some (I8 l i):=by rw[WV,O9 x];simp[x]
 have m:l[((j:Nat):Int).toNat]?=some (I8 l j):=by rw[WV,O9 q];simp[q]
 obtain⟨a,ha⟩:∃a,a=I8 l i:=⟨_,rfl⟩
 obtain⟨b,hb⟩:∃b,b=I8 l j:=⟨_,rfl⟩
 rw[<-ha]at d;rw[<-hb]at m;have p:(l.set ((i:Nat):Int).toNat b)[((j:Nat):Int).toNat]?=some (I8 (l.set i b) j):=by
  rw[WV,WV];have:j<(l.set i b).length:=by rw[XX];exact q
  rw[O9 this];simp[q]
 have w:(l.set ((i:Nat):Int).toNat b).set ((j:Nat):Int).toNat a=Y0 l i j:=by rw[ha,hb];rfl
 have c:C5 ((741,R7 l)::ob) 740=some (dR g):=by rw[C8 (by decide)];exact y
 refine AL.Met.introH Tryz.func373 (by decide) rfl rfl rfl (fun A=>?_);refine G8 (VW (l:=[(0,.s (.one (.ref 740 0))),(1,C7 i),(2,C7 j)]) (ob':=(741,R7 l)::ob) ⟨B4 rfl,B4 rfl,B4 rfl,trivial⟩ A (by repeat (first | exact C3 | refine C4 rfl ?_)) (G9 (L:=[(741,_)]) ⟨v,trivial⟩ F6)) ?_;skip;refine Y6 [27,25] [[],[25],[27,25]] [(25,([],[])),(27,([],[]))] [(0,[]),(1,[]),(2,[]),(3,[]),(4,[]),(5,[]),(6,[]),(7,[]),(8,[]),(9,[]),(10,[]),(11,[]),(12,[]),(13,[]),(14,[]),(15,[]),(16,[]),(17,[]),(18,[]),(19,[]),(20,[]),(21,[]),(22,[]),(23,[]),(24,[]),(25,[]),(26,[25]),(27,[25])] [(9,[25])] (by kernel_rfl) (by kernel_rfl) (H2 Z Z (by kernel_rfl) Z Z (A8 Z Z) (H2 Z Z (by kernel_rfl) Z Z (B5 Z) (H2 Z Z (by kernel_rfl) Z Z (B1 Z) (H2 Z Z (by kernel_rfl) Z Z (B2 Z c Z) (H2 Z Z (by kernel_rfl) Z Z (A8 Z Z) (H2 Z Z (by kernel_rfl) Z Z (A8 Z Z) (H2 Z Z (by kernel_rfl) Z Z (B5 Z) (H2 Z Z (by kernel_rfl) Z Z (B1 Z) (H2 Z Z (by kernel_rfl) Z Z (B2 Z c Z) (H2 Z Z (by kernel_rfl) Z Z (A8 Z Z) (H2 Z Z (by kernel_rfl) Z Z (A8 Z Z) (H2 Z Z (by kernel_rfl) Z Z (B5 Z) (H2 Z Z (by kernel_rfl) Z Z (B1 Z) (H2 Z Z (by kernel_rfl) Z Z (B2 Z c Z) (H2 Z Z (by kernel_rfl) Z Z (A8 Z Z) (H2 Z Z (by kernel_rfl) Z Z (K9 Z Z Z (by omega) (by omega)) (H2 Z Z (by kernel_rfl) Z Z (u0 Z Z m Z) (H2 Z Z (by kernel_rfl) Z Z (A8 Z Z) (H2 Z Z (by kernel_rfl) Z Z (B5 Z) (H2 Z Z (by kernel_rfl) Z Z (B1 Z) (H2 Z Z (by kernel_rfl) Z Z (B2 Z c Z) (H2 Z Z (by kernel_rfl) Z Z (A8 Z Z) (H2 Z Z (by kernel_rfl) Z Z (K9 Z Z Z (by omega) (by (first | omega | (rw[XX];omega)))) ?_)))))))))))))))))))))));refine H2 Z Z (by kernel_rfl) Z Z (u0 Z Z d Z) (H2 Z Z (by kernel_rfl) Z Z (K9 Z Z Z (by omega) (by omega)) (bC Z Z (by kernel_rfl) Z Z (qU (fun u k=>cT (b) TySz.out (w9 k Z) Z d (w9 k Z) Z Z Z (fun _ _ _ h=>m6 h) (by intro j v z;rcases j with _ | _ | _ | _ | _ | _ | _ | j<;>first | rfl | omega))) Z ?_));refine H2 Z Z (by kernel_rfl) Z Z (K9 Z Z Z (by omega) (by (rw[XX];omega))) ?_;refine bC Z Z (by kernel_rfl) Z Z (qU (fun u k=>cT (a) TySz.out (w9 k Z) Z p (w9 k Z) Z Z Z (fun _ _ _ h=>m6 h) (by intro j v z;rcases j with _ | _ | _ | _ | _ | _ | _ | j<;>first | rfl | omega))) Z ?_;refine FZ (by kernel_rfl) rfl ?_ ?_
 ·refine j6 Z Z (by kernel_rfl) Z Z (A8 Z Z) ?_;exact uP
 rw[w];skip;exact X1 (eM rfl) (by repeat (first | exact C3 | refine tail_drop rfl ?_ | refine C4 rfl ?_)) (G9 (L:=[(741,_)]) ⟨rfl,trivial⟩ (by repeat (first | exact F6 | refine G3 rfl ?_))) ⟨rfl,rfl⟩
theorem JB{gf:Fr}{ob:Obs}(g:Graph)(l:List Int)(c:Int)(k:l.length<=1048576)(d:C5 ob 740=some (dR g))(h:C5 ob 741=some (R7 l)) :
  AL.Met Tryz.prog 372 [.one (.ref 740 0),SZ c] gf ob [741] (fun j ob'=>j=[]/\ob'=(740,dR g)::(741,R7 (l++[c]))::Obs.forget 741 ob):=by
 refine AL.Met.introH Tryz.func372 (by decide) rfl rfl rfl (fun i=>?_);refine G8 (VZ 741 (l:=[(0,.s (.one (.ref 740 0))),(1,.s (SZ c))]) (L:=[(740,_),(741,_)]) ⟨B4 rfl,B4 rfl,trivial⟩ i (by repeat (first | exact C3 | refine C4 rfl ?_)) ⟨d,h,trivial⟩) ?_;skip;refine Y6 [11,8] [[],[8],[11,8]] [(8,([741],[8])),(11,([],[]))] [(0,[]),(1,[]),(2,[]),(3,[]),(4,[]),(5,[]),(6,[]),(7,[]),(8,[]),(9,[8]),(10,[8]),(11,[8])] [(0,[8])] (by kernel_rfl) (by kernel_rfl) (H2 Z Z (by kernel_rfl) Z Z (A8 Z Z) (H2 Z Z (by kernel_rfl) Z Z (A8 Z Z) (H2 Z Z (by kernel_rfl) Z Z (B5 Z) (H2 Z Z (by kernel_rfl) Z Z (B1 Z) (H2 Z Z (by kernel_rfl) Z Z (B2 Z Z Z) (H2 Z Z (by kernel_rfl) Z Z (A8 Z Z) (H2 Z Z (by kernel_rfl) Z Z (oD Z Z) (H2 Z Z (by kernel_rfl) Z Z (D9 (c:=G1) (ys:=[c]) (D8 Z Z Z Z H5) Z Z Z) (bC Z Z (by kernel_rfl) Z Z (qV (fun b a=>aG (w9 a Z) Z (w9 a Z) (.pure _ _ _ _) (by (simp only[WW,XD];omega)) Z)) Z (H2 Z Z (by kernel_rfl) Z Z (B5 Z) (H2 Z Z (by kernel_rfl) Z Z (B1 Z) (bC Z Z (by kernel_rfl) Z Z (qU (fun b a=>C1 TySz.out (w9 a Z) Z (w9 a Z) Z Z Z)) Z ?_))))))))))));refine DF (ks:=[741]) rfl (by kernel_rfl) rfl ?_ ?_
 ·refine j6 Z Z (by kernel_rfl) Z Z (A8 Z Z) ?_;exact uP
 skip;exact X1 (eM rfl) (by repeat (first | exact C3 | refine tail_drop rfl ?_ | refine C4 rfl ?_ | refine U2 _ ?_ | refine F8 _ ?_)) (G9 (L:=[(740,_),(741,_)]) ⟨rfl,rfl,trivial⟩ (by repeat (first | exact F6 | refine G3 rfl ?_ | refine gL _ ?_))) ⟨rfl,rfl⟩
theorem MT{gf:Fr}{ob:Obs}(g:Graph)(l:List Int)(p:l.length<=1048576)(m:0<l.length)(c:C5 ob 740=some (dR g))(d:C5 ob 741=some (R7 l)) :
  AL.Met Tryz.prog 371 [.one (.ref 740 0)] gf ob [741] (fun k ob'=>k=[SZ (I8 l (l.length-1))]/\ob'=(740,dR g)::(741,R7 (l.take (l.length-1)))::Obs.forget 741 ob):=by
 have b:l.length-1<l.length:=by omega
 have j:l[((l.length:Int)-1).toNat]?=some (I8 l (l.length-1)):=by rw[show ((l.length:Int)-1).toNat=l.length-1 by omega,O9 b];simp[b]
 have i:l.take ((l.length:Int)-1).toNat=l.take (l.length-1):=by congr 1;omega
 refine AL.Met.introH Tryz.func371 (by decide) rfl rfl rfl (fun h=>?_);refine G8 (VZ 741 (l:=[(0,.s (.one (.ref 740 0)))]) (L:=[(740,_),(741,_)]) ⟨B4 rfl,trivial⟩ h (by repeat (first | exact C3 | refine C4 rfl ?_)) ⟨c,d,trivial⟩) ?_;refine k2 ?_;refine A7 (A6 (A9 Z Z) Z (B0 ?_));refine k1 (k2 ?_);refine A7 (A6 (A8 Z Z) Z (A6 (B5 Z) Z (A6 (B1 Z) Z (A6 (B2 Z Z Z) Z (A6 (y7 Z Z) Z (A6 (O5 Z Z (by omega)) Z (A6 (A9 Z Z) Z (B0 ?_))))))));refine k1 (k2 ?_);refine A7 (A6 (A8 Z Z) Z (A6 (B5 Z) Z (A6 (B1 Z) Z (A6 (B2 Z Z Z) Z (A6 (A8 Z Z) Z (A6 (K9 Z Z Z (by omega) (by omega)) Z (A6 (u0 Z Z j Z) Z (A6 (A9 Z Z) Z (B0 ?_)))))))));refine k1 (k2 ?_);refine A7 (A6 (A8 Z Z) Z (A6 (A8 Z Z) Z (A6 (B5 Z) Z (A6 (B1 Z) Z (A6 (B2 Z Z Z) Z (A6 (A8 Z Z) Z (D6 (pQ Z Z Z (by omega) (by omega) Z) Z (A6 (B5 Z) Z (A6 (B1 Z) Z (F7 (C1 TySz.out Z Z Z Z Z Z) (B0 ?_)))))))))));rw[i];refine k1 (k2 ?_);refine A7 (A6 (A8 Z Z) Z (A6 (jJ Z (by kernel_rfl)) Z (A6 (A9 Z Z) Z (B0 ?_))));refine k1 (I9 ?_);exact I6 (X2 rfl rfl) (by repeat (first | exact C3 | refine C4 rfl ?_ | refine U2 _ ?_ | refine F8 _ ?_)) (G9 (L:=[(740,_),(741,_)]) ⟨rfl,rfl,trivial⟩ (by repeat (first | exact F6 | refine G3 rfl ?_ | refine gL _ ?_))) ⟨rfl,rfl⟩
theorem RA(j:Nat)(a:j<=1048576):IntKind.i64.wrap (((j:Int)-1).tdiv 2)=(((j-1) / 2:Nat):Int):=by
 have h:((j:Int)-1).tdiv 2=(((j-1) / 2:Nat):Int):=by
  cases j with
  | zero=>rfl
  | succ j =>
   rw[show (((j+1:Nat):Int)-1)=(j:Int) by omega,Int.tdiv_eq_ediv_of_nonneg (by omega)];omega
 rw[h];exact IntWalk.i64_in _ ⟨by omega,by omega⟩
theorem rQ{l:List Int}{n:Int}{i j:Nat}(a:i<l.length)(b:j<l.length)(h:∀x∈l,0<=x/\x<n):∀x∈Y0 l i j,0<=x/\x<n:=fun x c=>h x ((wC a b x).1 c)
theorem PF{gf:Fr}{ob:Obs}(g:Graph)(l:List Int)(j:Nat)(F:g.length<=1048576)(K:l.length<=1048576)(H:∀x∈l,0<=x/\x<(g.length:Int))(G:j<l.length)(D:C5 ob 740=some (dR g))(E:C5 ob 741=some (R7 l)) :
  AL.Met Tryz.prog 94 [tX,sI j] gf ob [] (fun I ob'=>I=[]/\ob'=(741,R7 (OD (R2 g) (j+1) l j))::ob):=by
 have q:∀o,C5 ((741,o)::ob) 740=some (dR g):=fun o=>by rw[C8 (by decide)];exact D
 refine AL.Met.introH Tryz.func94 (by decide) rfl rfl rfl (fun z=>?_);refine k3 ?_;obtain⟨R,A⟩:∃R,R=OD (R2 g) (j+1) l j:=⟨_,rfl⟩
 rw[<-A];refine E4 (X:=Nat×List Int×Nat) (fun x=>([(0,.s tX),(1,C7 x.2.2)]++gf,(741,R7 x.2.1)::ob)) (fun x=>OD (R2 g) x.1 x.2.1 x.2.2=R/\x.2.2<x.1/\x.2.1.length=l.length/\x.2.2<l.length/\∀y∈x.2.1,0<=y/\y<(g.length:Int)) (fun x=>x.1) (j+1,l,j) ⟨A.symm,by dsimp only;omega,rfl,G,H⟩ ?_ ?_
 ·exact VW ⟨B4 rfl,B4 rfl,trivial⟩ z (by repeat (first | exact C3 | refine C4 rfl ?_)) (G9 (L:=[(741,_)]) ⟨E,trivial⟩ F6)
 rintro⟨f,d,k⟩ ⟨c,v,t,hkl,m⟩;dsimp only at c v t hkl m ⊢;obtain⟨f,rfl⟩:∃C,f=C+1:=⟨f-1,by omega⟩
 rw[OD]at c;have u:=RA k (by omega);have e:(k-1) / 2<d.length:=by omega
 refine k3 (k2 ?_);refine A7 (A6 (A8 Z Z) Z (A6 (O5 Z Z (by omega)) Z (A6 (OF Z Z (by decide)) Z (A6 (A9 Z Z) Z (B0 ?_)))));rw[u];refine k1 (k2 (k2 ?_));by_cases B:(k-1) / 2=k
 ·rw[A4 (.inl B)]at c;have b:decide ((((k-1) / 2:Nat):Int)=(k:Int))=true:=A2 (by omega);refine A7 (A6 (A8 Z Z) Z (A6 (A8 Z Z) Z (A6 (K4 Z Z) Z (A6 (A8 Z Z) Z (M3 Z Z Z (by rw[b];decide) Z ?_)))));refine M3 Z Z Z (by rw[b];decide) Z ?_;refine M3 Z Z Z (by rw[b];decide) Z ?_;refine M3 Z Z Z (by rw[b];decide) Z ?_;refine M3 Z Z Z (by rw[b];decide) Z ?_;refine A6 (m7 Z (b) Z) Z (B0 ?_);refine k1 ?_;refine B9 rfl (fun p=>?_) (fun p=>?_)
  ·refine k6 (k7 (k9 Z (k7 (k8 Z ?_))));rw[<-c];exact X1 (eM rfl) (by repeat (first | exact C3 | refine C4 rfl ?_ | refine F8 _ ?_)) (fun _ _ h=>h) ⟨rfl,rfl⟩
  ·cases p
 ·have b:decide ((((k-1) / 2:Nat):Int)=(k:Int))=false:=A3 (by omega);refine A7 (A6 (A8 Z Z) Z (A6 (A8 Z Z) Z (A6 (K4 Z Z) Z (A6 (A8 Z Z) Z (K0 Z Z Z b (A6 (A8 Z Z) Z (K0 Z Z Z b (A6 (A8 Z Z) Z (K0 Z Z Z b (A6 (A8 Z Z) Z (K0 Z Z Z b (cB (fun a J w=>by kernel_rfl) (nA g d k ((k-1) / 2) F m (by omega) e (q _) Z) Z Z Z Z ?_))))))))))));rintro _ _ ⟨rfl,rfl⟩;refine K0 Z Z Z b (A6 (N2 Z) Z (A6 (P0 Z (b) Z) Z (B0 ?_)));refine k1 ?_;refine B9 rfl (fun p=>?_) (fun p=>?_)
  ·have hb:R2 g (I8 d k) (I8 d ((k-1) / 2))=false:=by simpa using p
   rw[A4 (.inr hb)]at c;refine k6 (k7 (k9 Z (k7 (k8 Z ?_))));rw[<-c];exact X1 (eM rfl) (by repeat (first | exact C3 | refine C4 rfl ?_ | refine F8 _ ?_)) (fun _ _ h=>h) ⟨rfl,rfl⟩
  ·have hb:R2 g (I8 d k) (I8 d ((k-1) / 2))=true:=by simpa using p
   rw[A5 (by rw[hb];simp[B])]at c;refine k5 (k1 (k2 ?_));refine A7 (A6 (A8 Z Z) Z (A6 (A8 Z Z) Z (A6 (A8 Z Z) Z (cB (fun a J w=>by kernel_rfl) (nB g d ((k-1) / 2) k e (by omega) (q _) Z) Z Z Z Z ?_))));rintro _ _ ⟨rfl,rfl⟩;refine B0 ?_;refine k1 ?_;refine A7 (A6 (A8 Z Z) Z (A6 (A9 Z Z) Z (B0 ?_)));refine k4 (k1 ?_);refine⟨(f,Y0 d ((k-1) / 2) k,(k-1) / 2),⟨c,by dsimp only;omega,by dsimp only;rw[N8];exact t,by dsimp only;omega,rQ e (by omega) m⟩,by dsimp only;omega,?_⟩;exact VW ⟨B4 rfl,B4 rfl,trivial⟩ z (by repeat (first | exact C3 | refine C4 rfl ?_)) (G9 (L:=[(741,_)]) ⟨rfl,trivial⟩ (by repeat (first | exact F6 | refine G3 rfl ?_)))
theorem JC{gf:Fr}{ob:Obs}(g:Graph)(l:List Int)(n:Nat)(D:g.length<=1048576)(hl:l.length<=1048576)(W:∀x∈l,0<=x/\x<(g.length:Int))(hn:n<=l.length)(S:C5 ob 740=some (dR g))(T:C5 ob 741=some (R7 l)) :
  AL.Met Tryz.prog 95 [tX,sI 0,sI n] gf ob [] (fun Y ob'=>∃b,Y=[.one (.p (.v (.bool b)))]/\ob'=(741,R7 (aQ (R2 g) n (n+1) l 0))::ob):=by
 have u:∀o,C5 ((741,o)::ob) 740=some (dR g):=fun o=>by rw[C8 (by decide)];exact S
 refine AL.Met.introH Tryz.func95 (by decide) rfl rfl rfl (fun C=>?_);refine k2 ?_;refine A7 (A6 (A9 Z Z) Z (B0 ?_));refine k1 (k2 ?_);refine A7 (A6 (A8 Z Z) Z (A6 (A9 Z Z) Z (B0 ?_)));refine k1 (k2 (k3 ?_));obtain⟨R,K⟩:∃R,R=aQ (R2 g) n (n+1) l 0:=⟨_,rfl⟩
 rw[<-K];refine E4 (X:=Nat×List Int×Nat) (fun x=>([(0,.s tX),(1,C7 0),(2,C7 n),(7,C7 x.2.2)]++gf,(741,R7 x.2.1)::ob)) (fun x=>aQ (R2 g) n x.1 x.2.1 x.2.2=R/\n<x.1+x.2.2/\x.2.1.length=l.length/\x.2.2<=l.length/\∀y∈x.2.1,0<=y/\y<(g.length:Int)) (fun x=>x.1) (n+1,l,0) ⟨K.symm,by dsimp only;omega,rfl,Nat.zero_le _,W⟩ ?_ ?_
 ·exact VW ⟨B4 rfl,B4 rfl,B4 rfl,B4 rfl,trivial⟩ C (by repeat (first | exact C3 | refine C4 rfl ?_)) (G9 (L:=[(741,_)]) ⟨T,trivial⟩ F6)
 rintro⟨f,c,i⟩ ⟨q,I,E,G,r⟩;dsimp only at q I E G r ⊢;have A:n<=2*i+1->c=R:=fun h=>by
  cases f with
  | zero=>exact q
  | succ f=>rw[aQ,A4 h]at q;exact q
 refine k3 (k2 ?_);refine A7 (A6 (A8 Z Z) Z (A6 (cO Z Z (by omega)) Z (A6 (D5 Z Z (by omega)) Z (A6 (A9 Z Z) Z (B0 ?_)))));refine k1 (k2 (k2 ?_));refine A7 (A6 (A8 Z Z) Z (A6 (A8 Z Z) Z (A6 (U7 Z Z) Z (A6 (A8 Z Z) Z (B6 Z Z Z Z (fun D=>by rw[D];exact A8 Z Z) ?_)))));refine B6 Z Z Z Z (fun D=>by rw[D];exact F3 Z Z) ?_;refine A6 (C6 Z (fun h=>by first | rfl | (rw[h];rfl)) (fun h=>by first | rfl | (rw[h];rfl))) Z ?_;refine B0 ?_;refine k1 ?_;refine B9 rfl (fun m=>?_) (fun m=>?_)
 ·have U:=A0 (or_pick.symm.trans m);rw[A (by omega)];refine k6 (k2 ?_);refine A7 (A6 (A8 Z Z) Z (A6 (A8 Z Z) Z (A6 (P5 Z Z) Z (A6 (A9 Z Z) Z (B0 ?_)))));refine k1 (I9 ?_);exact I6 (X2 rfl rfl) (by repeat (first | exact C3 | refine C4 rfl ?_ | refine F8 _ ?_)) (fun _ _ h=>h) ⟨_,rfl,rfl⟩
 have U:=A1 (or_pick.symm.trans m);have H:2*i+1<n:=by omega
 obtain⟨f,rfl⟩:∃Q,f=Q+1:=⟨f-1,by omega⟩
 rw[aQ,A5 (by omega)]at q;obtain⟨N,O,P⟩:=HJ (bf:=R2 g) (l:=c) H;have t:pL (R2 g) n c i=if 2*i+2<n/\R2 g (I8 c (2*i+2)) (I8 c (2*i+1))=true then 2*i+2 else 2*i+1:=rfl
 obtain⟨j,V⟩:∃j,j=pL (R2 g) n c i:=⟨_,rfl⟩
 rw[<-V]at q N O P t;rw[show 2*(i:Int)+1=((2*i+1:Nat):Int) by omega];refine k5 (k1 (k2 ?_));refine A7 (A6 (A8 Z Z) Z (A6 (A9 Z Z) Z (B0 ?_)));refine k1 (k2 (k2 ?_));refine A7 (A6 (A8 Z Z) Z (A6 (D5 Z Z (by omega)) Z (A6 (A9 Z Z) Z (B0 ?_))));rw[show ((2*i+1:Nat):Int)+1=((2*i+2:Nat):Int) by omega];refine k1 (k2 ?_);obtain⟨B,F⟩:∃B,B=(decide (2*i+2<n)&&R2 g (I8 c (2*i+2)) (I8 c (2*i+1))):=⟨_,rfl⟩
 have d:j=if B=true then 2*i+2 else 2*i+1:=by rw[t,F];simp only[WU,decide_eq_true_eq]
 refine bF ([(0,.s tX),(1,C7 0),(2,C7 n),(7,C7 i),(9,C7 ((2*i+1:Nat):Int)),(10,C7 ((2*i+2:Nat):Int)),(33,R6 B)]++gf) ((741,R7 c)::ob) ?_ ?_
 ·by_cases J:2*i+2<n
  ·have k:decide (((2*i+2:Nat):Int)<(n:Int))=true:=A2 (by omega);have z:B=R2 g (I8 c (2*i+2)) (I8 c (2*i+1)):=by rw[F,A2 J,Bool.true_and]
   rw[z];refine A7 (A6 (A8 Z Z) Z (A6 (A8 Z Z) Z (A6 (F3 Z Z) Z (A6 (A8 Z Z) Z (K0 Z Z Z k (A6 (A8 Z Z) Z (K0 Z Z Z k (A6 (A8 Z Z) Z (K0 Z Z Z k (A6 (A8 Z Z) Z (K0 Z Z Z k (cB (fun a M w=>by kernel_rfl) (nA g c (2*i+2) (2*i+1) D r (by omega) (by omega) (u _) Z) Z Z Z Z ?_))))))))))));rintro _ _ ⟨rfl,rfl⟩;refine A6 (m7 Z (k) Z) Z (B0 ?_);refine k1 ?_;exact VW ⟨B4 rfl,B4 rfl,B4 rfl,B4 rfl,B4 rfl,B4 rfl,B4 rfl,trivial⟩ C (by repeat (first | exact C3 | refine C4 rfl ?_)) (fun _ _ h=>h)
  ·have k:decide (((2*i+2:Nat):Int)<(n:Int))=false:=A3 (by omega);have z:B=false:=by rw[F,A3 J,Bool.false_and]
   rw[z];refine A7 (A6 (A8 Z Z) Z (A6 (A8 Z Z) Z (A6 (F3 Z Z) Z (A6 (A8 Z Z) Z (M3 Z Z Z (by rw[k];decide) Z ?_)))));refine M3 Z Z Z (by rw[k];decide) Z ?_;refine M3 Z Z Z (by rw[k];decide) Z ?_;refine M3 Z Z Z (by rw[k];decide) Z ?_;refine A6 (P0 Z (k) Z) Z (B0 ?_);refine k1 ?_;exact VW ⟨B4 rfl,B4 rfl,B4 rfl,B4 rfl,B4 rfl,B4 rfl,B4 rfl,trivial⟩ C (by repeat (first | exact C3 | refine C4 rfl ?_)) (fun _ _ h=>h)
 skip;refine bF ([(0,.s tX),(1,C7 0),(2,C7 n),(7,C7 i),(9,C7 j)]++gf) ((741,R7 c)::ob) ?_ ?_
 ·refine B9 rfl (fun m=>?_) (fun m=>?_)
  ·rw[A4 m]at d;skip;refine A7 (A6 (A8 Z Z) Z (A6 (A9 Z Z) Z (B0 ?_)));refine k1 ?_;rw[d];exact VW ⟨B4 rfl,B4 rfl,B4 rfl,B4 rfl,B4 rfl,trivial⟩ C (by repeat (first | exact C3 | refine C4 rfl ?_)) (fun _ _ h=>h)
  ·rw[A5 (by rw[m];decide)]at d;refine k5 (k1 ?_);rw[d];exact VW ⟨B4 rfl,B4 rfl,B4 rfl,B4 rfl,B4 rfl,trivial⟩ C (by repeat (first | exact C3 | refine C4 rfl ?_)) (fun _ _ h=>h)
 refine k2 (k2 ?_);refine A7 (A6 (A8 Z Z) Z (A6 (A8 Z Z) Z (A6 (A8 Z Z) Z (cB (fun a M w=>by kernel_rfl) (nA g c j i D r (by omega) (by omega) (u _) Z) Z Z Z Z ?_))));rintro _ _ ⟨rfl,rfl⟩;refine A6 (N2 Z) Z (B0 ?_);refine k1 ?_;refine B9 rfl (fun m=>?_) (fun m=>?_)
 ·have hb:R2 g (I8 c j) (I8 c i)=false:=by simpa using m
  rw[A4 hb]at q;rw[<-q];refine k6 (k2 ?_);refine A7 (A6 (A8 Z Z) Z (A6 (A8 Z Z) Z (A6 (P5 Z Z) Z (A6 (A9 Z Z) Z (B0 ?_)))));refine k1 (I9 ?_);exact I6 (X2 rfl rfl) (by repeat (first | exact C3 | refine C4 rfl ?_ | refine F8 _ ?_)) (fun _ _ h=>h) ⟨_,rfl,rfl⟩
 ·have hb:R2 g (I8 c j) (I8 c i)=true:=by simpa using m
  rw[A5 (by rw[hb];decide)]at q;refine k5 (k1 (k2 ?_));refine A7 (A6 (A8 Z Z) Z (A6 (A8 Z Z) Z (A6 (A8 Z Z) Z (cB (fun a M w=>by kernel_rfl) (nB g c i j (by omega) (by omega) (u _) Z) Z Z Z Z ?_))));rintro _ _ ⟨rfl,rfl⟩;refine B0 ?_;refine k1 ?_;refine A7 (A6 (A8 Z Z) Z (A6 (A9 Z Z) Z (B0 ?_)));refine k4 (k1 ?_);refine⟨(f,Y0 c i j,j),⟨q,by dsimp only;omega,by dsimp only;rw[N8];exact E,by dsimp only;omega,rQ (by omega) (by omega) r⟩,by dsimp only;omega,?_⟩;exact VW ⟨B4 rfl,B4 rfl,B4 rfl,B4 rfl,trivial⟩ C (by repeat (first | exact C3 | refine C4 rfl ?_)) (G9 (L:=[(741,_)]) ⟨rfl,trivial⟩ (by repeat (first | exact F6 | refine G3 rfl ?_)))
theorem vJ{gf:Fr}{ob:Obs}(g:Graph)(l:List Int)(c:Int)(r:g.length<=1000)(u:l.length<=1000)(p:∀x∈l,0<=x/\x<(g.length:Int))(m:0<=c/\c<g.length)(i:C5 ob 740=some (dR g))(j:C5 ob 741=some (R7 l)) :
  AL.Met Tryz.prog 46 [tX,SZ c] gf ob [741] (fun rs ob'=>rs=[]/\ob'=(740,dR g)::(741,R7 (mD (R2 g) l c))::Obs.forget 741 ob):=by
 have f:∀x∈l++[c],0<=x/\x<(g.length:Int):=fun x d=>by
  rcases WZ.1 d with d | d
  ·exact p x d
  ·rw[List.mem_singleton.1 d];exact m
 have b:(l++[c]).length=l.length+1:=by simp
 have o:OD (R2 g) (l.length+1) (l++[c]) l.length=mD (R2 g) l c:=rfl;refine AL.Met.introH Tryz.func46 (by decide) rfl rfl rfl (fun k=>?_);refine G8 (VZ 741 (l:=[(0,.s tX),(1,.s (SZ c))]) (L:=[(740,_),(741,_)]) ⟨B4 rfl,B4 rfl,trivial⟩ k (by repeat (first | exact C3 | refine C4 rfl ?_)) ⟨i,j,trivial⟩) ?_;refine k2 ?_;refine A7 (A6 (A8 Z Z) Z (A6 (A8 Z Z) Z (cB (fun a q w=>by kernel_rfl) (JB g l c (by omega) Z Z) Z Z Z Z ?_)));rintro _ _ ⟨rfl,rfl⟩;refine B0 ?_;refine k1 ?_;refine A7 (A6 (A8 Z Z) Z (A6 (A8 Z Z) Z (cB (fun a q w=>by kernel_rfl) (rP g (l++[c]) Z Z) Z Z Z Z ?_)));rintro _ _ ⟨rfl,rfl⟩;refine A6 (O5 Z Z (by (rw[b];omega))) Z ?_;refine Z7 ((by rw[b,show (((l.length+1:Nat):Int))-1=((l.length:Nat):Int) by omega];exact PF g (l++[c]) l.length (by omega) (by omega) f (by omega) Z Z)) Z Z Z ?_;rintro _ _ ⟨rfl,rfl⟩;refine B0 ?_;rw[o];skip;exact X1 (eM rfl) (by repeat (first | exact C3 | refine C4 rfl ?_ | refine U2 _ ?_ | refine F8 _ ?_)) (G9 (L:=[(740,_),(741,_)]) ⟨rfl,rfl,trivial⟩ (by repeat (first | exact F6 | refine G3 rfl ?_ | refine gL _ ?_))) ⟨rfl,rfl⟩
theorem MU{gf:Fr}{ob:Obs}(g:Graph)(l:List Int)(B:g.length<=1000)(C:l.length<=1000)(p:0<l.length)(y:∀x∈l,0<=x/\x<(g.length:Int))(r:C5 ob 740=some (dR g))(u:C5 ob 741=some (R7 l)) :
  AL.Met Tryz.prog 48 [tX] gf ob [741] (fun rs ob'=>rs=[SZ (I8 (kD (R2 g) l) (l.length-1))]/\ob'=(740,dR g)::(741,R7 ((kD (R2 g) l).take (l.length-1)))::Obs.forget 741 ob):=by
 have z:=N8 l 0 (l.length-1);have m:=rQ (n:=(g.length:Int)) (i:=0) (j:=l.length-1) p (by omega) y;have c:aQ (R2 g) (l.length-1) (l.length-1+1) (Y0 l 0 (l.length-1)) 0=kD (R2 g) l:=by unfold kD;rw[show l.length-1+1=l.length by omega]
 have d:(kD (R2 g) l).length=l.length:=by
  rw[<-c]
  exact (by
   have o:∀(f i:Nat) (x:List Int),(aQ (R2 g) (l.length-1) f x i).length=x.length:=by
    intro f;induction f with
    | zero=>intro i x;rfl
    | succ f A =>
     intro i x;rw[aQ];split
     ·rfl
     ·split
      ·rfl
      ·rw[A,N8]
   rw[o,N8])
 refine AL.Met.introH Tryz.func48 (by decide) rfl rfl rfl (fun v=>?_);refine G8 (VZ 741 (l:=[(0,.s tX)]) (L:=[(740,_),(741,_)]) ⟨B4 rfl,trivial⟩ v (by repeat (first | exact C3 | refine C4 rfl ?_)) ⟨r,u,trivial⟩) ?_;refine k2 ?_;refine A7 (A6 (A9 Z Z) Z (B0 ?_));refine k1 (k2 ?_);refine A7 (A6 (A8 Z Z) Z (cB (fun a q w=>by kernel_rfl) (rP g l Z Z) Z Z Z Z ?_));rintro _ _ ⟨rfl,rfl⟩;refine A6 (O5 Z Z (by omega)) Z (A6 (A9 Z Z) Z (B0 ?_));rw[show ((l.length:Nat):Int)-1=((l.length-1:Nat):Int) by omega];refine k1 (k2 ?_);refine A7 (A6 (A8 Z Z) Z (A6 (A8 Z Z) Z (cB (fun a q w=>by kernel_rfl) (nB g l 0 (l.length-1) p (by omega) Z Z) Z Z Z Z ?_)));rintro _ _ ⟨rfl,rfl⟩;refine B0 ?_;refine k1 (k2 ?_);refine A7 (A6 (A8 Z Z) Z (A6 (A8 Z Z) Z (Z7 (JC g (Y0 l 0 (l.length-1)) (l.length-1) (by omega) (by omega) m (by omega) Z Z) Z Z Z ?_)));rintro _ _ ⟨b,rfl,rfl⟩;refine B0 ?_;rw[c];refine k1 (k2 ?_);refine A7 (A6 (A8 Z Z) Z (cB (fun a q w=>by kernel_rfl) ((by rw[<-d];exact MT g (kD (R2 g) l) (by omega) (by omega) Z Z)) Z Z Z Z ?_));rintro _ _ ⟨rfl,rfl⟩;refine A6 (A9 Z Z) Z (B0 ?_);rw[d];refine k1 (I9 ?_);exact I6 (X2 rfl rfl) (by repeat (first | exact C3 | refine C4 rfl ?_ | refine U2 _ ?_ | refine F8 _ ?_)) (G9 (L:=[(740,_),(741,_)]) ⟨rfl,rfl,trivial⟩ (by repeat (first | exact F6 | refine G3 rfl ?_ | refine gL _ ?_))) ⟨rfl,rfl⟩
theorem OInv.ub{g:Graph}{a:List Bool}{k i:Nat}{d c b:List Int}(h:OInv g a k i d c b)(p:Nat)(c:p<g.length):-1<=I8 d p/\I8 d p<=g.length:=by
 cases e:L4 a p
 ·have:=h.off p c e;omega
 ·have f:=h.cnt p c e;have j:=yS g a (b.take k) p;split at f<;>omega
theorem vK(g:Graph)(s:Int)(h:FewT g):FnOk Tryz.prog 17 [H4 g,O6 [s]] (fun rs=>rs=[O6 (cM g s).1,E8 (cM g s).2]):=by
 have hg:=h.few.len;refine FnOk.intro Tryz.func17 (by decide) Z Z Z Z ?_;refine k2 ?_;refine A7 (A6 (A9 Z Z) Z (A6 (A9 Z Z) Z (B0 ?_)));refine k1 (k2 (k2 ?_));refine A7 (A6 (A8 Z Z) Z (D1 (gO g h) Z Z Z ?_));rintro _ rfl;refine A6 (A9 Z Z) Z (B0 ?_);refine k1 (k2 ?_);refine A7 (A6 (A8 Z Z) Z (A6 (N5 Z Z) Z (B0 ?_)));refine k1 ?_;refine B9 rfl (fun d=>?_) (fun d=>?_)
 ·have D:N1 g≠0:=A0 d;refine k2 ?_;refine A7 (A6 (A8 Z Z) Z (A6 (J1 _ 1 G1) Z (A6 (A9 Z Z) Z (B0 ?_))));refine k1 (I9 (N4 ?_));exact C2 (rs:=[O6 [],E8 (N1 g)]) (U1 rfl rfl rfl rfl rfl) (by unfold cM;rw[A4 D])
 have D:¬N1 g≠0:=A1 d;have K:=gA (Decidable.not_not.1 D);refine k5 (k1 (k2 (k2 ?_)));refine A7 (A6 (A8 Z Z) Z (A6 (F0 Z (.pure _ _ _ _)) Z (A6 (A8 Z Z) Z (B0 ?_))));refine k1 (k3 ?_);refine E4 (X:=Nat) (fun i=>([(0,E3 Commit 3 H3 g),(1,E3 Int 1 G1 [s]),(23,E3 Int 1 G1 [s]),(24,C7 1),(25,C7 i)],[])) (fun i=>i<=1/\(i=1->T6 g s)) (fun i=>1-i) 0 ⟨Nat.zero_le _,fun h=>by cases h⟩ (Sees.of ⟨B4 rfl,B4 rfl,B4 rfl,B4 rfl,B4 rfl,trivial⟩ trivial) ?_;rintro i ⟨U,hs⟩;dsimp only at U hs ⊢;refine k2 ?_;refine A7 (A6 (F3 Z Z) Z (B0 ?_));refine k1 (k2 ?_);refine B9 rfl (fun d=>?_) (fun d=>?_)
 ·have G:i=0:=by have D:=A0 d;omega
  subst G;have hv:[s][((0:Nat):Int).toNat]?=some s:=rfl;refine k5 (k1 (k2 (k3 (k2 ?_))));refine A7 (A6 (B8 Z (.pure _ _ _ _) Z (by omega) hv) Z (A6 (C0 Z Z) Z (A6 (A9 Z Z) Z (B0 ?_))));refine k1 (k2 ?_);refine A7 (A6 (A8 Z Z) Z (A6 (A8 Z Z) Z (D1 (mY g s) Z Z Z ?_)));rintro _ rfl;refine A6 (N2 Z) Z (B0 ?_);refine k1 ?_;refine B9 rfl (fun d=>?_) (fun d=>?_)
  ·have z:¬T6 g s:=by simpa using d
   refine k2 ?_;refine A7 (A6 (J1 _ 1 G1) Z (A6 (A9 Z Z) Z (B0 ?_)));refine k1 (I9 (W5 (N4 (N4 (W5 (N4 ?_))))));exact C2 (rs:=[O6 [],E8 5]) (U1 rfl rfl rfl rfl rfl) (by unfold cM;rw[A5 D,A5 z])
  ·have z:T6 g s:=by simpa using d
   refine k5 (k4 (k1 ?_));refine A7 (A6 (D5 Z Z (by omega)) Z (A6 (A8 Z Z) Z (B0 ?_)));refine k1 ?_;exact⟨1,⟨Nat.le_refl _,fun _=>z⟩,by omega,(Sees.of ⟨B4 rfl,B4 rfl,B4 rfl,B4 rfl,B4 rfl,trivial⟩ trivial)⟩
 have ai:i=1:=by have D:=A1 d;omega
 have hs:=hs ai;have ac:cM g s=(J9 g [s],0):=by unfold cM;rw[A5 D,A4 hs]
 rw[ac];have ae:∀f∈[s],0<=f/\f<g.length:=fun f hf=>by rw[List.mem_singleton.1 hf];exact hs
 refine k6 (k2 ?_);refine A7 (A6 (A8 Z Z) Z (A6 (A9 Z Z) Z (B0 ?_)));refine k1 (k2 ?_);refine A7 (A6 (A8 Z Z) Z (A6 (A8 Z Z) Z (qY (xY g [s] h.few K.rel ae (by simp)) Z Z Z Z ?_)));rintro _ _ ⟨q,rfl,rfl,j,O⟩;refine⟨rfl,?_⟩;refine A6 (A9 Z Z) Z (B0 ?_);have T:=eG K.rel [s] ae;obtain⟨y,E⟩:∃y,y=J3 g [s]:=⟨_,rfl⟩
 have ak:y.length=g.length:=by rw[E];exact BN g _
 have W:J9 g [s]=eI g y (g.length+1) []:=by rw[E];rfl
 rw[<-E]at O T;rw[W];have ap:∀p,p<g.length -> -1<=I8 q p/\I8 q p<=g.length:=fun p v=>by
  rw[O p v];have:=yS g y [] p;split<;>omega
 refine k1 (k2 ?_);refine A7 (A6 (A8 Z Z) Z (A6 (zU (cs:=[.list Commit 3 H3 g]) Z Z) Z (A6 (H1 Z) Z (D6 (j1 740 Z Z Z) Z (A6 (A9 Z Z) Z (B0 ?_))))));refine k1 (k2 (k2 ?_));refine G8 (WD 741 Int 1 G1 3 (kb:=740) (o:=0) Z Z Z) ?_;refine A7 (A6 (A8 Z Z) Z (A6 (cP Z Z) Z (A6 (A8 Z Z) Z (B0 ?_))));refine k1 (k3 ?_);refine E4 (X:=Nat×List Int) (fun x=>([(0,E3 Commit 3 H3 g),(10,.s (.one (.mut 753))),(11,.s (.one (.ref 740 0))),(42,.s (.one (.mut 753))),(43,C7 g.length),(44,C7 x.1)],[(740,dR g),(741,R7 x.2),(753,rO q)])) (fun x=>x.1<=g.length/\HInv g q x.2 x.1) (fun x=>g.length-x.1) (0,[]) ⟨Nat.zero_le _,HInv.nil g q⟩ (by rw[<-j];exact (Sees.of ⟨B4 rfl,B4 rfl,B4 rfl,B4 rfl,B4 rfl,B4 rfl,trivial⟩ ⟨rfl,rfl,rfl,trivial⟩)) ?_;rintro⟨i,v⟩ ⟨U,R⟩;dsimp only at U R ⊢;have ab:=R.le;refine k2 ?_;refine A7 (A6 (F3 Z Z) Z (B0 ?_));refine k1 (k2 ?_);refine B9 rfl (fun d=>?_) (fun d=>?_)
 ·have G:i<g.length:=by have D:=A0 d;(try dsimp only at D);omega
  have J:=jM (l:=q) (p:=(i:Int)) (by omega);rw[WV]at J;have S:=R.step;have al:∀x∈v,0<=x/\x<(g.length:Int):=fun x hx=>by have:=R.rng x hx;omega
  refine k5 (k1 (k2 (k3 (k2 ?_))));refine A7 (A6 (A8 Z Z) Z (A6 (E2 Z Z Z (by omega) (by omega)) Z (A6 (L1 Z Z J Z) Z (A6 (A9 Z Z) Z (A6 (A9 Z Z) Z (B0 ?_))))));refine k1 (k2 ?_);refine A7 (A6 (A8 Z Z) Z (A6 (K4 Z Z) Z (B0 ?_)));refine k1 ?_;refine B9 rfl (fun d=>?_) (fun d=>?_)
  ·have z:I8 q i=0:=A0 d;rw[A4 z]at S;skip;refine A7 (A6 (A8 Z Z) Z (A6 (dL Z (by kernel_rfl)) Z (A6 (A8 Z Z) Z (A6 (jJ Z (by kernel_rfl)) Z (Z7 (vJ g v i hg (by omega) al (by omega) Z Z) Z Z Z ?_)))));rintro _ _ ⟨rfl,rfl⟩;refine B0 ?_;refine k4 (k1 ?_);refine A7 (A6 (D5 Z Z (by omega)) Z (A6 (A8 Z Z) Z (B0 ?_)));refine k1 ?_;exact⟨(i+1,mD (R2 g) v i),⟨G,S⟩,by dsimp only;omega,(Sees.of ⟨B4 rfl,B4 rfl,B4 rfl,B4 rfl,B4 rfl,B4 rfl,trivial⟩ ⟨rfl,rfl,rfl,trivial⟩)⟩
  ·have z:¬I8 q i=0:=A1 d;rw[A5 z]at S;refine k5 (k4 (k1 ?_));refine A7 (A6 (D5 Z Z (by omega)) Z (A6 (A8 Z Z) Z (B0 ?_)));refine k1 ?_;exact⟨(i+1,v),⟨G,S⟩,by dsimp only;omega,(Sees.of ⟨B4 rfl,B4 rfl,B4 rfl,B4 rfl,B4 rfl,B4 rfl,trivial⟩ ⟨rfl,rfl,rfl,trivial⟩)⟩
 have aj:i=g.length:=by have D:=A1 d;(try dsimp only at D);omega
 rw[aj]at R;have w:=OInv.start j ak O R;refine k6 (k2 ?_);refine A7 (D6 (y6 14 _ G1 Z) Z (B0 ?_));refine k1 (k2 (k3 ?_));refine E4 (X:=List Int×List Int×List Int) (fun x=>([(0,E3 Commit 3 H3 g),(10,.s (.one (.mut 753))),(11,.s (.one (.ref 740 0))),(14,.s (.one (.buf 14 Int 1 G1 x.2.2)))],[(14,.spare x.2.2.length 1 3),(740,dR g),(741,R7 x.2.1),(753,rO x.1)])) (fun x=>OInv g y x.2.2.length 0 x.1 x.2.1 x.2.2/\eI g y (g.length+1-x.2.2.length) x.2.2=eI g y (g.length+1) []) (fun x=>g.length+1-x.2.2.length) (q,v,[]) ⟨w,rfl⟩ (Sees.of ⟨B4 rfl,B4 rfl,B4 rfl,B4 rfl,trivial⟩ ⟨rfl,rfl,rfl,rfl,trivial⟩) ?_;rintro⟨q,v,B⟩ ⟨w,F⟩;dsimp only at w F ⊢;obtain⟨aq,ab⟩:=w.le;have j:=w.len;refine k2 (k2 ?_);refine A7 (A6 (A8 Z Z) Z (Z7 (rP g v Z Z) Z Z Z ?_));rintro _ _ ⟨rfl,rfl⟩;refine A6 (P5 Z Z) Z (B0 ?_);refine k1 ?_;refine B9 rfl (fun d=>?_) (fun d=>?_);rotate_left
 ·have z:v=[]:=by
   have z:=A1 d;exact List.length_eq_zero_iff.1 (by omega)
  rw[z]at w;have hb:=w.fin;rw[NO (by omega)]at F;rw[<-F];refine k6 (k2 ?_);refine A7 (A6 (A8 Z Z) Z (A6 (A9 Z Z) Z (A6 (A9 Z Z) Z (B0 ?_))));refine k1 (I9 ?_);exact C2 (rs:=[O6 B,E8 0]) (U1 rfl rfl rfl rfl rfl) rfl
 have H:0<v.length:=by have z:=A0 d;omega
 obtain⟨b1,b2,b3⟩:=w.pop H;have hm:I8 v 0∈v:=by rw[O9 H];exact WY H
 have au:=w.hpr _ hm;obtain⟨c,hc⟩:∃c:Nat,I8 v 0=(c:Int):=⟨(I8 v 0).toNat,by omega⟩
 rw[KA (by omega) (by omega),b1,hc]at F;rw[hc]at b2 b3;have M:c<g.length:=by omega
 obtain⟨C,P⟩:∃C,C=g[c]:=⟨_,rfl⟩
 have am:g[((c:Nat):Int).toNat]?=some C:=by rw[P];simp[M]
 have I:E1 g c=C.Parents:=by rw[X8 M,P]
 have ao:=h.few.pars C (by rw[P];exact WY M);obtain⟨Q,L⟩:∃Q,Q=(kD (R2 g) v).take (v.length-1):=⟨_,rfl⟩
 refine k5 (k1 (k3 (k2 ?_)));refine A7 (A6 (A8 Z Z) Z (A6 (dL Z (by kernel_rfl)) Z (Z7 (MU g v hg (by omega) H w.hpr Z Z) Z Z Z ?_)));rintro _ _ ⟨rfl,rfl⟩;refine A6 (oD Z Z) Z (A6 (A9 Z Z) Z (B0 ?_));rw[b3,<-L];rw[<-L]at b2;refine k1 (k2 ?_);refine A7 (A6 (A8 Z Z) Z (A6 (A8 Z Z) Z (A6 (D9 (c:=G1) (ys:=[(c:Int)]) (D8 Z Z Z Z H5) Z Z Z) Z (D6 (N6 Z Z Z (.pure _ _ _ _) (by (simp only[WW,XD];omega)) Z) Z (A6 (A9 Z Z) Z (B0 ?_))))));refine k1 (k2 ?_);refine A7 (A6 (A8 Z Z) Z (A6 (A8 Z Z) Z (A6 (B8 Z (.pure _ _ _ _) Z (by omega) am) Z (A6 (C9 Z) Z (A6 (C0 Z Z) Z (A6 (F0 Z (.pure _ _ _ _)) Z (A6 (A8 Z Z) Z (B0 ?_))))))));refine k1 (k3 ?_);refine E4 (X:=Nat×List Int×List Int) (fun x=>([(0,E3 Commit 3 H3 g),(10,.s (.one (.mut 753))),(11,.s (.one (.ref 740 0))),(14,.s (.one (.buf 14 Int 1 G1 (B++[(c:Int)])))),(72,E3 Int 1 G1 C.Parents),(73,C7 C.Parents.length),(74,C7 x.1)],[(14,.spare (B++[(c:Int)]).length 1 3),(740,dR g),(741,R7 x.2.2),(753,rO x.2.1)])) (fun x=>x.1<=C.Parents.length/\OInv g y B.length x.1 x.2.1 x.2.2 (B++[(c:Int)])) (fun x=>C.Parents.length-x.1) (0,q,Q) ⟨Nat.zero_le _,b2⟩ (Sees.of ⟨B4 rfl,B4 rfl,B4 rfl,B4 rfl,B4 rfl,B4 rfl,B4 rfl,trivial⟩ ⟨rfl,rfl,rfl,rfl,trivial⟩) ?_;rintro⟨i,q,v⟩ ⟨U,w⟩;dsimp only at U w ⊢;obtain⟨V,ab⟩:=w.le;have j:=w.len;have av:=OInv.ub w;have ag:(B++[(c:Int)])[B.length]?=some (c:Int):=by rw[XJ (Nat.le_refl _),YK];rfl
 rw[WX,List.length_singleton]at V;refine k2 ?_;refine A7 (A6 (F3 Z Z) Z (B0 ?_));refine k1 (k2 ?_);refine B9 rfl (fun d=>?_) (fun d=>?_);rotate_left
 ·have z:i=C.Parents.length:=by have D:=A1 d;(try dsimp only at D);omega
  rw[z,<-I]at w;have S:=w.next (by simp) ag;refine k6 (k7 (k7 (k8 Z (k4 (k1 ?_)))));refine⟨(q,v,B++[(c:Int)]),⟨S,?_⟩,by dsimp only;rw[WX,List.length_singleton];omega,(Sees.of ⟨B4 rfl,B4 rfl,B4 rfl,B4 rfl,trivial⟩ ⟨rfl,rfl,rfl,rfl,trivial⟩)⟩;dsimp only;rw[<-F,WX,List.length_singleton]
  congr 1<;>omega
 have A:i<C.Parents.length:=by have D:=A0 d;(try dsimp only at D);omega
 have ar:=(K2 K.rel c).1 C.Parents[i] (by rw[I];exact WY A);obtain⟨p,Y⟩:∃p:Nat,C.Parents[i]=(p:Int):=⟨C.Parents[i].toNat,by omega⟩
 have an:C.Parents[i]?=some (p:Int):=by rw[WT A,Y]
 obtain⟨s1,s2,s3,s4,s5⟩:=w.step K.rel T (by simp) ag (i:=i) (p:=p) (by rw[I];exact A) (by simp only[I];exact Y);have J:=jM (l:=q) (p:=(p:Int)) (by omega);have af:(T9 q p)[((p:Nat):Int).toNat]?=some (I8 q p-1):=by
  unfold T9;rw[WV,List.getElem?_set_self (by omega)]
 have ah:(T9 q p).length=g.length:=by unfold T9;rw[XX,j]
 have ad:q.set ((p:Nat):Int).toNat (I8 q ((p:Nat):Int).toNat-1)=T9 q p:=rfl;refine k5 (k1 (k2 (k3 (k2 ?_))));refine A7 (A6 (B8 Z (.pure _ _ _ _) Z (by omega) an) Z (A6 (C0 Z Z) Z (A6 (A9 Z Z) Z (B0 ?_))));refine k1 (k2 ?_);refine A7 (A6 (A8 Z Z) Z (A6 (A8 Z Z) Z (A6 (E2 Z Z Z (by omega) (by (rw[j];omega))) Z ?_)));refine A6 (L1 Z Z J Z) Z (A6 (O5 Z Z (by (rw[WV];omega))) Z ?_);refine A6 (E2 Z Z Z (by omega) (by (rw[j];omega))) Z ?_;refine F7 (J8 TySz.out Z Z (by (rw[j];omega)) Z Z) ?_;refine B0 ?_;rw[ad];refine k1 (k2 ?_);refine A7 (A6 (A8 Z Z) Z (A6 (A8 Z Z) Z (A6 (E2 Z Z Z (by omega) (by (rw[ah];omega))) Z ?_)));refine A6 (L1 Z Z af Z) Z (A6 (K4 Z Z) Z (B0 ?_));refine k1 ?_;refine B9 rfl (fun d=>?_) (fun d=>?_)
 ·have z:I8 q p-1=0:=A0 d;rw[A4 z]at s5;skip;refine A7 (A6 (A8 Z Z) Z (A6 (dL Z (by kernel_rfl)) Z (A6 (A8 Z Z) Z (A6 (jJ Z (by kernel_rfl)) Z (Z7 (vJ g v p hg (by omega) w.hpr (by omega) Z Z) Z Z Z ?_)))));rintro _ _ ⟨rfl,rfl⟩;refine B0 ?_;refine k4 (k1 ?_);refine A7 (A6 (D5 Z Z (by omega)) Z (A6 (A8 Z Z) Z (B0 ?_)));refine k1 ?_;exact⟨(i+1,T9 q p,mD (R2 g) v p),⟨A,s5⟩,by dsimp only;omega,(Sees.of ⟨B4 rfl,B4 rfl,B4 rfl,B4 rfl,B4 rfl,B4 rfl,B4 rfl,trivial⟩ ⟨rfl,rfl,rfl,rfl,trivial⟩)⟩
 ·have z:¬I8 q p-1=0:=A1 d;rw[A5 z]at s5;refine k5 (k4 (k1 ?_));refine A7 (A6 (D5 Z Z (by omega)) Z (A6 (A8 Z Z) Z (B0 ?_)));refine k1 ?_;exact⟨(i+1,T9 q p,v),⟨A,s5⟩,by dsimp only;omega,(Sees.of ⟨B4 rfl,B4 rfl,B4 rfl,B4 rfl,B4 rfl,B4 rfl,B4 rfl,trivial⟩ ⟨rfl,rfl,rfl,rfl,trivial⟩)⟩
end Go.Proofs.YtbflhoahmmfkmaaGreatDoor
