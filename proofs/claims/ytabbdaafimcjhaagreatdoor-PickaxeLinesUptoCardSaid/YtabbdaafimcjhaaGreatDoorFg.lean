
/- Walks of the program's functions. -/
import Derived.Test.YtabbdaafimcjhaaGreatDoorFf
set_option linter.all false
namespace Go.Proofs.YtabbdaafimcjhaaGreatDoor
open Go Go.AL
set_option maxRecDepth 100000
set_option maxHeartbeats 4000000
theorem KR{α:Type}{l:List α}{i:Nat}{x:α}(h:l[i]?=some x):l.take (i+1)=l.take i++[x]:=by rw[List.take_add_one,h];rfl
theorem CH{gf:Fr}{ob:Obs}(A:AL.Auto)(s:Str)(a:Nat)(b:List AL.Thread)(k:List Bool)(z:∀t∈b,0<=t.state/\t.state<A.States.length)(I:b.length<=8000)(D:B6 ob 830=some (fN A s a))(E:B6 ob 831=some (CG b))(F:B6 ob 832=some (xR k))(G:B6 ob 835=none) :
  AL.Met Tryz.prog 133 [dX] gf ob [835] (fun rs ob'=>rs=[N8 (T3 A b)]/\ob'=(830,fN A s a)::(831,CG b)::(832,xR k)::F9 [835] ob):=by
 refine AL.Met.introH Tryz.func133 F2 rfl rfl rfl (fun j=>?_);refine C1 (B14 835 (l:=[(0,.s dX)]) (L:=[(830,_),(831,_),(832,_)]) ⟨Y7 rfl,trivial⟩ j I8 ⟨D,E,F,trivial⟩) ?_;refine C1 (B13 (gf':=B5 [835] gf) (l:=[(0,.s dX)]) (ob':=[(830,fN A s a),(831,CG b),(832,xR k)]++F9 [835] ob) ⟨Y7 rfl,trivial⟩ (B1 j) jJ (C8 (L:=[(830,_),(831,_),(832,_)]) ⟨rfl,rfl,rfl,trivial⟩ MS)) ?_;have v:B6 (F9 [835] ob) 835=none:=Y5 G;refine zz 15 ?_;refine C2 (X:=Nat) (fun i=>([(0,.s dX),(8,.s (.one (.mut 831))),(9,B7 b.length),(10,B7 i)]++B5 [835] gf,[(830,fN A s a),(831,CG b),(832,xR k)]++F9 [835] ob)) (fun i=>i<=b.length/\T3 A (b.drop i)=T3 A b) (fun i=>b.length-i) 0 ⟨Nat.zero_le _,rfl⟩ ?_ ?_
 ·exact B13 lf (B1 j) jJ (C8 (L:=[(830,_),(831,_),(832,_)]) ⟨rfl,rfl,rfl,trivial⟩ b4w)
 rintro i ⟨H,c⟩;dsimp only at H c ⊢;refine zc 5 (fun f=>?_) fun f=>?_;rotate_left
 ·have w:i=b.length:=by have:=A3 f;omega
  rw[w,List.drop_length]at c;rw[<-c];refine zz 6 ?_;exact C7 (F1 rfl rfl) jJ (C8 (L:=[(830,_),(831,_),(832,_)]) ⟨rfl,rfl,rfl,trivial⟩ b4w) ⟨rfl,rfl⟩
 have g:i<b.length:=by have:=A1 f;omega
 obtain⟨t,h⟩:∃t,t=b[i]:=⟨_,rfl⟩
 have C:b[i]?=some t:=by rw[h];simp[g]
 obtain⟨x,y⟩:=z t (B52 C);have B:=uW (A:=A) ⟨x,y⟩;rw[B55 g,<-h,T3]at c;refine zz 6 ?_;refine B0 (fB A0 A0 C A0) A0 (C4 (eP 835 v F2) A0 (zz 11 ?_));refine D1 (A9 A0 (.pure _ _ _ _) A0 B3 B) A0 A0 ?_;refine zc 4 (fun f=>?_) fun f=>?_
 ·have q:(O8 A t.state).Kind=4:=A1 f;rw[A6 q]at c;rw[<-c];refine zz 7 ?_;exact C7 (F1 rfl rfl) jJ (C8 (L:=[(830,_),(831,_),(832,_)]) ⟨rfl,rfl,rfl,trivial⟩ b4w) ⟨rfl,rfl⟩
 have q:¬(O8 A t.state).Kind=4:=A3 f;rw[A7 q]at c;refine zz 5 ?_;exact⟨i+1,⟨by omega,c⟩,by omega,B13 lf (B1 j) jJ (C8 (L:=[(830,_),(831,_),(832,_)]) ⟨rfl,rfl,rfl,trivial⟩ b4w)⟩
theorem UK{gf:Fr}{ob:Obs}(A:AL.Auto)(s:Str)(a:Nat)(fr:Int)(b:List AL.Thread)(k:List Bool)(G:b.length<=8000)(z:B6 ob 830=some (fN A s a))(B:B6 ob 831=some (CG b))(C:B6 ob 832=some (xR k))(D:B6 ob 835=none) :
  AL.Met Tryz.prog 134 [dX,N8 fr] gf ob [831,835] (fun rs ob'=>rs=[]/\ob'=(830,fN A s a)::(831,CG (gC fr b))::(832,xR k)::F9 [831,835] ob):=by
 refine AL.Met.introH Tryz.func134 F2 rfl rfl rfl (fun j=>?_);refine C1 (B14 831 (l:=[(0,.s dX),(1,.s (N8 fr))]) (L:=[(830,_),(831,_),(832,_)]) lf j I8 ⟨z,B,C,trivial⟩) ?_;refine C1 (Sees.forget 835) (C1 (B13 (gf':=B5 [831,835] gf) (l:=[(0,.s dX),(1,.s (N8 fr))]) (ob':=[(830,fN A s a),(831,CG b),(832,xR k)]++F9 [831,835] ob) lf (B1 j) jJ (C8 (L:=[(830,_),(831,_),(832,_)]) ⟨rfl,rfl,rfl,trivial⟩ MS)) ?_);have p:B6 (F9 [831,835] ob) 835=none:=Y5 D;refine zz 10 ?_;refine C2 (X:=Nat) (fun i=>([(0,.s dX),(1,.s (N8 fr)),(9,.s (.one (.mut 831))),(10,B7 b.length),(11,B7 i)]++B5 [831,835] gf,[(830,fN A s a),(831,CG b),(832,xR k)]++F9 [831,835] ob)) (fun i=>i<=b.length/\∀t∈b.take i,t.from_<=fr) (fun i=>b.length-i) 0 ⟨Nat.zero_le _,fun _ h=>by cases h⟩ ?_ ?_
 ·exact B13 lf (B1 j) jJ (C8 (L:=[(830,_),(831,_),(832,_)]) ⟨rfl,rfl,rfl,trivial⟩ b4w)
 rintro i ⟨E,c⟩;dsimp only at E c ⊢;refine zc 5 (fun f=>?_) fun f=>?_;rotate_left
 ·have g:i=b.length:=by have:=A3 f;omega
  have r:gC fr b=b:=by
   rw[sJ (i:=i) c (fun t h=>by rw[g,B56 (Nat.le_refl _)]at h;cases h),g,B51]
  rw[r];refine zz 1 ?_;exact T6 (gQ rfl) jJ (C8 (L:=[(830,_),(831,_),(832,_)]) ⟨rfl,rfl,rfl,trivial⟩ b4w) ⟨rfl,rfl⟩
 have v:i<b.length:=by have:=A1 f;omega
 obtain⟨t,w⟩:∃t,t=b[i]:=⟨_,rfl⟩
 have y:b[i]?=some t:=by rw[w];simp[v]
 refine zz 7 ?_;refine B0 (fB A0 A0 y A0) A0 (C4 (eP 835 p F2) A0 ?_);refine zc 10 (fun f=>?_) fun f=>?_
 ·have q:t.from_>fr:=A1 f;have r:gC fr b=b.take i:=sJ c (fun x d=>by rw[y]at d;cases d;exact q);rw[r];refine zz 13 ?_;rw[B45];refine zz 1 ?_;exact C7 (gQ rfl) jJ (C8 (L:=[(830,_),(831,_),(832,_)]) ⟨rfl,rfl,rfl,trivial⟩ b4w) ⟨rfl,rfl⟩
 have F:¬t.from_>fr:=A3 f;refine zz 5 ?_
 exact⟨i+1,⟨by omega,fun x d=>by
  rw[KR y]at d;rcases List.mem_append.1 d with d | d
  ·exact c x d
  ·rw[List.mem_singleton.1 d];omega⟩,by omega,B13 lf (B1 j) jJ (C8 (L:=[(830,_),(831,_),(832,_)]) ⟨rfl,rfl,rfl,trivial⟩ b4w)⟩
theorem b1w{p:Prop}(h:p:=by repeat (first | exact X0 | refine tail_drop rfl ?_ | refine X1 rfl ?_ | refine oT _ rfl ?_ | refine A69 rfl ?_)):p:=h
theorem CI{gf:Fr}{ob:Obs}(A:AL.Auto)(s:Str)(hA:AG A)(a:Nat)(ha:a<s.length)(an:s.length<=16777216)(m0:Mach)(J:MG A m0)(h0:B6 ob 830=some (fN A s a))(K:B6 ob 831=some (CG m0.1))(h2:B6 ob 832=some (xR m0.2)) :
  AL.Met Tryz.prog 135 [dX] gf ob [831,832,834,837,838] (fun rs ob'=>rs=[]/\ob'=(830,fN A s (a+1))::(831,CG (uV A s a m0).1)::(832,xR (uV A s a m0).2)::oZ [831,832,834,837,838] ob):=by
 obtain⟨al,am⟩:=hA.len;have ae:=J.cnt;obtain⟨w,ak⟩:∃w,w=m0.1:=⟨_,rfl⟩
 obtain⟨sn,aj⟩:∃sn,sn=m0.2:=⟨_,rfl⟩
 have U:=J.st;obtain⟨D,ad⟩:∃D,D=s[a]:=⟨_,rfl⟩
 have hv:s[((a:Nat):Int).toNat]?=some D:=by rw[B45,ad];simp[ha]
 have ai:uV A s a m0=jE A s (a+1) D.toNat m0.1 ([],List.replicate A.States.length false):=by
  unfold uV;rw[B46,<-B45 a,hv,B45];rfl
 rw[ai];rw[<-ak]at K U ae ⊢;rw[<-aj]at h2;have hl:w.length<=8000:=by omega
 refine AL.Met.introH Tryz.func135 F2 rfl rfl rfl (fun F=>?_);refine C1 (B14 831 (l:=[(0,.s dX)]) (L:=[(830,_),(831,_),(832,_)]) ⟨Y7 rfl,trivial⟩ F I8 ⟨h0,K,h2,trivial⟩) ?_;refine C1 (B14 832 (l:=[(0,.s dX)]) (L:=[(830,_),(831,_),(832,_)]) ⟨Y7 rfl,trivial⟩ (cX F) I8 ⟨rfl,rfl,rfl,trivial⟩) ?_;refine C1 (Sees.forget 834) (C1 (Sees.forget 837) (C1 (Sees.forget 838) ?_));refine C1 (B13 (gf':=B5 [831,832,834,837,838] gf) (l:=[(0,.s dX)]) (ob':=[(830,fN A s a),(831,CG w),(832,xR sn)]++oZ [831,832,834,837,838] ob) ⟨Y7 rfl,trivial⟩ (B1 F) b1w (C8 (L:=[(830,_),(831,_),(832,_)]) ⟨rfl,rfl,rfl,trivial⟩ (by repeat (first | exact oZ_base | refine R9 rfl ?_)))) ?_;have C:J0 831 (oZ [831,832,834,837,838] ob)=true:=tO rfl rfl;have g:J0 832 (oZ [831,832,834,837,838] ob)=true:=tO rfl rfl;have z3:J0 834 (oZ [831,832,834,837,838] ob)=true:=tO rfl rfl;have z4:J0 837 (oZ [831,832,834,837,838] ob)=true:=tO rfl rfl;have z5:J0 838 (oZ [831,832,834,837,838] ob)=true:=tO rfl rfl;have f1:I3 831 (B5 [831,832,834,837,838] gf)=true:=rN (u6 rfl);have f2:I3 832 (B5 [831,832,834,837,838] gf)=true:=rN (u6 rfl);obtain⟨R,hR⟩:∃R,jE A s (a+1) D.toNat w ([],List.replicate A.States.length false)=R:=⟨_,rfl⟩
 rw[hR];obtain⟨Z,hZ⟩:∃Z,Z=oZ [831,832,834,837,838] ob:=⟨_,rfl⟩
 rw[<-hZ]at C g z3 z4 z5 ⊢;refine zz 10 ?_;refine D1 (G9 A0 A0 B3 hv) A0 A0 (zz 22 ?_);refine C1 (Sees.freezeG (k:=831) (α:=AL.Thread) (ec:=2) (c:=r7) (xs:=w) (e:=202) A0 A0) ?_;refine C1 (B13 (gf':=B5 [831,832,834,837,838] gf) (l:=[(0,.s dX),(2,.s (b8 D)),(3,B8 AL.Thread 2 r7 w)]) (ob':=[(830,macG A s (a+1) (.p (.list AL.Thread 2 r7 w)) (.mut 832)),(832,xR sn)]++Z) lf (B1 F) b1w (C8 (L:=[(830,_),(832,_)]) ⟨rfl,rfl,trivial⟩ (by repeat (first | exact N0 | refine R9 rfl ?_ | refine H3 (H0 g).2.1 ?_ | refine H3 (H0 z4).2.1 ?_ | refine H3 (H0 z5).2.1 ?_ | refine qO (by first | exact C | exact g | exact z3 | exact z4 | exact z5) ?_ | refine cI (by first | exact C | exact g | exact z3 | exact z4 | exact z5) ?_)))) ?_;refine C1 (Sees.forget 832) ?_;refine C1 (B13 (gf':=B5 [831,832,834,837,838] gf) (l:=[(0,.s dX),(2,.s (b8 D)),(3,B8 AL.Thread 2 r7 w)]) (ob':=[(830,macG A s (a+1) (.p (.list AL.Thread 2 r7 w)) .any)]++Z) lf (B1 F) b1w (C8 (L:=[(830,_)]) ⟨rfl,trivial⟩ (by repeat (first | exact N0 | refine R9 rfl ?_ | refine H3 (H0 g).2.1 ?_ | refine H3 (H0 z4).2.1 ?_ | refine H3 (H0 z5).2.1 ?_ | refine qO (by first | exact C | exact g | exact z3 | exact z4 | exact z5) ?_ | refine cI (by first | exact C | exact g | exact z3 | exact z4 | exact z5) ?_)))) ?_;refine M6 [14,11,8] [[],[8],[11],[11,8],[14,11,8]] [(8,([832],[])),(11,([],[])),(14,([],[]))] [(0,[]),(1,[]),(2,[]),(3,[]),(4,[]),(5,[]),(6,[]),(7,[]),(8,[]),(9,[]),(10,[]),(11,[]),(11,[8]),(12,[11,8]),(13,[11,8]),(14,[11,8])] [(0,[8]),(1,[8]),(1,[11]),(1,[11,8]),(7,[11]),(8,[11]),(9,[8]),(10,[8])] D6 D6 (C5 A0 A0 D6 A0 A0 (C6 A0 A0) (C5 A0 A0 D6 A0 A0 (C6 A0 A0) (C5 A0 A0 D6 A0 A0 (C6 A0 A0) (C5 A0 A0 D6 A0 A0 (E7 A0) (C5 A0 A0 D6 A0 A0 (F0 A0) (C5 A0 A0 D6 A0 A0 (F0 A0) (C5 A0 A0 D6 A0 A0 (D8 A0 A0 A0) (C5 A0 A0 D6 A0 A0 (qA A0 (.pure _ _ _ _)) ?_))))))));refine W5 rfl rfl D6 rfl rfl (tD (fun G E hk=>l7 832 Bool Q9 false (Q1 E rfl) (Q1 E rfl) oY oY (fun _=>by first | exact⟨⟨rfl,rfl⟩,trivial⟩ | exact⟨F6 _ _ _,trivial⟩ | exact⟨F6 _ _ _,⟨rfl,rfl⟩,F6 _ _ _,trivial⟩) (by rw[hk];(repeat (first | exact g | refine TP ?_ | refine O1 rfl rfl ?_))))) rfl ?_;refine C5 A0 A0 D6 A0 A0 (E7 A0) (C5 A0 A0 D6 A0 A0 (F0 A0) (W5 A0 A0 D6 A0 A0 (fJ (fun G E=>K0 TySz.out (Q1 E A0) A0 (Q1 E A0) A0 A0 A0)) A0 (w_again A0 A0 D6 A0 A0 (fJ (fun G E=>K0 TySz.out (Q1 E A0) A0 (Q1 E A0) A0 A0 A0)) A0 (C5 A0 A0 D6 A0 A0 (E7 A0) (C5 A0 A0 D6 A0 A0 (F0 A0) (W5 A0 A0 D6 A0 A0 (fJ (fun G E=>K0 TySz.out (Q1 E A0) A0 (Q1 E A0) A0 A0 A0)) A0 ?_))))));refine rI (ks:=[831,832,834,837,838]) rfl D6 rfl ?_ ?_
 ·refine F5 A0 A0 D6 A0 A0 (C6 A0 A0) (F5 A0 A0 D6 A0 A0 (C6 A0 A0) (F5 A0 A0 D6 A0 A0 (C6 A0 A0) (F5 A0 A0 D6 A0 A0 (C6 A0 A0) (F5 A0 A0 D6 A0 A0 (qA A0 (.pure _ _ _ _)) ?_))));refine x_eff rfl rfl D6 rfl rfl (tD (fun G E hk=>l7 832 Bool Q9 false (Q1 E rfl) (Q1 E rfl) oY oY (fun _=>by first | exact⟨⟨rfl,rfl⟩,trivial⟩ | exact⟨F6 _ _ _,trivial⟩ | exact⟨F6 _ _ _,⟨rfl,rfl⟩,F6 _ _ _,trivial⟩) (by rw[hk];(repeat (first | exact g | refine TP ?_ | refine O1 rfl rfl ?_))))) rfl (A48 (by repeat (first | exact trivial | refine⟨.inr rfl,?_⟩ | refine⟨.inl rfl,?_⟩ | exact BO MS))) ?_;refine F5 A0 A0 D6 A0 A0 (E7 A0) (F5 A0 A0 D6 A0 A0 (F0 A0) ?_);exact jQ
 refine zz 1 ?_;refine C1 (B13 (gf':=B5 [831,832,834,837,838] gf) (l:=[(0,.s dX),(2,.s (b8 D)),(3,B8 AL.Thread 2 r7 w)]) (ob':=[(830,macG A s (a+1) (.p (.v (.slice none 0 0))) (.mut 832)),(832,xR (List.replicate A.States.length false))]++Z) lf (B1 F) b1w (C8 (L:=[(830,_),(832,_)]) ⟨rfl,rfl,trivial⟩ (by repeat (first | exact N0 | refine R9 rfl ?_ | refine H3 (H0 g).2.1 ?_ | refine H3 (H0 z4).2.1 ?_ | refine H3 (H0 z5).2.1 ?_ | refine qO (by first | exact C | exact g | exact z3 | exact z4 | exact z5) ?_ | refine cI (by first | exact C | exact g | exact z3 | exact z4 | exact z5) ?_)))) ?_;refine C1 (B19 831 AL.Thread 2 r7 202 (kb:=830) (o:=4) A0 A0 (and_tt (nO A0 (nO A0 (nO A0 f1))) (O1 A0 A0 (O1 A0 A0 C)))) (zz 6 ?_);refine C2 (X:=Nat×Mach) (fun x=>([(0,.s dX),(2,.s (b8 D)),(40,B8 AL.Thread 2 r7 w),(41,B7 w.length),(42,B7 x.1)]++B5 [831,832,834,837,838] gf,[(830,fN A s (a+1)),(831,CG x.2.1),(832,xR x.2.2)]++Z)) (fun x=>x.1<=w.length/\jE A s (a+1) D.toNat (w.drop x.1) x.2=R/\MG A x.2) (fun x=>w.length-x.1) (0,([],List.replicate A.States.length false)) ⟨Nat.zero_le _,hR,MG.first A⟩ ?_ ?_
 ·exact B13 lf (B1 F) b1w (C8 (L:=[(830,_),(831,_),(832,_)]) ⟨rfl,rfl,rfl,trivial⟩ (by repeat (first | exact N0 | refine R9 rfl ?_ | refine H3 (H0 g).2.1 ?_ | refine H3 (H0 z4).2.1 ?_ | refine H3 (H0 z5).2.1 ?_ | refine qO (by first | exact C | exact g | exact z3 | exact z4 | exact z5) ?_ | refine cI (by first | exact C | exact g | exact z3 | exact z4 | exact z5) ?_)))
 rintro⟨i,m⟩ ⟨hi,j,H⟩;dsimp only at hi j H ⊢;refine zc 5 (fun I=>?_) fun I=>?_;rotate_left
 ·have af:i=w.length:=by have:=A3 I;omega
  rw[af,List.drop_length]at j;have ac:m=R:=j;rw[ac];refine zz 1 ?_;exact T6 (gQ rfl) b1w (C8 (L:=[(830,_),(831,_),(832,_)]) ⟨rfl,rfl,rfl,trivial⟩ (by repeat (first | exact N0 | refine R9 rfl ?_ | refine H3 (H0 g).2.1 ?_ | refine H3 (H0 z4).2.1 ?_ | refine H3 (H0 z5).2.1 ?_ | refine qO (by first | exact C | exact g | exact z3 | exact z4 | exact z5) ?_ | refine cI (by first | exact C | exact g | exact z3 | exact z4 | exact z5) ?_))) ⟨rfl,rfl⟩
 have P:i<w.length:=by have:=A1 I;omega
 obtain⟨t,V⟩:∃t,t=w[i]:=⟨_,rfl⟩
 have Y:w[i]?=some t:=by rw[V];simp[P]
 rw[B55 P,<-V,jE]at j;obtain⟨S,T⟩:=U t (B52 Y);obtain⟨q,Q⟩:∃q,q=O8 A t.state:=⟨_,rfl⟩
 have W:A.States[t.state.toNat]?=some q:=by rw[Q];exact uW ⟨S,T⟩
 have ah:=bZ (kA hA ⟨S,T⟩);rw[<-Q]at j ah;refine zz 5 ?_;refine B0 (A9 A0 (.pure _ _ _ _) A0 B3 Y) A0 (zz 1 ?_);refine C4 (eP 837 (H0 (O1 A0 A0 (O1 A0 A0 (O1 A0 A0 z4)))).2.1 F2) A0 (zz 3 ?_);refine C1 (B13 (gf':=B5 [831,832,834,837,838] gf) (l:=[(0,.s dX),(2,.s (b8 D)),(40,B8 AL.Thread 2 r7 w),(41,B7 w.length),(42,B7 i),(5,.s (.one (.ref 837 0)))]) (ob':=[(830,fN A s (a+1)),(831,CG m.1),(832,xR m.2),(837,.box [.p (.v (.int .i64 t.state)),.p (.v (.int .i64 t.from_))])]++Z) lf (B1 F) b1w (C8 (L:=[(830,_),(831,_),(832,_),(837,_)]) ⟨rfl,rfl,rfl,rfl,trivial⟩ (by repeat (first | exact N0 | refine R9 rfl ?_ | refine H3 (H0 g).2.1 ?_ | refine H3 (H0 z4).2.1 ?_ | refine H3 (H0 z5).2.1 ?_ | refine qO (by first | exact C | exact g | exact z3 | exact z4 | exact z5) ?_ | refine cI (by first | exact C | exact g | exact z3 | exact z4 | exact z5) ?_)))) ?_;refine M6 [10,9] [[],[9],[10,9]] [(9,([838],[])),(10,([],[]))] [(0,[]),(1,[]),(2,[]),(3,[]),(4,[]),(5,[]),(6,[]),(7,[]),(8,[]),(9,[]),(10,[9])] [(0,[9]),(1,[9]),(2,[9]),(3,[9]),(4,[9]),(5,[9]),(6,[9]),(7,[9]),(8,[9])] D6 D6 (C5 A0 A0 D6 A0 A0 (C6 A0 A0) (C5 A0 A0 D6 A0 A0 (E7 A0) (C5 A0 A0 D6 A0 A0 (F0 A0) (C5 A0 A0 D6 A0 A0 (F0 A0) (C5 A0 A0 D6 A0 A0 (D8 A0 A0 A0) (C5 A0 A0 D6 A0 A0 (F0 A0) (C5 A0 A0 D6 A0 A0 (D8 A0 A0 A0) (C5 A0 A0 D6 A0 A0 (A9 A0 (.pure _ _ _ _) A0 B3 W) (C5 A0 A0 D6 A0 A0 (T9 A0 A0) ?_)))))))));refine W5 rfl rfl D6 rfl rfl (r_alloc (by repeat (first | exact z5 | refine TP ?_ | refine O1 rfl rfl ?_))) rfl ?_;refine W5 A0 A0 D6 A0 A0 (fJ (fun G E=>K0 TySz.out (Q1 E A0) A0 (Q1 E A0) A0 A0 A0)) A0 ?_;refine rI (ks:=[831,832,834,837,838]) rfl D6 rfl ?_ ?_
 ·refine F5 A0 A0 D6 A0 A0 (C6 A0 A0) (F5 A0 A0 D6 A0 A0 (E7 A0) (F5 A0 A0 D6 A0 A0 (F0 A0) (F5 A0 A0 D6 A0 A0 (F0 A0) (F5 A0 A0 D6 A0 A0 (D8 A0 A0 A0) (F5 A0 A0 D6 A0 A0 (F0 A0) (F5 A0 A0 D6 A0 A0 (D8 A0 A0 A0) (F5 A0 A0 D6 A0 A0 (A9 A0 (.pure _ _ _ _) A0 B3 W) (F5 A0 A0 D6 A0 A0 (T9 A0 A0) ?_))))))));exact jQ
 refine zz 1 ?_;refine C1 (B13 (gf':=B5 [831,832,834,837,838] gf) (l:=[(0,.s dX),(2,.s (b8 D)),(40,B8 AL.Thread 2 r7 w),(41,B7 w.length),(42,B7 i),(5,.s (.one (.ref 837 0))),(6,.s (.one (.ref 838 0)))]) (ob':=[(830,fN A s (a+1)),(831,CG m.1),(832,xR m.2),(837,.box [.p (.v (.int .i64 t.state)),.p (.v (.int .i64 t.from_))]),(838,.box ((cellsOf gB q 0 7).map .p))]++Z) lf (B1 F) b1w (C8 (L:=[(830,_),(831,_),(832,_),(837,_),(838,_)]) ⟨rfl,rfl,rfl,rfl,rfl,trivial⟩ (by repeat (first | exact N0 | refine R9 rfl ?_ | refine H3 (H0 g).2.1 ?_ | refine H3 (H0 z4).2.1 ?_ | refine H3 (H0 z5).2.1 ?_ | refine qO (by first | exact C | exact g | exact z3 | exact z4 | exact z5) ?_ | refine cI (by first | exact C | exact g | exact z3 | exact z4 | exact z5) ?_)))) ?_;by_cases hK:q.Kind=0
 ·have O:D.toNat / 64=0\/D.toNat / 64=1\/D.toNat / 64=2\/D.toNat / 64=3:=by have:=D.toNat_lt;omega
  have B:=A4 hK;rcases O with O | O | O | O
  all_goals
   have ag:=YH D.toNat_lt O;have J:0<=(D.toNat:Int).tmod 64:=Int.tmod_nonneg _ B3;refine zz 5 ?_;refine J4 A0 A0 A0 B (zz 1 ?_);refine J4 A0 A0 A0 B (zz 1 ?_);refine J4 A0 A0 A0 B (zz 1 ?_);refine J4 A0 A0 A0 B (B0 (T4 A0 A0 (ag) F2) A0 (J4 A0 A0 A0 B (zz 1 ?_)));refine J4 A0 A0 A0 B (zz 1 ?_);refine J4 A0 A0 A0 B (zz 1 ?_);refine J4 A0 A0 A0 B (B0 (MU A0 A0 (by (exact J))) A0 ?_);refine J4 A0 A0 A0 B (zz 1 ?_);refine J4 A0 A0 A0 B (zz 1 ?_);refine B0 (L6 A0 (B) A0) A0 ?_;refine zc 1 (fun I=>?_) fun I=>?_
   ·have hB:t7 q.Set D.toNat=1:=by
     have K:=A1 I;rw[DU,YI]at K;unfold t7;rw[O];exact K
    rw[A6 ⟨hK,hB⟩]at j;obtain⟨M,hM⟩:∃M,uU A s (a+1) ⟨q.Next,t.from_⟩ m=M:=⟨_,rfl⟩
    rw[hM]at j;have ab:MG A M:=by rw[<-hM];exact wT s hA b5x H
    skip;refine zz 7 ?_;refine H8 (HH A s hA (a+1) q.Next t.from_ m M H B3 hM A0 A0 A0 (H0 (O1 A0 A0 (O1 A0 A0 (O1 A0 A0 (O1 A0 A0 (O1 A0 A0 z3)))))).2.1) A0 A0 A0 ?_;rintro _ _ ⟨rfl,rfl⟩;refine zz 5 ?_;refine⟨(i+1,M),⟨by omega,j,ab⟩,by dsimp only;omega,?_⟩;exact B13 lf (B1 F) b1w (C8 (L:=[(830,_),(831,_),(832,_)]) ⟨rfl,rfl,rfl,trivial⟩ (by repeat (first | exact N0 | refine R9 rfl ?_ | refine H3 (H0 g).2.1 ?_ | refine H3 (H0 z4).2.1 ?_ | refine H3 (H0 z5).2.1 ?_ | refine qO (by first | exact C | exact g | exact z3 | exact z4 | exact z5) ?_ | refine cI (by first | exact C | exact g | exact z3 | exact z4 | exact z5) ?_)))
   ·have hB:¬t7 q.Set D.toNat=1:=by
     have K:=A3 I;rw[DU,YI]at K;unfold t7;rw[O];exact K
    rw[A7 (fun h=>hB h.2)]at j;refine zz 5 ?_;refine⟨(i+1,m),⟨by omega,j,H⟩,by dsimp only;omega,?_⟩;exact B13 lf (B1 F) b1w (C8 (L:=[(830,_),(831,_),(832,_)]) ⟨rfl,rfl,rfl,trivial⟩ (by repeat (first | exact N0 | refine R9 rfl ?_ | refine H3 (H0 g).2.1 ?_ | refine H3 (H0 z4).2.1 ?_ | refine H3 (H0 z5).2.1 ?_ | refine qO (by first | exact C | exact g | exact z3 | exact z4 | exact z5) ?_ | refine cI (by first | exact C | exact g | exact z3 | exact z4 | exact z5) ?_)))
 have z:=A5 hK;refine zz 5 ?_;refine J9 A0 A0 A0 (by rw[z];decide) A0 ?_;refine J9 A0 A0 A0 (by rw[z];decide) A0 ?_;refine J9 A0 A0 A0 (by rw[z];decide) A0 ?_;refine J9 A0 A0 A0 (by rw[z];decide) A0 ?_;refine J9 A0 A0 A0 (by rw[z];decide) A0 ?_;refine J9 A0 A0 A0 (by rw[z];decide) A0 ?_;refine J9 A0 A0 A0 (by rw[z];decide) A0 ?_;refine J9 A0 A0 A0 (by rw[z];decide) A0 ?_;refine J9 A0 A0 A0 (by rw[z];decide) A0 ?_;refine J9 A0 A0 A0 (by rw[z];decide) A0 ?_;refine B0 (V3 A0 (z) A0) A0 ?_;refine zc 1 (fun I=>?_) fun I=>?_
 ·cases I
 refine zz 5 ?_;rw[A7 (fun h=>hK h.1)]at j;refine⟨(i+1,m),⟨by omega,j,H⟩,by dsimp only;omega,?_⟩;exact B13 lf (B1 F) b1w (C8 (L:=[(830,_),(831,_),(832,_)]) ⟨rfl,rfl,rfl,trivial⟩ (by repeat (first | exact N0 | refine R9 rfl ?_ | refine H3 (H0 g).2.1 ?_ | refine H3 (H0 z4).2.1 ?_ | refine H3 (H0 z5).2.1 ?_ | refine qO (by first | exact C | exact g | exact z3 | exact z4 | exact z5) ?_ | refine cI (by first | exact C | exact g | exact z3 | exact z4 | exact z5) ?_)))
theorem A00(z:Set4)(c:UInt8):FnOk Tryz.prog 148 [Q5 z,pByte c] (fun rs=>rs=[E1 (decide (t7 z c.toNat=1))]):=by
 have a:c.toNat / 64=0\/c.toNat / 64=1\/c.toNat / 64=2\/c.toNat / 64=3:=by have:=c.toNat_lt;omega
 have b:0<=(c.toNat:Int).tmod 64:=Int.tmod_nonneg _ B3;refine FnOk.intro Tryz.func148 F2 A0 A0 A0 A0 (zz 2 ?_);refine C4 (n8 2 A0 A0 A0) A0 (zz 3 ?_);rcases a with a | a | a | a
 all_goals
  have e:=YH c.toNat_lt a;refine zz 3 ?_;refine B0 (T4 A0 A0 (e) F2) A0 (zz 3 ?_);refine B0 (MU A0 A0 (by (exact b))) A0 ?_;refine zz 5 ?_;refine B2 (G6 A0 A0 A0) ?_;unfold t7;rw[a,DU,YI];rfl
theorem KS(z:Set4)(f:M8 z)(c:UInt8):FnOk Tryz.prog 219 [Q5 z,pByte c] (fun g=>g=[Q5 (z.with_ c.toNat)]):=by
 obtain⟨h,i,z3,z4⟩:=f;have a:c.toNat / 64=0\/c.toNat / 64=1\/c.toNat / 64=2\/c.toNat / 64=3:=by have:=c.toNat_lt;omega
 have e:0<=(c.toNat:Int).tmod 64:=Int.tmod_nonneg _ B3;refine FnOk.intro Tryz.func219 F2 A0 A0 A0 A0 (zz 2 ?_);refine C4 (n8 2 A0 A0 A0) A0 (C4 (H9 4 A0) A0 (zz 2 ?_));rcases a with a | a | a | a
 all_goals
  have b:=YH c.toNat_lt a;refine zz 5 ?_;refine B0 (T4 A0 A0 (b) F2) A0 (zz 3 ?_);refine B0 (n_shl A0 A0 (by (exact e))) A0 ?_;refine zz 1 ?_;refine B0 (T4 A0 A0 (b) F2) A0 (zz 8 ?_);refine B2 (retc A0 A0 A0 A0 A0) ?_;unfold Set4.with_;rw[a];simp only[nQ h,nQ i,nQ z3,nQ z4]
theorem PH(z:Set4)(d:M8 z)(c:Nat)(g:c<256):FnOk Tryz.prog 219 [Q5 z,.one (.v (.int .u8 (c:Int)))] (fun f=>f=[Q5 (z.with_ c)]):=by
 have e:(UInt8.ofNat c).toNat=c:=by rw[UInt8.toNat_ofNat'];omega
 have h:=KS z d (UInt8.ofNat c);rw[e]at h;have b:pByte (UInt8.ofNat c)=.one (.v (.int .u8 (c:Int))):=by
  show PV.one (.v (.int .u8 ((UInt8.ofNat c).toNat:Int)))=_;rw[e]
 rw[b]at h;exact h
theorem HI(z:Set4)(g:M8 z):FnOk Tryz.prog 218 [Q5 z] (fun rs=>rs=[Q5 z.compl]):=by
 obtain⟨j,k,z3,z4⟩:=g;refine FnOk.intro Tryz.func218 F2 A0 A0 A0 A0 (zz 2 ?_);refine C4 (n8 1 A0 A0 A0) A0 (C4 (H9 2 A0) A0 (zz 7 ?_));refine C2 (X:=Nat) (fun i=>([(1,.s (.one (.ref 1 0))),(2,.s (.one (.ref 2 0))),(3,B7 i)],[(1,complT z i),(2,CA 0 0 0 0)])) (fun i=>i<=4) (fun i=>4-i) 0 (Nat.zero_le _) (Sees.of lf lo) ?_;intro i c;dsimp only at c ⊢;refine zc 6 (fun a=>?_) fun a=>?_
 ·have d:i<4:=by have:=A1 a;omega
  rcases (show i=0\/i=1\/i=2\/i=3 by omega) with h | h | h | h<;>subst h
  ·refine zz 12 ?_;rw[gY j];refine zz 5 ?_;exact⟨1,by omega,by omega,Sees.of lf lo⟩
  ·refine zz 12 ?_;rw[gY k];refine zz 5 ?_;exact⟨2,by omega,by omega,Sees.of lf lo⟩
  ·refine zz 12 ?_;rw[gY z3];refine zz 5 ?_;exact⟨3,by omega,by omega,Sees.of lf lo⟩
  ·refine zz 12 ?_;rw[gY z4];refine zz 5 ?_;exact⟨4,by omega,by omega,Sees.of lf lo⟩
 ·have b:i=4:=by have:=A3 a;omega
  subst b;refine zz 7 ?_;exact B2 (rs:=[Q5 z.compl]) (retc rfl rfl rfl rfl rfl) rfl
theorem fO(c:UInt8):FnOk Tryz.prog 242 [pByte c] (fun h=>h=[E1 (Y9 c.toNat)]):=by
 refine FnOk.intro Tryz.func242 F2 A0 A0 A0 A0 (zz 17 ?_);refine J5 A0 A0 A0 (.gd (.val _)) A0 (fun f=>by obtain⟨b,e⟩:=P9 f;(try rw[b]);(try rw[e]);exact MW A0 A0) ?_;refine zz 5 ?_;refine B2 (G6 A0 A0 A0) ?_
 congr 4
 unfold Y9;simp only[aI,W8];rw[Bool.eq_iff_iff];simp;omega
theorem vZ(c:UInt8):FnOk Tryz.prog 243 [pByte c] (fun a=>a=[E1 (mI c.toNat)]):=by
 refine FnOk.intro Tryz.func243 F2 A0 A0 A0 A0 (zz 15 ?_);refine B2 (G6 A0 A0 A0) ?_
 congr 4
 unfold mI;simp only[W8];rw[Bool.eq_iff_iff];simp;omega
theorem PI(name:Str)(c:UInt8):FnOk Tryz.prog 235 [F3 name,pByte c] (fun v=>v=[E1 (dT name c.toNat),E1 (gI name c.toNat).isSome]):=by
 have w:=c.toNat_lt;have key:∀b,gI name c.toNat=some b->dT name c.toNat=b/\(gI name c.toNat).isSome=true:=fun b h=>by unfold dT;rw[h];exact⟨rfl,rfl⟩
 obtain⟨R,d⟩:∃R,R=gI name c.toNat:=⟨_,rfl⟩
 have t:dT name c.toNat=R.getD false:=by rw[d];rfl
 rw[<-d,t];clear key;unfold gI at d;refine FnOk.intro Tryz.func235 F2 A0 A0 A0 A0 ?_;refine zc 16 (fun a=>?_) fun a=>?_
 ·have g:name=[97,108,112,104,97]:=A1 a;rw[A6 g]at d;refine zz 3 ?_;refine E3 (fO c) (zz 4 ?_);refine B2 (S6 A0 A0 A0 A0 A0) ?_;rw[d];show _=[E1 (Y9 c.toNat),E1 true]
  rfl
 have f:¬name=[97,108,112,104,97]:=A3 a;refine zc 5 (fun a=>?_) fun a=>?_
 ·have g:name=[100,105,103,105,116]:=A1 a;rw[A7 f,A6 g]at d;refine zz 3 ?_;refine E3 (vZ c) (zz 4 ?_);refine B2 (S6 A0 A0 A0 A0 A0) ?_;rw[d];show _=[E1 (mI c.toNat),E1 true]
  rfl
 have j:¬name=[100,105,103,105,116]:=A3 a;refine zc 5 (fun a=>?_) fun a=>?_
 ·have g:name=[97,108,110,117,109]:=A1 a;rw[A7 f,A7 j,A6 g]at d;refine zz 3 ?_;refine E3 (fO c) (zz 2 ?_);refine F7 A0 A0 A0 A0 (fun n=>by have r:=n;(try simp at r);rw[n];exact K4 (vZ c) A0 A0) ?_;refine zz 5 ?_;refine B2 (S6 A0 A0 A0 A0 A0) ?_;rw[d];show _=[E1 (Y9 c.toNat||mI c.toNat),E1 true]
  rw[aI]
 have k:¬name=[97,108,110,117,109]:=A3 a;refine zc 5 (fun a=>?_) fun a=>?_
 ·have g:name=[117,112,112,101,114]:=A1 a;rw[A7 f,A7 j,A7 k,A6 g]at d;refine zz 3 ?_;refine E3 (fO c) (zz 8 ?_);refine B2 (S6 A0 A0 A0 A0 A0) ?_;rw[d];show _=[E1 (Y9 c.toNat&&decide (c.toNat<=90)),E1 true]
  congr 4
  simp only[aI,W8];generalize Y9 c.toNat=x;generalize mI c.toNat=y;rw[Bool.eq_iff_iff];cases x<;>cases y<;>simp<;>omega
 have l:¬name=[117,112,112,101,114]:=A3 a;refine zc 5 (fun a=>?_) fun a=>?_
 ·have g:name=[108,111,119,101,114]:=A1 a;rw[A7 f,A7 j,A7 k,A7 l,A6 g]at d;refine zz 3 ?_;refine E3 (fO c) (zz 8 ?_);refine B2 (S6 A0 A0 A0 A0 A0) ?_;rw[d];show _=[E1 (Y9 c.toNat&&decide (97<=c.toNat)),E1 true]
  congr 4
  simp only[aI,W8];generalize Y9 c.toNat=x;generalize mI c.toNat=y;rw[Bool.eq_iff_iff];cases x<;>cases y<;>simp<;>omega
 have p:¬name=[108,111,119,101,114]:=A3 a;refine zc 5 (fun a=>?_) fun a=>?_
 ·have g:name=[115,112,97,99,101]:=A1 a;rw[A7 f,A7 j,A7 k,A7 l,A7 p,A6 g]at d;refine zz 16 ?_;refine B2 (S6 A0 A0 A0 A0 A0) ?_;rw[d];show _=[E1 (decide (9<=c.toNat/\c.toNat<=13)||decide (c.toNat=32)),E1 true]
  congr 4
  simp only[aI,W8];generalize Y9 c.toNat=x;generalize mI c.toNat=y;rw[Bool.eq_iff_iff];cases x<;>cases y<;>simp<;>omega
 have q:¬name=[115,112,97,99,101]:=A3 a;refine zc 5 (fun a=>?_) fun a=>?_
 ·have g:name=[112,117,110,99,116]:=A1 a;rw[A7 f,A7 j,A7 k,A7 l,A7 p,A7 q,A6 g]at d;refine zz 10 ?_;refine F7 A0 A0 A0 A0 (fun n=>by have r:=n;(try simp at r);rw[n];exact K4 (fO c) A0 A0) ?_;refine zz 4 ?_;refine F7 A0 A0 A0 A0 (fun n=>by have r:=n;(try simp at r);rw[n];exact K4 (vZ c) A0 A0) ?_;refine zz 6 ?_;refine B2 (S6 A0 A0 A0 A0 A0) ?_;rw[d];show _=[E1 (decide (33<=c.toNat/\c.toNat<=126)&&(!Y9 c.toNat&&!mI c.toNat)),E1 true]
  congr 4
  simp only[aI,W8];generalize Y9 c.toNat=x;generalize mI c.toNat=y;rw[Bool.eq_iff_iff];cases x<;>cases y<;>simp<;>omega
 have u:¬name=[112,117,110,99,116]:=A3 a;rw[A7 f,A7 j,A7 k,A7 l,A7 p,A7 q,A7 u]at d;refine zz 7 ?_;refine B2 (S6 A0 A0 A0 A0 A0) ?_;rw[d];rfl
theorem CJ(name:Str)(c:Nat)(f:c<256):FnOk Tryz.prog 235 [F3 name,.one (.v (.int .u8 (c:Int)))] (fun d=>d=[E1 (dT name c),E1 (gI name c).isSome]):=by
 have e:(UInt8.ofNat c).toNat=c:=by rw[UInt8.toNat_ofNat'];omega
 have h:=PI name (UInt8.ofNat c);rw[e]at h;have b:pByte (UInt8.ofNat c)=.one (.v (.int .u8 (c:Int))):=by
  show PV.one (.v (.int .u8 ((UInt8.ofNat c).toNat:Int)))=_;rw[e]
 rw[b]at h;exact h
theorem j7{K:List Nat}{s:Str}{st:PSt}{e:Int}{y:Ob}{Z a:Obs}(g:B6 a 810=some (MT s st.at_ st.depth e))(h:B6 a 811=some (dD st.nodes))(i:B6 a 870=some y)(j:ZOk K Z a):∀k o,B6 (RObs s st e ((870,y)::Z)) k=some o->B6 a k=some o:=fun k o b=>by
 by_cases c:810=k
 ·subst c;rw[B4]at b;cases b;exact g
 rw[A8 c]at b;by_cases d:811=k
 ·subst d;rw[B4]at b;cases b;exact h
 rw[A8 d]at b;by_cases f:870=k
 ·subst f;rw[B4]at b;cases b;exact i
 rw[A8 f]at b;exact j.sub k o b
theorem wC(f:Nat->Bool){t:Set4}(h:M8 t):∀n,M8 (U3 f n t)
 | 0=>h
 | n+1=>by
  rw[U3];split
  ·exact pM (wC f h n) n
  ·exact wC f h n
theorem A78{s:Str}{t:Set4}{x:PSt}(h:s[x.at_]?=none):c9 s t x=.error 40:=by
 unfold c9;have a:=List.getElem?_eq_none_iff.1 h;have b:¬x5 91 58 (s.drop x.at_)=true:=by
  rw[B59 a];decide
 dsimp only;rw[A7 b,h]
theorem CL{p:Prop}(h:p:=by repeat (first | exact by assumption | refine ZOk.cons ?_ (.inl rfl) | refine ZOk.cons ?_ (.inr (ZOk.k8 (by assumption)).h811) | refine ZOk.cons ?_ (.inr (by assumption)))):p:=h
theorem A01{K:List Nat}(S:E5 K 870=true){s:Str}{st:PSt}(hs:SOk s st)(bv:st.at_+1<=s.length)(hd:st.depth<=50){gf:Fr}{ob Z:Obs}(hI:RIn K s (st.skip 1) 0 Z ob) :
  AL.Met Tryz.prog 217 [G8] gf ob K (postR s st.depth (l5 s (s.length+2) st) r9 Z):=by
 have hz:=hI.z.self;have ak:=hs.len;have cj:=hs.at_;have hv:∀n:Nat,n<s.length->s[((n:Nat):Int).toNat]?=some (s.getD n 0):=fun n h=>by rw[B45,B46,B44 h];rfl
 have u:∀n:Nat,n<s.length->s[n]?=some (s.getD n 0):=fun n h=>by rw[B46,B44 h];rfl
 have hu:∀(c k:UInt8),(c.toNat:Int)=k.toNat->c=k:=fun c k e=>UInt8.toNat_inj.1 B3;have g1:=K6 (s:=s) (x:=st) 1 bv;have cb:=hs.gr g1 B3;have g2:=oI (s:=s) (x:=st.skip 1) 94 g1.len;have ba:=cb.gr g2 B3;have af:=g2.dep;have bw:(eM s 94 (st.skip 1)).nodes=st.nodes:=by unfold eM;split<;>rfl
 obtain⟨y,U⟩:∃y,y=M9 s 94 (st.skip 1):=⟨_,rfl⟩
 have A:=A33 s (s.length+2) st;obtain⟨R,hR⟩:∃R,R=l5 s (s.length+2) st:=⟨_,rfl⟩
 rw[<-hR]at A ⊢;rw[<-U]at A;have F:eM s 94 (st.skip 1)=if y=true then (st.skip 1).skip 1 else st.skip 1:=by rw[U];rfl
 obtain⟨x1,cf⟩:∃x1,x1=eM s 94 (st.skip 1):=⟨_,rfl⟩
 rw[<-cf]at ba A af bw F;have af:x1.depth=st.depth:=af;refine AL.Met.introH Tryz.func217 F2 rfl rfl rfl (fun H=>?_);refine C1 (CE (l:=[(0,.s G8)]) hI ⟨Y7 rfl,trivial⟩ H xQ) ?_;refine zz 7 ?_;refine H8 (cJ s (st.skip 1).at_ (st.skip 1).depth 0 94 B3 A0) A0 A0 A0 ?_;rintro _ _ ⟨rfl,rfl⟩;refine zz 2 ?_;rw[show decide (s[(st.skip 1).at_]?=some 94)=y from U.symm];refine zz 5 ?_;refine S7 ([(0,.s G8),(3,K9 y)]++B5 K gf) (RObs s x1 0 Z) ?_ ?_
 ·skip;refine zc 0 (fun j=>?_) fun j=>?_
  ·have hb:y=true:=j;rw[A6 hb]at F;subst F;skip;refine zz 5 ?_;refine B0 (Y6 A0 A0 (by ((try dsimp only[PSt.skip]);omega))) A0 ?_;refine zz 4 ?_;exact B13 lf (B1 H) xQ (S2 (K:=K) ⟨rfl,rfl,CL⟩)
  ·have hb:¬y=true:=by rw[j];decide
   rw[A7 hb]at F;subst F;refine zz 1 ?_;exact B13 lf (B1 H) xQ (S2 (K:=K) ⟨rfl,rfl,CL⟩)
 have ao:B6 (RObs s x1 0 Z) 870=none:=hz.none (.inr S);refine zz 2 ?_;refine C4 (eP 870 ao F2) A0 (zz 7 ?_);obtain⟨C,hC⟩:∃C,C=FR s (s.length+2) true set0 x1:=⟨_,rfl⟩
 rw[<-hC]at A;refine C2 (X:=Nat×Bool×Set4×PSt) (fun x=>([(0,.s G8),(3,K9 y),(4,.s (.one (.ref 870 0))),(5,K9 x.2.1)]++B5 K gf,RObs s x.2.2.2 0 ((870,lG x.2.2.1)::Z))) (fun x=>SOk s x.2.2.2/\M8 x.2.2.1/\x.2.2.2.depth=st.depth/\s.length-x.2.2.2.at_<x.1/\C=FR s x.1 x.2.1 x.2.2.1 x.2.2.2) (fun x=>x.1) (s.length+2,true,set0,x1) ⟨ba,j1,af,by dsimp only;omega,hC⟩ ?_ ?_
 ·dsimp only;exact B13 lf (B1 H) xQ (j7 rfl rfl rfl ((hz.rin.fgt S).cons (.inr S)))
 rintro⟨f,first,t,x⟩ ⟨aj,M,am,bp,ae⟩;dsimp only at aj M am bp ae ⊢;have co:=aj.at_;have cp:=aj.nds;obtain⟨f,rfl⟩:∃g,f=g+1:=⟨f-1,by omega⟩
 refine zz 2 ?_;obtain⟨go,J⟩:∃go,go=(if first=true then true else !(decide (s[x.at_]?=some 93))):=⟨_,rfl⟩
 have key:go=true->first=true\/¬M9 s 93 x=true:=fun h=>by
  rw[h]at J;cases first with
  | true=>exact .inl rfl
  | false =>
   refine .inr fun e=>?_;have e:decide (s[x.at_]?=some 93)=true:=e;rw[e]at J;cases J
 have bi:go=false->first=false/\M9 s 93 x=true:=fun h=>by
  rw[h]at J;cases first with
  | true=>cases J
  | false =>
   refine⟨rfl,?_⟩;show decide (s[x.at_]?=some 93)=true;cases hb:decide (s[x.at_]?=some 93) with
   | true=>rfl
   | false=>rw[hb]at J;cases J
 refine S7 ([(0,.s G8),(3,K9 y),(4,.s (.one (.ref 870 0))),(31,K9 go)]++B5 K gf) (RObs s x 0 ((870,lG t)::Z)) ?_ ?_
 ·cases first with
  | true =>
   refine zz 6 ?_;refine B0 (L6 A0 (rfl) A0) A0 (zz 1 ?_);rw[show go=true from J];refine zz 0 ?_;exact B13 lf (B1 H) xQ (j7 (K:=K) rfl rfl rfl CL)
  | false =>
   refine zz 6 ?_;refine H8 (cJ s x.at_ x.depth 0 93 B3 A0) A0 A0 A0 ?_;rintro _ _ ⟨rfl,rfl⟩;refine zz 2 ?_;refine B0 (V3 A0 (rfl) A0) A0 (zz 1 ?_);rw[show go=!decide (s[x.at_]?=some 93) from J];refine zz 0 ?_;exact B13 lf (B1 H) xQ (j7 (K:=K) rfl rfl rfl CL)
 skip;refine zc 0 (fun j=>?_) fun j=>?_;rotate_left
 ·obtain⟨rfl,hh⟩:=bi j;rw[cls_end hh]at ae;rw[ae]at A;dsimp only at A;have gE:=K6 (s:=s) (x:=x) 1 (Z8 hh);have bc:=aj.gr gE B3;have cm:=bc.nds;have ci:=bc.at_;obtain⟨tf,ab⟩:∃tf,tf=if y=true then t.compl else t:=⟨_,rfl⟩
  rw[<-ab]at A;refine zz 17 ?_;refine S7 ([(0,.s G8),(4,.s (.one (.ref 870 0)))]++B5 K gf) (RObs s (x.skip 1) 0 ((870,lG tf)::Z)) ?_ ?_
  ·skip;refine zc 0 (fun j=>?_) fun j=>?_
   ·have hb:y=true:=j;rw[A6 hb]at ab;subst ab;skip;refine zz 2 ?_;refine E3 (HI t M) (zz 2 ?_);exact B13 lf (B1 H) xQ (j7 (K:=K) rfl rfl rfl CL)
   ·have hb:y=false:=j;rw[A7 (by rw[hb];decide)]at ab;subst ab;refine zz 1 ?_;exact B13 lf (B1 H) xQ (j7 (K:=K) rfl rfl rfl CL)
  refine k2 ?_;have cq:=hz;refine zz 4 ?_;refine fF ((B16 Int 1 D2 257 7 A0 A0)) (S0 (HG s (x.skip 1).at_ (x.skip 1).depth 0 (x.skip 1).nodes ⟨1,tf,0,0,[]⟩ B3 A0 A0) dF A0 A0 A0 ?_);rintro _ _ ⟨rfl,rfl⟩;refine zz 2 ?_;refine zz 1 ?_;refine C7 (ob':=RObs s (fZ tf (x.skip 1)).1 0 Z) (F1 rfl rfl) xQ (S2 (K:=K) ⟨rfl,rfl,?_⟩) ⟨(fZ tf (x.skip 1)).1,0,(fZ tf (x.skip 1)).2,rfl,rfl,.inl ⟨rfl,A⟩⟩;exact ((ZOk.fgt CL hz.k8.h811).cons (.inr hz.k8.h811)).cons (.inl rfl)
 have ca:=key j;have q:=A97 (s:=s) (f:=f+1) (t:=t) (x:=x) ca;rw[<-ae]at q;refine zz 15 ?_;refine D1 (zU A0 A0) A0 A0 ?_;refine zc 1 (fun j=>?_) fun j=>?_
 ·have T:s.length<=x.at_:=by have:=A1 j;omega
  rw[A78 (B56 T)]at q;dsimp only at q;rw[q]at A;dsimp only at A;refine zz 3 ?_;refine H8 (j2 s x.at_ x.depth 0 40 A0) A0 A0 A0 ?_;rintro _ _ ⟨rfl,rfl⟩;refine zz 2 ?_;rw[A6 rfl];refine zz 1 ?_;exact C7 (ob':=RObs s x 40 Z) (F1 rfl rfl) xQ (S2 (K:=K) ⟨rfl,rfl,CL⟩) ⟨x,40,0,rfl,rfl,.inr ⟨by decide,A,by omega,by omega,by omega⟩⟩
 have ad:x.at_<s.length:=by have:=A3 j;omega
 refine zz 3 ?_;refine qC 1 D6 D6 A0 (zz 2 ?_);refine AF (cJ s x.at_ x.depth 0 91 B3 A0) A0 A0 A0 ?_;rintro _ _ ⟨rfl,rfl⟩;refine⟨_,rfl,?_⟩;refine zz 5 ?_;refine G3 A0 A0 (fun m=>by have I:=m;(try simp at I);rw[m];exact Y6 A0 A0 B3) A0 A0 ?_;refine zz 4 ?_;refine G3 A0 A0 (fun m=>by rw[m];exact sT A0) A0 A0 ?_;refine zz 11 ?_;refine G3 A0 A0 (fun m=>by have I:=m;(try simp at I);rw[m];exact Y6 A0 A0 B3) A0 A0 ?_;refine G3 A0 A0 (fun m=>by have I:=m;(try simp at I);rw[m];exact G9 A0 A0 B3 (by rw[show ((x.at_:Int)+1).toNat=x.at_+1 by omega];exact u (x.at_+1) B3)) A0 A0 ?_;refine zz 3 ?_;refine zc 0 (fun j=>?_) fun j=>?_
 ·have Y:=j;simp only[W8]at Y;simp only[B47,decide_eq_true_eq]at Y;obtain⟨⟨h0,ag⟩,av⟩:=Y;have ag:x.at_+1<s.length:=by omega
  have h1:s[x.at_+1]?=some 58:=by
   rw[u (x.at_+1) ag];exact congrArg some (hu _ 58 av)
  rw[WE h0 h1]at q;obtain⟨a,ha⟩:∃a,a=x.at_+2:=⟨_,rfl⟩
  rw[<-ha]at q;have bm:a<=s.length:=by omega
  have bl:(a:Int)=(x.at_:Int)+2:=by omega
  refine zz 13 ?_;rw[<-bl];refine zz 2 ?_;refine C2 (X:=Nat) (fun i=>([(0,.s G8),(3,K9 y),(4,.s (.one (.ref 870 0))),(6,Q6 ((s.drop a).take (i-a))),(7,B7 i)]++B5 K gf,RObs s x 0 ((870,lG t)::Z))) (fun i=>a<=i/\i<=s.length/\NoEnd s a i) (fun i=>s.length-i) a ⟨Nat.le_refl a,bm,NoEnd.start s a⟩ (by rw[B92,List.take_zero];exact B13 lf (B1 H) xQ (j7 (K:=K) A0 A0 A0 CL)) ?_;rintro i ⟨al,br,V⟩;dsimp only at al br V ⊢;obtain⟨name,G⟩:∃name,name=(s.drop a).take (i-a):=⟨_,rfl⟩
  have cn:name.length=i-a:=by rw[G,B54,B53];omega
  rw[<-G];refine zz 17 ?_;refine F7 A0 A0 A0 A0 (fun m=>by have I:=m;(try simp at I);rw[m];exact G9 A0 A0 B3 (by rw[B45];exact u i B3)) ?_;refine zz 3 ?_;refine J5 A0 A0 A0 (.gd (.val _)) A0 (fun m=>by obtain⟨D,E⟩:=P9 m;(try rw[D]);(try rw[E]);exact E7 A0) ?_;refine J5 A0 A0 A0 (.gd (.val _)) A0 (fun m=>by obtain⟨D,E⟩:=P9 m;(try rw[D]);(try rw[E]);exact F0 A0) ?_;refine J5 A0 A0 A0 (.gd (.val _)) A0 (fun m=>by obtain⟨D,E⟩:=P9 m;(try rw[D]);(try rw[E]);exact D8 A0 A0 A0) ?_;refine zz 1 ?_;refine J5 A0 A0 A0 (.gd (.val _)) A0 (fun m=>by have I:=m;(try simp at I);obtain⟨D,E⟩:=P9 m;(try rw[D]);(try rw[E]);exact Y6 A0 A0 B3) ?_;refine J5 A0 A0 A0 (.gd (.val _)) A0 (fun m=>by have I:=m;(try simp at I);obtain⟨D,E⟩:=P9 m;(try rw[D]);(try rw[E]);exact G9 A0 A0 B3 (by rw[show ((i:Int)+1).toNat=i+1 by omega];exact u (i+1) B3)) ?_;refine J5 A0 A0 A0 (.gd (.val _)) A0 (fun m=>by obtain⟨D,E⟩:=P9 m;(try rw[D]);(try rw[E]);exact FT A0 A0) ?_;refine zc 3 (fun j=>?_) fun j=>?_
  ·simp only[aI,W8]at j;simp only[B47,B63,decide_eq_true_eq]at j;obtain⟨ay,bx⟩:=j;have ay:i+1<s.length:=by omega
   have hnx:¬(s[i]?=some 58/\s[i+1]?=some 93):=by
    rintro⟨q1,P⟩;rw[u i B3]at q1;rw[u (i+1) ay]at P;rcases bx with h | h
    ·exact h (by rw[Option.some.inj q1];rfl)
    ·exact h (by rw[Option.some.inj P];rfl)
   have ap:name++(s.drop ((i:Nat):Int).toNat).take (((i:Int)+1).toNat-((i:Nat):Int).toNat)=(s.drop a).take (i+1-a):=by
    have e1:(s.drop a).take (i+1-a)=(s.drop a).take (i-a)++[s.getD i 0]:=by
     rw[show i+1-a=(i-a)+1 by omega,List.take_add_one,B58,show a+(i-a)=i by omega,u i B3];rfl
    have e2:(s.drop i).take 1=[s.getD i 0]:=by
     rw[List.take_one,List.head?_drop,u i B3];rfl
    rw[e1,G,B45,show ((i:Int)+1).toNat-i=1 by omega,e2]
   refine zz 12 ?_;refine B0 (MZ A0 A0 A0 b0y b0y b0y) A0 (B0 (gN A0 A0 MR) A0 (zz 2 ?_));rw[ap];refine zz 5 ?_;exact⟨i+1,⟨by omega,by omega,V.next hnx⟩,by omega,(B13 lf (B1 H) xQ (j7 (K:=K) rfl rfl rfl CL))⟩
  have hE:s.length<=i+1\/(i+1<s.length/\s[i]?=some 58/\s[i+1]?=some 93):=by
   simp only[aI,W8]at j;simp only[B86,B72,decide_eq_false_iff_not]at j;by_cases T:s.length<=i+1
   ·exact .inl T
   ·refine .inr ⟨by omega,?_⟩;rcases j with h | ⟨h2,h3⟩
    ·omega
    ·rw[u i B3,u (i+1) B3];exact⟨congrArg some (hu _ 58 (Decidable.not_not.1 h2)),congrArg some (hu _ 93 (Decidable.not_not.1 h3))⟩
  refine zz 4 ?_;refine E3 (CJ name 0 B3) (zz 13 ?_);refine F7 A0 A0 A0 A0 (fun m=>by have I:=m;(try simp at I);rw[m];exact Y6 A0 A0 B3) ?_;refine zc 8 (fun j=>?_) fun j=>?_
  ·have ar:C=.error 40:=by
    simp only[aI]at j;simp only[B63,Bool.not_eq_true',decide_eq_true_eq]at j;rw[q];rcases hE with T | ⟨hl2,q1,P⟩
    ·rw[A6 (end_no V T)]
    ·rw[end_at V al ⟨q1,P⟩,A7 B3,B45,<-G];rcases j with h | h
     ·have bz:gI name 0=none:=by
       cases bs:gI name 0 with
       | none=>rfl
       | some b=>rw[bs]at h;cases h
      rw[(EA t name).2 bz]
     ·omega
   rw[ar]at A;dsimp only at A;refine zz 3 ?_;refine H8 (j2 s x.at_ x.depth 0 40 A0) A0 A0 A0 ?_;rintro _ _ ⟨rfl,rfl⟩;refine zz 2 ?_;rw[A6 rfl];refine zz 1 ?_;exact C7 (ob':=RObs s x 40 Z) (F1 rfl rfl) xQ (S2 (K:=K) ⟨rfl,rfl,CL⟩) ⟨x,40,0,rfl,rfl,.inr ⟨by decide,A,by omega,by omega,by omega⟩⟩
  simp only[aI]at j;simp only[B72,Bool.not_eq_false',decide_eq_false_iff_not]at j;obtain⟨W,bu⟩:=j;have bu:i+1<s.length:=by omega
  have bk:s[i]?=some 58/\s[i+1]?=some 93:=by
   rcases hE with h | h
   ·omega
   ·exact h.2
  rw[end_at V al bk,A7 B3,B45,<-G]at q;cases ah:Z5 t name with
  | none =>
   rw[(EA t name).1 ah]at W;cases W
  | some t' =>
   rw[ah]at q;dsimp only at q;have an:=WD M ah;have cd:=DQ M ah;refine zz 7 ?_;refine C2 (X:=Nat) (fun c=>([(0,.s G8),(3,K9 y),(4,.s (.one (.ref 870 0))),(6,Q6 name),(7,B7 i),(10,B7 c)]++B5 K gf,RObs s x 0 ((870,lG (U3 (dT name) c t))::Z))) (fun c=>c<=256) (fun c=>256-c) 0 (Nat.zero_le _) (B13 lf (B1 H) xQ (j7 (K:=K) A0 A0 A0 CL)) ?_;intro c hc;dsimp only at hc ⊢;refine zc 6 (fun j=>?_) fun j=>?_
   ·have au:c<256:=by have:=A1 j;omega
    have bo:=wC (dT name) M c;refine zz 7 ?_;refine B0 (X6 A0 (XM B3 B3)) A0 (E3 (CJ name c au) (zz 10 ?_));refine zH ([(0,.s G8),(3,K9 y),(4,.s (.one (.ref 870 0))),(6,Q6 name),(7,B7 i),(10,B7 c)]++B5 K gf) (RObs s x 0 ((870,lG (U3 (dT name) (c+1) t))::Z)) ?_ ?_
    ·skip;refine zc 0 (fun j=>?_) fun j=>?_
     ·have hb:dT name c=true:=j;rw[show U3 (dT name) (c+1) t=(U3 (dT name) c t).with_ c by rw[U3,A6 hb]];skip;refine zz 3 ?_;refine B0 (X6 A0 (XM B3 B3)) A0 (E3 (PH (U3 (dT name) c t) bo c au) (zz 2 ?_));exact B13 lf (B1 H) xQ (j7 (K:=K) rfl rfl rfl CL)
     ·have hb:¬dT name c=true:=by rw[j];decide
      rw[show U3 (dT name) (c+1) t=U3 (dT name) c t by rw[U3,A7 hb]];refine zz 1 ?_;exact B13 lf (B1 H) xQ (j7 (K:=K) rfl rfl rfl CL)
    skip;refine zz 5 ?_;exact⟨c+1,by omega,by omega,(B13 lf (B1 H) xQ (j7 (K:=K) rfl rfl rfl CL))⟩
   have bn:c=256:=by have:=A3 j;omega
   rw[bn,an];have cc:(x.skip (4+(i-a))).at_=i+2:=by show x.at_+(4+(i-a))=_;omega
   refine zz 14 ?_;refine⟨(f,false,t',x.skip (4+(i-a))),⟨⟨ak,by dsimp only;omega,?_⟩,cd,am,by dsimp only;omega,by dsimp only;rw[q,<-RJ]⟩,by dsimp only;omega,?_⟩
   ·show x.nodes.length<=(x.skip (4+(i-a))).at_+2;omega
   dsimp only;refine B13 lf (B1 H) xQ (j7 (K:=K) ?_ rfl rfl CL);rw[cc];rfl
 obtain⟨c,aw⟩:∃c,c=s.getD x.at_ 0:=⟨_,rfl⟩
 have hc:s[x.at_]?=some c:=by rw[aw];exact u x.at_ ad
 have ce:s[((x.at_:Nat):Int).toNat]?=some c:=by rw[aw];exact hv x.at_ ad
 have ai:¬(s[x.at_]?=some 91/\s[x.at_+1]?=some 58):=by
  rintro⟨q1,P⟩;have ag:=(List.getElem?_eq_some_iff.1 P).1;rw[u (x.at_+1) ag]at P;have q3:((s.getD (x.at_+1) 0).toNat:Int)=58:=by rw[Option.some.inj P];rfl
  rw[A4 q1,A4 (show (x.at_:Int)+1<(s.length:Int) by omega),A4 q3]at j;cases j
 obtain⟨h,L⟩:∃h:UInt8,h=if (x.at_+2<s.length/\s[x.at_+1]?=some 45/\¬s[x.at_+2]?=some 93) then s.getD (x.at_+2) 0 else c:=⟨_,rfl⟩
 obtain⟨x2,B⟩:∃x2,x2=if (x.at_+2<s.length/\s[x.at_+1]?=some 45/\¬s[x.at_+2]?=some 93) then x.skip 2 else x:=⟨_,rfl⟩
 have bt:c9 s t x=if h.toNat<c.toNat then .error 40 else .ok (x2.skip 1,t.through c.toNat h.toNat):=by
  rw[WF ai hc];by_cases O:x.at_+2<s.length/\s[x.at_+1]?=some 45/\¬s[x.at_+2]?=some 93
  ·rw[A6 O]at L B;rw[A7 (fun g=>g.elim (fun g=>by omega) fun g=>g.elim (fun g=>g O.2.1) O.2.2),L,B];rfl
  ·rw[A7 O]at L B;rw[A6,L,B,A7 (Nat.lt_irrefl _)]
   ·have e:t.through c.toNat c.toNat=t.with_ c.toNat:=by
     show M7 (c.toNat+1-c.toNat) c.toNat t=_;rw[show c.toNat+1-c.toNat=1 by omega];rfl
    rw[e]
   ·by_cases g1:s.length<x.at_+3
    ·exact .inl g1
    ·by_cases g2:s[x.at_+1]?=some 45
     ·exact .inr (.inr (Decidable.not_not.1 fun g3=>O ⟨by omega,g2,g3⟩))
     ·exact .inr (.inl g2)
 have bf:x2.depth=x.depth/\x2.nodes=x.nodes/\x2.at_<s.length/\x.at_<=x2.at_:=by
  by_cases O:x.at_+2<s.length/\s[x.at_+1]?=some 45/\¬s[x.at_+2]?=some 93
  ·rw[A6 O]at B;rw[B];exact⟨rfl,rfl,O.1,Nat.le_add_right _ _⟩
  ·rw[A7 O]at B;rw[B];exact⟨rfl,rfl,ad,Nat.le_refl _⟩
 rw[bt]at q;have bj:x.at_+1<s.length->s[((x.at_:Int)+1).toNat]?=some (s.getD (x.at_+1) 0):=fun g=>by rw[show ((x.at_:Int)+1).toNat=x.at_+1 by omega];exact u (x.at_+1) g
 have aq:x.at_+2<s.length->s[((x.at_:Int)+2).toNat]?=some (s.getD (x.at_+2) 0):=fun g=>by rw[show ((x.at_:Int)+2).toNat=x.at_+2 by omega];exact u (x.at_+2) g
 clear j;refine zz 11 ?_;refine D1 (G9 A0 A0 B3 ce) A0 A0 (zz 30 ?_);refine G3 A0 A0 (fun m=>by have I:=m;(try simp at I);rw[m];exact Y6 A0 A0 B3) A0 A0 ?_;refine G3 A0 A0 (fun m=>by have I:=m;(try simp at I);rw[m];exact G9 A0 A0 B3 (bj B3)) A0 A0 ?_;refine zz 11 ?_;refine G3 A0 A0 (fun m=>by have I:=m;(try simp at I);rw[m];exact Y6 A0 A0 B3) A0 A0 ?_;refine G3 A0 A0 (fun m=>by have I:=m;(try simp at I);rw[m];exact G9 A0 A0 B3 (aq B3)) A0 A0 ?_;refine G3 A0 A0 (fun m=>by rw[m];exact FT A0 A0) A0 A0 ?_;refine zz 2 ?_;refine S7 ([(0,.s G8),(3,K9 y),(4,.s (.one (.ref 870 0))),(13,.s (b8 c)),(14,.s (b8 h))]++B5 K gf) (RObs s x2 0 ((870,lG t)::Z)) ?_ ?_
 ·skip;refine zc 0 (fun j=>?_) fun j=>?_
  ·have O:x.at_+2<s.length/\s[x.at_+1]?=some 45/\¬s[x.at_+2]?=some 93:=by
    simp only[W8]at j;simp only[B47,decide_eq_true_eq]at j;obtain⟨⟨q1,P⟩,q3⟩:=j;refine⟨by omega,by rw[u (x.at_+1) B3];exact congrArg some (hu _ 45 P),fun q4=>?_⟩;rw[u (x.at_+2) B3]at q4;exact q3 (by rw[Option.some.inj q4];rfl)
   rw[A6 O]at L B;subst L B;refine zz 11 ?_;refine D1 (G9 A0 A0 B3 (aq O.1)) A0 A0 (zz 13 ?_);exact B13 lf (B1 H) xQ (j7 (K:=K) rfl rfl rfl CL)
  ·have O:¬(x.at_+2<s.length/\s[x.at_+1]?=some 45/\¬s[x.at_+2]?=some 93):=by
    rintro⟨q1,P,q3⟩;rw[u (x.at_+1) B3]at P;rw[u (x.at_+2) q1]at q3;have g1:((s.getD (x.at_+1) 0).toNat:Int)=45:=by rw[Option.some.inj P];rfl
    have g2:¬((s.getD (x.at_+2) 0).toNat:Int)=93:=fun e=>q3 (congrArg some (hu _ 93 e));rw[A4 (show (x.at_:Int)+2<(s.length:Int) by omega),A4 g1,A4 g2]at j;cases j
   rw[A7 O]at L B;subst L B;refine zz 1 ?_;exact B13 lf (B1 H) xQ (j7 (K:=K) rfl rfl rfl CL)
 clear L B;obtain⟨d1,d2,d3,d4⟩:=bf;obtain⟨Q,ac⟩:∃Q,Q=x2.skip 1:=⟨_,rfl⟩
 have ch:Q.at_=x2.at_+1:=by rw[ac];rfl
 have bg:Q.depth=st.depth:=by rw[ac];exact d1.trans am
 have bh:Q.nodes=x.nodes:=by rw[ac];exact d2
 rw[<-ac]at q;refine zz 11 ?_;refine C1 (fr':=[(0,.s G8),(3,K9 y),(4,.s (.one (.ref 870 0))),(13,.s (b8 c)),(14,.s (b8 h))]++B5 K gf) (ob':=RObs s Q 0 ((870,lG t)::Z)) (by rw[ac];exact B13 lf (B1 H) xQ (j7 (K:=K) A0 A0 A0 CL)) ?_;refine zc 7 (fun j=>?_) fun j=>?_
 ·have az:h.toNat<c.toNat:=by have:=A1 j;omega
  rw[A6 az]at q;dsimp only at q;rw[q]at A;dsimp only at A;refine zz 3 ?_;refine H8 (j2 s Q.at_ Q.depth 0 40 A0) A0 A0 A0 ?_;rintro _ _ ⟨rfl,rfl⟩;refine zz 2 ?_;rw[A6 rfl];refine zz 1 ?_;exact C7 (ob':=RObs s Q 40 Z) (F1 rfl rfl) xQ (S2 (K:=K) ⟨rfl,rfl,CL⟩) ⟨Q,40,0,rfl,rfl,.inr ⟨by decide,A,by omega,by omega,by omega⟩⟩
 have cg:c.toNat<=h.toNat:=by have:=A3 j;omega
 rw[A7 B3]at q;dsimp only at q;have hb:=h.toNat_lt;have ck:=c.toNat_lt;refine zz 4 ?_;refine B0 (X6 A0 (cU B3)) A0 (zz 3 ?_);refine C2 (X:=Nat) (fun i=>([(0,.s G8),(3,K9 y),(4,.s (.one (.ref 870 0))),(14,.s (b8 h)),(15,B7 ((c.toNat:Int)+i))]++B5 K gf,RObs s Q 0 ((870,lG (M7 i c.toNat t))::Z))) (fun i=>i<=h.toNat+1-c.toNat) (fun i=>h.toNat+1-c.toNat-i) 0 (Nat.zero_le _) ?_ ?_
 ·rw[show (c.toNat:Int)+((0:Nat):Int)=(c.toNat:Int) by omega];exact B13 lf (B1 H) xQ (j7 (K:=K) rfl rfl rfl CL)
 intro i hi;dsimp only at hi ⊢;have be:=bE i c.toNat M;have bd:=fY i c.toNat t;obtain⟨w,hw⟩:∃w,w=M7 i c.toNat t:=⟨_,rfl⟩
 rw[<-hw]at be bd ⊢;refine zz 5 ?_;refine B0 (X6 A0 (cU B3)) A0 ?_;refine zc 2 (fun j=>?_) fun j=>?_
 ·have cl:=A1 j;have e1:(c.toNat:Int)+(i:Int)=((c.toNat+i:Nat):Int):=by omega
  rw[e1];refine zz 6 ?_;refine B0 (X6 A0 (XM B3 B3)) A0 (E3 (PH w be (c.toNat+i) B3) (zz 2 ?_));rw[<-bd];refine zz 5 ?_;refine⟨i+1,by omega,by omega,?_⟩;rw[show (c.toNat:Int)+((i+1:Nat):Int)=((c.toNat+i:Nat):Int)+1 by omega];exact B13 lf (B1 H) xQ (j7 (K:=K) rfl rfl rfl CL)
 have bq:i=h.toNat+1-c.toNat:=by have:=A3 j;omega
 have ax:w=t.through c.toNat h.toNat:=by rw[hw,bq];rfl
 rw[ax];refine zz 4 ?_;refine⟨(f,false,t.through c.toNat h.toNat,Q),⟨⟨ak,by dsimp only;omega,by dsimp only;rw[bh];omega⟩,L8 M _ _,bg,by dsimp only;omega,by dsimp only;rw[q,<-RJ]⟩,by dsimp only;omega,?_⟩;dsimp only;exact B13 lf (B1 H) xQ (j7 (K:=K) rfl rfl rfl CL)
theorem PJ{K:List Nat}(U:E5 K 870=true){s:Str}{st:PSt}(hs:SOk s st)(hd:st.depth<=50){f:Nat}{c:UInt8}(hc:s[st.at_]?=some c)
  (X:c=40->st.depth<50->jG s (f+1) st≠.error 0->RX 90 [G8] K s { st with at_:=st.at_+1,depth:=st.depth+1 } (lZ s f { st with at_:=st.at_+1,depth:=st.depth+1 }) r9) (O:kF s (f+1) st c≠.error 0) :
  RX 191 [G8] K s st (kF s (f+1) st c) r9:=by
 intro gf ob Z hI;have m:=hI.z.self;have an:=m;have aj:=hs.len;have hn:=hs.nds;have M:st.at_+1<=s.length:=by have:=(List.getElem?_eq_some_iff.1 hc).1;omega
 have ag:s[((st.at_:Nat):Int).toNat]?=some c:=by rw[B45];exact hc
 have S:∀k:UInt8,(c.toNat:Int)=k.toNat->c=k:=fun k e=>UInt8.toNat_inj.1 B3;have g:∀k:UInt8,¬((c.toNat:Int)=k.toNat)->¬c=k:=fun k h e=>h (by rw[e]);obtain⟨x,A⟩:∃x,x=st.skip 1:=⟨_,rfl⟩
 have ah:x.at_=st.at_+1:=by rw[A];rfl
 have ai:x.depth=st.depth:=by rw[A];rfl
 have ac:x.nodes=st.nodes:=by rw[A];rfl
 have ad:x.nodes.length=st.nodes.length:=by rw[ac]
 obtain⟨R,d⟩:∃R,R=kF s (f+1) st c:=⟨_,rfl⟩
 rw[<-d]at O ⊢;unfold kF at d;refine AL.Met.introH Tryz.func191 F2 rfl rfl rfl (fun B=>?_);refine C1 (CE (l:=[(0,.s G8)]) hI ⟨Y7 rfl,trivial⟩ B I8) ?_;refine zz 14 ?_;refine D1 (G9 A0 A0 B3 ag) A0 A0 (zz 13 ?_);refine C1 (fr':=[(0,.s G8),(3,.s (b8 c))]++B5 K gf) (ob':=RObs s x 0 Z) (by rw[A];exact (B13 lf (B1 B) I8 (S2 (K:=K) ⟨rfl,rfl,rQ⟩))) ?_;refine zc 11 (fun b=>?_) fun b=>?_
 ·have C:=S 40 (A1 b);rw[A6 C]at d;rw[d]at O;have P:=fun h=>X C h O;rw[jG]at d;refine zc 9 (fun b=>?_) fun b=>?_
  ·have H:st.depth=50:=by have:=A1 b;omega
   rw[A6 H]at d;refine zz 3 ?_;refine H8 (j2 s x.at_ x.depth 0 1 A0) A0 A0 A0 ?_;rintro _ _ ⟨rfl,rfl⟩;refine zz 2 ?_;rw[A6 rfl];refine zz 1 ?_;exact C7 (ob':=RObs s x 1 Z) (F1 rfl rfl) I8 (S2 (K:=K) ⟨rfl,rfl,rQ⟩) ⟨x,1,0,rfl,rfl,.inr ⟨by decide,d,by omega,by omega,by omega⟩⟩
  have H:¬st.depth=50:=by have:=A3 b;omega
  rw[A7 H]at d;have Y:=P B3;obtain⟨st1,j⟩:∃st1,st1=({ st with at_:=st.at_+1,depth:=st.depth+1 }:PSt):=⟨_,rfl⟩
  rw[<-j]at d Y;have am:st1.depth=st.depth+1:=by rw[j]
  refine zz 12 ?_;refine C1 (fr':=[(0,.s G8)]++B5 K gf) (ob':=RObs s st1 0 Z) (by rw[j];exact B13 ⟨Y7 rfl,trivial⟩ (B1 B) I8 (S2 (K:=K) (st:={ st with at_:=st.at_+1,depth:=st.depth+1 }) ⟨(by rw[B4,ah,ai];rfl),(by rw[<-ac];rfl),rQ⟩)) ?_;refine zz 3 ?_;refine S0 (Y _ _ Z ⟨rfl,rfl,by repeat (first | exact m | refine ZOk.cons ?_ (.inl rfl) | refine ZOk.cons ?_ (.inr m.k8.h811))⟩) dF rfl rfl rfl ?_;rintro _ _ ⟨y,e,v,rfl,rfl,E⟩;refine zz 2 ?_;refine zz 2 ?_;rcases E with ⟨rfl,w⟩ | ⟨he,w,b1,b2,b3⟩
  ·rw[w]at d;dsimp only at d;have W:Gr s 0 2 st1 y/\sK y v:=by
    rw[(DZ f).pat st1 B3 (by rw[j];exact M)]at w;exact (V6 f).pat (by rw[j];exact M) w
   have ak:=W.1.dep;have al:=W.1.len;have e2:(y.depth:Int)-1=((y.depth-1:Nat):Int):=by omega
   by_cases hb:s[y.at_]?=some 41
   ·have hh:M9 s 41 y=true:=A4 hb;rw[A6 hh]at d;have g3:=(List.getElem?_eq_some_iff.1 hb).1;refine zz 10 ?_;refine H8 (cJ s y.at_ y.depth 0 41 B3 A0) A0 A0 A0 ?_;rintro _ _ ⟨rfl,rfl⟩;refine zz 2 ?_;refine B0 (L6 A0 (rfl) A0) A0 (zz 1 ?_);rw[A4 hb];refine zc 0 (fun b=>?_) fun b=>?_
    ·cases b
    refine zz 12 ?_;rw[e2];refine zz 17 ?_;exact C7 (ob':=RObs s { y with at_:=y.at_+1,depth:=y.depth-1 } 0 Z) (F1 rfl rfl) I8 (S2 (K:=K) ⟨rfl,rfl,rQ⟩) ⟨{ y with at_:=y.at_+1,depth:=y.depth-1 },0,v,rfl,rfl,.inl ⟨rfl,d⟩⟩
   ·have hh:¬M9 s 41 y=true:=fun h=>hb (A1 h);rw[A7 hh]at d;refine zz 10 ?_;refine H8 (cJ s y.at_ y.depth 0 41 B3 A0) A0 A0 A0 ?_;rintro _ _ ⟨rfl,rfl⟩;refine zz 2 ?_;refine B0 (L6 A0 (rfl) A0) A0 (zz 1 ?_);rw[A5 hb];refine zc 0 (fun b=>?_) fun b=>?_;rotate_left
    ·cases b
    refine zz 3 ?_;refine H8 (j2 s y.at_ y.depth 0 40 A0) A0 A0 A0 ?_;rintro _ _ ⟨rfl,rfl⟩;refine zz 2 ?_;rw[A6 rfl];refine zz 1 ?_;exact C7 (ob':=RObs s y 40 Z) (F1 rfl rfl) I8 (S2 (K:=K) ⟨rfl,rfl,rQ⟩) ⟨y,40,0,rfl,rfl,.inr ⟨by decide,d,by omega,by omega,by omega⟩⟩
  ·rw[w]at d;dsimp only at d;have e2:(y.depth:Int)-1=((y.depth-1:Nat):Int):=by omega
   have D:=A5 he;refine zz 7 ?_;refine J9 A0 A0 A0 (by rw[D];decide) A0 ?_;refine J9 A0 A0 A0 (by rw[D];decide) A0 ?_;refine J9 A0 A0 A0 (by rw[D];decide) A0 ?_;refine B0 (V3 A0 (D) A0) A0 ?_;refine zc 1 (fun b=>?_) fun b=>?_
   ·cases b
   refine zz 12 ?_;rw[e2];refine zz 17 ?_;exact C7 (ob':=RObs s { y with at_:=y.at_+1,depth:=y.depth-1 } e Z) (F1 rfl rfl) I8 (S2 (K:=K) ⟨rfl,rfl,rQ⟩) ⟨{ y with at_:=y.at_+1,depth:=y.depth-1 },e,v,rfl,rfl,.inr ⟨he,d,by dsimp only;omega,by dsimp only;omega,by dsimp only;omega⟩⟩
 have C:=g 40 (A3 b);rw[A7 C]at d;refine zc 5 (fun b=>?_) fun b=>?_
 ·have I:=S 91 (A1 b);rw[A6 I]at d;have V:=fun (gf:Fr) (ob:Obs)=>A01 (K:=K) U hs M hd (gf:=gf) (ob:=ob) (Z:=Z);rw[<-A]at V;refine zz 3 ?_;refine S0 (V _ _ ⟨rfl,rfl,by repeat (first | exact m | refine ZOk.cons ?_ (.inl rfl) | refine ZOk.cons ?_ (.inr m.k8.h811))⟩) dF rfl rfl rfl ?_;rintro _ _ ⟨y,e,v,rfl,rfl,E⟩;refine zz 2 ?_;rw[<-d]at E;refine zz 1 ?_;exact C7 (F1 rfl rfl) I8 (fun _ _ h=>h) ⟨y,e,v,rfl,rfl,E⟩
 have I:=g 91 (A3 b);rw[A7 I]at d;refine zc 5 (fun b=>?_) fun b=>?_
 ·have G:=S 46 (A1 b);rw[A6 G]at d;refine zz 4 ?_;refine E3 (HI set0 j1) (zz 1 ?_);refine fF ((B16 Int 1 D2 76 7 A0 A0)) ?_;refine S0 (eV (K:=K) (s:=s) (st:=x) (e:=0) (Z:=Z) ⟨1,set0.compl,0,0,[]⟩ B3 ⟨rfl,rfl,by repeat (first | exact m | refine ZOk.cons ?_ (.inl rfl) | refine ZOk.cons ?_ (.inr m.k8.h811))⟩) dF rfl rfl rfl ?_;rintro _ _ ⟨rfl,rfl⟩;refine zz 2 ?_;refine zz 1 ?_;exact C7 (ob':=RObs s (U8 ⟨1,set0.compl,0,0,[]⟩ x).1 0 Z) (F1 rfl rfl) I8 (fun _ _ h=>h) ⟨(U8 ⟨1,set0.compl,0,0,[]⟩ x).1,0,(U8 ⟨1,set0.compl,0,0,[]⟩ x).2,rfl,rfl,.inl ⟨rfl,by rw[d,A];rfl⟩⟩
 have G:=g 46 (A3 b);rw[A7 G]at d;refine zc 5 (fun b=>?_) fun b=>?_
 ·have L:=S 94 (A1 b);rw[A6 L,<-A]at d;refine zz 4 ?_;refine fF ((B16 Int 1 D2 81 7 A0 A0)) ?_;refine S0 (eV (K:=K) (s:=s) (st:=x) (e:=0) (Z:=Z) ⟨2,set0,0,0,[]⟩ B3 ⟨rfl,rfl,by repeat (first | exact m | refine ZOk.cons ?_ (.inl rfl) | refine ZOk.cons ?_ (.inr m.k8.h811))⟩) dF rfl rfl rfl ?_;rintro _ _ ⟨rfl,rfl⟩;refine zz 2 ?_;refine zz 1 ?_;exact C7 (ob':=RObs s (U8 ⟨2,set0,0,0,[]⟩ x).1 0 Z) (F1 rfl rfl) I8 (fun _ _ h=>h) ⟨(U8 ⟨2,set0,0,0,[]⟩ x).1,0,(U8 ⟨2,set0,0,0,[]⟩ x).2,rfl,rfl,.inl ⟨rfl,d⟩⟩
 have L:=g 94 (A3 b);rw[A7 L]at d;refine zc 5 (fun b=>?_) fun b=>?_
 ·have F:=S 36 (A1 b);rw[A6 F,<-A]at d;refine zz 4 ?_;refine fF ((B16 Int 1 D2 86 7 A0 A0)) ?_;refine S0 (eV (K:=K) (s:=s) (st:=x) (e:=0) (Z:=Z) ⟨3,set0,0,0,[]⟩ B3 ⟨rfl,rfl,by repeat (first | exact m | refine ZOk.cons ?_ (.inl rfl) | refine ZOk.cons ?_ (.inr m.k8.h811))⟩) dF rfl rfl rfl ?_;rintro _ _ ⟨rfl,rfl⟩;refine zz 2 ?_;refine zz 1 ?_;exact C7 (ob':=RObs s (U8 ⟨3,set0,0,0,[]⟩ x).1 0 Z) (F1 rfl rfl) I8 (fun _ _ h=>h) ⟨(U8 ⟨3,set0,0,0,[]⟩ x).1,0,(U8 ⟨3,set0,0,0,[]⟩ x).2,rfl,rfl,.inl ⟨rfl,d⟩⟩
 have F:=g 36 (A3 b);rw[A7 F]at d;obtain⟨Q,hQ⟩:∃Q:Str,Q=[41,124,42,43,63,123]:=⟨_,rfl⟩
 rw[<-hQ]at d;have q:∀k:UInt8,k∈([41,124,42,43,63,123]:Str)->(c.toNat:Int)=k.toNat->c∈Q:=fun k h e=>by rw[hQ,S k e];exact h
 refine zz 6 ?_;refine S7 ([(0,.s G8),(3,.s (b8 c)),(21,.s (b8 c)),(88,K9 (decide (c∈Q)))]++B5 K gf) (RObs s x 0 Z) ?_ ?_
 ·skip;refine zc 0 (fun b=>?_) fun b=>?_
  ·rw[A4 (q 41 F2 (A1 b)),b];refine zz 1 ?_;exact (B13 lf (B1 B) I8 (S2 (K:=K) ⟨rfl,rfl,rQ⟩))
  have n0:=g 41 (A3 b);refine zc 5 (fun b=>?_) fun b=>?_
  ·rw[A4 (q 124 F2 (A1 b)),b];refine zz 1 ?_;exact (B13 lf (B1 B) I8 (S2 (K:=K) ⟨rfl,rfl,rQ⟩))
  have n1:=g 124 (A3 b);refine zc 5 (fun b=>?_) fun b=>?_
  ·rw[A4 (q 42 F2 (A1 b)),b];refine zz 1 ?_;exact (B13 lf (B1 B) I8 (S2 (K:=K) ⟨rfl,rfl,rQ⟩))
  have n2:=g 42 (A3 b);refine zc 5 (fun b=>?_) fun b=>?_
  ·rw[A4 (q 43 F2 (A1 b)),b];refine zz 1 ?_;exact (B13 lf (B1 B) I8 (S2 (K:=K) ⟨rfl,rfl,rQ⟩))
  have n3:=g 43 (A3 b);refine zc 5 (fun b=>?_) fun b=>?_
  ·rw[A4 (q 63 F2 (A1 b)),b];refine zz 1 ?_;exact (B13 lf (B1 B) I8 (S2 (K:=K) ⟨rfl,rfl,rQ⟩))
  have n4:=g 63 (A3 b);skip;refine zz 4 ?_
  rw[show decide ((c.toNat:Int)=123)=decide (c∈Q) by
   refine decide_eq_decide.2 ⟨fun e=>q 123 F2 e,fun e=>?_⟩;rw[hQ]at e;simp only[B66,B84,or_false]at e;rcases e with h | h | h | h | h | h
   ·exact absurd h n0
   ·exact absurd h n1
   ·exact absurd h n2
   ·exact absurd h n3
   ·exact absurd h n4
   ·rw[h];rfl]
  exact (B13 lf (B1 B) I8 (S2 (K:=K) ⟨rfl,rfl,rQ⟩))
 skip;refine zc 0 (fun b=>?_) fun b=>?_
 ·rw[A6 (A1 b)]at d;refine zz 3 ?_;refine H8 (j2 s x.at_ x.depth 0 40 A0) A0 A0 A0 ?_;rintro _ _ ⟨rfl,rfl⟩;refine zz 2 ?_;rw[A6 rfl];refine zz 1 ?_;exact C7 (ob':=RObs s x 40 Z) (F1 rfl rfl) I8 (S2 (K:=K) ⟨rfl,rfl,rQ⟩) ⟨x,40,0,rfl,rfl,.inr ⟨by decide,d,by omega,by omega,by omega⟩⟩
 rw[A7 (A3 b)]at d;refine zc 5 (fun b=>?_) fun b=>?_
 ·have J:=S 92 (A1 b);rw[A6 J]at d;refine zz 12 ?_;refine D1 (zU A0 A0) A0 A0 ?_;refine zc 1 (fun b=>?_) fun b=>?_
  ·have ae:s.length<=x.at_:=by have:=A1 b;omega
   have u:R=.error 40:=by
    rw[d];unfold cN R4 dR;rw[<-A,B56 ae]
   refine zz 3 ?_;refine H8 (j2 s x.at_ x.depth 0 40 A0) A0 A0 A0 ?_;rintro _ _ ⟨rfl,rfl⟩;refine zz 2 ?_;rw[A6 rfl];refine zz 1 ?_;exact C7 (ob':=RObs s x 40 Z) (F1 rfl rfl) I8 (S2 (K:=K) ⟨rfl,rfl,rQ⟩) ⟨x,40,0,rfl,rfl,.inr ⟨by decide,u,by omega,by omega,by omega⟩⟩
  have ab:x.at_<s.length:=by have:=A3 b;omega
  have af:s[((x.at_:Nat):Int).toNat]?=some (s.getD x.at_ 0):=by rw[B45,B46,B44 ab];rfl
  obtain⟨z,T⟩:∃z,z=x.skip 1:=⟨_,rfl⟩
  have ao:z.nodes.length=st.nodes.length:=by rw[T];exact ad
  have u:R=.ok (fZ (set0.with_ (s.getD x.at_ 0).toNat) z):=by
   rw[d];unfold cN R4 dR;rw[<-A,B46,B44 ab,T];rfl
  refine zz 11 ?_;refine D1 (G9 A0 A0 B3 af) A0 A0 (zz 12 ?_);refine C1 (fr':=[(0,.s G8),(3,.s (b8 (s.getD x.at_ 0)))]++B5 K gf) (ob':=RObs s z 0 Z) (by rw[T];exact (B13 lf (B1 B) I8 (S2 (K:=K) ⟨rfl,rfl,rQ⟩))) ?_;refine zz 5 ?_;refine E3 (KS set0 j1 (s.getD x.at_ 0)) (zz 1 ?_);refine fF ((B16 Int 1 D2 131 7 A0 A0)) ?_;refine S0 (eV (K:=K) (s:=s) (st:=z) (e:=0) (Z:=Z) ⟨1,set0.with_ (s.getD x.at_ 0).toNat,0,0,[]⟩ B3 ⟨rfl,rfl,by repeat (first | exact m | refine ZOk.cons ?_ (.inl rfl) | refine ZOk.cons ?_ (.inr m.k8.h811))⟩) dF rfl rfl rfl ?_;rintro _ _ ⟨rfl,rfl⟩;refine zz 2 ?_;refine zz 1 ?_;exact C7 (ob':=RObs s (U8 ⟨1,set0.with_ (s.getD x.at_ 0).toNat,0,0,[]⟩ z).1 0 Z) (F1 rfl rfl) I8 (fun _ _ h=>h) ⟨(U8 ⟨1,set0.with_ (s.getD x.at_ 0).toNat,0,0,[]⟩ z).1,0,(U8 ⟨1,set0.with_ (s.getD x.at_ 0).toNat,0,0,[]⟩ z).2,rfl,rfl,.inl ⟨rfl,u⟩⟩
 have J:=g 92 (A3 b);rw[A7 J]at d;have u:R=.ok (fZ (set0.with_ c.toNat) x):=by
  rw[d];unfold R4 dR;rw[hc,A]
 refine zz 6 ?_;refine E3 (KS set0 j1 c) (zz 1 ?_);refine fF ((B16 Int 1 D2 131 7 A0 A0)) ?_;refine S0 (eV (K:=K) (s:=s) (st:=x) (e:=0) (Z:=Z) ⟨1,set0.with_ c.toNat,0,0,[]⟩ B3 ⟨rfl,rfl,by repeat (first | exact m | refine ZOk.cons ?_ (.inl rfl) | refine ZOk.cons ?_ (.inr m.k8.h811))⟩) dF rfl rfl rfl ?_;rintro _ _ ⟨rfl,rfl⟩;refine zz 2 ?_;refine zz 1 ?_;exact C7 (ob':=RObs s (U8 ⟨1,set0.with_ c.toNat,0,0,[]⟩ x).1 0 Z) (F1 rfl rfl) I8 (fun _ _ h=>h) ⟨(U8 ⟨1,set0.with_ c.toNat,0,0,[]⟩ x).1,0,(U8 ⟨1,set0.with_ c.toNat,0,0,[]⟩ x).2,rfl,rfl,.inl ⟨rfl,u⟩⟩
theorem UL{st:PSt}{s:Str}(h:∀q:UInt8,q∈([42,43,63,123]:Str)->¬s[st.at_]?=some q):V5 s F8 st=.ok (st,none):=by
 have a:∀q:UInt8,q∈([42,43,63,123]:Str)->¬M9 s q st=true:=fun q b e=>h q b (A1 e);unfold V5;rw[A7 (a 42 F2),A7 (a 43 F2),A7 (a 63 F2),A7 (a 123 F2)]
theorem UM{st:PSt}{s:Str}{q:UInt8}(d:s[st.at_]?=some q):V5 s F8 st=if q=42 then .ok (st.skip 1,some (0,-1)) else if q=43 then .ok (st.skip 1,some (1,-1)) else if q=63 then .ok (st.skip 1,some (0,1)) else if q=123 then (match W4 s F8 (st.skip 1) with
  | .error e=>.error e
  | .ok (st',b)=>.ok (st',some b)) else .ok (st,none):=by
 have a:∀c:UInt8,M9 s c st=decide (q=c):=fun c=>by
  unfold M9;rw[d];exact decide_eq_decide.2 ⟨fun e=>Option.some.inj e,fun e=>congrArg some e⟩
 unfold V5;simp only[a,decide_eq_true_eq];rfl
theorem vH{p:Prop}(h:p:=by dsimp only;decide):p:=h
theorem A02{K:List Nat}(W:E5 K 870=true){s:Str}{st:PSt}(hs:SOk s st)(hd:st.depth<=50){F:Nat}{c:UInt8}(hc:s[st.at_]?=some c)(ae:c≠124)
  (ai:∀f,F=f+1->c=40->st.depth<50->jG s (f+1) st≠.error 0->RX 90 [G8] K s { st with at_:=st.at_+1,depth:=st.depth+1 } (lZ s f { st with at_:=st.at_+1,depth:=st.depth+1 }) r9) (ah:cA s (F+1) st c≠.error 0) :
  RX 176 [G8] K s st (cA s (F+1) st c) r9:=by
 intro gf ob Z hI;have hz:=hI.z.self;have be:=hz;have ba:=hs.len;have aq:st.at_+1<=s.length:=by have:=(List.getElem?_eq_some_iff.1 hc).1;omega
 obtain⟨R,L⟩:∃R,R=cA s (F+1) st c:=⟨_,rfl⟩
 rw[<-L]at ah ⊢;rw[WG ae]at L;obtain⟨b,M⟩:∃b,b=(decide (c=94)||decide (c=36)):=⟨_,rfl⟩
 rw[<-M]at L;have am:∃A,A=kF s F st c/\RX 191 [G8] K s st A r9:=by
  refine⟨_,rfl,?_⟩;have D:kF s F st c≠.error 0:=fun h=>ah (by rw[L,h];rfl);cases F with
  | zero =>
   have Y:c≠40:=fun e=>D (by rw[e];rfl);have e:kF s 0 st c=kF s 1 st c:=by unfold kF;rw[A7 Y,A7 Y]
   rw[e]at D ⊢;exact PJ W hs hd hc (fun e=>absurd e Y) D
  | succ f=>exact PJ W hs hd hc (ai f rfl) D
 obtain⟨A,hA,al⟩:=am;have ag:=fun z k=>A98 (s:=s) (f:=F) (c:=c) aq (z:=z) (k:=k);rw[<-hA]at L ag;have C:∀k:UInt8,decide (s[st.at_]?=some k)=decide (c=k):=fun k=>by
  rw[hc];exact decide_eq_decide.2 ⟨fun e=>Option.some.inj e,fun e=>congrArg some e⟩
 refine AL.Met.introH Tryz.func176 F2 rfl rfl rfl (fun S=>?_);refine C1 (CE (l:=[(0,.s G8)]) hI ⟨Y7 rfl,trivial⟩ S I8) ?_;refine zz 5 ?_;refine S7 ([(0,.s G8),(3,K9 b)]++B5 K gf) (RObs s st 0 Z) ?_ ?_
 ·by_cases af:c=94
  ·have d:=A4 af;refine zz 2 ?_;refine H8 (cJ s st.at_ st.depth 0 94 B3 A0) A0 A0 A0 ?_;rintro _ _ ⟨rfl,rfl⟩;refine zz 1 ?_;refine J9 A0 A0 A0 (by rw[C,d];decide) A0 ?_;refine J9 A0 A0 A0 (by rw[C,d];decide) A0 ?_;refine B0 (L6 A0 ((by rw[C];exact d)) A0) A0 ?_;refine zz 2 ?_;rw[show true=b by rw[M,d];rfl];refine zz 0 ?_;exact (B13 lf (B1 S) I8 (S2 (K:=K) ⟨rfl,rfl,rQ⟩))
  ·have d:=A5 af;refine zz 2 ?_;refine H8 (cJ s st.at_ st.depth 0 94 B3 A0) A0 A0 A0 ?_;rintro _ _ ⟨rfl,rfl⟩;refine zz 1 ?_;refine J4 A0 A0 A0 (by rw[C];exact d) ?_;refine zz 1 ?_;refine J4 A0 A0 A0 (by rw[C];exact d) ?_;refine H8 (cJ s st.at_ st.depth 0 36 B3 A0) A0 A0 A0 ?_;rintro _ _ ⟨rfl,rfl⟩;refine B0 (V3 A0 ((by rw[C];exact d)) A0) A0 ?_;refine zz 2 ?_;rw[C,C,show decide (c=36)=b by rw[M,d];rfl];refine zz 0 ?_;exact (B13 lf (B1 S) I8 (S2 (K:=K) ⟨rfl,rfl,rQ⟩))
 refine zz 3 ?_;refine S0 (al _ _ Z ⟨rfl,rfl,by repeat (first | exact hz | refine ZOk.cons ?_ (.inl rfl) | refine ZOk.cons ?_ (.inr hz.k8.h811))⟩) dF rfl rfl rfl ?_;rintro _ _ ⟨y,e,v,rfl,rfl,au⟩;refine zz 2 ?_;refine zz 2 ?_;rcases au with ⟨rfl,Q⟩ | ⟨he,Q,b1,b2,b3⟩;rotate_left
 ·have ac:R=.error e:=by rw[L,Q];rfl
  have p:=A4 he;refine zz 7 ?_;refine x7 A0 A0 (by rw[p];decide) A0 A0 ?_;refine x7 A0 A0 (by rw[p];decide) A0 A0 ?_;refine x7 A0 A0 (by rw[p];decide) A0 A0 ?_;refine x7 A0 A0 (by rw[p];decide) A0 A0 ?_;refine x7 A0 A0 (by rw[p];decide) A0 A0 ?_;refine x7 A0 A0 (by rw[p];decide) A0 A0 ?_;refine x7 A0 A0 (by rw[p];decide) A0 A0 ?_;refine x7 A0 A0 (by rw[p];decide) A0 A0 ?_;refine x7 A0 A0 (by rw[p];decide) A0 A0 ?_;refine x7 A0 A0 (by rw[p];decide) A0 A0 ?_;refine D1 (L6 A0 (p) A0) A0 A0 ?_;refine zc 1 (fun j=>?_) fun j=>?_;rotate_left
  ·cases j
  refine zz 6 ?_;exact C7 (F1 rfl rfl) I8 (fun _ _ h=>h) ⟨y,e,v,rfl,rfl,.inr ⟨he,ac,b1,b2,b3⟩⟩
 obtain⟨gA,iA⟩:=ag y v Q;have aj:=hs.gr gA (Nat.le_refl _);have bc:=aj.at_;have bd:=aj.nds;have O:=gA.dep;rw[Q]at L;have p:decide ((0:Int)≠0)=false:=by decide
 refine zz 7 ?_;refine vN A0 A0 A0 A0 (zz 1 ?_);refine vN A0 A0 A0 A0 (zz 1 ?_);refine vN A0 A0 A0 A0 (zz 1 ?_);refine vN A0 A0 A0 A0 (zz 1 ?_);refine vN A0 A0 A0 A0 (zz 1 ?_);refine vN A0 A0 A0 A0 (zz 1 ?_);refine vN A0 A0 A0 A0 (zz 1 ?_);refine vN A0 A0 A0 A0 (zz 1 ?_);refine vN A0 A0 A0 A0 (zz 1 ?_);refine vN A0 A0 A0 A0 (D1 (zU A0 A0) A0 A0 (D1 (V3 A0 (rfl) A0) A0 A0 ?_));refine zc 1 (fun j=>?_) fun j=>?_
 ·have ap:s.length<=y.at_:=by have:=A1 j;omega
  have ak:s[y.at_]?=none:=B56 ap;have ab:R=.ok (y,v):=by
   rw[L];unfold mA;dsimp only;split
   ·rw[ak]
   ·rw[UL (fun q _ h=>by rw[ak]at h;cases h)]
  refine zz 6 ?_;exact C7 (F1 rfl rfl) I8 (fun _ _ h=>h) ⟨y,0,v,rfl,rfl,.inl ⟨rfl,ab⟩⟩
 have G:y.at_<s.length:=by have:=A3 j;omega
 obtain⟨q,av⟩:∃q,q=s.getD y.at_ 0:=⟨_,rfl⟩
 have hq:s[y.at_]?=some q:=by rw[av,B46,B44 G];rfl
 have aw:s[((y.at_:Nat):Int).toNat]?=some q:=by rw[B45];exact hq
 have hu:∀k:UInt8,(q.toNat:Int)=k.toNat->q=k:=fun k e=>UInt8.toNat_inj.1 B3;have V:∀k:UInt8,¬((q.toNat:Int)=k.toNat)->¬q=k:=fun k h e=>h (by rw[e]);have B:=UM hq;refine zz 17 ?_;refine D1 (G9 A0 A0 B3 aw) A0 A0 (zz 1 ?_);refine A52 (X:=Int×Int×PSt×Int) (fun x=>([(0,.s G8),(3,K9 b),(4,B7 v),(5,B7 x.1),(6,B7 x.2.1)]++B5 K gf,RObs s x.2.2.1 x.2.2.2 Z)) (fun x=>R=(if b=true\/x.2.2.2≠0 then .error 40 else .ok (U8 ⟨6,set0,x.1,x.2.1,[v]⟩ (x.2.2.1.skip 1)))/\(x.2.2.2=0\/x.2.2.2=40)/\x.2.2.1.at_+1<=s.length/\x.2.2.1.depth=st.depth/\x.2.2.1.nodes.length<=s.length+2) ?_ ?_
 ·have T:∀(lo U:Int) (w:PSt),q∈([42,43,63,123]:Str)->V5 s F8 y=.ok (w.skip 1,some (lo,U))->R=(if b=true\/(0:Int)≠0 then .error 40 else .ok (U8 ⟨6,set0,lo,U,[v]⟩ (w.skip 1))):=fun lo U w hm hw=>by
   rw[L];unfold mA;dsimp only;by_cases ha:b=true
   ·rw[A6 ha,A6 (.inl ha),hq];exact A6 hm
   ·rw[A7 ha,A7 (fun g=>g.elim ha fun g=>g rfl),hw]
  refine zc 6 (fun j=>?_) fun j=>?_
  ·have H:=hu 42 (A1 j);rw[A6 H]at B;refine zz 1 ?_;exact⟨(0,-1,y,0),⟨T 0 (-1) y (by rw[H];decide) B,.inl rfl,G,O,by dsimp only;omega⟩,(B13 lf (B1 S) I8 (S2 (K:=K) ⟨rfl,rfl,rQ⟩))⟩
  have H:=V 42 (A3 j);rw[A7 H]at B;refine zc 5 (fun j=>?_) fun j=>?_
  ·have I:=hu 43 (A1 j);rw[A6 I]at B;skip;refine zz 3 ?_;exact⟨(1,-1,y,0),⟨T 1 (-1) y (by rw[I];decide) B,.inl rfl,G,O,by dsimp only;omega⟩,(B13 lf (B1 S) I8 (S2 (K:=K) ⟨rfl,rfl,rQ⟩))⟩
  have I:=V 43 (A3 j);rw[A7 I]at B;refine zc 5 (fun j=>?_) fun j=>?_
  ·have J:=hu 63 (A1 j);rw[A6 J]at B;skip;refine zz 3 ?_;exact⟨(0,1,y,0),⟨T 0 1 y (by rw[J];decide) B,.inl rfl,G,O,by dsimp only;omega⟩,(B13 lf (B1 S) I8 (S2 (K:=K) ⟨rfl,rfl,rQ⟩))⟩
  have J:=V 63 (A3 j);rw[A7 J]at B;refine zc 5 (fun j=>?_) fun j=>?_
  ·have u:=hu 123 (A1 j);rw[A6 u,show y.skip 1=({ y with at_:=y.at_+1 }:PSt) from rfl,WC]at B;obtain⟨m,hm⟩:∃m,m=wU s (y.at_+1):=⟨_,rfl⟩
   have hB:=fun (gf:Fr) (ob:Obs)=>PG (gf:=gf) (ob:=ob) s y.at_ y.depth G B3;rw[<-hm]at B hB;by_cases hM:oK s m
   ·simp only[A6 hM]at B hB;have ar:=(List.getElem?_eq_some_iff.1 hM.2.1).1;skip;refine zz 2 ?_;refine H8 (hB _ _ A0) A0 A0 A0 ?_;rintro _ _ ⟨rfl,rfl⟩;refine zz 6 ?_;exact⟨(m.1,m.2.2.2,{ y with at_:=m.2.1 },0),⟨T m.1 m.2.2.2 { y with at_:=m.2.1 } (by rw[u];decide) B,.inl rfl,ar,O,by dsimp only;omega⟩,(B13 lf (B1 S) I8 (S2 (K:=K) ⟨rfl,rfl,rQ⟩))⟩
   ·simp only[A7 hM]at B hB;have ac:R=.error 40:=by
     rw[L];unfold mA;dsimp only;split
     ·rw[hq];exact A6 (by rw[u];decide)
     ·rw[B]
    skip;refine zz 2 ?_;refine H8 (hB _ _ A0) A0 A0 A0 ?_;rintro _ _ ⟨rfl,rfl⟩;refine zz 6 ?_;exact⟨(0,0,y,40),⟨by rw[ac,A6 (.inr vH)],.inr rfl,G,O,by dsimp only;omega⟩,(B13 lf (B1 S) I8 (S2 (K:=K) ⟨rfl,rfl,rQ⟩))⟩
  have u:=V 123 (A3 j);rw[A7 u]at B;have ab:R=.ok (y,v):=by
   rw[L];unfold mA;dsimp only;split
   ·rw[hq];refine A7 fun hm=>?_;simp only[B66,B84,or_false]at hm;rcases hm with h | h | h | h
    ·exact H h
    ·exact I h
    ·exact J h
    ·exact u h
   ·rw[B]
  refine zz 6 ?_;exact C7 (F1 rfl rfl) I8 (S2 (K:=K) (st:=y) ⟨rfl,rfl,rQ⟩) ⟨y,0,v,rfl,rfl,.inl ⟨rfl,ab⟩⟩
 rintro⟨lo,U,w,e⟩ ⟨E,he,ay,ax,az⟩;dsimp only at E he ay ax az ⊢;refine zc 12 (fun j=>?_) fun j=>?_
 ·have P:b=true\/e≠0:=by
   rw[aI,B63,decide_eq_true_eq]at j;exact j
  rw[A6 P]at E;have ao:(if e=0 then (40:Int) else e)=40:=by
   split
   ·rfl
   ·omega
  refine zz 3 ?_;refine H8 (j2 s w.at_ w.depth e 40 A0) A0 A0 A0 ?_;rintro _ _ ⟨rfl,rfl⟩;refine zz 2 ?_;rw[ao];refine zz 1 ?_;exact C7 (ob':=RObs s w 40 Z) (F1 rfl rfl) I8 (S2 (K:=K) ⟨rfl,rfl,rQ⟩) ⟨w,40,0,rfl,rfl,.inr ⟨by decide,E,by omega,by omega,by omega⟩⟩
 ·have P:¬(b=true\/e≠0):=fun g=>by
   rw[aI,B72,decide_eq_false_iff_not]at j;rcases g with g | g
   ·rw[j.1]at g;cases g
   ·exact j.2 g
  have an:e=0:=Decidable.not_not.1 fun g=>P (.inr g);rw[A7 P]at E;subst an;obtain⟨z,ad⟩:∃z,z=w.skip 1:=⟨_,rfl⟩
  rw[<-ad]at E;have bf:z.nodes.length=w.nodes.length:=by rw[ad];rfl
  refine zz 12 ?_;refine C1 (fr':=[(0,.s G8),(4,B7 v),(5,B7 lo),(6,B7 U)]++B5 K gf) (ob':=RObs s z 0 Z) (by rw[ad];exact (B13 lf (B1 S) I8 (S2 (K:=K) ⟨rfl,rfl,rQ⟩))) ?_;refine zz 6 ?_;refine B0 (C0 (c:=D2) (ys:=[v]) (C3 A0 A0 A0 A0 E6) A0 A0 A0) A0 (zz 1 ?_);refine S0 (eV (K:=K) (s:=s) (st:=z) (e:=0) (Z:=Z) ⟨6,set0,lo,U,[v]⟩ B3 ⟨rfl,rfl,by repeat (first | exact hz | refine ZOk.cons ?_ (.inl rfl) | refine ZOk.cons ?_ (.inr hz.k8.h811))⟩) dF rfl rfl rfl ?_;rintro _ _ ⟨rfl,rfl⟩;refine zz 2 ?_;refine zz 1 ?_;exact C7 (ob':=RObs s (U8 ⟨6,set0,lo,U,[v]⟩ z).1 0 Z) (F1 rfl rfl) I8 (fun _ _ h=>h) ⟨(U8 ⟨6,set0,lo,U,[v]⟩ z).1,0,(U8 ⟨6,set0,lo,U,[v]⟩ z).2,rfl,rfl,.inl ⟨rfl,E⟩⟩
theorem nS{K:List Nat}{a:Nat}{s:Str}{st:PSt}{e:Int}{x:Ob}{Z ob:Obs}(l:a≠810)(j:a≠811)(ha:E5 K a=true)(m:ZOk K Z Z)
  (i:∀k o,k≠a->B6 (RObs s st e Z) k=some o->B6 ob k=some o):∀k o,B6 (RObs s st e ((a,x)::Z)) k=some o->B6 ((a,x)::Obs.forget a ob) k=some o:=fun k o c=>by
 by_cases g:a=k
 ·subst g;rw[B4];rw[A8 (fun e=>l e.symm),A8 (fun e=>j e.symm),B4]at c;exact c
 have b:B6 (RObs s st e Z) k=some o:=by
  by_cases f:810=k
  ·subst f;rw[B4]at c;rw[B4];exact c
  rw[A8 f]at c ⊢;by_cases d:811=k
  ·subst d;rw[B4]at c;rw[B4];exact c
  rw[A8 d,A8 g]at c;rw[A8 d];exact c
 rw[A8 g,J3,i k o (fun h=>g h.symm) b];show some (o.forget a)=some o;rw[Ob.forget_free ?_];by_cases f:810=k
 ·subst f;rw[B4]at b;cases b;simp[Ob.free,TC.free,MT,nR (show 811≠a from fun e=>j e.symm)]
 rw[A8 f]at b;by_cases d:811=k
 ·subst d;rw[B4]at b;cases b;rfl
 rw[A8 d]at b;exact m.free k o b a ha
theorem tV{s:Str}{st:PSt}{e:Int}{y:Ob}{Z:Obs}{a:Nat}:∀k o,k≠a->B6 (RObs s st e Z) k=some o->B6 (RObs s st e ((a,y)::Z)) k=some o:=fun k o f b=>by
 by_cases c:810=k
 ·subst c;rw[B4]at b ⊢;exact b
 rw[A8 c]at b ⊢;by_cases d:811=k
 ·subst d;rw[B4]at b ⊢;exact b
 rw[A8 d]at b ⊢;rw[A8 (fun h=>f h.symm)];exact b
theorem PK{K:List Nat}{a:Nat}{s:Str}{st:PSt}{e:Int}{x:Ob}{Z:Obs}(d:a≠810)(f:a≠811)(ha:E5 K a=true)(g:ZOk K Z Z):∀k o,B6 (RObs s st e Z) k=some o->B6 (Obs.forget a (RObs s st e ((a,x)::Z))) k=some o:=fun k o c=>by
 have b:k≠a:=fun e=>by
  subst e;rw[A8 (fun e=>d e.symm),A8 (fun e=>f e.symm),g.none (.inr ha)]at c;cases c
 have h:=nS (s:=s) (st:=st) (e:=e) (x:=x) (Z:=Z) (ob:=RObs s st e ((a,x)::Z)) d f ha g tV k o (tV k o b c)
 rwa[A8 (fun h=>b h.symm)]at h
theorem HJ{s:Str}{st:PSt}{e:Int}{x:Ob}{Z:Obs}{a:Nat}(b:a≠810)(c:a≠811):B6 (RObs s st e ((a,x)::Z)) a=some x:=by
 rw[A8 (fun e=>b e.symm),A8 (fun e=>c e.symm),B4]
theorem CM{K:List Nat}{s:Str}{st:PSt}{e:Int}{Z:Obs}{a:Nat}(b:a≠810)(c:a≠811)(ha:E5 K a=true)(d:ZOk K Z Z):B6 (RObs s st e Z) a=none:=by
 rw[A8 (fun e=>b e.symm),A8 (fun e=>c e.symm),d.none (.inr ha)]
theorem ralt_rx{n:Nat}(aw:n<=50){s:Str}{st:PSt}(hs:SOk s st)(hn:st.nodes.length<=st.at_)(hd:st.depth+n=50){F:Nat}(hF:F<=5000)(O:gH s F st []≠.error 0)
  (V:∀f x,f+1<F->x.at_+1<=s.length->SOk s x->x.nodes.length<=x.at_->x.depth+n=50->x.depth<50->jG s (f+1) x≠.error 0->RX 90 [G8] (iW n) s { x with at_:=x.at_+1,depth:=x.depth+1 } (lZ s f { x with at_:=x.at_+1,depth:=x.depth+1 }) r9) :
  RX 137 [G8] (aO n::iW n) s st (gH s F st []) r9:=by
 intro gf ob Z hI;obtain⟨K,hK⟩:∃K,K=aO n::iW n:=⟨_,rfl⟩
 obtain⟨a,H⟩:∃a,a=aO n:=⟨_,rfl⟩
 obtain⟨J,hJ⟩:∃J,J=iW n:=⟨_,rfl⟩
 have E:E5 K a=true:=by rw[hK,H];exact ksA_iff.2 (.inl rfl)
 have ae:E5 J a=false:=by rw[hJ,H];exact CD (by unfold aO;omega)
 have ar:KOk J:=by rw[hJ];exact vY n
 have an:∀k,E5 J k=true->E5 K k=true:=fun k hk=>by rw[hJ]at hk;rw[hK];exact ksA_iff.2 (.inr hk)
 have ad:E5 J 870=true:=by rw[hJ];exact ksN_iff.2 B3
 have h0:a≠810:=by rw[H];unfold aO;omega
 have h1:a≠811:=by rw[H];unfold aO;omega
 have af:Nat.blt a 1000000=true:=by
  have:a<1000000:=by rw[H];unfold aO;omega
  simpa using this
 rw[<-hK]at hI ⊢;rw[<-hJ]at V;clear hK H hJ;have G:=hI.z.self;have B:=G;have aj:=hs.len;obtain⟨R,hR⟩:∃R,R=gH s F st []:=⟨_,rfl⟩
 rw[<-hR]at O ⊢;obtain⟨Z1,L⟩:∃Z1:List Int->Obs,Z1=fun kids=>(a,.spare kids.length 1 3)::Z:=⟨_,rfl⟩
 have av:∀kids,ZOk J (Z1 kids) (Z1 kids):=fun kids=>by
  rw[L];exact ZOk.own ((G.less ar an).consZ (G.none (.inr E))) ⟨h0,ae⟩ (fun j hj=>rfl) (B4 _ _ _)
 have hv:∀n:Nat,n<s.length->s[((n:Nat):Int).toNat]?=some (s.getD n 0):=fun n h=>by rw[B45,B46,B44 h];rfl
 refine AL.Met.introH Tryz.func137 F2 rfl rfl rfl (fun hH=>?_);refine C1 (CE (l:=[(0,.s G8)]) hI ⟨Y7 rfl,trivial⟩ hH I8) ?_;refine zz 8 ?_;refine C1 (B29 a Int 1 D2 3 (t:=3) A0 (CM h0 h1 E G) af) (zz 2 ?_);refine C2 (X:=Nat×List Int×PSt×Int) (fun x=>([(0,.s G8),(3,.s (.one (.buf a Int 1 D2 x.2.1)))]++B5 K gf,RObs s x.2.2.1 x.2.2.2 (Z1 x.2.1))) (fun x=>x.2.1.length+x.1<=F/\((x.2.2.2=0/\SOk s x.2.2.1/\x.2.2.1.nodes.length<=x.2.2.1.at_/\x.2.2.1.depth=st.depth/\R=gH s x.1 x.2.2.1 x.2.1)\/(x.2.2.2≠0/\R=.error x.2.2.2/\x.2.2.1.at_+st.depth<=s.length+60/\st.depth<=x.2.2.1.depth/\x.2.2.1.depth<=60))) (fun x=>x.1) (F,[],st,0) ⟨by simp,.inl ⟨rfl,hs,hn,rfl,hR⟩⟩ ?_ ?_
 ·dsimp only;refine B13 ⟨Y7 (Z4 A0 (s7 B.k8 a E)),Y7 rfl,trivial⟩ (B1 hH) ZZ ?_;rw[L];exact nS h0 h1 E G fun _ _ _ h=>h
 rintro⟨f,kids,x,e⟩ ⟨ai,P⟩;dsimp only at ai P ⊢;have G:=av kids;have ax:x.at_<=s.length+60:=by
  rcases P with ⟨_,h,_⟩ | ⟨_,_,h,_⟩
  ·have:=h.at_;omega
  ·omega
 refine zz 17 ?_;refine G3 A0 A0 (fun w=>by rw[w];exact sT A0) A0 A0 ?_;refine zz 11 ?_;refine G3 A0 A0 (fun w=>by have hq:=w;(try simp at hq);rw[w];exact G9 A0 A0 B3 (hv x.at_ B3)) A0 A0 ?_;refine G3 A0 A0 (fun w=>by rw[w];exact FT A0 A0) A0 A0 ?_;refine zz 10 ?_;refine G3 A0 A0 (fun w=>by have hq:=w;(try simp at hq);rw[w];exact G9 A0 A0 B3 (hv x.at_ B3)) A0 A0 ?_;refine zz 2 ?_;refine mU A0 A0 (.gd (.val _)) (fun w=>by obtain⟨C,D⟩:=P9 w;(try rw[C]);(try rw[D]);exact C6 A0 A0) A0 A0 ?_;refine mU A0 A0 (.gd (.val _)) (fun w=>by obtain⟨C,D⟩:=P9 w;(try rw[C]);(try rw[D]);exact E7 A0) A0 A0 ?_;refine mU A0 A0 (.gd (.val _)) (fun w=>by obtain⟨C,D⟩:=P9 w;(try rw[C]);(try rw[D]);exact F0 A0) A0 A0 ?_;refine mU A0 A0 (.gd (.val _)) (fun w=>by obtain⟨C,D⟩:=P9 w;(try rw[C]);(try rw[D]);exact D8 A0 A0 A0) A0 A0 ?_;refine mU A0 A0 (.gd (.val _)) (fun w=>by obtain⟨C,D⟩:=P9 w;(try rw[C]);(try rw[D]);exact MX A0 A0) A0 A0 ?_;refine G3 A0 A0 (fun w=>by rw[w];exact z6 A0 (fun h=>by first | rfl | (rw[h];rfl)) (fun h=>by first | rfl | (rw[h];rfl))) A0 A0 ?_;refine G3 A0 A0 (fun w=>by rw[w];exact n_not A0) A0 A0 ?_;refine zz 2 ?_;obtain⟨c,W⟩:∃c,c=s.getD x.at_ 0:=⟨_,rfl⟩
 rw[<-W];have hu:∀k:UInt8,(c.toNat:Int)=k.toNat↔c=k:=fun k=>⟨fun e=>UInt8.toNat_inj.1 B3,fun e=>by rw[e]⟩
 have T:(c.toNat:Int)=124↔c=124:=hu 124;have ac:(c.toNat:Int)=41↔c=41:=hu 41;refine zc 0 (fun q=>?_) fun q=>?_
 ·simp only[W8]at q;simp only[B47,decide_eq_true_eq,Bool.not_eq_true']at q;obtain⟨⟨⟨ag,S⟩,ab⟩,U⟩:=q;have S:x.at_<s.length:=by omega
  have hc:s[x.at_]?=some c:=by rw[W,B46,B44 S];rfl
  have M:¬c=124:=fun e=>ab (T.2 e);rcases P with ⟨_,I,hnx,Y,m⟩ | ⟨he,_⟩;rotate_left
  ·exact absurd ag he
  subst ag;obtain⟨f,rfl⟩:∃g,f=g+1:=by
   cases f with
   | zero=>exact absurd (by rw[m,gH]) O
   | succ g=>exact⟨g,rfl⟩
  have ak:¬(c=124\/(c=41/\0<x.depth)):=fun g=>by
   rcases g with g | ⟨g1,g2⟩
   ·exact M g
   ·rw[A4 (ac.2 g1),A4 (show (x.depth:Int)>0 by omega)]at U;cases U
  rw[gH,hc]at m;dsimp only at m;rw[A7 ak]at m;obtain⟨f,rfl⟩:∃g,f=g+1:=by
   cases f with
   | zero=>exact absurd (by rw[m,cA]) O
   | succ g=>exact⟨g,rfl⟩
  have al:cA s (f+1) x c≠.error 0:=fun h=>O (by rw[m,h]);have am:=A02 (K:=J) ad I B3 hc M (F:=f) (fun g w _ aq hpn=>V g x B3 B3 I hnx B3 aq hpn) al;have ao:∀k,E5 J k=true->(SV.s (.one (.buf a Int 1 D2 kids))).free k=true:=tU ae;obtain⟨A,hA⟩:∃A,A=cA s (f+1) x c:=⟨_,rfl⟩
  rw[<-hA]at am m;refine zz 2 ?_;refine C1 (fr':=[(0,.s G8),(3,.s (.one (.buf a Int 1 D2 kids)))]++B5 K gf) (ob':=RObs s x 0 (Z1 kids)) (B13 lf (B1 hH) I8 (fun _ _ h=>h)) ?_;refine zz 3 ?_;refine S0 (am _ _ (Z1 kids) ⟨rfl,rfl,by repeat (first | exact G | refine ZOk.cons ?_ (.inl rfl) | refine ZOk.cons ?_ (.inr G.k8.h811))⟩) dF rfl rfl rfl ?_;rintro _ _ ⟨y,e2,k,rfl,rfl,au⟩;refine B0 (C0 (c:=D2) (ys:=[k]) (C3 A0 A0 A0 A0 E6) A0 A0 A0) A0 (C4 (X5 A0 (by rw[L];exact HJ h0 h1) A0 (.pure _ _ _ _) SC af) A0 ?_);refine zz 2 ?_;refine zz 0 ?_;refine⟨(f+1,kids++[k],y,e2),⟨by simp only[B48,B49,List.length_nil];omega,?_⟩,by dsimp only;omega,?_⟩
  ·dsimp only;rcases au with ⟨rfl,Q⟩ | ⟨he2,Q,b1,b2,b3⟩
   ·rw[Q]at m;obtain⟨gp,ip⟩:=(V6 (s:=s) (f+1)).piece hc (YN hc (hA.symm.trans Q));have ay:=gp.cnt;have ap:=gp.len;have az:=gp.dep;exact .inl ⟨rfl,⟨aj,ap,by omega⟩,by omega,by omega,m⟩
   ·rw[Q]at m;exact .inr ⟨he2,m,by omega,by omega,by omega⟩
  dsimp only;refine B13 ⟨Y7 (show D4 (Fr.forget a _) 0=_ from Z4 A0 (s7 B.k8 a E)),Y7 rfl,trivial⟩ (B1 hH) ZZ ?_;rw[L];exact nS h0 h1 E B tV
 have ah:(e=0/\SOk s x/\x.depth=st.depth/\x.nodes.length<=x.at_/\R=.ok (p7 4 kids x))\/(e≠0/\R=.error e/\x.at_+st.depth<=s.length+60/\st.depth<=x.depth/\x.depth<=60):=by
  rcases P with ⟨rfl,I,hnx,Y,m⟩ | h;rotate_left
  ·exact .inr h
  refine .inl ⟨rfl,I,Y,hnx,?_⟩;obtain⟨f,rfl⟩:∃g,f=g+1:=by
   cases f with
   | zero=>exact absurd (by rw[m,gH]) O
   | succ g=>exact⟨g,rfl⟩
  rw[gH]at m;by_cases S:x.at_<s.length
  ·have hc:s[x.at_]?=some c:=by rw[W,B46,B44 S];rfl
   rw[hc]at m;dsimp only at m
   rwa[A6]at m
   simp only[W8]at q;rw[A4 (show (x.at_:Int)<(s.length:Int) by omega)]at q;simp only[decide_true,Bool.true_and,B86,Bool.not_eq_false',B47,decide_eq_true_eq,decide_eq_false_iff_not]at q;rcases q with h | ⟨h,g⟩
   ·exact .inl (T.1 (Decidable.not_not.1 h))
   ·exact .inr ⟨ac.1 h,by omega⟩
  ·rw[B56 B3]at m;exact m
 clear P q ai;have hkl:kids.length<=100000\/True:=.inr trivial;refine zz 4 ?_;refine C1 (Sees.forget a) (C1 (fr':=[(0,.s G8),(3,B8 Int 1 D2 kids)]++B5 K gf) (ob':=RObs s x e Z) (B13 ⟨Y7 (Z4 A0 (s7 B.k8 a E)),Y7 (tS rfl),trivial⟩ (B1 hH) ZZ (by rw[L];exact PK h0 h1 E B)) ?_);have G:=B;refine zz 8 ?_;rcases ah with ⟨rfl,I,Y,hnx,m⟩ | ⟨he,m,b1,b2,b3⟩;rotate_left
 ·refine zc 0 (fun q=>?_) fun q=>?_;rotate_left
  ·exact absurd he (A3 q)
  refine zz 5 ?_;exact C7 (F1 rfl rfl) I8 (fun _ _ h=>h) ⟨x,e,0,rfl,rfl,.inr ⟨he,m,b1,b2,b3⟩⟩
 have ba:=I.at_;refine zc 0 (fun q=>?_) fun q=>?_
 ·exact absurd rfl (A1 q)
 match kids,m with
 | [],m =>
  have G:=B;refine zc 7 (fun q=>?_) fun q=>?_;rotate_left
  ·exact absurd rfl (A3 q)
  refine zz 4 ?_;refine fF ((B16 Int 1 D2 69 7 A0 A0)) ?_;refine S0 (eV (K:=K) (s:=s) (st:=x) (e:=0) (Z:=Z) J6 B3 ⟨rfl,rfl,by repeat (first | exact G | refine ZOk.cons ?_ (.inl rfl) | refine ZOk.cons ?_ (.inr G.k8.h811))⟩) dF rfl rfl rfl ?_;rintro _ _ ⟨rfl,rfl⟩;refine zz 2 ?_;refine zz 1 ?_;exact C7 (F1 rfl rfl) I8 (fun _ _ h=>h) ⟨(U8 J6 x).1,0,(U8 J6 x).2,rfl,rfl,.inl ⟨rfl,m⟩⟩
 | [k],m =>
  have G:=B;refine zc 7 (fun q=>?_) fun q=>?_
  ·have h:=A1 q;simp at h
  refine zc 7 (fun q=>?_) fun q=>?_;rotate_left
  ·exact absurd rfl (A3 q)
  refine zz 3 ?_;refine B0 (A9 A0 (.pure _ _ _ _) A0 B3 (show ([k]:List Int)[(0:Int).toNat]?=some k from A0)) A0 (zz 4 ?_);exact C7 (F1 rfl rfl) I8 (S2 (K:=K) (st:=x) ⟨rfl,rfl,(by repeat (first | exact B | refine ZOk.cons ?_ (.inl rfl) | refine ZOk.cons ?_ (.inr B.k8.h811)))⟩) ⟨x,0,k,rfl,rfl,.inl ⟨rfl,m⟩⟩
 | k::l::r,m =>
  have G:=B;refine zc 7 (fun q=>?_) fun q=>?_
  ·have:=A1 q;simp at this;omega
  refine zc 7 (fun q=>?_) fun q=>?_
  ·have:=A1 q;simp at this;omega
  refine zz 6 ?_;refine S0 (eV (K:=K) (s:=s) (st:=x) (e:=0) (Z:=Z) ⟨4,set0,0,0,k::l::r⟩ B3 ⟨rfl,rfl,by repeat (first | exact G | refine ZOk.cons ?_ (.inl rfl) | refine ZOk.cons ?_ (.inr G.k8.h811))⟩) dF rfl rfl rfl ?_;rintro _ _ ⟨rfl,rfl⟩;refine zz 2 ?_;refine zz 1 ?_;exact C7 (F1 rfl rfl) I8 (fun _ _ h=>h) ⟨(U8 ⟨4,set0,0,0,k::l::r⟩ x).1,0,(U8 ⟨4,set0,0,0,k::l::r⟩ x).2,rfl,rfl,.inl ⟨rfl,m⟩⟩
theorem rpat_rx{n:Nat}(am:n<=50){s:Str}{st:PSt}(hs:SOk s st)(hn:st.nodes.length<=st.at_)(hd:st.depth+n=50){F:Nat}(hF:F<=5000)(H:lZ s F st≠.error 0)
  (W:∀f x,f<F->x.at_+1<=s.length->SOk s x->x.nodes.length<=x.at_->x.depth+n=50->x.depth<50->jG s (f+1) x≠.error 0->RX 90 [G8] (iW n) s { x with at_:=x.at_+1,depth:=x.depth+1 } (lZ s f { x with at_:=x.at_+1,depth:=x.depth+1 }) r9) :
  RX 90 [G8] (iW (n+1)) s st (lZ s F st) r9:=by
 intro gf ob Z hI;have M:∀{f:Nat} {x:PSt},f<F->SOk s x->x.nodes.length<=x.at_->x.depth+n=50->gH s f x []≠.error 0->RX 137 [G8] (aO n::iW n) s x (gH s f x []) r9:=fun {f x} h1 h2 h3 h4 h5 =>
  ralt_rx am h2 h3 h4 B3 h5 fun g y h6=>W g y B3
 obtain⟨K,hK⟩:∃K,K=iW (n+1):=⟨_,rfl⟩
 obtain⟨a,E⟩:∃a,a=pO n:=⟨_,rfl⟩
 obtain⟨J,hJ⟩:∃J,J=aO n::iW n:=⟨_,rfl⟩
 have B:E5 K a=true:=by rw[hK,E];exact ksS_iff.2 (.inl rfl)
 have ai:E5 J a=false:=by
  rw[hJ,E];cases hb:E5 (aO n::iW n) (pO n)
  ·rfl
  ·rcases ksA_iff.1 hb with h | h
   ·unfold pO aO at h;omega
   ·have:=ksN_iff.1 h;unfold pO at this;omega
 have ax:KOk J:=by rw[hJ];exact ksA_ok n
 have aq:∀k,E5 J k=true->E5 K k=true:=fun k hk=>by rw[hJ]at hk;rw[hK];exact ksS_iff.2 (.inr hk)
 have h0:a≠810:=by rw[E];unfold pO;omega
 have h1:a≠811:=by rw[E];unfold pO;omega
 have ah:a<1000000:=by rw[E];unfold pO;omega
 have ay:Nat.blt a 1000000=true:=by simpa using ah
 rw[<-hK]at hI ⊢;rw[<-hJ]at M;clear hK E hJ W;have v:=hI.z.self;have V:=hs.len;obtain⟨R,Q⟩:∃R,R=lZ s F st:=⟨_,rfl⟩
 rw[<-Q]at H ⊢;obtain⟨F,rfl⟩:∃G,F=G+1:=by
  cases F with
  | zero=>exact absurd (by rw[Q,lZ]) H
  | succ g=>exact⟨g,rfl⟩
 rw[lZ]at Q;obtain⟨Z1,L⟩:∃Z1:List Int->Obs,Z1=fun kids=>(a,.spare kids.length 1 3)::Z:=⟨_,rfl⟩
 have au:ZOk J Z Z:=v.less ax aq;have bd:∀kids,ZOk J (Z1 kids) (Z1 kids):=fun kids=>by
  rw[L];exact ZOk.own (au.consZ (v.none (.inr B))) ⟨h0,ai⟩ (fun j hj=>rfl) (B4 _ _ _)
 refine AL.Met.introH Tryz.func90 F2 rfl rfl rfl (fun hH=>?_);refine C1 (CE (l:=[(0,.s G8)]) hI ⟨Y7 rfl,trivial⟩ hH I8) ?_;refine zz 5 ?_;have P:=au;have an:gH s F st []≠.error 0:=fun h=>H (by rw[h]at Q;rw[Q]);obtain⟨A,hA⟩:∃A,A=gH s F st []:=⟨_,rfl⟩
 have O:=M (Nat.lt_succ_self F) hs hn hd an;rw[<-hA]at Q O;refine zz 2 ?_;refine S0 (O _ _ Z ⟨rfl,rfl,by repeat (first | exact P | refine ZOk.cons ?_ (.inl rfl) | refine ZOk.cons ?_ (.inr P.k8.h811))⟩) dF rfl rfl rfl ?_;rintro _ _ ⟨x0,e0,k0,rfl,rfl,az⟩;refine C4 (rC a (c:=D2) (ys:=[k0]) (C3 A0 A0 A0 A0 E6) A0 A0 A0 (CM h0 h1 B v) ah) A0 (zz 2 ?_);refine zz 2 ?_;refine C2 (X:=Nat×List Int×PSt×Int) (fun x=>([(0,.s G8),(3,.s (.one (.buf a Int 1 D2 x.2.1)))]++B5 K gf,RObs s x.2.2.1 x.2.2.2 (Z1 x.2.1))) (fun x=>x.2.1.length+x.1<=F+1/\x.1<=F/\x.2.1≠[]/\((x.2.2.2=0/\SOk s x.2.2.1/\x.2.2.1.nodes.length<=x.2.2.1.at_+1/\x.2.2.1.depth=st.depth/\R=p9 s x.1 x.2.2.1 x.2.1)\/(x.2.2.2≠0/\R=.error x.2.2.2/\x.2.2.1.at_+st.depth<=s.length+60/\st.depth<=x.2.2.1.depth/\x.2.2.1.depth<=60))) (fun x=>x.1) (F,[k0],x0,e0) ?_ ?_ ?_
 ·refine⟨by simp only[B49,List.length_nil];omega,Nat.le_refl _,by simp,?_⟩;dsimp only;rcases az with ⟨rfl,w⟩ | ⟨he2,w,b1,b2,b3⟩
  ·rw[w]at Q;obtain⟨Y,ip⟩:=ME (s:=s) F hs.at_ (fun k hk=>by cases hk) (hA.symm.trans w);have aw:=Y.cnt;have ab:=Y.len;have af:=Y.dep;exact .inl ⟨rfl,⟨V,ab,by omega⟩,by omega,af,Q⟩
  ·rw[w]at Q;exact .inr ⟨he2,Q,b1,b2,b3⟩
 ·dsimp only;refine B13 ⟨Y7 (show D4 (Fr.forget a _) 0=_ from Z4 A0 (s7 v.k8 a B)),Y7 rfl,trivial⟩ (B1 hH) ZZ ?_;rw[L];exact nS h0 h1 B v fun _ _ _ h=>h
 rintro⟨f,kids,x,e⟩ ⟨ak,aj,al,T⟩;dsimp only at ak aj al T ⊢;have P:=bd kids;refine zz 2 ?_;by_cases ad:e=0/\s[x.at_]?=some 124
 ·obtain⟨rfl,hb⟩:=ad;rcases T with ⟨_,I,hnx,S,m⟩ | ⟨U,_⟩;rotate_left
  ·exact absurd rfl U
  obtain⟨f,rfl⟩:∃g,f=g+1:=by
   cases f with
   | zero=>exact absurd (by rw[m,p9]) H
   | succ g=>exact⟨g,rfl⟩
  have hh:M9 s 124 x=true:=A4 hb;rw[p9,A6 hh]at m;have ba:=K6 (s:=s) (x:=x) 1 (Z8 hh);have ae:SOk s (x.skip 1):=I.gr ba B3;have ar:=ae.at_;have ao:gH s f (x.skip 1) []≠.error 0:=fun h=>H (by rw[m,h]);have O:=M (show f<F+1 by omega) ae (show x.nodes.length<=x.at_+1 from hnx) (show x.depth+n=50 by omega) ao;obtain⟨A2,ag⟩:∃A2,A2=gH s f (x.skip 1) []:=⟨_,rfl⟩
  rw[<-ag]at O m;refine zz 10 ?_;refine H8 (cJ s x.at_ x.depth 0 124 B3 A0) A0 A0 A0 ?_;rintro _ _ ⟨rfl,rfl⟩;refine B0 (L6 A0 (rfl) A0) A0 (zz 1 ?_);rw[A4 hb];refine zc 0 (fun C=>?_) fun C=>?_;rotate_left
  ·cases C
  refine zz 3 ?_;have be:x.at_+1<=s.length:=ar;refine zz 10 ?_;refine C1 (fr':=[(0,.s G8),(3,.s (.one (.buf a Int 1 D2 kids)))]++B5 K gf) (ob':=RObs s (x.skip 1) 0 (Z1 kids)) (B13 lf (B1 hH) I8 (S2 (K:=J) (st:=x.skip 1) ⟨rfl,rfl,by repeat (first | exact P | refine ZOk.cons ?_ (.inl rfl) | refine ZOk.cons ?_ (.inr P.k8.h811))⟩)) ?_;have av:∀k,E5 J k=true->(SV.s (.one (.buf a Int 1 D2 kids))).free k=true:=tU ai;skip;refine zz 3 ?_;refine S0 (O _ _ (Z1 kids) ⟨rfl,rfl,by repeat (first | exact P | refine ZOk.cons ?_ (.inl rfl) | refine ZOk.cons ?_ (.inr P.k8.h811))⟩) dF rfl rfl rfl ?_;rintro _ _ ⟨y,e2,k,rfl,rfl,ap⟩;refine B0 (C0 (c:=D2) (ys:=[k]) (C3 A0 A0 A0 A0 E6) A0 A0 A0) A0 (C4 (X5 A0 (by rw[L];exact HJ h0 h1) A0 (.pure _ _ _ _) SC ay) A0 ?_);refine zz 2 ?_;refine zz 0 ?_;refine⟨(f,kids++[k],y,e2),⟨by simp only[B48,B49,List.length_nil];omega,by dsimp only;omega,by simp,?_⟩,by dsimp only;omega,?_⟩
  ·dsimp only;rcases ap with ⟨rfl,w⟩ | ⟨he2,w,b1,b2,b3⟩
   ·rw[w]at m;obtain⟨Y,ip⟩:=ME (s:=s) f ae.at_ (fun k hk=>by cases hk) (ag.symm.trans w);have aw:=Y.cnt;have ab:=Y.len;have af:=Y.dep;have e3:(x.skip 1).nodes.length=x.nodes.length/\(x.skip 1).at_=x.at_+1/\(x.skip 1).depth=x.depth:=⟨rfl,rfl,rfl⟩
    exact .inl ⟨rfl,⟨V,ab,by omega⟩,by omega,by omega,m⟩
   ·rw[w]at m;have e3:(x.skip 1).depth=x.depth:=rfl;exact .inr ⟨he2,m,by omega,by omega,by omega⟩
  dsimp only;refine B13 ⟨Y7 (show D4 (Fr.forget a _) 0=_ from Z4 A0 (s7 v.k8 a B)),Y7 rfl,trivial⟩ (B1 hH) ZZ ?_;rw[L];exact nS h0 h1 B v tV
 have D:(e=0/\SOk s x/\x.depth=st.depth/\x.nodes.length<=x.at_+1/\R=.ok (p7 5 kids x))\/(e≠0/\R=.error e/\x.at_+st.depth<=s.length+60/\st.depth<=x.depth/\x.depth<=60):=by
  rcases T with ⟨rfl,I,hnx,S,m⟩ | h;rotate_left
  ·exact .inr h
  refine .inl ⟨rfl,I,S,hnx,?_⟩;obtain⟨f,rfl⟩:∃g,f=g+1:=by
   cases f with
   | zero=>exact absurd (by rw[m,p9]) H
   | succ g=>exact⟨g,rfl⟩
  have hh:¬M9 s 124 x=true:=fun h=>ad ⟨rfl,A1 h⟩;rw[p9,A7 hh]at m;exact m
 have hkl:kids.length<=100000:=by omega
 clear T ak aj;refine S7 ([(0,.s G8),(3,.s (.one (.buf a Int 1 D2 kids))),(15,K9 false)]++B5 K gf) (RObs s x e (Z1 kids)) ?_ ?_
 ·by_cases U:e=0
  ·subst U;have hb:decide (s[x.at_]?=some 124)=false:=A5 fun h=>ad ⟨rfl,h⟩;refine zz 10 ?_;refine H8 (cJ s x.at_ x.depth 0 124 B3 A0) A0 A0 A0 ?_;rintro _ _ ⟨rfl,rfl⟩;refine B0 (L6 A0 (rfl) A0) A0 (zz 1 ?_);rw[hb];refine zz 0 ?_;exact B13 lf (B1 hH) I8 (fun _ _ h=>h)
  ·have ac:=A5 U;refine zz 7 ?_;refine J9 A0 A0 A0 (by rw[ac];decide) A0 ?_;refine J9 A0 A0 A0 (by rw[ac];decide) A0 ?_;refine B0 (V3 A0 (ac) A0) A0 (zz 1 ?_);exact B13 lf (B1 hH) I8 (fun _ _ h=>h)
 skip;refine zc 0 (fun C=>?_) fun C=>?_
 ·cases C
 refine zz 3 ?_;refine C1 (Sees.forget a) (C1 (fr':=[(0,.s G8),(3,B8 Int 1 D2 kids)]++B5 K gf) (ob':=RObs s x e Z) (B13 ⟨Y7 (Z4 A0 (s7 v.k8 a B)),Y7 (tS rfl),trivial⟩ (B1 hH) ZZ (by rw[L];exact PK h0 h1 B v)) ?_);refine zz 12 ?_
 match kids,al,D with
 | k :: r,_,D =>
  have P:=v;have bc:(k::r:List Int)[(0:Int).toNat]?=some k:=rfl;by_cases q:e≠0\/r=[]
  ·refine zc 0 (fun C=>?_) fun C=>?_;rotate_left
   ·exfalso;rw[aI,B72,decide_eq_false_iff_not,decide_eq_false_iff_not]at C;rcases q with h | h
    ·exact C.1 h
    ·rw[h]at C;exact C.2 rfl
   refine zz 3 ?_;refine B0 (A9 A0 (.pure _ _ _ _) A0 B3 bc) A0 (zz 4 ?_);rcases D with ⟨rfl,I,S,hnx,m⟩ | ⟨U,m,b1,b2,b3⟩
   ·have hr:r=[]:=q.resolve_left fun h=>h rfl;rw[hr]at m;exact C7 (F1 rfl rfl) I8 (fun _ _ h=>h) ⟨x,0,k,rfl,rfl,.inl ⟨rfl,m⟩⟩
   ·exact C7 (F1 rfl rfl) I8 (fun _ _ h=>h) ⟨x,e,k,rfl,rfl,.inr ⟨U,m,b1,b2,b3⟩⟩
  ·rcases D with ⟨rfl,I,S,hnx,m⟩ | ⟨U,_⟩;rotate_left
   ·exact absurd (.inl U) q
   match r,q,m with
   | [],q,_=>exact absurd (.inr rfl) q
   | l::r,q,m =>
    have P:=v;have ar:=I.at_;refine zc 0 (fun C=>?_) fun C=>?_
    ·exfalso;rw[aI,B63,decide_eq_true_eq,decide_eq_true_eq]at C;rcases C with h | h
     ·exact h rfl
     ·simp at h;omega
    refine zz 6 ?_;refine S0 (eV (K:=K) (s:=s) (st:=x) (e:=0) (Z:=Z) ⟨5,set0,0,0,k::l::r⟩ B3 ⟨rfl,rfl,by repeat (first | exact P | refine ZOk.cons ?_ (.inl rfl) | refine ZOk.cons ?_ (.inr P.k8.h811))⟩) dF rfl rfl rfl ?_;rintro _ _ ⟨rfl,rfl⟩;refine zz 2 ?_;refine zz 1 ?_;exact C7 (F1 rfl rfl) I8 (fun _ _ h=>h) ⟨(U8 ⟨5,set0,0,0,k::l::r⟩ x).1,0,(U8 ⟨5,set0,0,0,k::l::r⟩ x).2,rfl,rfl,.inl ⟨rfl,m⟩⟩
theorem rx_all(s:Str):∀(B F:Nat),F<B->F<=5000->∀n st,st.depth+n=50->SOk s st->st.nodes.length<=st.at_->lZ s F st≠.error 0->RX 90 [G8] (iW (n+1)) s st (lZ s F st) r9
 | 0,_,h,_=>by omega
 | B+1,F,h,hF=>fun n st b c d g=>rpat_rx B3 c d b hF g fun f x l k a hnx j i hpn=>by
  obtain⟨m,rfl⟩:∃m,n=m+1:=⟨n-1,by omega⟩
  refine rx_all s B f B3 B3 m { x with at_:=x.at_+1,depth:=x.depth+1 } b5x ⟨a.len,k,by dsimp only;omega⟩ b5x fun h=>hpn ?_;rw[jG,A7 B3,h]
theorem CN{w v:List Int}:∀(b:List Int) (a:Int),(∀k∈b,H4 w k.toNat=H4 v k.toNat)->n6 w a b=n6 v a b
 | [],_,_=>rfl
 | k::r,a,h=>by
  rw[n6,n6,h k (List.mem_cons_self ..)];exact CN r _ fun x c=>h x (List.mem_cons_of_mem _ c)
theorem FL{n:AL.Node}{w v:List Int}(h:∀k∈n.Kids,H4 w k.toNat=H4 v k.toNat):T0 n w=T0 n v:=by
 unfold T0;rw[CN n.Kids 0 h]
theorem XO{L:List AL.Node}{i x:Nat}(b:x<i):∀d,i+d<=L.length->H4 (FC L (i+d)) x=H4 (FC L i) x
 | 0,_=>rfl
 | d+1,h=>by
  have a:L[i+d]?=some L[i+d]:=B44 B3;rw[show i+(d+1)=(i+d)+1 by omega,tM a,<-XO b d B3];unfold H4;rw[List.getElem?_set_ne B3]
theorem wt_all{L:List AL.Node}{i x:Nat}(b:i<=L.length)(a:x<i):H4 (D9 L) x=H4 (FC L i) x:=by
 have h:=XO (L:=L) a (L.length-i) B3
 rwa[show i+(L.length-i)=L.length by omega,lB]at h
theorem wt_at{L:List AL.Node}(b:DV L){k:Int}(f:0<=k/\k<L.length):H4 (D9 L) k.toNat=T0 (L.getD k.toNat J6) (D9 L):=by
 have g:=nd_get f;have d:=iK b f;obtain⟨n,a⟩:∃n,n=L.getD k.toNat J6:=⟨_,rfl⟩
 rw[<-a]at g d ⊢;rw[wt_all (i:=k.toNat+1) B3 (Nat.lt_succ_self _),tM g];have j:=oV L k.toNat
 rw[show H4 ((FC L k.toNat).set k.toNat (T0 n (FC L k.toNat))) k.toNat=T0 n (FC L k.toNat) by unfold H4;rw[B89 B3];rfl];exact FL fun c h=>by
  have:=j5 d c h;exact (wt_all B3 B3).symm
theorem UN{L:List AL.Node}(a:DV L):∀v∈D9 L,0<=v/\v<=4001:=by
 rw[<-lB];exact KF a L.length (Nat.le_refl _)
theorem tW{a:Int}(_ha:0<=a)(h:S9 a 4001=0):a=0:=by
 unfold S9 at h;split at h<;>omega
theorem wD{w:List Int}(d:∀v∈w,0<=v/\v<=4001):∀(e:List Int) (a:Int),0<=a->n6 w a e=0->a=0/\∀k∈e,H4 w k.toNat=0
 | [],a,_,h=>⟨h,fun _ c=>by cases c⟩
 | k::r,a,h0,h=>by
  rw[n6]at h;have c:=lA w d k;have f:0<=S9 (a+H4 w k.toNat) 4001:=by unfold S9;split<;>omega
  obtain⟨g,i⟩:=wD d r _ f h;have j:=tW B3 g
  exact⟨by omega,fun x b=>by
   rcases List.mem_cons.1 b with rfl | b
   ·omega
   ·exact i x b⟩
theorem UO{R:Lng}(h:∀i j,R i j↔i=j):∀(m i j:Nat),q8 R m i j↔i=j
 | 0,_,_=>Iff.rfl
 | m+1,i,j=>⟨fun ⟨p,b,c⟩=>((h i p).1 b).trans ((UO h m p j).1 c),fun e=>⟨i,(h i i).2 rfl,(UO h m i j).2 e⟩⟩
theorem cat_eq{D:Int->Lng}:∀{l:List Int},(∀k∈l,∀i j,D k i j↔i=j)->∀i j,vC D l i j↔i=j
 | [],_,_,_=>Iff.rfl
 | k::r,h,i,j=>by
  have c:=cat_eq (l:=r) fun x f=>h x (List.mem_cons_of_mem _ f);have d:=h k (List.mem_cons_self ..);exact⟨fun ⟨p,a,b⟩=>((c i p).1 a).trans ((d p j).1 b),fun e=>⟨i,(c i i).2 rfl,(d i j).2 e⟩⟩
theorem PL{L:List AL.Node}{s:Str}(d:DV L):∀(B:Nat) (k:Int),k<B->0<=k/\k<L.length->H4 (D9 L) k.toNat=0->∀i j,Den L s k i j↔i=j
 | 0,k,h,hk,_=>by omega
 | B + 1,k,hB,hk,h=>by
  intro i j;have l:=iK d hk;have z:=EE (s:=s) d hk i j;rw[wt_at d hk]at h;obtain⟨n,v⟩:∃n,n=L.getD k.toNat J6:=⟨_,rfl⟩
  rw[<-v]at l z h;have w:=UN d;have o:=j5 l;have t:=aH l;have A:∀c∈n.Kids,H4 (D9 L) c.toNat=0->∀i j,Den L s c i j↔i=j:=fun c r g=>by
   have:=o c r;exact PL d B c B3 B3 g
  have M:=(oW (D9 L) w n.Kids 0 F2).1;unfold T0 at h;dsimp only at h;rw[z];unfold eG;split at h
  ·rename_i q;rw[A7 B3,A7 B3,A7 B3,A7 B3,A6 q];have g:=(wD w n.Kids 0 (Int.le_refl _) h).2;exact cat_eq (fun c r=>A c (List.mem_reverse.1 r) (g c (List.mem_reverse.1 r))) i j
  split at h
  ·rename_i q y;obtain⟨_,O⟩:=x9 l;have:=tW B3 h;omega
  split at h
  ·rename_i q y D;obtain⟨G,u,_,I⟩:=dU l D;have J:0<=n.Min*n6 (D9 L) 0 n.Kids:=Int.mul_nonneg u M;split at h
   ·have:=tW B3 h;omega
   ·have K:0<=(n.Max-n.Min)*(n6 (D9 L) 0 n.Kids+1):=Int.mul_nonneg B3 B3;have N:=tW B3 h;have E:(n.Max-n.Min)*(n6 (D9 L) 0 n.Kids+1)=0:=by omega
    have F:n.Min*n6 (D9 L) 0 n.Kids=0:=by omega
    have C:n.Max-n.Min=0:=by
     rcases Int.mul_eq_zero.1 E with e | e
     ·exact e
     ·omega
    have f:n.Kids.getD 0 0∈n.Kids:=by
     match n.Kids,G with
     | [x],_=>exact List.mem_cons_self ..
    rw[A7 B3,A7 B3,A7 B3,A7 B3,A7 q,A7 y];rcases Int.mul_eq_zero.1 F with e | e
    ·constructor
     ·rintro⟨m,a,b,c⟩;have H:m=0:=by omega
      rw[H]at c;exact c
     ·exact fun c=>⟨0,by omega,by omega,c⟩
    ·have g:=(wD w n.Kids 0 (Int.le_refl _) e).2;have p:=UO (A _ f (g _ f));constructor
     ·rintro⟨m,a,b,c⟩;exact (p m i j).1 c
     ·exact fun c=>⟨n.Min.toNat,by omega,by omega,(p _ i j).2 c⟩
  ·cases h
theorem HL{L:List AL.Node}{s:Str}(d:eF L=0){F:Nat}{st:List AL.State}{r:Int}(hb:I9 L (D9 L) F ((L.length:Int)-1) 0 [⟨4,⟨0,0,0,0⟩,0,0⟩]=some (st,r))(f:st.length<=8000) :
  AG ⟨st,r⟩/\((gF ⟨st,r⟩ s 0).2=true↔∃i j,i<=s.length/\j<=s.length/\Den L s ((L.length:Int)-1) i j):=by
 obtain⟨c,_,a⟩:=d6 d;exact B01 a c (fun k e b=>PL a L.length k B3 e b) hb f
end Go.Proofs.YtabbdaafimcjhaaGreatDoor
