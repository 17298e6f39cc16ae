
/- Walks of the program's functions. -/
import Derived.Test.YtabbdaafimcjhaaGreatDoorFf
set_option linter.all false
namespace Go.Proofs.YtabbdaafimcjhaaGreatDoor
open Go Go.AL
open Tryz (prog)
set_option maxRecDepth 100000
set_option maxHeartbeats 4000000
theorem NF{α:Type}{l:List α}{i:Nat}{x:α}(h:l[i]?=some x):l.take (i+1)=l.take i++[x]:=by rw[C52,h];rfl
theorem EK{gf:Fr}{ob:Obs}(A:AL.Auto)(s:Str)(a:Nat)(b:List AL.Thread)(k:List Bool)(x:∀t∈b,0<=t.state/\t.state<A.States.length)(G:b.length<=8000)(z:B5 ob 830=some (iC A s a))(B:B5 ob 831=some (EJ b))(C:B5 ob 832=some (zQ k))(D:B5 ob 835=none) :
  AL.Met prog 133 [fJ] gf ob [835] (fun rs ob'=>rs=[P7 (V3 A b)]/\ob'=(830,iC A s a)::(831,EJ b)::(832,zQ k)::G8 [835] ob):=by
 refine AL.Met.introH Tryz.func133 F1 rfl rfl rfl (fun j=>?_);refine C3 (C05 835 (l:=[(0,.s fJ)]) (L:=[(830,_),(831,_),(832,_)]) ⟨i6 rfl,trivial⟩ j J6 ⟨z,B,C,trivial⟩) ?_;refine C3 (C04 (gf':=B4 [835] gf) (l:=[(0,.s fJ)]) (ob':=[(830,iC A s a),(831,EJ b),(832,zQ k)]++G8 [835] ob) ⟨i6 rfl,trivial⟩ (B0 j) kT (D3 (L:=[(830,_),(831,_),(832,_)]) ⟨rfl,rfl,rfl,trivial⟩ PG)) ?_;have q:B5 (G8 [835] ob) 835=none:=d9 D;refine zz 15 ?_;refine B9 (X:=Nat) (fun i=>([(0,.s fJ),(8,.s (.one (.mut 831))),(9,B6 b.length),(10,B6 i)]++B4 [835] gf,[(830,iC A s a),(831,EJ b),(832,zQ k)]++G8 [835] ob)) (fun i=>i<=b.length/\V3 A (b.drop i)=V3 A b) (fun i=>b.length-i) 0 ⟨C41 _,rfl⟩ ?_ ?_
 ·exact C04 lf (B0 j) kT (D3 (L:=[(830,_),(831,_),(832,_)]) ⟨rfl,rfl,rfl,trivial⟩ b0x)
 rintro i ⟨E,c⟩;dsimp only at E c ⊢;refine zc 5 (fun f=>?_) fun f=>?_;rotate_left
 ·have r:i=b.length:=by have:=A3 f;omega
  rw[r,List.drop_length]at c;rw[<-c];refine J0 ?_;exact D1 V9 kT (D3 (L:=[(830,_),(831,_),(832,_)]) ⟨rfl,rfl,rfl,trivial⟩ b0x) ⟨rfl,rfl⟩
 have g:i<b.length:=by have:=A1 f;omega
 obtain⟨t,h⟩:∃t,t=b[i]:=⟨_,rfl⟩
 have y:b[i]?=some t:=by rw[h];simp[g]
 obtain⟨v,w⟩:=x t (C60 y);have F:=wW (A:=A) ⟨v,w⟩;rw[C57 g,<-h,V3]at c;refine J0 ?_;refine B2 (gN A0 A0 y A0) A0 (C2 (fY 835 q F1) A0 ?_);refine zc 16 (fun f=>?_) fun f=>?_
 ·have p:(R2 A t.state).Kind=4:=A1 f;rw[A6 p]at c;rw[<-c];refine I3 ?_;exact D1 V9 kT (D3 (L:=[(830,_),(831,_),(832,_)]) ⟨rfl,rfl,rfl,trivial⟩ b0x) ⟨rfl,rfl⟩
 have p:¬(R2 A t.state).Kind=4:=A3 f;rw[A7 p]at c;refine I2 ?_;exact⟨i+1,⟨by omega,c⟩,by omega,C04 lf (B0 j) kT (D3 (L:=[(830,_),(831,_),(832,_)]) ⟨rfl,rfl,rfl,trivial⟩ b0x)⟩
theorem XF{gf:Fr}{ob:Obs}(A:AL.Auto)(s:Str)(a:Nat)(fr:Int)(b:List AL.Thread)(k:List Bool)(G:b.length<=8000)(z:B5 ob 830=some (iC A s a))(B:B5 ob 831=some (EJ b))(C:B5 ob 832=some (zQ k))(D:B5 ob 835=none) :
  AL.Met prog 134 [fJ,P7 fr] gf ob [831,835] (fun rs ob'=>rs=[]/\ob'=(830,iC A s a)::(831,EJ (iN fr b))::(832,zQ k)::G8 [831,835] ob):=by
 refine AL.Met.introH Tryz.func134 F1 rfl rfl rfl (fun j=>?_);refine C3 (C05 831 (l:=[(0,.s fJ),(1,.s (P7 fr))]) (L:=[(830,_),(831,_),(832,_)]) lf j J6 ⟨z,B,C,trivial⟩) ?_;refine C3 (Sees.forget 835) (C3 (C04 (gf':=B4 [831,835] gf) (l:=[(0,.s fJ),(1,.s (P7 fr))]) (ob':=[(830,iC A s a),(831,EJ b),(832,zQ k)]++G8 [831,835] ob) lf (B0 j) kT (D3 (L:=[(830,_),(831,_),(832,_)]) ⟨rfl,rfl,rfl,trivial⟩ PG)) ?_);have p:B5 (G8 [831,835] ob) 835=none:=d9 D;refine O6 ?_;refine B9 (X:=Nat) (fun i=>([(0,.s fJ),(1,.s (P7 fr)),(9,.s (.one (.mut 831))),(10,B6 b.length),(11,B6 i)]++B4 [831,835] gf,[(830,iC A s a),(831,EJ b),(832,zQ k)]++G8 [831,835] ob)) (fun i=>i<=b.length/\∀t∈b.take i,t.from_<=fr) (fun i=>b.length-i) 0 ⟨C41 _,fun _ h=>by cases h⟩ ?_ ?_
 ·exact C04 lf (B0 j) kT (D3 (L:=[(830,_),(831,_),(832,_)]) ⟨rfl,rfl,rfl,trivial⟩ b0x)
 rintro i ⟨E,c⟩;dsimp only at E c ⊢;refine zc 5 (fun f=>?_) fun f=>?_;rotate_left
 ·have g:i=b.length:=by have:=A3 f;omega
  have r:iN fr b=b:=by
   rw[uB (i:=i) c (fun t h=>by rw[g,C63 (C45 _)]at h;cases h),g,C48]
  rw[r];refine G5 ?_;exact V6 (iZ rfl) kT (D3 (L:=[(830,_),(831,_),(832,_)]) ⟨rfl,rfl,rfl,trivial⟩ b0x) ⟨rfl,rfl⟩
 have v:i<b.length:=by have:=A1 f;omega
 obtain⟨t,w⟩:∃t,t=b[i]:=⟨_,rfl⟩
 have y:b[i]?=some t:=by rw[w];simp[v]
 refine I3 ?_;refine B2 (gN A0 A0 y A0) A0 (C2 (fY 835 p F1) A0 ?_);refine zc 10 (fun f=>?_) fun f=>?_
 ·have q:t.from_>fr:=A1 f;have r:iN fr b=b.take i:=uB c (fun x d=>by rw[y]at d;cases d;exact q);rw[r];refine zz 13 ?_;rw[C37];refine G5 ?_;exact D1 (iZ rfl) kT (D3 (L:=[(830,_),(831,_),(832,_)]) ⟨rfl,rfl,rfl,trivial⟩ b0x) ⟨rfl,rfl⟩
 have F:¬t.from_>fr:=A3 f;refine I2 ?_
 exact⟨i+1,⟨by omega,fun x d=>by
  rw[NF y]at d;rcases C49.1 d with d | d
  ·exact c x d
  ·rw[C42.1 d];omega⟩,by omega,C04 lf (B0 j) kT (D3 (L:=[(830,_),(831,_),(832,_)]) ⟨rfl,rfl,rfl,trivial⟩ b0x)⟩
theorem b3w{p:Prop}(h:p:=by repeat (first | exact Z6 | refine tail_drop rfl ?_ | refine Z7 rfl ?_ | refine qL _ rfl ?_ | refine B60 rfl ?_)):p:=h
theorem EL{gf:Fr}{ob:Obs}(A:AL.Auto)(s:Str)(W:AG A)(a:Nat)(ha:a<s.length)(ao:s.length<=16777216)(m0:Mach)(J:MG A m0)(h0:B5 ob 830=some (iC A s a))(K:B5 ob 831=some (EJ m0.1))(h2:B5 ob 832=some (zQ m0.2)) :
  AL.Met prog 135 [fJ] gf ob [831,832,834,837,838] (fun rs ob'=>rs=[]/\ob'=(830,iC A s (a+1))::(831,EJ (wV A s a m0).1)::(832,zQ (wV A s a m0).2)::oZ [831,832,834,837,838] ob):=by
 obtain⟨am,an⟩:=W.len;have ae:=J.cnt;obtain⟨w,ak⟩:∃w,w=m0.1:=⟨_,rfl⟩
 obtain⟨sn,aj⟩:∃sn,sn=m0.2:=⟨_,rfl⟩
 have U:=J.st;obtain⟨D,ad⟩:∃D,D=s[a]:=⟨_,rfl⟩
 have hv:s[((a:Nat):Int).toNat]?=some D:=by rw[C37,ad];simp[ha]
 have ai:wV A s a m0=kO A s (a+1) D.toNat m0.1 ([],List.replicate A.States.length false):=by
  unfold wV;rw[C38,<-C37 a,hv,C37];rfl
 rw[ai];rw[<-ak]at K U ae ⊢;rw[<-aj]at h2;have hl:w.length<=8000:=by omega
 refine AL.Met.introH Tryz.func135 F1 rfl rfl rfl (fun F=>?_);refine C3 (C05 831 (l:=[(0,.s fJ)]) (L:=[(830,_),(831,_),(832,_)]) ⟨i6 rfl,trivial⟩ F J6 ⟨h0,K,h2,trivial⟩) ?_;refine C3 (C05 832 (l:=[(0,.s fJ)]) (L:=[(830,_),(831,_),(832,_)]) ⟨i6 rfl,trivial⟩ (eL F) J6 ⟨rfl,rfl,rfl,trivial⟩) ?_;refine C3 (Sees.forget 834) (C3 (Sees.forget 837) (C3 (Sees.forget 838) ?_));refine C3 (C04 (gf':=B4 [831,832,834,837,838] gf) (l:=[(0,.s fJ)]) (ob':=[(830,iC A s a),(831,EJ w),(832,zQ sn)]++oZ [831,832,834,837,838] ob) ⟨i6 rfl,trivial⟩ (B0 F) b3w (D3 (L:=[(830,_),(831,_),(832,_)]) ⟨rfl,rfl,rfl,trivial⟩ (by repeat (first | exact oZ_base | refine U3 rfl ?_)))) ?_;have C:J9 831 (oZ [831,832,834,837,838] ob)=true:=vN rfl rfl;have g:J9 832 (oZ [831,832,834,837,838] ob)=true:=vN rfl rfl;have z3:J9 834 (oZ [831,832,834,837,838] ob)=true:=vN rfl rfl;have z4:J9 837 (oZ [831,832,834,837,838] ob)=true:=vN rfl rfl;have z5:J9 838 (oZ [831,832,834,837,838] ob)=true:=vN rfl rfl;have f1:J2 831 (B4 [831,832,834,837,838] gf)=true:=tK (aS rfl);have f2:J2 832 (B4 [831,832,834,837,838] gf)=true:=tK (aS rfl);obtain⟨R,hR⟩:∃R,kO A s (a+1) D.toNat w ([],List.replicate A.States.length false)=R:=⟨_,rfl⟩
 rw[hR];obtain⟨Z,hZ⟩:∃Z,Z=oZ [831,832,834,837,838] ob:=⟨_,rfl⟩
 rw[<-hZ]at C g z3 z4 z5 ⊢;refine O6 ?_;refine D6 (G9 A0 A0 B1 hv) A0 A0 (zz 22 ?_);refine C3 (Sees.freezeG (k:=831) (α:=AL.Thread) (ec:=2) (c:=z8) (xs:=w) (e:=202) A0 A0) ?_;refine C3 (C04 (gf':=B4 [831,832,834,837,838] gf) (l:=[(0,.s fJ),(2,.s (m7 D)),(3,B8 AL.Thread 2 z8 w)]) (ob':=[(830,macG A s (a+1) (.p (.list AL.Thread 2 z8 w)) (.mut 832)),(832,zQ sn)]++Z) lf (B0 F) b3w (D3 (L:=[(830,_),(832,_)]) ⟨rfl,rfl,trivial⟩ (by repeat (first | exact O3 | refine U3 rfl ?_ | refine H7 (H4 g).2.1 ?_ | refine H7 (H4 z4).2.1 ?_ | refine H7 (H4 z5).2.1 ?_ | refine sJ (by first | exact C | exact g | exact z3 | exact z4 | exact z5) ?_ | refine dW (by first | exact C | exact g | exact z3 | exact z4 | exact z5) ?_)))) ?_;refine C3 (Sees.forget 832) ?_;refine C3 (C04 (gf':=B4 [831,832,834,837,838] gf) (l:=[(0,.s fJ),(2,.s (m7 D)),(3,B8 AL.Thread 2 z8 w)]) (ob':=[(830,macG A s (a+1) (.p (.list AL.Thread 2 z8 w)) .any)]++Z) lf (B0 F) b3w (D3 (L:=[(830,_)]) ⟨rfl,trivial⟩ (by repeat (first | exact O3 | refine U3 rfl ?_ | refine H7 (H4 g).2.1 ?_ | refine H7 (H4 z4).2.1 ?_ | refine H7 (H4 z5).2.1 ?_ | refine sJ (by first | exact C | exact g | exact z3 | exact z4 | exact z5) ?_ | refine dW (by first | exact C | exact g | exact z3 | exact z4 | exact z5) ?_)))) ?_;refine N7 [14,11,8] [[],[8],[11],[11,8],[14,11,8]] [(8,([832],[])),(11,([],[])),(14,([],[]))] [(0,[]),(1,[]),(2,[]),(3,[]),(4,[]),(5,[]),(6,[]),(7,[]),(8,[]),(9,[]),(10,[]),(11,[]),(11,[8]),(12,[11,8]),(13,[11,8]),(14,[11,8])] [(0,[8]),(1,[8]),(1,[11]),(1,[11,8]),(7,[11]),(8,[11]),(9,[8]),(10,[8])] E4 E4 (C6 A0 A0 E4 A0 A0 (C9 A0 A0) (C6 A0 A0 E4 A0 A0 (C9 A0 A0) (C6 A0 A0 E4 A0 A0 (C9 A0 A0) (C6 A0 A0 E4 A0 A0 (F3 A0) (C6 A0 A0 E4 A0 A0 (F4 A0) (C6 A0 A0 E4 A0 A0 (F4 A0) (C6 A0 A0 E4 A0 A0 (E7 A0 A0 A0) (C6 A0 A0 E4 A0 A0 (uL A0 (.pure _ _ _ _)) ?_))))))));refine Z4 rfl rfl E4 rfl rfl (uW (fun G E hk=>a8 832 Bool M8 false (S7 E rfl) (S7 E rfl) qR qR (fun _=>PE) (by rw[hk];(repeat (first | exact g | refine WK ?_ | refine Q0 rfl rfl ?_))))) rfl ?_;refine C6 A0 A0 E4 A0 A0 (F3 A0) (C6 A0 A0 E4 A0 A0 (F4 A0) (Z4 A0 A0 E4 A0 A0 (gV (fun G E=>K5 TySz.out (S7 E A0) A0 (S7 E A0) A0 A0 A0)) A0 (w_again A0 A0 E4 A0 A0 (gV (fun G E=>K5 TySz.out (S7 E A0) A0 (S7 E A0) A0 A0 A0)) A0 (C6 A0 A0 E4 A0 A0 (F3 A0) (C6 A0 A0 E4 A0 A0 (F4 A0) (Z4 A0 A0 E4 A0 A0 (gV (fun G E=>K5 TySz.out (S7 E A0) A0 (S7 E A0) A0 A0 A0)) A0 ?_))))));refine tE (ks:=[831,832,834,837,838]) rfl E4 rfl ?_ ?_
 ·refine G4 A0 A0 E4 A0 A0 (C9 A0 A0) (G4 A0 A0 E4 A0 A0 (C9 A0 A0) (G4 A0 A0 E4 A0 A0 (C9 A0 A0) (G4 A0 A0 E4 A0 A0 (C9 A0 A0) (G4 A0 A0 E4 A0 A0 (uL A0 (.pure _ _ _ _)) ?_))));refine x_eff rfl rfl E4 rfl rfl (uW (fun G E hk=>a8 832 Bool M8 false (S7 E rfl) (S7 E rfl) qR qR (fun _=>PE) (by rw[hk];(repeat (first | exact g | refine WK ?_ | refine Q0 rfl rfl ?_))))) rfl (B37 (by repeat (first | exact trivial | refine⟨.inr rfl,?_⟩ | refine⟨.inl rfl,?_⟩ | exact DQ PG))) ?_;refine G4 A0 A0 E4 A0 A0 (F3 A0) (G4 A0 A0 E4 A0 A0 (F4 A0) ?_);exact lA
 refine G5 ?_;refine C3 (C04 (gf':=B4 [831,832,834,837,838] gf) (l:=[(0,.s fJ),(2,.s (m7 D)),(3,B8 AL.Thread 2 z8 w)]) (ob':=[(830,macG A s (a+1) (.p (.v (.slice none 0 0))) (.mut 832)),(832,zQ (List.replicate A.States.length false))]++Z) lf (B0 F) b3w (D3 (L:=[(830,_),(832,_)]) ⟨rfl,rfl,trivial⟩ (by repeat (first | exact O3 | refine U3 rfl ?_ | refine H7 (H4 g).2.1 ?_ | refine H7 (H4 z4).2.1 ?_ | refine H7 (H4 z5).2.1 ?_ | refine sJ (by first | exact C | exact g | exact z3 | exact z4 | exact z5) ?_ | refine dW (by first | exact C | exact g | exact z3 | exact z4 | exact z5) ?_)))) ?_;refine C3 (C10 831 AL.Thread 2 z8 202 (kb:=830) (o:=4) A0 A0 (and_tt (pD A0 (pD A0 (pD A0 f1))) (Q0 A0 A0 (Q0 A0 A0 C)))) (J0 ?_);refine B9 (X:=Nat×Mach) (fun x=>([(0,.s fJ),(2,.s (m7 D)),(40,B8 AL.Thread 2 z8 w),(41,B6 w.length),(42,B6 x.1)]++B4 [831,832,834,837,838] gf,[(830,iC A s (a+1)),(831,EJ x.2.1),(832,zQ x.2.2)]++Z)) (fun x=>x.1<=w.length/\kO A s (a+1) D.toNat (w.drop x.1) x.2=R/\MG A x.2) (fun x=>w.length-x.1) (0,([],List.replicate A.States.length false)) ⟨C41 _,hR,MG.first A⟩ ?_ ?_
 ·exact C04 lf (B0 F) b3w (D3 (L:=[(830,_),(831,_),(832,_)]) ⟨rfl,rfl,rfl,trivial⟩ (by repeat (first | exact O3 | refine U3 rfl ?_ | refine H7 (H4 g).2.1 ?_ | refine H7 (H4 z4).2.1 ?_ | refine H7 (H4 z5).2.1 ?_ | refine sJ (by first | exact C | exact g | exact z3 | exact z4 | exact z5) ?_ | refine dW (by first | exact C | exact g | exact z3 | exact z4 | exact z5) ?_)))
 rintro⟨i,m⟩ ⟨hi,j,H⟩;dsimp only at hi j H ⊢;refine zc 5 (fun I=>?_) fun I=>?_;rotate_left
 ·have af:i=w.length:=by have:=A3 I;omega
  rw[af,List.drop_length]at j;have ac:m=R:=j;rw[ac];refine G5 ?_;exact V6 (iZ rfl) b3w (D3 (L:=[(830,_),(831,_),(832,_)]) ⟨rfl,rfl,rfl,trivial⟩ (by repeat (first | exact O3 | refine U3 rfl ?_ | refine H7 (H4 g).2.1 ?_ | refine H7 (H4 z4).2.1 ?_ | refine H7 (H4 z5).2.1 ?_ | refine sJ (by first | exact C | exact g | exact z3 | exact z4 | exact z5) ?_ | refine dW (by first | exact C | exact g | exact z3 | exact z4 | exact z5) ?_))) ⟨rfl,rfl⟩
 have P:i<w.length:=by have:=A1 I;omega
 obtain⟨t,V⟩:∃t,t=w[i]:=⟨_,rfl⟩
 have al:w[i]?=some t:=by rw[V];simp[P]
 rw[C57 P,<-V,kO]at j;obtain⟨S,T⟩:=U t (C60 al);obtain⟨q,Q⟩:∃q,q=R2 A t.state:=⟨_,rfl⟩
 have ap:A.States[t.state.toNat]?=some q:=by rw[Q];exact wW ⟨S,T⟩
 have ah:=dP (lR W ⟨S,T⟩);rw[<-Q]at j ah;refine I3 ?_;refine C2 (fY 837 (H4 (Q0 A0 A0 (Q0 A0 A0 (Q0 A0 A0 z4)))).2.1 F1) A0 (H3 ?_);refine C3 (C04 (gf':=B4 [831,832,834,837,838] gf) (l:=[(0,.s fJ),(2,.s (m7 D)),(40,B8 AL.Thread 2 z8 w),(41,B6 w.length),(42,B6 i),(5,.s (.one (.ref 837 0)))]) (ob':=[(830,iC A s (a+1)),(831,EJ m.1),(832,zQ m.2),(837,.box [.p (.v (.int .i64 t.state)),.p (.v (.int .i64 t.from_))])]++Z) lf (B0 F) b3w (D3 (L:=[(830,_),(831,_),(832,_),(837,_)]) ⟨rfl,rfl,rfl,rfl,trivial⟩ (by repeat (first | exact O3 | refine U3 rfl ?_ | refine H7 (H4 g).2.1 ?_ | refine H7 (H4 z4).2.1 ?_ | refine H7 (H4 z5).2.1 ?_ | refine sJ (by first | exact C | exact g | exact z3 | exact z4 | exact z5) ?_ | refine dW (by first | exact C | exact g | exact z3 | exact z4 | exact z5) ?_)))) ?_;refine N7 [10,9] [[],[9],[10,9]] [(9,([838],[])),(10,([],[]))] [(0,[]),(1,[]),(2,[]),(3,[]),(4,[]),(5,[]),(6,[]),(7,[]),(8,[]),(9,[]),(10,[9])] [(0,[9]),(1,[9]),(2,[9]),(3,[9]),(4,[9]),(5,[9]),(6,[9]),(7,[9]),(8,[9])] E4 E4 (C6 A0 A0 E4 A0 A0 (C9 A0 A0) (C6 A0 A0 E4 A0 A0 (F3 A0) (C6 A0 A0 E4 A0 A0 (F4 A0) (C6 A0 A0 E4 A0 A0 (F4 A0) (C6 A0 A0 E4 A0 A0 (E7 A0 A0 A0) (C6 A0 A0 E4 A0 A0 (F4 A0) (C6 A0 A0 E4 A0 A0 (E7 A0 A0 A0) (C6 A0 A0 E4 A0 A0 (C5 A0 (.pure _ _ _ _) A0 B1 aT) (C6 A0 A0 E4 A0 A0 (W8 A0 A0) ?_)))))))));refine Z4 rfl rfl E4 rfl rfl (r_alloc (by repeat (first | exact z5 | refine WK ?_ | refine Q0 rfl rfl ?_))) rfl ?_;refine Z4 A0 A0 E4 A0 A0 (gV (fun G E=>K5 TySz.out (S7 E A0) A0 (S7 E A0) A0 A0 A0)) A0 ?_;refine tE (ks:=[831,832,834,837,838]) rfl E4 rfl ?_ ?_
 ·refine G4 A0 A0 E4 A0 A0 (C9 A0 A0) (G4 A0 A0 E4 A0 A0 (F3 A0) (G4 A0 A0 E4 A0 A0 (F4 A0) (G4 A0 A0 E4 A0 A0 (F4 A0) (G4 A0 A0 E4 A0 A0 (E7 A0 A0 A0) (G4 A0 A0 E4 A0 A0 (F4 A0) (G4 A0 A0 E4 A0 A0 (E7 A0 A0 A0) (G4 A0 A0 E4 A0 A0 (C5 A0 (.pure _ _ _ _) A0 B1 aT) (G4 A0 A0 E4 A0 A0 (W8 A0 A0) ?_))))))));exact lA
 refine G5 ?_;refine C3 (C04 (gf':=B4 [831,832,834,837,838] gf) (l:=[(0,.s fJ),(2,.s (m7 D)),(40,B8 AL.Thread 2 z8 w),(41,B6 w.length),(42,B6 i),(5,.s (.one (.ref 837 0))),(6,.s (.one (.ref 838 0)))]) (ob':=[(830,iC A s (a+1)),(831,EJ m.1),(832,zQ m.2),(837,.box [.p (.v (.int .i64 t.state)),.p (.v (.int .i64 t.from_))]),(838,.box ((cellsOf iM q 0 7).map .p))]++Z) lf (B0 F) b3w (D3 (L:=[(830,_),(831,_),(832,_),(837,_),(838,_)]) ⟨rfl,rfl,rfl,rfl,rfl,trivial⟩ (by repeat (first | exact O3 | refine U3 rfl ?_ | refine H7 (H4 g).2.1 ?_ | refine H7 (H4 z4).2.1 ?_ | refine H7 (H4 z5).2.1 ?_ | refine sJ (by first | exact C | exact g | exact z3 | exact z4 | exact z5) ?_ | refine dW (by first | exact C | exact g | exact z3 | exact z4 | exact z5) ?_)))) ?_;by_cases Y:q.Kind=0
 ·have O:D.toNat / 64=0\/D.toNat / 64=1\/D.toNat / 64=2\/D.toNat / 64=3:=by have:=D.toNat_lt;omega
  have B:=A4 Y;rcases O with O | O | O | O
  all_goals
   have ag:=A36 D.toNat_lt O;have J:0<=(D.toNat:Int).tmod 64:=Int.tmod_nonneg _ B1;refine I2 ?_;refine G7 A0 A0 A0 B (G5 ?_);refine G7 A0 A0 A0 B (G5 ?_);refine G7 A0 A0 A0 B (G5 ?_);refine G7 A0 A0 A0 B (B2 (V4 A0 A0 (ag) F1) A0 (G7 A0 A0 A0 B (G5 ?_)));refine G7 A0 A0 A0 B (G5 ?_);refine G7 A0 A0 A0 B (G5 ?_);refine G7 A0 A0 A0 B (B2 (PK A0 A0 (by (exact J))) A0 ?_);refine G7 A0 A0 A0 B (G5 ?_);refine G7 A0 A0 A0 B (G5 ?_);refine B2 (O2 A0 (B) A0) A0 ?_;refine zc 1 (fun I=>?_) fun I=>?_
   ·have hB:aL q.Set D.toNat=1:=by
     have K:=A1 I;rw[FY,A37]at K;unfold aL;rw[O];exact K
    rw[A6 ⟨Y,hB⟩]at j;obtain⟨M,hM⟩:∃M,wU A s (a+1) ⟨q.Next,t.from_⟩ m=M:=⟨_,rfl⟩
    rw[hM]at j;have ab:MG A M:=by rw[<-hM];exact yQ s W b9x H
    skip;refine I3 ?_;refine O4 (JV A s W (a+1) q.Next t.from_ m M H B1 hM A0 A0 A0 (H4 (Q0 A0 A0 (Q0 A0 A0 (Q0 A0 A0 (Q0 A0 A0 (Q0 A0 A0 z3)))))).2.1) A0 A0 A0 (I2 ?_);refine⟨(i+1,M),⟨by omega,j,ab⟩,by dsimp only;omega,?_⟩;exact C04 lf (B0 F) b3w (D3 (L:=[(830,_),(831,_),(832,_)]) ⟨rfl,rfl,rfl,trivial⟩ (by repeat (first | exact O3 | refine U3 rfl ?_ | refine H7 (H4 g).2.1 ?_ | refine H7 (H4 z4).2.1 ?_ | refine H7 (H4 z5).2.1 ?_ | refine sJ (by first | exact C | exact g | exact z3 | exact z4 | exact z5) ?_ | refine dW (by first | exact C | exact g | exact z3 | exact z4 | exact z5) ?_)))
   ·have hB:¬aL q.Set D.toNat=1:=by
     have K:=A3 I;rw[FY,A37]at K;unfold aL;rw[O];exact K
    rw[A7 (fun h=>hB h.2)]at j;refine I2 ?_;refine⟨(i+1,m),⟨by omega,j,H⟩,by dsimp only;omega,?_⟩;exact C04 lf (B0 F) b3w (D3 (L:=[(830,_),(831,_),(832,_)]) ⟨rfl,rfl,rfl,trivial⟩ (by repeat (first | exact O3 | refine U3 rfl ?_ | refine H7 (H4 g).2.1 ?_ | refine H7 (H4 z4).2.1 ?_ | refine H7 (H4 z5).2.1 ?_ | refine sJ (by first | exact C | exact g | exact z3 | exact z4 | exact z5) ?_ | refine dW (by first | exact C | exact g | exact z3 | exact z4 | exact z5) ?_)))
 have z:=A5 Y;refine I2 ?_;refine L1 A0 A0 A0 (by rw[z];decide) A0 ?_;refine L1 A0 A0 A0 (by rw[z];decide) A0 ?_;refine L1 A0 A0 A0 (by rw[z];decide) A0 ?_;refine L1 A0 A0 A0 (by rw[z];decide) A0 ?_;refine L1 A0 A0 A0 (by rw[z];decide) A0 ?_;refine L1 A0 A0 A0 (by rw[z];decide) A0 ?_;refine L1 A0 A0 A0 (by rw[z];decide) A0 ?_;refine L1 A0 A0 A0 (by rw[z];decide) A0 ?_;refine L1 A0 A0 A0 (by rw[z];decide) A0 ?_;refine L1 A0 A0 A0 (by rw[z];decide) A0 ?_;refine B2 (Y2 A0 (z) A0) A0 ?_;refine zc 1 (fun I=>?_) fun I=>?_
 ·cases I
 refine I2 ?_;rw[A7 (fun h=>Y h.1)]at j;refine⟨(i+1,m),⟨by omega,j,H⟩,by dsimp only;omega,?_⟩;exact C04 lf (B0 F) b3w (D3 (L:=[(830,_),(831,_),(832,_)]) ⟨rfl,rfl,rfl,trivial⟩ (by repeat (first | exact O3 | refine U3 rfl ?_ | refine H7 (H4 g).2.1 ?_ | refine H7 (H4 z4).2.1 ?_ | refine H7 (H4 z5).2.1 ?_ | refine sJ (by first | exact C | exact g | exact z3 | exact z4 | exact z5) ?_ | refine dW (by first | exact C | exact g | exact z3 | exact z4 | exact z5) ?_)))
theorem A88(z:Set4)(c:UInt8):FnOk prog 148 [S9 z,pByte c] (fun rs=>rs=[E1 (decide (aL z c.toNat=1))]):=by
 have a:c.toNat / 64=0\/c.toNat / 64=1\/c.toNat / 64=2\/c.toNat / 64=3:=by have:=c.toNat_lt;omega
 have b:0<=(c.toNat:Int).tmod 64:=Int.tmod_nonneg _ B1;refine FnOk.intro Tryz.func148 F1 A0 A0 A0 A0 (F5 ?_);refine C2 (w9 2 A0 A0 A0) A0 (H3 ?_);rcases a with a | a | a | a
 all_goals
  have e:=A36 c.toNat_lt a;refine H3 ?_;refine B2 (V4 A0 A0 (e) F1) A0 (H3 ?_);refine B2 (PK A0 A0 (by (exact b))) A0 ?_;refine I2 ?_;refine A9 M1 ?_;unfold aL;rw[a,FY,A37];rfl
theorem NG(z:Set4)(f:O0 z)(c:UInt8):FnOk prog 219 [S9 z,pByte c] (fun g=>g=[S9 (z.with_ c.toNat)]):=by
 obtain⟨h,i,z3,z4⟩:=f;have a:c.toNat / 64=0\/c.toNat / 64=1\/c.toNat / 64=2\/c.toNat / 64=3:=by have:=c.toNat_lt;omega
 have e:0<=(c.toNat:Int).tmod 64:=Int.tmod_nonneg _ B1;refine FnOk.intro Tryz.func219 F1 A0 A0 A0 A0 (F5 ?_);refine C2 (w9 2 A0 A0 A0) A0 (C2 (H9 4 A0) A0 (F5 ?_));rcases a with a | a | a | a
 all_goals
  have b:=A36 c.toNat_lt a;refine I2 ?_;refine B2 (V4 A0 A0 (b) F1) A0 (H3 ?_);refine B2 (n_shl A0 A0 (by (exact e))) A0 ?_;refine G5 ?_;refine B2 (V4 A0 A0 (b) F1) A0 (R3 ?_);refine A9 b3y ?_;unfold Set4.with_;rw[a];simp only[pF h,pF i,pF z3,pF z4]
theorem RZ(z:Set4)(d:O0 z)(c:Nat)(g:c<256):FnOk prog 219 [S9 z,.one (.v (.int .u8 (c:Int)))] (fun f=>f=[S9 (z.with_ c)]):=by
 have e:(UInt8.ofNat c).toNat=c:=by rw[UInt8.toNat_ofNat'];omega
 have h:=NG z d (UInt8.ofNat c);rw[e]at h;have b:pByte (UInt8.ofNat c)=.one (.v (.int .u8 (c:Int))):=by
  show PV.one (.v (.int .u8 ((UInt8.ofNat c).toNat:Int)))=_;rw[e]
 rw[b]at h;exact h
theorem JW(z:Set4)(g:O0 z):FnOk prog 218 [S9 z] (fun rs=>rs=[S9 z.compl]):=by
 obtain⟨j,k,z3,z4⟩:=g;refine FnOk.intro Tryz.func218 F1 A0 A0 A0 A0 (F5 ?_);refine C2 (w9 1 A0 A0 A0) A0 (C2 (H9 2 A0) A0 (I3 ?_));refine B9 (X:=Nat) (fun i=>([(1,.s (.one (.ref 1 0))),(2,.s (.one (.ref 2 0))),(3,B6 i)],[(1,complT z i),(2,ED 0 0 0 0)])) (fun i=>i<=4) (fun i=>4-i) 0 (C41 _) (C1) ?_;intro i c;dsimp only at c ⊢;refine zc 6 (fun a=>?_) fun a=>?_
 ·have d:i<4:=by have:=A1 a;omega
  rcases (show i=0\/i=1\/i=2\/i=3 by omega) with h | h | h | h<;>subst h
  ·refine x5 ?_;rw[jJ j];refine I2 ?_;exact⟨1,by omega,by omega,C1⟩
  ·refine x5 ?_;rw[jJ k];refine I2 ?_;exact⟨2,by omega,by omega,C1⟩
  ·refine x5 ?_;rw[jJ z3];refine I2 ?_;exact⟨3,by omega,by omega,C1⟩
  ·refine x5 ?_;rw[jJ z4];refine I2 ?_;exact⟨4,by omega,by omega,C1⟩
 ·have b:i=4:=by have:=A3 a;omega
  subst b;refine I3 ?_;exact A9 (rs:=[S9 z.compl]) b3y rfl
theorem iD(c:UInt8):FnOk prog 242 [pByte c] (fun h=>h=[E1 (i8 c.toNat)]):=by
 refine FnOk.intro Tryz.func242 F1 A0 A0 A0 A0 (zz 17 ?_);refine K4 A0 A0 A0 (.gd (.val _)) A0 (fun f=>by obtain⟨b,e⟩:=N0 f;(try rw[b]);(try rw[e]);exact PM A0 A0) ?_;refine I2 ?_;refine A9 M1 ?_
 congr 4
 unfold i8;simp only[x7,P4];rw[Bool.eq_iff_iff];simp;omega
theorem xZ(c:UInt8):FnOk prog 243 [pByte c] (fun a=>a=[E1 (oC c.toNat)]):=by
 refine FnOk.intro Tryz.func243 F1 A0 A0 A0 A0 (zz 15 ?_);refine A9 M1 ?_
 congr 4
 unfold oC;simp only[P4];rw[Bool.eq_iff_iff];simp;omega
theorem SA(name:Str)(c:UInt8):FnOk prog 235 [F6 name,pByte c] (fun v=>v=[E1 (fH name c.toNat),E1 (iR name c.toNat).isSome]):=by
 have w:=c.toNat_lt;have key:∀b,iR name c.toNat=some b->fH name c.toNat=b/\(iR name c.toNat).isSome=true:=fun b h=>by unfold fH;rw[h];exact⟨rfl,rfl⟩
 obtain⟨R,d⟩:∃R,R=iR name c.toNat:=⟨_,rfl⟩
 have t:fH name c.toNat=R.getD false:=by rw[d];rfl
 rw[<-d,t];clear key;unfold iR at d;refine FnOk.intro Tryz.func235 F1 A0 A0 A0 A0 ?_;refine zc 16 (fun a=>?_) fun a=>?_
 ·have g:name=[97,108,112,104,97]:=A1 a;rw[A6 g]at d;refine H3 ?_;refine E2 (iD c) (P1 ?_);refine A9 cN ?_;rw[d];show _=[E1 (i8 c.toNat),E1 true]
  rfl
 have f:¬name=[97,108,112,104,97]:=A3 a;refine zc 5 (fun a=>?_) fun a=>?_
 ·have g:name=[100,105,103,105,116]:=A1 a;rw[A7 f,A6 g]at d;refine H3 ?_;refine E2 (xZ c) (P1 ?_);refine A9 cN ?_;rw[d];show _=[E1 (oC c.toNat),E1 true]
  rfl
 have j:¬name=[100,105,103,105,116]:=A3 a;refine zc 5 (fun a=>?_) fun a=>?_
 ·have g:name=[97,108,110,117,109]:=A1 a;rw[A7 f,A7 j,A6 g]at d;refine H3 ?_;refine E2 (iD c) (F5 ?_);refine D7 A0 A0 A0 A0 (fun n=>by have r:=n;(try simp at r);rw[n];exact I5 (xZ c) A0 A0) ?_;refine I2 ?_;refine A9 cN ?_;rw[d];show _=[E1 (i8 c.toNat||oC c.toNat),E1 true]
  rw[x7]
 have k:¬name=[97,108,110,117,109]:=A3 a;refine zc 5 (fun a=>?_) fun a=>?_
 ·have g:name=[117,112,112,101,114]:=A1 a;rw[A7 f,A7 j,A7 k,A6 g]at d;refine H3 ?_;refine E2 (iD c) (R3 ?_);refine A9 cN ?_;rw[d];show _=[E1 (i8 c.toNat&&decide (c.toNat<=90)),E1 true]
  congr 4
  simp only[x7,P4];generalize i8 c.toNat=x;generalize oC c.toNat=y;rw[Bool.eq_iff_iff];cases x<;>cases y<;>simp<;>omega
 have l:¬name=[117,112,112,101,114]:=A3 a;refine zc 5 (fun a=>?_) fun a=>?_
 ·have g:name=[108,111,119,101,114]:=A1 a;rw[A7 f,A7 j,A7 k,A7 l,A6 g]at d;refine H3 ?_;refine E2 (iD c) (R3 ?_);refine A9 cN ?_;rw[d];show _=[E1 (i8 c.toNat&&decide (97<=c.toNat)),E1 true]
  congr 4
  simp only[x7,P4];generalize i8 c.toNat=x;generalize oC c.toNat=y;rw[Bool.eq_iff_iff];cases x<;>cases y<;>simp<;>omega
 have p:¬name=[108,111,119,101,114]:=A3 a;refine zc 5 (fun a=>?_) fun a=>?_
 ·have g:name=[115,112,97,99,101]:=A1 a;rw[A7 f,A7 j,A7 k,A7 l,A7 p,A6 g]at d;refine zz 16 ?_;refine A9 cN ?_;rw[d];show _=[E1 (decide (9<=c.toNat/\c.toNat<=13)||decide (c.toNat=32)),E1 true]
  congr 4
  simp only[x7,P4];generalize i8 c.toNat=x;generalize oC c.toNat=y;rw[Bool.eq_iff_iff];cases x<;>cases y<;>simp<;>omega
 have q:¬name=[115,112,97,99,101]:=A3 a;refine zc 5 (fun a=>?_) fun a=>?_
 ·have g:name=[112,117,110,99,116]:=A1 a;rw[A7 f,A7 j,A7 k,A7 l,A7 p,A7 q,A6 g]at d;refine O6 ?_;refine D7 A0 A0 A0 A0 (fun n=>by have r:=n;(try simp at r);rw[n];exact I5 (iD c) A0 A0) ?_;refine P1 ?_;refine D7 A0 A0 A0 A0 (fun n=>by have r:=n;(try simp at r);rw[n];exact I5 (xZ c) A0 A0) ?_;refine J0 ?_;refine A9 cN ?_;rw[d];show _=[E1 (decide (33<=c.toNat/\c.toNat<=126)&&(!i8 c.toNat&&!oC c.toNat)),E1 true]
  congr 4
  simp only[x7,P4];generalize i8 c.toNat=x;generalize oC c.toNat=y;rw[Bool.eq_iff_iff];cases x<;>cases y<;>simp<;>omega
 have u:¬name=[112,117,110,99,116]:=A3 a;rw[A7 f,A7 j,A7 k,A7 l,A7 p,A7 q,A7 u]at d;refine I3 ?_;refine A9 cN ?_;rw[d];rfl
theorem EM(name:Str)(c:Nat)(f:c<256):FnOk prog 235 [F6 name,.one (.v (.int .u8 (c:Int)))] (fun d=>d=[E1 (fH name c),E1 (iR name c).isSome]):=by
 have e:(UInt8.ofNat c).toNat=c:=by rw[UInt8.toNat_ofNat'];omega
 have h:=SA name (UInt8.ofNat c);rw[e]at h;have b:pByte (UInt8.ofNat c)=.one (.v (.int .u8 (c:Int))):=by
  show PV.one (.v (.int .u8 ((UInt8.ofNat c).toNat:Int)))=_;rw[e]
 rw[b]at h;exact h
theorem s6{K:List Nat}{s:Str}{st:PSt}{e:Int}{y:Ob}{Z a:Obs}(g:B5 a 810=some (PI s st.at_ st.depth e))(h:B5 a 811=some (eR st.nodes))(i:B5 a 870=some y)(j:ZOk K Z a):∀k o,B5 (RObs s st e ((870,y)::Z)) k=some o->B5 a k=some o:=fun k o b=>by
 by_cases c:810=k
 ·subst c;rw[B3]at b;cases b;exact g
 rw[A8 c]at b;by_cases d:811=k
 ·subst d;rw[B3]at b;cases b;exact h
 rw[A8 d]at b;by_cases f:870=k
 ·subst f;rw[B3]at b;cases b;exact i
 rw[A8 f]at b;exact j.sub k o b
theorem yA(f:Nat->Bool){t:Set4}(h:O0 t):∀n,O0 (X3 f n t)
 | 0=>h
 | n+1=>by
  rw[X3];split
  ·exact rH (yA f h n) n
  ·exact yA f h n
theorem B69{s:Str}{t:Set4}{x:PSt}(h:s[x.at_]?=none):n6 s t x=.error 40:=by
 unfold n6;have a:=List.getElem?_eq_none_iff.1 h;have b:¬bD 91 58 (s.drop x.at_)=true:=by
  rw[C64 a];decide
 dsimp only;rw[A7 b,h]
theorem EN{p:Prop}(h:p:=by repeat (first | exact by assumption | refine ZOk.cons ?_ (.inl rfl) | refine ZOk.cons ?_ (.inr (ZOk.k8 (by assumption)).h811) | refine ZOk.cons ?_ (.inr (by assumption)))):p:=h
theorem A89{K:List Nat}(S:F0 K 870=true){s:Str}{st:PSt}(hs:SOk s st)(bv:st.at_+1<=s.length)(hd:st.depth<=50){gf:Fr}{ob Z:Obs}(hI:RIn K s (st.skip 1) 0 Z ob) :
  AL.Met prog 217 [H1] gf ob K (postR s st.depth (s9 s (s.length+2) st) aE Z):=by
 have hz:=hI.z.self;have ak:=hs.len;have cj:=hs.at_;have hv:∀n:Nat,n<s.length->s[((n:Nat):Int).toNat]?=some (s.getD n 0):=fun n h=>by rw[C37,C38,C36 h];rfl
 have u:∀n:Nat,n<s.length->s[n]?=some (s.getD n 0):=fun n h=>by rw[C38,C36 h];rfl
 have hu:∀(c k:UInt8),(c.toNat:Int)=k.toNat->c=k:=fun c k e=>C89.1 B1;have g1:=L7 (s:=s) (x:=st) 1 bv;have cb:=hs.gr g1 B1;have g2:=pY (s:=s) (x:=st.skip 1) 94 g1.len;have ba:=cb.gr g2 B1;have af:=g2.dep;have bw:(fU s 94 (st.skip 1)).nodes=st.nodes:=by unfold fU;split<;>rfl
 obtain⟨y,U⟩:∃y,y=O1 s 94 (st.skip 1):=⟨_,rfl⟩
 have A:=B22 s (s.length+2) st;obtain⟨R,hR⟩:∃R,R=s9 s (s.length+2) st:=⟨_,rfl⟩
 rw[<-hR]at A ⊢;rw[<-U]at A;have F:fU s 94 (st.skip 1)=if y=true then (st.skip 1).skip 1 else st.skip 1:=by rw[U];rfl
 obtain⟨x1,cf⟩:∃x1,x1=fU s 94 (st.skip 1):=⟨_,rfl⟩
 rw[<-cf]at ba A af bw F;have af:x1.depth=st.depth:=af;refine AL.Met.introH Tryz.func217 F1 rfl rfl rfl (fun H=>?_);refine C3 (EH (l:=[(0,.s H1)]) hI ⟨i6 rfl,trivial⟩ H zP) ?_;refine I3 ?_;refine O4 (dX s (st.skip 1).at_ (st.skip 1).depth 0 94 B1 A0) A0 A0 A0 (F5 ?_);rw[show decide (s[(st.skip 1).at_]?=some 94)=y from U.symm];refine I2 ?_;refine U9 ([(0,.s H1),(3,L6 y)]++B4 K gf) (RObs s x1 0 Z) ?_ ?_
 ·skip;refine zc 0 (fun j=>?_) fun j=>?_
  ·have hb:y=true:=j;rw[A6 hb]at F;subst F;skip;refine I2 ?_;refine B2 (Z3 A0 A0 (by ((try dsimp only[PSt.skip]);omega))) A0 ?_;refine P1 ?_;exact C04 lf (B0 H) zP (U5 (K:=K) ⟨rfl,rfl,EN⟩)
  ·have hb:¬y=true:=by rw[j];decide
   rw[A7 hb]at F;subst F;refine G5 ?_;exact C04 lf (B0 H) zP (U5 (K:=K) ⟨rfl,rfl,EN⟩)
 have ao:B5 (RObs s x1 0 Z) 870=none:=hz.none (.inr S);refine F5 ?_;refine C2 (fY 870 ao F1) A0 (I3 ?_);obtain⟨C,hC⟩:∃C,C=IK s (s.length+2) true set0 x1:=⟨_,rfl⟩
 rw[<-hC]at A;refine B9 (X:=Nat×Bool×Set4×PSt) (fun x=>([(0,.s H1),(3,L6 y),(4,.s (.one (.ref 870 0))),(5,L6 x.2.1)]++B4 K gf,RObs s x.2.2.2 0 ((870,mZ x.2.2.1)::Z))) (fun x=>SOk s x.2.2.2/\O0 x.2.2.1/\x.2.2.2.depth=st.depth/\s.length-x.2.2.2.at_<x.1/\C=IK s x.1 x.2.1 x.2.2.1 x.2.2.2) (fun x=>x.1) (s.length+2,true,set0,x1) ⟨ba,q8,af,by dsimp only;omega,hC⟩ ?_ ?_
 ·dsimp only;exact C04 lf (B0 H) zP (s6 rfl rfl rfl ((hz.rin.fgt S).cons (.inr S)))
 rintro⟨f,first,t,x⟩ ⟨aj,M,am,bp,ae⟩;dsimp only at aj M am bp ae ⊢;have co:=aj.at_;have cp:=aj.nds;obtain⟨f,rfl⟩:∃g,f=g+1:=⟨f-1,by omega⟩
 refine F5 ?_;obtain⟨go,J⟩:∃go,go=(if first=true then true else !(decide (s[x.at_]?=some 93))):=⟨_,rfl⟩
 have key:go=true->first=true\/¬O1 s 93 x=true:=fun h=>by
  rw[h]at J;cases first with
  | true=>exact .inl rfl
  | false =>
   refine .inr fun e=>?_;have e:decide (s[x.at_]?=some 93)=true:=e;rw[e]at J;cases J
 have bi:go=false->first=false/\O1 s 93 x=true:=fun h=>by
  rw[h]at J;cases first with
  | true=>cases J
  | false =>
   refine⟨rfl,?_⟩;show decide (s[x.at_]?=some 93)=true;cases hb:decide (s[x.at_]?=some 93) with
   | true=>rfl
   | false=>rw[hb]at J;cases J
 refine U9 ([(0,.s H1),(3,L6 y),(4,.s (.one (.ref 870 0))),(31,L6 go)]++B4 K gf) (RObs s x 0 ((870,mZ t)::Z)) ?_ ?_
 ·cases first with
  | true =>
   refine J0 ?_;refine B2 (O2 A0 (rfl) A0) A0 (G5 ?_);rw[show go=true from J];refine uI ?_;exact C04 lf (B0 H) zP (s6 (K:=K) rfl rfl rfl EN)
  | false =>
   refine H3 ?_;refine G7 A0 A0 A0 A0 (G5 ?_);refine G7 A0 A0 A0 A0 (O4 (dX s x.at_ x.depth 0 93 B1 A0) A0 A0 A0 (G7 A0 A0 A0 A0 (G5 ?_)));refine B2 (Y2 A0 (rfl) A0) A0 (G5 ?_);rw[show go=!decide (s[x.at_]?=some 93) from J];refine uI ?_;exact C04 lf (B0 H) zP (s6 (K:=K) rfl rfl rfl EN)
 skip;refine zc 0 (fun j=>?_) fun j=>?_;rotate_left
 ·obtain⟨rfl,hh⟩:=bi j;rw[cls_end hh]at ae;rw[ae]at A;dsimp only at A;have gE:=L7 (s:=s) (x:=x) 1 (l5 hh);have bc:=aj.gr gE B1;have cm:=bc.nds;have ci:=bc.at_;obtain⟨tf,ab⟩:∃tf,tf=if y=true then t.compl else t:=⟨_,rfl⟩
  rw[<-ab]at A;refine zz 17 ?_;refine U9 ([(0,.s H1),(4,.s (.one (.ref 870 0)))]++B4 K gf) (RObs s (x.skip 1) 0 ((870,mZ tf)::Z)) ?_ ?_
  ·skip;refine zc 0 (fun j=>?_) fun j=>?_
   ·have hb:y=true:=j;rw[A6 hb]at ab;subst ab;skip;refine F5 ?_;refine E2 (JW t M) (F5 ?_);exact C04 lf (B0 H) zP (s6 (K:=K) rfl rfl rfl EN)
   ·have hb:y=false:=j;rw[A7 (by rw[hb];decide)]at ab;subst ab;refine G5 ?_;exact C04 lf (B0 H) zP (s6 (K:=K) rfl rfl rfl EN)
  refine k2 ?_;have cq:=hz;refine P1 ?_;refine gR ((C07 Int 1 C7 257 7 A0 A0)) (rO (JU s (x.skip 1).at_ (x.skip 1).depth 0 (x.skip 1).nodes ⟨1,tf,0,0,[]⟩ B1 A0 A0) eU A0 A0 A0 (F5 ?_));refine G5 ?_;refine D1 (ob':=RObs s (iL tf (x.skip 1)).1 0 Z) V9 zP (U5 (K:=K) ⟨rfl,rfl,?_⟩) ⟨(iL tf (x.skip 1)).1,0,(iL tf (x.skip 1)).2,rfl,rfl,.inl ⟨rfl,A⟩⟩;exact ((ZOk.fgt EN hz.k8.h811).cons (.inr hz.k8.h811)).cons (.inl rfl)
 have ca:=key j;have q:=B87 (s:=s) (f:=f+1) (t:=t) (x:=x) ca;rw[<-ae]at q;refine zz 15 ?_;refine D6 (BS A0 A0) A0 A0 ?_;refine zc 1 (fun j=>?_) fun j=>?_
 ·have T:s.length<=x.at_:=by have:=A1 j;omega
  rw[B69 (C63 T)]at q;dsimp only at q;rw[q]at A;dsimp only at A;refine H3 ?_;refine O4 (q9 s x.at_ x.depth 0 40 A0) A0 A0 A0 (F5 ?_);rw[A6 rfl];refine G5 ?_;exact D1 (ob':=RObs s x 40 Z) V9 zP (U5 (K:=K) ⟨rfl,rfl,EN⟩) ⟨x,40,0,rfl,rfl,.inr ⟨by decide,A,by omega,by omega,by omega⟩⟩
 have ad:x.at_<s.length:=by have:=A3 j;omega
 refine H3 ?_;refine rY 1 E4 E4 A0 (F5 ?_);refine CE (dX s x.at_ x.depth 0 91 B1 A0) A0 A0 A0 ?_;rintro _ _ ⟨rfl,rfl⟩;refine⟨_,rfl,?_⟩;refine I2 ?_;refine F9 A0 A0 (fun m=>by have I:=m;(try simp at I);rw[m];exact Z3 A0 A0 B1) A0 A0 ?_;refine P1 ?_;refine F9 A0 A0 (fun m=>by rw[m];exact uK A0) A0 A0 ?_;refine V7 ?_;refine F9 A0 A0 (fun m=>by have I:=m;(try simp at I);rw[m];exact Z3 A0 A0 B1) A0 A0 ?_;refine F9 A0 A0 (fun m=>by have I:=m;(try simp at I);rw[m];exact G9 A0 A0 B1 (by rw[show ((x.at_:Int)+1).toNat=x.at_+1 by omega];exact u (x.at_+1) B1)) A0 A0 ?_;refine H3 ?_;refine zc 0 (fun j=>?_) fun j=>?_
 ·have Y:=j;simp only[P4]at Y;simp only[C39,decide_eq_true_eq]at Y;obtain⟨⟨h0,ag⟩,av⟩:=Y;have ag:x.at_+1<s.length:=by omega
  have h1:s[x.at_+1]?=some 58:=by
   rw[u (x.at_+1) ag];exact congrArg some (hu _ 58 av)
  rw[ZF h0 h1]at q;obtain⟨a,ha⟩:∃a,a=x.at_+2:=⟨_,rfl⟩
  rw[<-ha]at q;have bm:a<=s.length:=by omega
  have bl:(a:Int)=(x.at_:Int)+2:=by omega
  refine zz 13 ?_;rw[<-bl];refine F5 ?_;refine B9 (X:=Nat) (fun i=>([(0,.s H1),(3,L6 y),(4,.s (.one (.ref 870 0))),(6,P6 ((s.drop a).take (i-a))),(7,B6 i)]++B4 K gf,RObs s x 0 ((870,mZ t)::Z))) (fun i=>a<=i/\i<=s.length/\NoEnd s a i) (fun i=>s.length-i) a ⟨C45 a,bm,NoEnd.start s a⟩ (by rw[D18,C79];exact C04 lf (B0 H) zP (s6 (K:=K) A0 A0 A0 EN)) ?_;rintro i ⟨al,br,V⟩;dsimp only at al br V ⊢;obtain⟨name,G⟩:∃name,name=(s.drop a).take (i-a):=⟨_,rfl⟩
  have cn:name.length=i-a:=by rw[G,C59,C61];omega
  rw[<-G];refine zz 17 ?_;refine D7 A0 A0 A0 A0 (fun m=>by have I:=m;(try simp at I);rw[m];exact G9 A0 A0 B1 (by rw[C37];exact u i B1)) ?_;refine H3 ?_;refine K4 A0 A0 A0 (.gd (.val _)) A0 (fun m=>by obtain⟨D,E⟩:=N0 m;(try rw[D]);(try rw[E]);exact F3 A0) ?_;refine K4 A0 A0 A0 (.gd (.val _)) A0 (fun m=>by obtain⟨D,E⟩:=N0 m;(try rw[D]);(try rw[E]);exact F4 A0) ?_;refine K4 A0 A0 A0 (.gd (.val _)) A0 (fun m=>by obtain⟨D,E⟩:=N0 m;(try rw[D]);(try rw[E]);exact E7 A0 A0 A0) ?_;refine G5 ?_;refine K4 A0 A0 A0 (.gd (.val _)) A0 (fun m=>by have I:=m;(try simp at I);obtain⟨D,E⟩:=N0 m;(try rw[D]);(try rw[E]);exact Z3 A0 A0 B1) ?_;refine K4 A0 A0 A0 (.gd (.val _)) A0 (fun m=>by have I:=m;(try simp at I);obtain⟨D,E⟩:=N0 m;(try rw[D]);(try rw[E]);exact G9 A0 A0 B1 (by rw[show ((i:Int)+1).toNat=i+1 by omega];exact u (i+1) B1)) ?_;refine K4 A0 A0 A0 (.gd (.val _)) A0 (fun m=>by obtain⟨D,E⟩:=N0 m;(try rw[D]);(try rw[E]);exact IN A0 A0) ?_;refine zc 3 (fun j=>?_) fun j=>?_
  ·simp only[x7,P4]at j;simp only[C39,C67,decide_eq_true_eq]at j;obtain⟨ay,bx⟩:=j;have ay:i+1<s.length:=by omega
   have hnx:¬(s[i]?=some 58/\s[i+1]?=some 93):=by
    rintro⟨q1,P⟩;rw[u i B1]at q1;rw[u (i+1) ay]at P;rcases bx with h | h
    ·exact h (by rw[C85 q1];rfl)
    ·exact h (by rw[C85 P];rfl)
   have ap:name++(s.drop ((i:Nat):Int).toNat).take (((i:Int)+1).toNat-((i:Nat):Int).toNat)=(s.drop a).take (i+1-a):=by
    have e1:(s.drop a).take (i+1-a)=(s.drop a).take (i-a)++[s.getD i 0]:=by
     rw[show i+1-a=(i-a)+1 by omega,C52,C66,show a+(i-a)=i by omega,u i B1];rfl
    have e2:(s.drop i).take 1=[s.getD i 0]:=by
     rw[List.take_one,List.head?_drop,u i B1];rfl
    rw[e1,G,C37,show ((i:Int)+1).toNat-i=1 by omega,e2]
   refine x5 ?_;refine B2 (BT A0 A0 A0 b8y b8y b8y) A0 (B2 (fX A0 A0 PF) A0 (F5 ?_));rw[ap];refine I2 ?_;exact⟨i+1,⟨by omega,by omega,V.next hnx⟩,by omega,(C04 lf (B0 H) zP (s6 (K:=K) rfl rfl rfl EN))⟩
  have hE:s.length<=i+1\/(i+1<s.length/\s[i]?=some 58/\s[i+1]?=some 93):=by
   simp only[x7,P4]at j;simp only[D05,C86,decide_eq_false_iff_not]at j;by_cases T:s.length<=i+1
   ·exact .inl T
   ·refine .inr ⟨by omega,?_⟩;rcases j with h | ⟨h2,h3⟩
    ·omega
    ·rw[u i B1,u (i+1) B1];exact⟨congrArg some (hu _ 58 (C75.1 h2)),congrArg some (hu _ 93 (C75.1 h3))⟩
  refine P1 ?_;refine E2 (EM name 0 B1) (zz 13 ?_);refine D7 A0 A0 A0 A0 (fun m=>by have I:=m;(try simp at I);rw[m];exact Z3 A0 A0 B1) ?_;refine zc 8 (fun j=>?_) fun j=>?_
  ·have ar:C=.error 40:=by
    simp only[x7]at j;simp only[C67,C80,decide_eq_true_eq]at j;rw[q];rcases hE with T | ⟨hl2,q1,P⟩
    ·rw[A6 (end_no V T)]
    ·rw[end_at V al ⟨q1,P⟩,A7 B1,C37,<-G];rcases j with h | h
     ·have bz:iR name 0=none:=by
       cases bs:iR name 0 with
       | none=>rfl
       | some b=>rw[bs]at h;cases h
      rw[(GJ t name).2 bz]
     ·omega
   rw[ar]at A;dsimp only at A;refine H3 ?_;refine O4 (q9 s x.at_ x.depth 0 40 A0) A0 A0 A0 (F5 ?_);rw[A6 rfl];refine G5 ?_;exact D1 (ob':=RObs s x 40 Z) V9 zP (U5 (K:=K) ⟨rfl,rfl,EN⟩) ⟨x,40,0,rfl,rfl,.inr ⟨by decide,A,by omega,by omega,by omega⟩⟩
  simp only[x7]at j;simp only[C86,Bool.not_eq_false',decide_eq_false_iff_not]at j;obtain⟨W,bu⟩:=j;have bu:i+1<s.length:=by omega
  have bk:s[i]?=some 58/\s[i+1]?=some 93:=by
   rcases hE with h | h
   ·omega
   ·exact h.2
  rw[end_at V al bk,A7 B1,C37,<-G]at q;cases ah:j8 t name with
  | none =>
   rw[(GJ t name).1 ah]at W;cases W
  | some t' =>
   rw[ah]at q;dsimp only at q;have an:=ZE M ah;have cd:=FV M ah;refine I3 ?_;refine B9 (X:=Nat) (fun c=>([(0,.s H1),(3,L6 y),(4,.s (.one (.ref 870 0))),(6,P6 name),(7,B6 i),(10,B6 c)]++B4 K gf,RObs s x 0 ((870,mZ (X3 (fH name) c t))::Z))) (fun c=>c<=256) (fun c=>256-c) 0 (C41 _) (C04 lf (B0 H) zP (s6 (K:=K) A0 A0 A0 EN)) ?_;intro c hc;dsimp only at hc ⊢;refine zc 6 (fun j=>?_) fun j=>?_
   ·have au:c<256:=by have:=A1 j;omega
    have bo:=yA (fH name) M c;refine I3 ?_;refine B2 (a7 A0 (A15 B1 B1)) A0 (E2 (EM name c au) (O6 ?_));refine BF ([(0,.s H1),(3,L6 y),(4,.s (.one (.ref 870 0))),(6,P6 name),(7,B6 i),(10,B6 c)]++B4 K gf) (RObs s x 0 ((870,mZ (X3 (fH name) (c+1) t))::Z)) ?_ ?_
    ·skip;refine zc 0 (fun j=>?_) fun j=>?_
     ·have hb:fH name c=true:=j;rw[show X3 (fH name) (c+1) t=(X3 (fH name) c t).with_ c by rw[X3,A6 hb]];skip;refine H3 ?_;refine B2 (a7 A0 (A15 B1 B1)) A0 (E2 (RZ (X3 (fH name) c t) bo c au) (F5 ?_));exact C04 lf (B0 H) zP (s6 (K:=K) rfl rfl rfl EN)
     ·have hb:¬fH name c=true:=by rw[j];decide
      rw[show X3 (fH name) (c+1) t=X3 (fH name) c t by rw[X3,A7 hb]];refine G5 ?_;exact C04 lf (B0 H) zP (s6 (K:=K) rfl rfl rfl EN)
    skip;refine I2 ?_;exact⟨c+1,by omega,by omega,(C04 lf (B0 H) zP (s6 (K:=K) rfl rfl rfl EN))⟩
   have bn:c=256:=by have:=A3 j;omega
   rw[bn,an];have cc:(x.skip (4+(i-a))).at_=i+2:=by show x.at_+(4+(i-a))=_;omega
   refine zz 14 ?_;refine⟨(f,false,t',x.skip (4+(i-a))),⟨⟨ak,by dsimp only;omega,?_⟩,cd,am,by dsimp only;omega,by dsimp only;rw[q,<-UA]⟩,by dsimp only;omega,?_⟩
   ·show x.nodes.length<=(x.skip (4+(i-a))).at_+2;omega
   dsimp only;refine C04 lf (B0 H) zP (s6 (K:=K) ?_ rfl rfl EN);rw[cc];rfl
 obtain⟨c,aw⟩:∃c,c=s.getD x.at_ 0:=⟨_,rfl⟩
 have hc:s[x.at_]?=some c:=by rw[aw];exact u x.at_ ad
 have ce:s[((x.at_:Nat):Int).toNat]?=some c:=by rw[aw];exact hv x.at_ ad
 have ai:¬(s[x.at_]?=some 91/\s[x.at_+1]?=some 58):=by
  rintro⟨q1,P⟩;have ag:=(C44.1 P).1;rw[u (x.at_+1) ag]at P;have q3:((s.getD (x.at_+1) 0).toNat:Int)=58:=by rw[C85 P];rfl
  rw[A4 q1,A4 (show (x.at_:Int)+1<(s.length:Int) by omega),A4 q3]at j;cases j
 obtain⟨h,L⟩:∃h:UInt8,h=if (x.at_+2<s.length/\s[x.at_+1]?=some 45/\¬s[x.at_+2]?=some 93) then s.getD (x.at_+2) 0 else c:=⟨_,rfl⟩
 obtain⟨x2,B⟩:∃x2,x2=if (x.at_+2<s.length/\s[x.at_+1]?=some 45/\¬s[x.at_+2]?=some 93) then x.skip 2 else x:=⟨_,rfl⟩
 have bt:n6 s t x=if h.toNat<c.toNat then .error 40 else .ok (x2.skip 1,t.through c.toNat h.toNat):=by
  rw[ZG ai hc];by_cases O:x.at_+2<s.length/\s[x.at_+1]?=some 45/\¬s[x.at_+2]?=some 93
  ·rw[A6 O]at L B;rw[A7 (fun g=>g.elim (fun g=>by omega) fun g=>g.elim (fun g=>g O.2.1) O.2.2),L,B];rfl
  ·rw[A7 O]at L B;rw[A6,L,B,A7 (Nat.lt_irrefl _)]
   ·have e:t.through c.toNat c.toNat=t.with_ c.toNat:=by
     show N9 (c.toNat+1-c.toNat) c.toNat t=_;rw[show c.toNat+1-c.toNat=1 by omega];rfl
    rw[e]
   ·by_cases g1:s.length<x.at_+3
    ·exact .inl g1
    ·by_cases g2:s[x.at_+1]?=some 45
     ·exact .inr (.inr (C75.1 fun g3=>O ⟨by omega,g2,g3⟩))
     ·exact .inr (.inl g2)
 have bf:x2.depth=x.depth/\x2.nodes=x.nodes/\x2.at_<s.length/\x.at_<=x2.at_:=by
  by_cases O:x.at_+2<s.length/\s[x.at_+1]?=some 45/\¬s[x.at_+2]?=some 93
  ·rw[A6 O]at B;rw[B];exact⟨rfl,rfl,O.1,Nat.le_add_right _ _⟩
  ·rw[A7 O]at B;rw[B];exact⟨rfl,rfl,ad,C45 _⟩
 rw[bt]at q;have bj:x.at_+1<s.length->s[((x.at_:Int)+1).toNat]?=some (s.getD (x.at_+1) 0):=fun g=>by rw[show ((x.at_:Int)+1).toNat=x.at_+1 by omega];exact u (x.at_+1) g
 have aq:x.at_+2<s.length->s[((x.at_:Int)+2).toNat]?=some (s.getD (x.at_+2) 0):=fun g=>by rw[show ((x.at_:Int)+2).toNat=x.at_+2 by omega];exact u (x.at_+2) g
 clear j;refine V7 ?_;refine D6 (G9 A0 A0 B1 ce) A0 A0 (zz 30 ?_);refine F9 A0 A0 (fun m=>by have I:=m;(try simp at I);rw[m];exact Z3 A0 A0 B1) A0 A0 ?_;refine F9 A0 A0 (fun m=>by have I:=m;(try simp at I);rw[m];exact G9 A0 A0 B1 (bj B1)) A0 A0 ?_;refine V7 ?_;refine F9 A0 A0 (fun m=>by have I:=m;(try simp at I);rw[m];exact Z3 A0 A0 B1) A0 A0 ?_;refine F9 A0 A0 (fun m=>by have I:=m;(try simp at I);rw[m];exact G9 A0 A0 B1 (aq B1)) A0 A0 ?_;refine F9 A0 A0 (fun m=>by rw[m];exact IN A0 A0) A0 A0 ?_;refine F5 ?_;refine U9 ([(0,.s H1),(3,L6 y),(4,.s (.one (.ref 870 0))),(13,.s (m7 c)),(14,.s (m7 h))]++B4 K gf) (RObs s x2 0 ((870,mZ t)::Z)) ?_ ?_
 ·skip;refine zc 0 (fun j=>?_) fun j=>?_
  ·have O:x.at_+2<s.length/\s[x.at_+1]?=some 45/\¬s[x.at_+2]?=some 93:=by
    simp only[P4]at j;simp only[C39,decide_eq_true_eq]at j;obtain⟨⟨q1,P⟩,q3⟩:=j;refine⟨by omega,by rw[u (x.at_+1) B1];exact congrArg some (hu _ 45 P),fun q4=>?_⟩;rw[u (x.at_+2) B1]at q4;exact q3 (by rw[C85 q4];rfl)
   rw[A6 O]at L B;subst L B;refine V7 ?_;refine D6 (G9 A0 A0 B1 (aq O.1)) A0 A0 (zz 13 ?_);exact C04 lf (B0 H) zP (s6 (K:=K) rfl rfl rfl EN)
  ·have O:¬(x.at_+2<s.length/\s[x.at_+1]?=some 45/\¬s[x.at_+2]?=some 93):=by
    rintro⟨q1,P,q3⟩;rw[u (x.at_+1) B1]at P;rw[u (x.at_+2) q1]at q3;have g1:((s.getD (x.at_+1) 0).toNat:Int)=45:=by rw[C85 P];rfl
    have g2:¬((s.getD (x.at_+2) 0).toNat:Int)=93:=fun e=>q3 (congrArg some (hu _ 93 e));rw[A4 (show (x.at_:Int)+2<(s.length:Int) by omega),A4 g1,A4 g2]at j;cases j
   rw[A7 O]at L B;subst L B;refine G5 ?_;exact C04 lf (B0 H) zP (s6 (K:=K) rfl rfl rfl EN)
 clear L B;obtain⟨d1,d2,d3,d4⟩:=bf;obtain⟨Q,ac⟩:∃Q,Q=x2.skip 1:=⟨_,rfl⟩
 have ch:Q.at_=x2.at_+1:=by rw[ac];rfl
 have bg:Q.depth=st.depth:=by rw[ac];exact d1.trans am
 have bh:Q.nodes=x.nodes:=by rw[ac];exact d2
 rw[<-ac]at q;refine V7 ?_;refine C3 (fr':=[(0,.s H1),(3,L6 y),(4,.s (.one (.ref 870 0))),(13,.s (m7 c)),(14,.s (m7 h))]++B4 K gf) (ob':=RObs s Q 0 ((870,mZ t)::Z)) (by rw[ac];exact C04 lf (B0 H) zP (s6 (K:=K) A0 A0 A0 EN)) ?_;refine zc 7 (fun j=>?_) fun j=>?_
 ·have az:h.toNat<c.toNat:=by have:=A1 j;omega
  rw[A6 az]at q;dsimp only at q;rw[q]at A;dsimp only at A;refine H3 ?_;refine O4 (q9 s Q.at_ Q.depth 0 40 A0) A0 A0 A0 (F5 ?_);rw[A6 rfl];refine G5 ?_;exact D1 (ob':=RObs s Q 40 Z) V9 zP (U5 (K:=K) ⟨rfl,rfl,EN⟩) ⟨Q,40,0,rfl,rfl,.inr ⟨by decide,A,by omega,by omega,by omega⟩⟩
 have cg:c.toNat<=h.toNat:=by have:=A3 j;omega
 rw[A7 B1]at q;dsimp only at q;have hb:=h.toNat_lt;have ck:=c.toNat_lt;refine P1 ?_;refine B2 (a7 A0 (eI B1)) A0 (H3 ?_);refine B9 (X:=Nat) (fun i=>([(0,.s H1),(3,L6 y),(4,.s (.one (.ref 870 0))),(14,.s (m7 h)),(15,B6 ((c.toNat:Int)+i))]++B4 K gf,RObs s Q 0 ((870,mZ (N9 i c.toNat t))::Z))) (fun i=>i<=h.toNat+1-c.toNat) (fun i=>h.toNat+1-c.toNat-i) 0 (C41 _) ?_ ?_
 ·rw[show (c.toNat:Int)+((0:Nat):Int)=(c.toNat:Int) by omega];exact C04 lf (B0 H) zP (s6 (K:=K) rfl rfl rfl EN)
 intro i hi;dsimp only at hi ⊢;have be:=cZ i c.toNat M;have bd:=iK i c.toNat t;obtain⟨w,hw⟩:∃w,w=N9 i c.toNat t:=⟨_,rfl⟩
 rw[<-hw]at be bd ⊢;refine I2 ?_;refine B2 (a7 A0 (eI B1)) A0 ?_;refine zc 2 (fun j=>?_) fun j=>?_
 ·have cl:=A1 j;have e1:(c.toNat:Int)+(i:Int)=((c.toNat+i:Nat):Int):=by omega
  rw[e1];refine J0 ?_;refine B2 (a7 A0 (A15 B1 B1)) A0 (E2 (RZ w be (c.toNat+i) B1) (F5 ?_));rw[<-bd];refine I2 ?_;refine⟨i+1,by omega,by omega,?_⟩;rw[show (c.toNat:Int)+((i+1:Nat):Int)=((c.toNat+i:Nat):Int)+1 by omega];exact C04 lf (B0 H) zP (s6 (K:=K) rfl rfl rfl EN)
 have bq:i=h.toNat+1-c.toNat:=by have:=A3 j;omega
 have ax:w=t.through c.toNat h.toNat:=by rw[hw,bq];rfl
 rw[ax];refine P1 ?_;refine⟨(f,false,t.through c.toNat h.toNat,Q),⟨⟨ak,by dsimp only;omega,by dsimp only;rw[bh];omega⟩,M9 M _ _,bg,by dsimp only;omega,by dsimp only;rw[q,<-UA]⟩,by dsimp only;omega,?_⟩;dsimp only;exact C04 lf (B0 H) zP (s6 (K:=K) rfl rfl rfl EN)
theorem SB{K:List Nat}(T:F0 K 870=true){s:Str}{st:PSt}(hs:SOk s st)(hd:st.depth<=50){f:Nat}{c:UInt8}(hc:s[st.at_]?=some c)
  (W:c=40->st.depth<50->kQ s (f+1) st≠.error 0->RX 90 [H1] K s { st with at_:=st.at_+1,depth:=st.depth+1 } (nT s f { st with at_:=st.at_+1,depth:=st.depth+1 }) aE)(M:lW s (f+1) st c≠.error 0) :
  RX 191 [H1] K s st (lW s (f+1) st c) aE:=by
 intro gf ob Z hI;have hz:=hI.z.self;have am:=hz;have ai:=hs.len;have hn:=hs.nds;have L:st.at_+1<=s.length:=by have:=(C44.1 hc).1;omega
 have af:s[((st.at_:Nat):Int).toNat]?=some c:=by rw[C37];exact hc
 have P:∀k:UInt8,(c.toNat:Int)=k.toNat->c=k:=fun k e=>C89.1 B1;have g:∀k:UInt8,¬((c.toNat:Int)=k.toNat)->¬c=k:=fun k h e=>h (by rw[e]);obtain⟨x,w⟩:∃x,x=st.skip 1:=⟨_,rfl⟩
 have ag:x.at_=st.at_+1:=by rw[w];rfl
 have ah:x.depth=st.depth:=by rw[w];rfl
 have ab:x.nodes=st.nodes:=by rw[w];rfl
 have ac:x.nodes.length=st.nodes.length:=by rw[ab]
 obtain⟨R,d⟩:∃R,R=lW s (f+1) st c:=⟨_,rfl⟩
 rw[<-d]at M ⊢;unfold lW at d;refine AL.Met.introH Tryz.func191 F1 rfl rfl rfl (fun A=>?_);refine C3 (EH (l:=[(0,.s H1)]) hI ⟨i6 rfl,trivial⟩ A J6) ?_;refine zz 14 ?_;refine D6 (G9 A0 A0 B1 af) A0 A0 (zz 13 ?_);refine C3 (fr':=[(0,.s H1),(3,.s (m7 c))]++B4 K gf) (ob':=RObs s x 0 Z) (by rw[w];exact (C04 lf (B0 A) J6 (U5 (K:=K) ⟨rfl,rfl,T0⟩))) ?_;refine zc 11 (fun b=>?_) fun b=>?_
 ·have B:=P 40 (A1 b);rw[A6 B]at d;rw[d]at M;have O:=fun h=>W B h M;rw[kQ]at d;refine zc 9 (fun b=>?_) fun b=>?_
  ·have G:st.depth=50:=by have:=A1 b;omega
   rw[A6 G]at d;refine H3 ?_;refine O4 (q9 s x.at_ x.depth 0 1 A0) A0 A0 A0 (F5 ?_);rw[A6 rfl];refine G5 ?_;exact D1 (ob':=RObs s x 1 Z) V9 J6 (U5 (K:=K) ⟨rfl,rfl,T0⟩) ⟨x,1,0,rfl,rfl,.inr ⟨by decide,d,by omega,by omega,by omega⟩⟩
  have G:¬st.depth=50:=by have:=A3 b;omega
  rw[A7 G]at d;have X:=O B1;obtain⟨st1,j⟩:∃st1,st1=({ st with at_:=st.at_+1,depth:=st.depth+1 }:PSt):=⟨_,rfl⟩
  rw[<-j]at d X;have al:st1.depth=st.depth+1:=by rw[j]
  refine x5 ?_;refine C3 (fr':=[(0,.s H1)]++B4 K gf) (ob':=RObs s st1 0 Z) (by rw[j];exact C04 ⟨i6 rfl,trivial⟩ (B0 A) J6 (U5 (K:=K) (st:={ st with at_:=st.at_+1,depth:=st.depth+1 }) ⟨(by rw[B3,ag,ah];rfl),(by rw[<-ab];rfl),T0⟩)) ?_;refine H3 ?_;refine gX (X _ _ Z ⟨rfl,rfl,T0⟩) eU A0 A0 A0 ?_;rintro _ _ ⟨y,e,v,rfl,rfl,D⟩;refine F5 ?_;refine F5 ?_;rcases D with ⟨rfl,u⟩ | ⟨he,u,b1,b2,b3⟩
  ·rw[u]at d;dsimp only at d;have V:Gr s 0 2 st1 y/\uC y v:=by
    rw[(GI f).pat st1 B1 (by rw[j];exact L)]at u;exact (Y6 f).pat (by rw[j];exact L) u
   have aj:=V.1.dep;have ak:=V.1.len;have e2:(y.depth:Int)-1=((y.depth-1:Nat):Int):=by omega
   by_cases hb:s[y.at_]?=some 41
   ·have hh:O1 s 41 y=true:=A4 hb;rw[A6 hh]at d;have g3:=(C44.1 hb).1;refine I3 ?_;refine G7 A0 A0 A0 A0 (G5 ?_);refine G7 A0 A0 A0 A0 (O4 (dX s y.at_ y.depth 0 41 B1 A0) A0 A0 A0 (G7 A0 A0 A0 A0 (G5 ?_)));refine B2 (O2 A0 (rfl) A0) A0 (G5 ?_);rw[A4 hb];refine zc 0 (fun b=>?_) fun b=>?_
    ·cases b
    refine x5 ?_;rw[e2];refine zz 17 ?_;exact D1 (ob':=RObs s { y with at_:=y.at_+1,depth:=y.depth-1 } 0 Z) V9 J6 (U5 (K:=K) ⟨rfl,rfl,T0⟩) ⟨{ y with at_:=y.at_+1,depth:=y.depth-1 },0,v,rfl,rfl,.inl ⟨rfl,d⟩⟩
   ·have hh:¬O1 s 41 y=true:=fun h=>hb (A1 h);rw[A7 hh]at d;refine I3 ?_;refine G7 A0 A0 A0 A0 (G5 ?_);refine G7 A0 A0 A0 A0 (O4 (dX s y.at_ y.depth 0 41 B1 A0) A0 A0 A0 (G7 A0 A0 A0 A0 (G5 ?_)));refine B2 (O2 A0 (rfl) A0) A0 (G5 ?_);rw[A5 hb];refine zc 0 (fun b=>?_) fun b=>?_;rotate_left
    ·cases b
    refine H3 ?_;refine O4 (q9 s y.at_ y.depth 0 40 A0) A0 A0 A0 (F5 ?_);rw[A6 rfl];refine G5 ?_;exact D1 (ob':=RObs s y 40 Z) V9 J6 (U5 (K:=K) ⟨rfl,rfl,T0⟩) ⟨y,40,0,rfl,rfl,.inr ⟨by decide,d,by omega,by omega,by omega⟩⟩
  ·rw[u]at d;dsimp only at d;have e2:(y.depth:Int)-1=((y.depth-1:Nat):Int):=by omega
   have C:=A5 he;refine I3 ?_;refine L1 A0 A0 A0 (by rw[C];decide) A0 ?_;refine L1 A0 A0 A0 (by rw[C];decide) A0 ?_;refine L1 A0 A0 A0 (by rw[C];decide) A0 ?_;refine B2 (Y2 A0 (C) A0) A0 ?_;refine zc 1 (fun b=>?_) fun b=>?_
   ·cases b
   refine x5 ?_;rw[e2];refine zz 17 ?_;exact D1 (ob':=RObs s { y with at_:=y.at_+1,depth:=y.depth-1 } e Z) V9 J6 (U5 (K:=K) ⟨rfl,rfl,T0⟩) ⟨{ y with at_:=y.at_+1,depth:=y.depth-1 },e,v,rfl,rfl,.inr ⟨he,d,by dsimp only;omega,by dsimp only;omega,by dsimp only;omega⟩⟩
 have B:=g 40 (A3 b);rw[A7 B]at d;refine zc 5 (fun b=>?_) fun b=>?_
 ·have H:=P 91 (A1 b);rw[A6 H]at d;have U:=fun (gf:Fr) (ob:Obs)=>A89 (K:=K) T hs L hd (gf:=gf) (ob:=ob) (Z:=Z);rw[<-w]at U;refine H3 ?_;refine gX (U _ _ ⟨rfl,rfl,T0⟩) eU A0 A0 A0 ?_;rintro _ _ ⟨y,e,v,rfl,rfl,D⟩;refine F5 ?_;rw[<-d]at D;refine G5 ?_;exact D1 V9 J6 (fun _ _ h=>h) ⟨y,e,v,rfl,rfl,D⟩
 have H:=g 91 (A3 b);rw[A7 H]at d;refine zc 5 (fun b=>?_) fun b=>?_
 ·have F:=P 46 (A1 b);rw[A6 F]at d;refine P1 ?_;refine E2 (JW set0 q8) (G5 ?_);refine gR ((C07 Int 1 C7 76 7 A0 A0)) (rO (gG (K:=K) (s:=s) (st:=x) (e:=0) (Z:=Z) ⟨1,set0.compl,0,0,[]⟩ B1 ⟨rfl,rfl,T0⟩) eU A0 A0 A0 (F5 ?_));refine G5 ?_;exact D1 (ob':=RObs s (X8 ⟨1,set0.compl,0,0,[]⟩ x).1 0 Z) V9 J6 (fun _ _ h=>h) ⟨(X8 ⟨1,set0.compl,0,0,[]⟩ x).1,0,(X8 ⟨1,set0.compl,0,0,[]⟩ x).2,rfl,rfl,.inl ⟨rfl,by rw[d,w];rfl⟩⟩
 have F:=g 46 (A3 b);rw[A7 F]at d;refine zc 5 (fun b=>?_) fun b=>?_
 ·have J:=P 94 (A1 b);rw[A6 J,<-w]at d;refine P1 ?_;refine gR ((C07 Int 1 C7 81 7 A0 A0)) (rO (gG (K:=K) (s:=s) (st:=x) (e:=0) (Z:=Z) ⟨2,set0,0,0,[]⟩ B1 ⟨rfl,rfl,T0⟩) eU A0 A0 A0 (F5 ?_));refine G5 ?_;exact D1 (ob':=RObs s (X8 ⟨2,set0,0,0,[]⟩ x).1 0 Z) V9 J6 (fun _ _ h=>h) ⟨(X8 ⟨2,set0,0,0,[]⟩ x).1,0,(X8 ⟨2,set0,0,0,[]⟩ x).2,rfl,rfl,.inl ⟨rfl,d⟩⟩
 have J:=g 94 (A3 b);rw[A7 J]at d;refine zc 5 (fun b=>?_) fun b=>?_
 ·have E:=P 36 (A1 b);rw[A6 E,<-w]at d;refine P1 ?_;refine gR ((C07 Int 1 C7 86 7 A0 A0)) (rO (gG (K:=K) (s:=s) (st:=x) (e:=0) (Z:=Z) ⟨3,set0,0,0,[]⟩ B1 ⟨rfl,rfl,T0⟩) eU A0 A0 A0 (F5 ?_));refine G5 ?_;exact D1 (ob':=RObs s (X8 ⟨3,set0,0,0,[]⟩ x).1 0 Z) V9 J6 (fun _ _ h=>h) ⟨(X8 ⟨3,set0,0,0,[]⟩ x).1,0,(X8 ⟨3,set0,0,0,[]⟩ x).2,rfl,rfl,.inl ⟨rfl,d⟩⟩
 have E:=g 36 (A3 b);rw[A7 E]at d;obtain⟨Q,hQ⟩:∃Q:Str,Q=[41,124,42,43,63,123]:=⟨_,rfl⟩
 rw[<-hQ]at d;have m:∀k:UInt8,k∈([41,124,42,43,63,123]:Str)->(c.toNat:Int)=k.toNat->c∈Q:=fun k h e=>by rw[hQ,P k e];exact h
 refine J0 ?_;refine U9 ([(0,.s H1),(3,.s (m7 c)),(21,.s (m7 c)),(88,L6 (decide (c∈Q)))]++B4 K gf) (RObs s x 0 Z) ?_ ?_
 ·skip;refine zc 0 (fun b=>?_) fun b=>?_
  ·rw[A4 (m 41 F1 (A1 b)),b];refine G5 ?_;exact (C04 lf (B0 A) J6 (U5 (K:=K) ⟨rfl,rfl,T0⟩))
  have n0:=g 41 (A3 b);refine zc 5 (fun b=>?_) fun b=>?_
  ·rw[A4 (m 124 F1 (A1 b)),b];refine G5 ?_;exact (C04 lf (B0 A) J6 (U5 (K:=K) ⟨rfl,rfl,T0⟩))
  have n1:=g 124 (A3 b);refine zc 5 (fun b=>?_) fun b=>?_
  ·rw[A4 (m 42 F1 (A1 b)),b];refine G5 ?_;exact (C04 lf (B0 A) J6 (U5 (K:=K) ⟨rfl,rfl,T0⟩))
  have n2:=g 42 (A3 b);refine zc 5 (fun b=>?_) fun b=>?_
  ·rw[A4 (m 43 F1 (A1 b)),b];refine G5 ?_;exact (C04 lf (B0 A) J6 (U5 (K:=K) ⟨rfl,rfl,T0⟩))
  have n3:=g 43 (A3 b);refine zc 5 (fun b=>?_) fun b=>?_
  ·rw[A4 (m 63 F1 (A1 b)),b];refine G5 ?_;exact (C04 lf (B0 A) J6 (U5 (K:=K) ⟨rfl,rfl,T0⟩))
  have n4:=g 63 (A3 b);skip;refine P1 ?_
  rw[show decide ((c.toNat:Int)=123)=decide (c∈Q) by
   refine decide_eq_decide.2 ⟨fun e=>m 123 F1 e,fun e=>?_⟩;rw[hQ]at e;simp only[C50,D07,or_false]at e;rcases e with h | h | h | h | h | h
   ·exact absurd h n0
   ·exact absurd h n1
   ·exact absurd h n2
   ·exact absurd h n3
   ·exact absurd h n4
   ·rw[h];rfl]
  exact (C04 lf (B0 A) J6 (U5 (K:=K) ⟨rfl,rfl,T0⟩))
 skip;refine zc 0 (fun b=>?_) fun b=>?_
 ·rw[A6 (A1 b)]at d;refine H3 ?_;refine O4 (q9 s x.at_ x.depth 0 40 A0) A0 A0 A0 (F5 ?_);rw[A6 rfl];refine G5 ?_;exact D1 (ob':=RObs s x 40 Z) V9 J6 (U5 (K:=K) ⟨rfl,rfl,T0⟩) ⟨x,40,0,rfl,rfl,.inr ⟨by decide,d,by omega,by omega,by omega⟩⟩
 rw[A7 (A3 b)]at d;refine zc 5 (fun b=>?_) fun b=>?_
 ·have I:=P 92 (A1 b);rw[A6 I]at d;refine x5 ?_;refine D6 (BS A0 A0) A0 A0 ?_;refine zc 1 (fun b=>?_) fun b=>?_
  ·have ad:s.length<=x.at_:=by have:=A1 b;omega
   have q:R=.error 40:=by
    rw[d];unfold eC T7 fF;rw[<-w,C63 ad]
   refine H3 ?_;refine O4 (q9 s x.at_ x.depth 0 40 A0) A0 A0 A0 (F5 ?_);rw[A6 rfl];refine G5 ?_;exact D1 (ob':=RObs s x 40 Z) V9 J6 (U5 (K:=K) ⟨rfl,rfl,T0⟩) ⟨x,40,0,rfl,rfl,.inr ⟨by decide,q,by omega,by omega,by omega⟩⟩
  have Y:x.at_<s.length:=by have:=A3 b;omega
  have ae:s[((x.at_:Nat):Int).toNat]?=some (s.getD x.at_ 0):=by rw[C37,C38,C36 Y];rfl
  obtain⟨z,S⟩:∃z,z=x.skip 1:=⟨_,rfl⟩
  have an:z.nodes.length=st.nodes.length:=by rw[S];exact ac
  have q:R=.ok (iL (set0.with_ (s.getD x.at_ 0).toNat) z):=by
   rw[d];unfold eC T7 fF;rw[<-w,C38,C36 Y,S];rfl
  refine V7 ?_;refine D6 (G9 A0 A0 B1 ae) A0 A0 (x5 ?_);refine C3 (fr':=[(0,.s H1),(3,.s (m7 (s.getD x.at_ 0)))]++B4 K gf) (ob':=RObs s z 0 Z) (by rw[S];exact (C04 lf (B0 A) J6 (U5 (K:=K) ⟨rfl,rfl,T0⟩))) ?_;refine I2 ?_;refine E2 (NG set0 q8 (s.getD x.at_ 0)) (G5 ?_);refine gR ((C07 Int 1 C7 131 7 A0 A0)) (rO (gG (K:=K) (s:=s) (st:=z) (e:=0) (Z:=Z) ⟨1,set0.with_ (s.getD x.at_ 0).toNat,0,0,[]⟩ B1 ⟨rfl,rfl,T0⟩) eU A0 A0 A0 (F5 ?_));refine G5 ?_;exact D1 (ob':=RObs s (X8 ⟨1,set0.with_ (s.getD x.at_ 0).toNat,0,0,[]⟩ z).1 0 Z) V9 J6 (fun _ _ h=>h) ⟨(X8 ⟨1,set0.with_ (s.getD x.at_ 0).toNat,0,0,[]⟩ z).1,0,(X8 ⟨1,set0.with_ (s.getD x.at_ 0).toNat,0,0,[]⟩ z).2,rfl,rfl,.inl ⟨rfl,q⟩⟩
 have I:=g 92 (A3 b);rw[A7 I]at d;have q:R=.ok (iL (set0.with_ c.toNat) x):=by
  rw[d];unfold T7 fF;rw[hc,w]
 refine J0 ?_;refine E2 (NG set0 q8 c) (G5 ?_);refine gR ((C07 Int 1 C7 131 7 A0 A0)) (rO (gG (K:=K) (s:=s) (st:=x) (e:=0) (Z:=Z) ⟨1,set0.with_ c.toNat,0,0,[]⟩ B1 ⟨rfl,rfl,T0⟩) eU A0 A0 A0 (F5 ?_));refine G5 ?_;exact D1 (ob':=RObs s (X8 ⟨1,set0.with_ c.toNat,0,0,[]⟩ x).1 0 Z) V9 J6 (fun _ _ h=>h) ⟨(X8 ⟨1,set0.with_ c.toNat,0,0,[]⟩ x).1,0,(X8 ⟨1,set0.with_ c.toNat,0,0,[]⟩ x).2,rfl,rfl,.inl ⟨rfl,q⟩⟩
theorem XG{st:PSt}{s:Str}(h:∀q:UInt8,q∈([42,43,63,123]:Str)->¬s[st.at_]?=some q):Y5 s G6 st=.ok (st,none):=by
 have a:∀q:UInt8,q∈([42,43,63,123]:Str)->¬O1 s q st=true:=fun q b e=>h q b (A1 e);unfold Y5;rw[A7 (a 42 F1),A7 (a 43 F1),A7 (a 63 F1),A7 (a 123 F1)]
theorem XH{st:PSt}{s:Str}{q:UInt8}(d:s[st.at_]?=some q):Y5 s G6 st=if q=42 then .ok (st.skip 1,some (0,-1)) else if q=43 then .ok (st.skip 1,some (1,-1)) else if q=63 then .ok (st.skip 1,some (0,1)) else if q=123 then (match Y9 s G6 (st.skip 1) with
  | .error e=>.error e
  | .ok (st',b)=>.ok (st',some b)) else .ok (st,none):=by
 have a:∀c:UInt8,O1 s c st=decide (q=c):=fun c=>by
  unfold O1;rw[d];exact decide_eq_decide.2 ⟨fun e=>C85 e,fun e=>congrArg some e⟩
 unfold Y5;simp only[a,decide_eq_true_eq];rfl
theorem xH{p:Prop}(h:p:=by dsimp only;decide):p:=h
theorem A90{K:List Nat}(W:F0 K 870=true){s:Str}{st:PSt}(hs:SOk s st)(hd:st.depth<=50){F:Nat}{c:UInt8}(hc:s[st.at_]?=some c)(ae:c≠124)
  (ai:∀f,F=f+1->c=40->st.depth<50->kQ s (f+1) st≠.error 0->RX 90 [H1] K s { st with at_:=st.at_+1,depth:=st.depth+1 } (nT s f { st with at_:=st.at_+1,depth:=st.depth+1 }) aE)(ah:dQ s (F+1) st c≠.error 0) :
  RX 176 [H1] K s st (dQ s (F+1) st c) aE:=by
 intro gf ob Z hI;have hz:=hI.z.self;have be:=hz;have ba:=hs.len;have aq:st.at_+1<=s.length:=by have:=(C44.1 hc).1;omega
 obtain⟨R,L⟩:∃R,R=dQ s (F+1) st c:=⟨_,rfl⟩
 rw[<-L]at ah ⊢;rw[ZH ae]at L;obtain⟨b,M⟩:∃b,b=(decide (c=94)||decide (c=36)):=⟨_,rfl⟩
 rw[<-M]at L;have am:∃A,A=lW s F st c/\RX 191 [H1] K s st A aE:=by
  refine⟨_,rfl,?_⟩;have D:lW s F st c≠.error 0:=fun h=>ah (by rw[L,h];rfl);cases F with
  | zero =>
   have Y:c≠40:=fun e=>D (by rw[e];rfl);have e:lW s 0 st c=lW s 1 st c:=by unfold lW;rw[A7 Y,A7 Y]
   rw[e]at D ⊢;exact SB W hs hd hc (fun e=>absurd e Y) D
  | succ f=>exact SB W hs hd hc (ai f rfl) D
 obtain⟨A,hA,al⟩:=am;have ag:=fun z k=>B88 (s:=s) (f:=F) (c:=c) aq (z:=z) (k:=k);rw[<-hA]at L ag;have C:∀k:UInt8,decide (s[st.at_]?=some k)=decide (c=k):=fun k=>by
  rw[hc];exact decide_eq_decide.2 ⟨fun e=>C85 e,fun e=>congrArg some e⟩
 refine AL.Met.introH Tryz.func176 F1 rfl rfl rfl (fun S=>?_);refine C3 (EH (l:=[(0,.s H1)]) hI ⟨i6 rfl,trivial⟩ S J6) ?_;refine I2 ?_;refine U9 ([(0,.s H1),(3,L6 b)]++B4 K gf) (RObs s st 0 Z) ?_ ?_
 ·by_cases af:c=94
  ·have d:=A4 af;refine F5 ?_;refine O4 (dX s st.at_ st.depth 0 94 B1 A0) A0 A0 A0 (G5 ?_);refine L1 A0 A0 A0 (by rw[C,d];decide) A0 ?_;refine L1 A0 A0 A0 (by rw[C,d];decide) A0 ?_;refine B2 (O2 A0 ((by rw[C];exact d)) A0) A0 ?_;refine F5 ?_;rw[show true=b by rw[M,d];rfl];refine uI ?_;exact (C04 lf (B0 S) J6 (U5 (K:=K) ⟨rfl,rfl,T0⟩))
  ·have d:=A5 af;refine F5 ?_;refine O4 (dX s st.at_ st.depth 0 94 B1 A0) A0 A0 A0 (G5 ?_);refine G7 A0 A0 A0 (by rw[C];exact d) ?_;refine G5 ?_;refine G7 A0 A0 A0 (by rw[C];exact d) ?_;refine O4 (dX s st.at_ st.depth 0 36 B1 A0) A0 A0 A0 (B2 (Y2 A0 ((by rw[C];exact d)) A0) A0 ?_);refine F5 ?_;rw[C,C,show decide (c=36)=b by rw[M,d];rfl];refine uI ?_;exact (C04 lf (B0 S) J6 (U5 (K:=K) ⟨rfl,rfl,T0⟩))
 refine H3 ?_;refine gX (al _ _ Z ⟨rfl,rfl,T0⟩) eU A0 A0 A0 ?_;rintro _ _ ⟨y,e,v,rfl,rfl,au⟩;refine F5 ?_;refine F5 ?_;rcases au with ⟨rfl,Q⟩ | ⟨he,Q,b1,b2,b3⟩;rotate_left
 ·have ac:R=.error e:=by rw[L,Q];rfl
  have p:=A4 he;refine I3 ?_;refine bH A0 A0 (by rw[p];decide) A0 A0 ?_;refine bH A0 A0 (by rw[p];decide) A0 A0 ?_;refine bH A0 A0 (by rw[p];decide) A0 A0 ?_;refine bH A0 A0 (by rw[p];decide) A0 A0 ?_;refine bH A0 A0 (by rw[p];decide) A0 A0 ?_;refine bH A0 A0 (by rw[p];decide) A0 A0 ?_;refine bH A0 A0 (by rw[p];decide) A0 A0 ?_;refine bH A0 A0 (by rw[p];decide) A0 A0 ?_;refine bH A0 A0 (by rw[p];decide) A0 A0 ?_;refine bH A0 A0 (by rw[p];decide) A0 A0 ?_;refine D6 (O2 A0 (p) A0) A0 A0 ?_;refine zc 1 (fun j=>?_) fun j=>?_;rotate_left
  ·cases j
  refine J0 ?_;exact D1 V9 J6 (fun _ _ h=>h) ⟨y,e,v,rfl,rfl,.inr ⟨he,ac,b1,b2,b3⟩⟩
 obtain⟨gA,iA⟩:=ag y v Q;have aj:=hs.gr gA (C45 _);have bc:=aj.at_;have bd:=aj.nds;have O:=gA.dep;rw[Q]at L;have p:decide ((0:Int)≠0)=false:=by decide
 refine I3 ?_;refine xN A0 A0 A0 A0 (G5 ?_);refine xN A0 A0 A0 A0 (G5 ?_);refine xN A0 A0 A0 A0 (G5 ?_);refine xN A0 A0 A0 A0 (G5 ?_);refine xN A0 A0 A0 A0 (G5 ?_);refine xN A0 A0 A0 A0 (G5 ?_);refine xN A0 A0 A0 A0 (G5 ?_);refine xN A0 A0 A0 A0 (G5 ?_);refine xN A0 A0 A0 A0 (G5 ?_);refine xN A0 A0 A0 A0 (D6 (BS A0 A0) A0 A0 (D6 (Y2 A0 (rfl) A0) A0 A0 ?_));refine zc 1 (fun j=>?_) fun j=>?_
 ·have ap:s.length<=y.at_:=by have:=A1 j;omega
  have ak:s[y.at_]?=none:=C63 ap;have ab:R=.ok (y,v):=by
   rw[L];unfold nU;dsimp only;split
   ·rw[ak]
   ·rw[XG (fun q _ h=>by rw[ak]at h;cases h)]
  refine J0 ?_;exact D1 V9 J6 (fun _ _ h=>h) ⟨y,0,v,rfl,rfl,.inl ⟨rfl,ab⟩⟩
 have G:y.at_<s.length:=by have:=A3 j;omega
 obtain⟨q,av⟩:∃q,q=s.getD y.at_ 0:=⟨_,rfl⟩
 have hq:s[y.at_]?=some q:=by rw[av,C38,C36 G];rfl
 have aw:s[((y.at_:Nat):Int).toNat]?=some q:=by rw[C37];exact hq
 have hu:∀k:UInt8,(q.toNat:Int)=k.toNat->q=k:=fun k e=>C89.1 B1;have V:∀k:UInt8,¬((q.toNat:Int)=k.toNat)->¬q=k:=fun k h e=>h (by rw[e]);have B:=XH hq;refine zz 17 ?_;refine D6 (G9 A0 A0 B1 aw) A0 A0 (G5 ?_);refine uX (X:=Int×Int×PSt×Int) (fun x=>([(0,.s H1),(3,L6 b),(4,B6 v),(5,B6 x.1),(6,B6 x.2.1)]++B4 K gf,RObs s x.2.2.1 x.2.2.2 Z)) (fun x=>R=(if b=true\/x.2.2.2≠0 then .error 40 else .ok (X8 ⟨6,set0,x.1,x.2.1,[v]⟩ (x.2.2.1.skip 1)))/\(x.2.2.2=0\/x.2.2.2=40)/\x.2.2.1.at_+1<=s.length/\x.2.2.1.depth=st.depth/\x.2.2.1.nodes.length<=s.length+2) ?_ ?_
 ·have T:∀(lo U:Int) (w:PSt),q∈([42,43,63,123]:Str)->Y5 s G6 y=.ok (w.skip 1,some (lo,U))->R=(if b=true\/(0:Int)≠0 then .error 40 else .ok (X8 ⟨6,set0,lo,U,[v]⟩ (w.skip 1))):=fun lo U w hm hw=>by
   rw[L];unfold nU;dsimp only;by_cases ha:b=true
   ·rw[A6 ha,A6 (.inl ha),hq];exact A6 hm
   ·rw[A7 ha,A7 (fun g=>g.elim ha fun g=>g rfl),hw]
  refine zc 6 (fun j=>?_) fun j=>?_
  ·have H:=hu 42 (A1 j);rw[A6 H]at B;refine G5 ?_;exact⟨(0,-1,y,0),⟨T 0 (-1) y (by rw[H];decide) B,.inl rfl,G,O,by dsimp only;omega⟩,(C04 lf (B0 S) J6 (U5 (K:=K) ⟨rfl,rfl,T0⟩))⟩
  have H:=V 42 (A3 j);rw[A7 H]at B;refine zc 5 (fun j=>?_) fun j=>?_
  ·have I:=hu 43 (A1 j);rw[A6 I]at B;skip;refine H3 ?_;exact⟨(1,-1,y,0),⟨T 1 (-1) y (by rw[I];decide) B,.inl rfl,G,O,by dsimp only;omega⟩,(C04 lf (B0 S) J6 (U5 (K:=K) ⟨rfl,rfl,T0⟩))⟩
  have I:=V 43 (A3 j);rw[A7 I]at B;refine zc 5 (fun j=>?_) fun j=>?_
  ·have J:=hu 63 (A1 j);rw[A6 J]at B;skip;refine H3 ?_;exact⟨(0,1,y,0),⟨T 0 1 y (by rw[J];decide) B,.inl rfl,G,O,by dsimp only;omega⟩,(C04 lf (B0 S) J6 (U5 (K:=K) ⟨rfl,rfl,T0⟩))⟩
  have J:=V 63 (A3 j);rw[A7 J]at B;refine zc 5 (fun j=>?_) fun j=>?_
  ·have u:=hu 123 (A1 j);rw[A6 u,show y.skip 1=({ y with at_:=y.at_+1 }:PSt) from rfl,ZD]at B;obtain⟨m,hm⟩:∃m,m=yR s (y.at_+1):=⟨_,rfl⟩
   have hB:=fun (gf:Fr) (ob:Obs)=>RY (gf:=gf) (ob:=ob) s y.at_ y.depth G B1;rw[<-hm]at B hB;by_cases hM:qA s m
   ·simp only[A6 hM]at B hB;have ar:=(C44.1 hM.2.1).1;skip;refine F5 ?_;refine O4 (hB _ _ A0) A0 A0 A0 (J0 ?_);exact⟨(m.1,m.2.2.2,{ y with at_:=m.2.1 },0),⟨T m.1 m.2.2.2 { y with at_:=m.2.1 } (by rw[u];decide) B,.inl rfl,ar,O,by dsimp only;omega⟩,(C04 lf (B0 S) J6 (U5 (K:=K) ⟨rfl,rfl,T0⟩))⟩
   ·simp only[A7 hM]at B hB;have ac:R=.error 40:=by
     rw[L];unfold nU;dsimp only;split
     ·rw[hq];exact A6 (by rw[u];decide)
     ·rw[B]
    skip;refine F5 ?_;refine O4 (hB _ _ A0) A0 A0 A0 (J0 ?_);exact⟨(0,0,y,40),⟨by rw[ac,A6 (.inr xH)],.inr rfl,G,O,by dsimp only;omega⟩,(C04 lf (B0 S) J6 (U5 (K:=K) ⟨rfl,rfl,T0⟩))⟩
  have u:=V 123 (A3 j);rw[A7 u]at B;have ab:R=.ok (y,v):=by
   rw[L];unfold nU;dsimp only;split
   ·rw[hq];refine A7 fun hm=>?_;simp only[C50,D07,or_false]at hm;rcases hm with h | h | h | h
    ·exact H h
    ·exact I h
    ·exact J h
    ·exact u h
   ·rw[B]
  refine J0 ?_;exact D1 V9 J6 (U5 (K:=K) (st:=y) ⟨rfl,rfl,T0⟩) ⟨y,0,v,rfl,rfl,.inl ⟨rfl,ab⟩⟩
 rintro⟨lo,U,w,e⟩ ⟨E,he,ay,ax,az⟩;dsimp only at E he ay ax az ⊢;refine zc 12 (fun j=>?_) fun j=>?_
 ·have P:b=true\/e≠0:=by
   rw[x7,C67,decide_eq_true_eq]at j;exact j
  rw[A6 P]at E;have ao:(if e=0 then (40:Int) else e)=40:=by
   split
   ·rfl
   ·omega
  refine H3 ?_;refine O4 (q9 s w.at_ w.depth e 40 A0) A0 A0 A0 (F5 ?_);rw[ao];refine G5 ?_;exact D1 (ob':=RObs s w 40 Z) V9 J6 (U5 (K:=K) ⟨rfl,rfl,T0⟩) ⟨w,40,0,rfl,rfl,.inr ⟨by decide,E,by omega,by omega,by omega⟩⟩
 ·have P:¬(b=true\/e≠0):=fun g=>by
   rw[x7,C86,decide_eq_false_iff_not]at j;rcases g with g | g
   ·rw[j.1]at g;cases g
   ·exact j.2 g
  have an:e=0:=C75.1 fun g=>P (.inr g);rw[A7 P]at E;subst an;obtain⟨z,ad⟩:∃z,z=w.skip 1:=⟨_,rfl⟩
  rw[<-ad]at E;have bf:z.nodes.length=w.nodes.length:=by rw[ad];rfl
  refine x5 ?_;refine C3 (fr':=[(0,.s H1),(4,B6 v),(5,B6 lo),(6,B6 U)]++B4 K gf) (ob':=RObs s z 0 Z) (by rw[ad];exact (C04 lf (B0 S) J6 (U5 (K:=K) ⟨rfl,rfl,T0⟩))) ?_;refine J0 ?_;refine B2 (B7 (c:=C7) (ys:=[v]) (C0 A0 A0 A0 A0 D2) A0 A0 A0) A0 (G5 ?_);refine rO (gG (K:=K) (s:=s) (st:=z) (e:=0) (Z:=Z) ⟨6,set0,lo,U,[v]⟩ B1 ⟨rfl,rfl,T0⟩) eU A0 A0 A0 (F5 ?_);refine G5 ?_;exact D1 (ob':=RObs s (X8 ⟨6,set0,lo,U,[v]⟩ z).1 0 Z) V9 J6 (fun _ _ h=>h) ⟨(X8 ⟨6,set0,lo,U,[v]⟩ z).1,0,(X8 ⟨6,set0,lo,U,[v]⟩ z).2,rfl,rfl,.inl ⟨rfl,E⟩⟩
theorem pH{K:List Nat}{a:Nat}{s:Str}{st:PSt}{e:Int}{x:Ob}{Z ob:Obs}(l:a≠810)(j:a≠811)(ha:F0 K a=true)(m:ZOk K Z Z)
  (i:∀k o,k≠a->B5 (RObs s st e Z) k=some o->B5 ob k=some o):∀k o,B5 (RObs s st e ((a,x)::Z)) k=some o->B5 ((a,x)::Obs.forget a ob) k=some o:=fun k o c=>by
 by_cases g:a=k
 ·subst g;rw[B3];rw[A8 (fun e=>l e.symm),A8 (fun e=>j e.symm),B3]at c;exact c
 have b:B5 (RObs s st e Z) k=some o:=by
  by_cases f:810=k
  ·subst f;rw[B3]at c;rw[B3];exact c
  rw[A8 f]at c ⊢;by_cases d:811=k
  ·subst d;rw[B3]at c;rw[B3];exact c
  rw[A8 d,A8 g]at c;rw[A8 d];exact c
 rw[A8 g,K3,i k o (fun h=>g h.symm) b];show some (o.forget a)=some o;rw[Ob.forget_free ?_];by_cases f:810=k
 ·subst f;rw[B3]at b;cases b;simp[Ob.free,TC.free,PI,pG (show 811≠a from fun e=>j e.symm)]
 rw[A8 f]at b;by_cases d:811=k
 ·subst d;rw[B3]at b;cases b;rfl
 rw[A8 d]at b;exact m.free k o b a ha
theorem vU{s:Str}{st:PSt}{e:Int}{y:Ob}{Z:Obs}{a:Nat}:∀k o,k≠a->B5 (RObs s st e Z) k=some o->B5 (RObs s st e ((a,y)::Z)) k=some o:=fun k o f b=>by
 by_cases c:810=k
 ·subst c;rw[B3]at b ⊢;exact b
 rw[A8 c]at b ⊢;by_cases d:811=k
 ·subst d;rw[B3]at b ⊢;exact b
 rw[A8 d]at b ⊢;rw[A8 (fun h=>f h.symm)];exact b
theorem SC{K:List Nat}{a:Nat}{s:Str}{st:PSt}{e:Int}{x:Ob}{Z:Obs}(d:a≠810)(f:a≠811)(ha:F0 K a=true)(g:ZOk K Z Z):∀k o,B5 (RObs s st e Z) k=some o->B5 (Obs.forget a (RObs s st e ((a,x)::Z))) k=some o:=fun k o c=>by
 have b:k≠a:=fun e=>by
  subst e;rw[A8 (fun e=>d e.symm),A8 (fun e=>f e.symm),g.none (.inr ha)]at c;cases c
 have h:=pH (s:=s) (st:=st) (e:=e) (x:=x) (Z:=Z) (ob:=RObs s st e ((a,x)::Z)) d f ha g vU k o (vU k o b c)
 rwa[A8 (fun h=>b h.symm)]at h
theorem JX{s:Str}{st:PSt}{e:Int}{x:Ob}{Z:Obs}{a:Nat}(b:a≠810)(c:a≠811):B5 (RObs s st e ((a,x)::Z)) a=some x:=by
 rw[A8 (fun e=>b e.symm),A8 (fun e=>c e.symm),B3]
theorem EO{K:List Nat}{s:Str}{st:PSt}{e:Int}{Z:Obs}{a:Nat}(b:a≠810)(c:a≠811)(ha:F0 K a=true)(d:ZOk K Z Z):B5 (RObs s st e Z) a=none:=by
 rw[A8 (fun e=>b e.symm),A8 (fun e=>c e.symm),d.none (.inr ha)]
theorem ralt_rx{n:Nat}(aw:n<=50){s:Str}{st:PSt}(hs:SOk s st)(hn:st.nodes.length<=st.at_)(hd:st.depth+n=50){F:Nat}(hF:F<=5000)(M:iQ s F st []≠.error 0)
  (V:∀f x,f+1<F->x.at_+1<=s.length->SOk s x->x.nodes.length<=x.at_->x.depth+n=50->x.depth<50->kQ s (f+1) x≠.error 0->RX 90 [H1] (kF n) s { x with at_:=x.at_+1,depth:=x.depth+1 } (nT s f { x with at_:=x.at_+1,depth:=x.depth+1 }) aE) :
  RX 137 [H1] (aO n::kF n) s st (iQ s F st []) aE:=by
 intro gf ob Z hI;obtain⟨K,hK⟩:∃K,K=aO n::kF n:=⟨_,rfl⟩
 obtain⟨a,G⟩:∃a,a=aO n:=⟨_,rfl⟩
 obtain⟨J,hJ⟩:∃J,J=kF n:=⟨_,rfl⟩
 have C:F0 K a=true:=by rw[hK,G];exact ksA_iff.2 (.inl rfl)
 have ae:F0 J a=false:=by rw[hJ,G];exact EG (by unfold aO;omega)
 have ar:KOk J:=by rw[hJ];exact xY n
 have an:∀k,F0 J k=true->F0 K k=true:=fun k hk=>by rw[hJ]at hk;rw[hK];exact ksA_iff.2 (.inr hk)
 have ad:F0 J 870=true:=by rw[hJ];exact ksN_iff.2 B1
 have h0:a≠810:=by rw[G];unfold aO;omega
 have h1:a≠811:=by rw[G];unfold aO;omega
 have af:Nat.blt a 1000000=true:=by
  have:a<1000000:=by rw[G];unfold aO;omega
  simpa using this
 rw[<-hK]at hI ⊢;rw[<-hJ]at V;clear hK G hJ;have P:=hI.z.self;have w:=P;have aj:=hs.len;obtain⟨R,hR⟩:∃R,R=iQ s F st []:=⟨_,rfl⟩
 rw[<-hR]at M ⊢;obtain⟨Z1,I⟩:∃Z1:List Int->Obs,Z1=fun kids=>(a,.spare kids.length 1 3)::Z:=⟨_,rfl⟩
 have av:∀kids,ZOk J (Z1 kids) (Z1 kids):=fun kids=>by
  rw[I];exact ZOk.own ((P.less ar an).consZ (P.none (.inr C))) ⟨h0,ae⟩ (fun j hj=>rfl) (B3 _ _ _)
 have hv:∀n:Nat,n<s.length->s[((n:Nat):Int).toNat]?=some (s.getD n 0):=fun n h=>by rw[C37,C38,C36 h];rfl
 refine AL.Met.introH Tryz.func137 F1 rfl rfl rfl (fun hH=>?_);refine C3 (EH (l:=[(0,.s H1)]) hI ⟨i6 rfl,trivial⟩ hH J6) ?_;refine R3 ?_;refine C3 (C21 a Int 1 C7 3 (t:=3) A0 (EO h0 h1 C P) af) (F5 ?_);refine B9 (X:=Nat×List Int×PSt×Int) (fun x=>([(0,.s H1),(3,.s (.one (.buf a Int 1 C7 x.2.1)))]++B4 K gf,RObs s x.2.2.1 x.2.2.2 (Z1 x.2.1))) (fun x=>x.2.1.length+x.1<=F/\((x.2.2.2=0/\SOk s x.2.2.1/\x.2.2.1.nodes.length<=x.2.2.1.at_/\x.2.2.1.depth=st.depth/\R=iQ s x.1 x.2.2.1 x.2.1)\/(x.2.2.2≠0/\R=.error x.2.2.2/\x.2.2.1.at_+st.depth<=s.length+60/\st.depth<=x.2.2.1.depth/\x.2.2.1.depth<=60))) (fun x=>x.1) (F,[],st,0) ⟨by simp,.inl ⟨rfl,hs,hn,rfl,hR⟩⟩ ?_ ?_
 ·dsimp only;refine C04 ⟨i6 (j4 A0 (aG w.k8 a C)),i6 rfl,trivial⟩ (B0 hH) b7w ?_;rw[I];exact pH h0 h1 C P fun _ _ _ h=>h
 rintro⟨f,kids,x,e⟩ ⟨ai,O⟩;dsimp only at ai O ⊢;have P:=av kids;have ax:x.at_<=s.length+60:=by
  rcases O with ⟨_,h,_⟩ | ⟨_,_,h,_⟩
  ·have:=h.at_;omega
  ·omega
 refine zz 17 ?_;refine F9 A0 A0 (fun B=>by rw[B];exact uK A0) A0 A0 ?_;refine V7 ?_;refine F9 A0 A0 (fun B=>by have hq:=B;(try simp at hq);rw[B];exact G9 A0 A0 B1 (hv x.at_ B1)) A0 A0 ?_;refine F9 A0 A0 (fun B=>by rw[B];exact IN A0 A0) A0 A0 ?_;refine O6 ?_;refine F9 A0 A0 (fun B=>by have hq:=B;(try simp at hq);rw[B];exact G9 A0 A0 B1 (hv x.at_ B1)) A0 A0 ?_;refine H3 ?_;refine j2 A0 A0 (.gd (.val _)) (fun B=>by obtain⟨D,E⟩:=N0 B;(try rw[D]);(try rw[E]);exact F3 A0) A0 A0 ?_;refine j2 A0 A0 (.gd (.val _)) (fun B=>by obtain⟨D,E⟩:=N0 B;(try rw[D]);(try rw[E]);exact F4 A0) A0 A0 ?_;refine j2 A0 A0 (.gd (.val _)) (fun B=>by obtain⟨D,E⟩:=N0 B;(try rw[D]);(try rw[E]);exact E7 A0 A0 A0) A0 A0 ?_;refine j2 A0 A0 (.gd (.val _)) (fun B=>by obtain⟨D,E⟩:=N0 B;(try rw[D]);(try rw[E]);exact IM A0 A0) A0 A0 ?_;refine F9 A0 A0 (fun B=>by rw[B];exact l8 A0 (fun h=>by first | rfl | (rw[h];rfl)) (fun h=>by first | rfl | (rw[h];rfl))) A0 A0 ?_;refine F9 A0 A0 (fun B=>by rw[B];exact n_not A0) A0 A0 ?_;refine F5 ?_;obtain⟨c,W⟩:∃c,c=s.getD x.at_ 0:=⟨_,rfl⟩
 rw[<-W];have hu:∀k:UInt8,(c.toNat:Int)=k.toNat↔c=k:=fun k=>⟨fun e=>C89.1 B1,fun e=>by rw[e]⟩
 have T:(c.toNat:Int)=124↔c=124:=hu 124;have ac:(c.toNat:Int)=41↔c=41:=hu 41;refine zc 0 (fun q=>?_) fun q=>?_
 ·simp only[P4]at q;simp only[C39,decide_eq_true_eq,C80]at q;obtain⟨⟨⟨ag,S⟩,ab⟩,U⟩:=q;have S:x.at_<s.length:=by omega
  have hc:s[x.at_]?=some c:=by rw[W,C38,C36 S];rfl
  have L:¬c=124:=fun e=>ab (T.2 e);rcases O with ⟨_,H,hnx,Y,m⟩ | ⟨he,_⟩;rotate_left
  ·exact absurd ag he
  subst ag;obtain⟨f,rfl⟩:∃g,f=g+1:=by
   cases f with
   | zero=>exact absurd (by rw[m,iQ]) M
   | succ g=>exact⟨g,rfl⟩
  have ak:¬(c=124\/(c=41/\0<x.depth)):=fun g=>by
   rcases g with g | ⟨g1,g2⟩
   ·exact L g
   ·rw[A4 (ac.2 g1),A4 (show (x.depth:Int)>0 by omega)]at U;cases U
  rw[iQ,hc]at m;dsimp only at m;rw[A7 ak]at m;obtain⟨f,rfl⟩:∃g,f=g+1:=by
   cases f with
   | zero=>exact absurd (by rw[m,dQ]) M
   | succ g=>exact⟨g,rfl⟩
  have al:dQ s (f+1) x c≠.error 0:=fun h=>M (by rw[m,h]);have am:=A90 (K:=J) ad H B1 hc L (F:=f) (fun g B _ aq hpn=>V g x B1 B1 H hnx B1 aq hpn) al;have ao:∀k,F0 J k=true->(SV.s (.one (.buf a Int 1 C7 kids))).free k=true:=vT ae;obtain⟨A,hA⟩:∃A,A=dQ s (f+1) x c:=⟨_,rfl⟩
  rw[<-hA]at am m;refine F5 ?_;refine C3 (fr':=[(0,.s H1),(3,.s (.one (.buf a Int 1 C7 kids)))]++B4 K gf) (ob':=RObs s x 0 (Z1 kids)) (C04 lf (B0 hH) J6 (fun _ _ h=>h)) ?_;refine H3 ?_;refine gX (am _ _ (Z1 kids) ⟨rfl,rfl,T0⟩) eU A0 A0 A0 ?_;rintro _ _ ⟨y,e2,k,rfl,rfl,au⟩;refine B2 (B7 (c:=C7) (ys:=[k]) (C0 A0 A0 A0 A0 D2) A0 A0 A0) A0 (C2 (W4 A0 (by rw[I];exact JX h0 h1) A0 (.pure _ _ _ _) PH af) A0 ?_);refine F5 ?_;refine uI ?_;refine⟨(f+1,kids++[k],y,e2),⟨by simp only[C40,C46,List.length_nil];omega,?_⟩,by dsimp only;omega,?_⟩
  ·dsimp only;rcases au with ⟨rfl,Q⟩ | ⟨he2,Q,b1,b2,b3⟩
   ·rw[Q]at m;obtain⟨gp,ip⟩:=(Y6 (s:=s) (f+1)).piece hc (A42 hc (hA.symm.trans Q));have ay:=gp.cnt;have ap:=gp.len;have az:=gp.dep;exact .inl ⟨rfl,⟨aj,ap,by omega⟩,by omega,by omega,m⟩
   ·rw[Q]at m;exact .inr ⟨he2,m,by omega,by omega,by omega⟩
  dsimp only;refine C04 ⟨i6 (show D5 (Fr.forget a _) 0=_ from j4 A0 (aG w.k8 a C)),i6 rfl,trivial⟩ (B0 hH) b7w ?_;rw[I];exact pH h0 h1 C w vU
 have ah:(e=0/\SOk s x/\x.depth=st.depth/\x.nodes.length<=x.at_/\R=.ok (y7 4 kids x))\/(e≠0/\R=.error e/\x.at_+st.depth<=s.length+60/\st.depth<=x.depth/\x.depth<=60):=by
  rcases O with ⟨rfl,H,hnx,Y,m⟩ | h;rotate_left
  ·exact .inr h
  refine .inl ⟨rfl,H,Y,hnx,?_⟩;obtain⟨f,rfl⟩:∃g,f=g+1:=by
   cases f with
   | zero=>exact absurd (by rw[m,iQ]) M
   | succ g=>exact⟨g,rfl⟩
  rw[iQ]at m;by_cases S:x.at_<s.length
  ·have hc:s[x.at_]?=some c:=by rw[W,C38,C36 S];rfl
   rw[hc]at m;dsimp only at m
   rwa[A6]at m
   simp only[P4]at q;rw[A4 (show (x.at_:Int)<(s.length:Int) by omega)]at q;simp only[decide_true,C84,D05,Bool.not_eq_false',C39,decide_eq_true_eq,decide_eq_false_iff_not]at q;rcases q with h | ⟨h,g⟩
   ·exact .inl (T.1 (C75.1 h))
   ·exact .inr ⟨ac.1 h,by omega⟩
  ·rw[C63 B1]at m;exact m
 clear O q ai;have hkl:kids.length<=100000\/True:=.inr trivial;refine P1 ?_;refine C3 (Sees.forget a) (C3 (fr':=[(0,.s H1),(3,B8 Int 1 C7 kids)]++B4 K gf) (ob':=RObs s x e Z) (C04 ⟨i6 (j4 A0 (aG w.k8 a C)),i6 (vR rfl),trivial⟩ (B0 hH) b7w (by rw[I];exact SC h0 h1 C w)) ?_);have P:=w;refine R3 ?_;rcases ah with ⟨rfl,H,Y,hnx,m⟩ | ⟨he,m,b1,b2,b3⟩;rotate_left
 ·refine zc 0 (fun q=>?_) fun q=>?_;rotate_left
  ·exact absurd he (A3 q)
  refine I2 ?_;exact D1 V9 J6 (fun _ _ h=>h) ⟨x,e,0,rfl,rfl,.inr ⟨he,m,b1,b2,b3⟩⟩
 have ba:=H.at_;refine zc 0 (fun q=>?_) fun q=>?_
 ·exact absurd rfl (A1 q)
 match kids,m with
 | [],m =>
  have P:=w;refine zc 7 (fun q=>?_) fun q=>?_;rotate_left
  ·exact absurd rfl (A3 q)
  refine P1 ?_;refine gR ((C07 Int 1 C7 69 7 A0 A0)) (rO (gG (K:=K) (s:=s) (st:=x) (e:=0) (Z:=Z) K8 B1 ⟨rfl,rfl,T0⟩) eU A0 A0 A0 (F5 ?_));refine G5 ?_;exact D1 V9 J6 (fun _ _ h=>h) ⟨(X8 K8 x).1,0,(X8 K8 x).2,rfl,rfl,.inl ⟨rfl,m⟩⟩
 | [k],m =>
  have P:=w;refine zc 7 (fun q=>?_) fun q=>?_
  ·have h:=A1 q;simp at h
  refine zc 7 (fun q=>?_) fun q=>?_;rotate_left
  ·exact absurd rfl (A3 q)
  refine H3 ?_;refine B2 (C5 A0 (.pure _ _ _ _) A0 B1 (show ([k]:List Int)[(0:Int).toNat]?=some k from A0)) A0 (P1 ?_);exact D1 V9 J6 (U5 (K:=K) (st:=x) ⟨rfl,rfl,(by repeat (first | exact w | refine ZOk.cons ?_ (.inl rfl) | refine ZOk.cons ?_ (.inr w.k8.h811)))⟩) ⟨x,0,k,rfl,rfl,.inl ⟨rfl,m⟩⟩
 | k::l::r,m =>
  have P:=w;refine zc 7 (fun q=>?_) fun q=>?_
  ·have:=A1 q;simp at this;omega
  refine zc 7 (fun q=>?_) fun q=>?_
  ·have:=A1 q;simp at this;omega
  refine J0 ?_;refine rO (gG (K:=K) (s:=s) (st:=x) (e:=0) (Z:=Z) ⟨4,set0,0,0,k::l::r⟩ B1 ⟨rfl,rfl,T0⟩) eU A0 A0 A0 (F5 ?_);refine G5 ?_;exact D1 V9 J6 (fun _ _ h=>h) ⟨(X8 ⟨4,set0,0,0,k::l::r⟩ x).1,0,(X8 ⟨4,set0,0,0,k::l::r⟩ x).2,rfl,rfl,.inl ⟨rfl,m⟩⟩
theorem rpat_rx{n:Nat}(al:n<=50){s:Str}{st:PSt}(hs:SOk s st)(hn:st.nodes.length<=st.at_)(hd:st.depth+n=50){F:Nat}(hF:F<=5000)(H:nT s F st≠.error 0)
  (V:∀f x,f<F->x.at_+1<=s.length->SOk s x->x.nodes.length<=x.at_->x.depth+n=50->x.depth<50->kQ s (f+1) x≠.error 0->RX 90 [H1] (kF n) s { x with at_:=x.at_+1,depth:=x.depth+1 } (nT s f { x with at_:=x.at_+1,depth:=x.depth+1 }) aE) :
  RX 90 [H1] (kF (n+1)) s st (nT s F st) aE:=by
 intro gf ob Z hI;have M:∀{f:Nat} {x:PSt},f<F->SOk s x->x.nodes.length<=x.at_->x.depth+n=50->iQ s f x []≠.error 0->RX 137 [H1] (aO n::kF n) s x (iQ s f x []) aE:=fun {f x} h1 h2 h3 h4 h5 =>
  ralt_rx al h2 h3 h4 B1 h5 fun g y h6=>V g y B1
 obtain⟨K,hK⟩:∃K,K=kF (n+1):=⟨_,rfl⟩
 obtain⟨a,E⟩:∃a,a=pO n:=⟨_,rfl⟩
 obtain⟨J,hJ⟩:∃J,J=aO n::kF n:=⟨_,rfl⟩
 have B:F0 K a=true:=by rw[hK,E];exact ksS_iff.2 (.inl rfl)
 have ah:F0 J a=false:=by
  rw[hJ,E];cases hb:F0 (aO n::kF n) (pO n)
  ·rfl
  ·rcases ksA_iff.1 hb with h | h
   ·unfold pO aO at h;omega
   ·have:=ksN_iff.1 h;unfold pO at this;omega
 have aw:KOk J:=by rw[hJ];exact ksA_ok n
 have ap:∀k,F0 J k=true->F0 K k=true:=fun k hk=>by rw[hJ]at hk;rw[hK];exact ksS_iff.2 (.inr hk)
 have h0:a≠810:=by rw[E];unfold pO;omega
 have h1:a≠811:=by rw[E];unfold pO;omega
 have ag:a<1000000:=by rw[E];unfold pO;omega
 have ax:Nat.blt a 1000000=true:=by simpa using ag
 rw[<-hK]at hI ⊢;rw[<-hJ]at M;clear hK E hJ V;have v:=hI.z.self;have U:=hs.len;obtain⟨R,P⟩:∃R,R=nT s F st:=⟨_,rfl⟩
 rw[<-P]at H ⊢;obtain⟨F,rfl⟩:∃G,F=G+1:=by
  cases F with
  | zero=>exact absurd (by rw[P,nT]) H
  | succ g=>exact⟨g,rfl⟩
 rw[nT]at P;obtain⟨Z1,L⟩:∃Z1:List Int->Obs,Z1=fun kids=>(a,.spare kids.length 1 3)::Z:=⟨_,rfl⟩
 have ar:ZOk J Z Z:=v.less aw ap;have ba:∀kids,ZOk J (Z1 kids) (Z1 kids):=fun kids=>by
  rw[L];exact ZOk.own (ar.consZ (v.none (.inr B))) ⟨h0,ah⟩ (fun j hj=>rfl) (B3 _ _ _)
 refine AL.Met.introH Tryz.func90 F1 rfl rfl rfl (fun hH=>?_);refine C3 (EH (l:=[(0,.s H1)]) hI ⟨i6 rfl,trivial⟩ hH J6) ?_;refine I2 ?_;have hz:=ar;have am:iQ s F st []≠.error 0:=fun h=>H (by rw[h]at P;rw[P]);obtain⟨A,hA⟩:∃A,A=iQ s F st []:=⟨_,rfl⟩
 have O:=M (Nat.lt_succ_self F) hs hn hd am;rw[<-hA]at P O;refine F5 ?_;refine gX (O _ _ Z ⟨rfl,rfl,T0⟩) eU A0 A0 A0 ?_;rintro _ _ ⟨x0,e0,k0,rfl,rfl,ay⟩;refine C2 (sX a (c:=C7) (ys:=[k0]) (C0 A0 A0 A0 A0 D2) A0 A0 A0 (EO h0 h1 B v) ag) A0 (F5 ?_);refine F5 ?_;refine B9 (X:=Nat×List Int×PSt×Int) (fun x=>([(0,.s H1),(3,.s (.one (.buf a Int 1 C7 x.2.1)))]++B4 K gf,RObs s x.2.2.1 x.2.2.2 (Z1 x.2.1))) (fun x=>x.2.1.length+x.1<=F+1/\x.1<=F/\x.2.1≠[]/\((x.2.2.2=0/\SOk s x.2.2.1/\x.2.2.1.nodes.length<=x.2.2.1.at_+1/\x.2.2.1.depth=st.depth/\R=y9 s x.1 x.2.2.1 x.2.1)\/(x.2.2.2≠0/\R=.error x.2.2.2/\x.2.2.1.at_+st.depth<=s.length+60/\st.depth<=x.2.2.1.depth/\x.2.2.1.depth<=60))) (fun x=>x.1) (F,[k0],x0,e0) ?_ ?_ ?_
 ·refine⟨by simp only[C46,List.length_nil];omega,C45 _,by simp,?_⟩;dsimp only;rcases ay with ⟨rfl,w⟩ | ⟨he2,w,b1,b2,b3⟩
  ·rw[w]at P;obtain⟨W,ip⟩:=OT (s:=s) F hs.at_ (fun k hk=>by cases hk) (hA.symm.trans w);have av:=W.cnt;have Y:=W.len;have ae:=W.dep;exact .inl ⟨rfl,⟨U,Y,by omega⟩,by omega,ae,P⟩
  ·rw[w]at P;exact .inr ⟨he2,P,b1,b2,b3⟩
 ·dsimp only;refine C04 ⟨i6 (show D5 (Fr.forget a _) 0=_ from j4 A0 (aG v.k8 a B)),i6 rfl,trivial⟩ (B0 hH) b7w ?_;rw[L];exact pH h0 h1 B v fun _ _ _ h=>h
 rintro⟨f,kids,x,e⟩ ⟨aj,ai,ak,S⟩;dsimp only at aj ai ak S ⊢;have hz:=ba kids;refine F5 ?_;by_cases ac:e=0/\s[x.at_]?=some 124
 ·obtain⟨rfl,hb⟩:=ac;rcases S with ⟨_,I,hnx,Q,m⟩ | ⟨T,_⟩;rotate_left
  ·exact absurd rfl T
  obtain⟨f,rfl⟩:∃g,f=g+1:=by
   cases f with
   | zero=>exact absurd (by rw[m,y9]) H
   | succ g=>exact⟨g,rfl⟩
  have hh:O1 s 124 x=true:=A4 hb;rw[y9,A6 hh]at m;have az:=L7 (s:=s) (x:=x) 1 (l5 hh);have ad:SOk s (x.skip 1):=I.gr az B1;have aq:=ad.at_;have an:iQ s f (x.skip 1) []≠.error 0:=fun h=>H (by rw[m,h]);have O:=M (show f<F+1 by omega) ad (show x.nodes.length<=x.at_+1 from hnx) (show x.depth+n=50 by omega) an;obtain⟨A2,af⟩:∃A2,A2=iQ s f (x.skip 1) []:=⟨_,rfl⟩
  rw[<-af]at O m;refine I3 ?_;refine G7 A0 A0 A0 A0 (G5 ?_);refine G7 A0 A0 A0 A0 (O4 (dX s x.at_ x.depth 0 124 B1 A0) A0 A0 A0 (B2 (O2 A0 (rfl) A0) A0 (G5 ?_)));rw[A4 hb];refine zc 0 (fun C=>?_) fun C=>?_;rotate_left
  ·cases C
  refine H3 ?_;have bd:x.at_+1<=s.length:=aq;refine O6 ?_;refine C3 (fr':=[(0,.s H1),(3,.s (.one (.buf a Int 1 C7 kids)))]++B4 K gf) (ob':=RObs s (x.skip 1) 0 (Z1 kids)) (C04 lf (B0 hH) J6 (U5 (K:=J) (st:=x.skip 1) ⟨rfl,rfl,T0⟩)) ?_;have au:∀k,F0 J k=true->(SV.s (.one (.buf a Int 1 C7 kids))).free k=true:=vT ah;skip;refine H3 ?_;refine gX (O _ _ (Z1 kids) ⟨rfl,rfl,T0⟩) eU A0 A0 A0 ?_;rintro _ _ ⟨y,e2,k,rfl,rfl,ao⟩;refine B2 (B7 (c:=C7) (ys:=[k]) (C0 A0 A0 A0 A0 D2) A0 A0 A0) A0 (C2 (W4 A0 (by rw[L];exact JX h0 h1) A0 (.pure _ _ _ _) PH ax) A0 ?_);refine F5 ?_;refine uI ?_;refine⟨(f,kids++[k],y,e2),⟨by simp only[C40,C46,List.length_nil];omega,by dsimp only;omega,by simp,?_⟩,by dsimp only;omega,?_⟩
  ·dsimp only;rcases ao with ⟨rfl,w⟩ | ⟨he2,w,b1,b2,b3⟩
   ·rw[w]at m;obtain⟨W,ip⟩:=OT (s:=s) f ad.at_ (fun k hk=>by cases hk) (af.symm.trans w);have av:=W.cnt;have Y:=W.len;have ae:=W.dep;have e3:(x.skip 1).nodes.length=x.nodes.length/\(x.skip 1).at_=x.at_+1/\(x.skip 1).depth=x.depth:=⟨rfl,rfl,rfl⟩
    exact .inl ⟨rfl,⟨U,Y,by omega⟩,by omega,by omega,m⟩
   ·rw[w]at m;have e3:(x.skip 1).depth=x.depth:=rfl;exact .inr ⟨he2,m,by omega,by omega,by omega⟩
  dsimp only;refine C04 ⟨i6 (show D5 (Fr.forget a _) 0=_ from j4 A0 (aG v.k8 a B)),i6 rfl,trivial⟩ (B0 hH) b7w ?_;rw[L];exact pH h0 h1 B v vU
 have D:(e=0/\SOk s x/\x.depth=st.depth/\x.nodes.length<=x.at_+1/\R=.ok (y7 5 kids x))\/(e≠0/\R=.error e/\x.at_+st.depth<=s.length+60/\st.depth<=x.depth/\x.depth<=60):=by
  rcases S with ⟨rfl,I,hnx,Q,m⟩ | h;rotate_left
  ·exact .inr h
  refine .inl ⟨rfl,I,Q,hnx,?_⟩;obtain⟨f,rfl⟩:∃g,f=g+1:=by
   cases f with
   | zero=>exact absurd (by rw[m,y9]) H
   | succ g=>exact⟨g,rfl⟩
  have hh:¬O1 s 124 x=true:=fun h=>ac ⟨rfl,A1 h⟩;rw[y9,A7 hh]at m;exact m
 have hkl:kids.length<=100000:=by omega
 clear S aj ai;refine U9 ([(0,.s H1),(3,.s (.one (.buf a Int 1 C7 kids))),(15,L6 false)]++B4 K gf) (RObs s x e (Z1 kids)) ?_ ?_
 ·by_cases T:e=0
  ·subst T;have hb:decide (s[x.at_]?=some 124)=false:=A5 fun h=>ac ⟨rfl,h⟩;refine I3 ?_;refine G7 A0 A0 A0 A0 (G5 ?_);refine G7 A0 A0 A0 A0 (O4 (dX s x.at_ x.depth 0 124 B1 A0) A0 A0 A0 (B2 (O2 A0 (rfl) A0) A0 (G5 ?_)));rw[hb];refine uI ?_;exact C04 lf (B0 hH) J6 (fun _ _ h=>h)
  ·have ab:=A5 T;refine I3 ?_;refine L1 A0 A0 A0 (by rw[ab];decide) A0 ?_;refine L1 A0 A0 A0 (by rw[ab];decide) A0 ?_;refine B2 (Y2 A0 (ab) A0) A0 (G5 ?_);exact C04 lf (B0 hH) J6 (fun _ _ h=>h)
 skip;refine zc 0 (fun C=>?_) fun C=>?_
 ·cases C
 refine H3 ?_;refine C3 (Sees.forget a) (C3 (fr':=[(0,.s H1),(3,B8 Int 1 C7 kids)]++B4 K gf) (ob':=RObs s x e Z) (C04 ⟨i6 (j4 A0 (aG v.k8 a B)),i6 (vR rfl),trivial⟩ (B0 hH) b7w (by rw[L];exact SC h0 h1 B v)) ?_);refine x5 ?_
 match kids,ak,D with
 | k :: r,_,D =>
  have hz:=v;have bc:(k::r:List Int)[(0:Int).toNat]?=some k:=rfl;by_cases q:e≠0\/r=[]
  ·refine zc 0 (fun C=>?_) fun C=>?_;rotate_left
   ·exfalso;rw[x7,C86,decide_eq_false_iff_not,decide_eq_false_iff_not]at C;rcases q with h | h
    ·exact C.1 h
    ·rw[h]at C;exact C.2 rfl
   refine R3 ?_;rcases D with ⟨rfl,I,Q,hnx,m⟩ | ⟨T,m,b1,b2,b3⟩
   ·have hr:r=[]:=q.resolve_left fun h=>h rfl;rw[hr]at m;exact D1 V9 J6 (fun _ _ h=>h) ⟨x,0,k,rfl,rfl,.inl ⟨rfl,m⟩⟩
   ·exact D1 V9 J6 (fun _ _ h=>h) ⟨x,e,k,rfl,rfl,.inr ⟨T,m,b1,b2,b3⟩⟩
  ·rcases D with ⟨rfl,I,Q,hnx,m⟩ | ⟨T,_⟩;rotate_left
   ·exact absurd (.inl T) q
   match r,q,m with
   | [],q,_=>exact absurd (.inr rfl) q
   | l::r,q,m =>
    have hz:=v;have aq:=I.at_;refine zc 0 (fun C=>?_) fun C=>?_
    ·exfalso;rw[x7,C67,decide_eq_true_eq,decide_eq_true_eq]at C;rcases C with h | h
     ·exact h rfl
     ·simp at h;omega
    refine J0 ?_;refine rO (gG (K:=K) (s:=s) (st:=x) (e:=0) (Z:=Z) ⟨5,set0,0,0,k::l::r⟩ B1 ⟨rfl,rfl,T0⟩) eU A0 A0 A0 (F5 ?_);refine G5 ?_;exact D1 V9 J6 (fun _ _ h=>h) ⟨(X8 ⟨5,set0,0,0,k::l::r⟩ x).1,0,(X8 ⟨5,set0,0,0,k::l::r⟩ x).2,rfl,rfl,.inl ⟨rfl,m⟩⟩
theorem rx_all(s:Str):∀(B F:Nat),F<B->F<=5000->∀n st,st.depth+n=50->SOk s st->st.nodes.length<=st.at_->nT s F st≠.error 0->RX 90 [H1] (kF (n+1)) s st (nT s F st) aE
 | 0,_,h,_=>by omega
 | B+1,F,h,hF=>fun n st b c d g=>rpat_rx B1 c d b hF g fun f x l k a hnx j i hpn=>by
  obtain⟨m,rfl⟩:∃m,n=m+1:=⟨n-1,by omega⟩
  refine rx_all s B f B1 B1 m { x with at_:=x.at_+1,depth:=x.depth+1 } b9x ⟨a.len,k,by dsimp only;omega⟩ b9x fun h=>hpn ?_;rw[kQ,A7 B1,h]
theorem EP{w v:List Int}:∀(b:List Int) (a:Int),(∀k∈b,I0 w k.toNat=I0 v k.toNat)->w8 w a b=w8 v a b
 | [],_,_=>rfl
 | k::r,a,h=>by
  rw[w8,w8,h k (C56 ..)];exact EP r _ fun x c=>h x (C55 _ c)
theorem ID{n:AL.Node}{w v:List Int}(h:∀k∈n.Kids,I0 w k.toNat=I0 v k.toNat):V2 n w=V2 n v:=by
 unfold V2;rw[EP n.Kids 0 h]
theorem A17{L:List AL.Node}{i x:Nat}(b:x<i):∀d,i+d<=L.length->I0 (HU L (i+d)) x=I0 (HU L i) x
 | 0,_=>rfl
 | d+1,h=>by
  have a:L[i+d]?=some L[i+d]:=C36 B1;rw[show i+(d+1)=(i+d)+1 by omega,vL a,<-A17 b d B1];unfold I0;rw[List.getElem?_set_ne B1]
theorem wt_all{L:List AL.Node}{i x:Nat}(b:i<=L.length)(a:x<i):I0 (E9 L) x=I0 (HU L i) x:=by
 have h:=A17 (L:=L) a (L.length-i) B1
 rwa[show i+(L.length-i)=L.length by omega,mU]at h
theorem wt_at{L:List AL.Node}(b:FZ L){k:Int}(f:0<=k/\k<L.length):I0 (E9 L) k.toNat=V2 (L.getD k.toNat K8) (E9 L):=by
 have g:=nd_get f;have d:=jT b f;obtain⟨n,a⟩:∃n,n=L.getD k.toNat K8:=⟨_,rfl⟩
 rw[<-a]at g d ⊢;rw[wt_all (i:=k.toNat+1) B1 (Nat.lt_succ_self _),vL g];have j:=qO L k.toNat
 rw[show I0 ((HU L k.toNat).set k.toNat (V2 n (HU L k.toNat))) k.toNat=V2 n (HU L k.toNat) by unfold I0;rw[D13 B1];rfl];exact ID fun c h=>by
  have:=r7 d c h;exact (wt_all B1 B1).symm
theorem XI{L:List AL.Node}(a:FZ L):∀v∈E9 L,0<=v/\v<=4001:=by
 rw[<-mU];exact MT a L.length (C45 _)
theorem vV{a:Int}(_ha:0<=a)(h:V1 a 4001=0):a=0:=by
 unfold V1 at h;split at h<;>omega
theorem yB{w:List Int}(d:∀v∈w,0<=v/\v<=4001):∀(e:List Int) (a:Int),0<=a->w8 w a e=0->a=0/\∀k∈e,I0 w k.toNat=0
 | [],a,_,h=>⟨h,fun _ c=>by cases c⟩
 | k::r,a,h0,h=>by
  rw[w8]at h;have c:=mT w d k;have f:0<=V1 (a+I0 w k.toNat) 4001:=by unfold V1;split<;>omega
  obtain⟨g,i⟩:=yB d r _ f h;have j:=vV B1 g
  exact⟨by omega,fun x b=>by
   rcases C50.1 b with rfl | b
   ·omega
   ·exact i x b⟩
theorem XJ{R:Lng}(h:∀i j,R i j↔i=j):∀(m i j:Nat),z6 R m i j↔i=j
 | 0,_,_=>Iff.rfl
 | m+1,i,j=>⟨fun ⟨p,b,c⟩=>((h i p).1 b).trans ((XJ h m p j).1 c),fun e=>⟨i,(h i i).2 rfl,(XJ h m i j).2 e⟩⟩
theorem cat_eq{D:Int->Lng}:∀{l:List Int},(∀k∈l,∀i j,D k i j↔i=j)->∀i j,xC D l i j↔i=j
 | [],_,_,_=>Iff.rfl
 | k::r,h,i,j=>by
  have c:=cat_eq (l:=r) fun x f=>h x (C55 _ f);have d:=h k (C56 ..);exact⟨fun ⟨p,a,b⟩=>((c i p).1 a).trans ((d p j).1 b),fun e=>⟨i,(c i i).2 rfl,(d i j).2 e⟩⟩
theorem SD{L:List AL.Node}{s:Str}(d:FZ L):∀(B:Nat) (k:Int),k<B->0<=k/\k<L.length->I0 (E9 L) k.toNat=0->∀i j,Den L s k i j↔i=j
 | 0,k,h,hk,_=>by omega
 | B + 1,k,hB,hk,h=>by
  intro i j;have l:=jT d hk;have z:=GO (s:=s) d hk i j;rw[wt_at d hk]at h;obtain⟨n,v⟩:∃n,n=L.getD k.toNat K8:=⟨_,rfl⟩
  rw[<-v]at l z h;have w:=XI d;have o:=r7 l;have t:=bZ l;have A:∀c∈n.Kids,I0 (E9 L) c.toNat=0->∀i j,Den L s c i j↔i=j:=fun c r g=>by
   have:=o c r;exact SD d B c B1 B1 g
  have M:=(qP (E9 L) w n.Kids 0 F1).1;unfold V2 at h;dsimp only at h;rw[z];unfold fO;split at h
  ·rename_i q;rw[A7 B1,A7 B1,A7 B1,A7 B1,A6 q];have g:=(yB w n.Kids 0 (Int.le_refl _) h).2;exact cat_eq (fun c r=>A c (List.mem_reverse.1 r) (g c (List.mem_reverse.1 r))) i j
  split at h
  ·rename_i q y;obtain⟨_,O⟩:=bK l;have:=vV B1 h;omega
  split at h
  ·rename_i q y D;obtain⟨G,u,_,I⟩:=fI l D;have J:0<=n.Min*w8 (E9 L) 0 n.Kids:=Int.mul_nonneg u M;split at h
   ·have:=vV B1 h;omega
   ·have K:0<=(n.Max-n.Min)*(w8 (E9 L) 0 n.Kids+1):=Int.mul_nonneg B1 B1;have N:=vV B1 h;have E:(n.Max-n.Min)*(w8 (E9 L) 0 n.Kids+1)=0:=by omega
    have F:n.Min*w8 (E9 L) 0 n.Kids=0:=by omega
    have C:n.Max-n.Min=0:=by
     rcases Int.mul_eq_zero.1 E with e | e
     ·exact e
     ·omega
    have f:n.Kids.getD 0 0∈n.Kids:=by
     match n.Kids,G with
     | [x],_=>exact C56 ..
    rw[A7 B1,A7 B1,A7 B1,A7 B1,A7 q,A7 y];rcases Int.mul_eq_zero.1 F with e | e
    ·constructor
     ·rintro⟨m,a,b,c⟩;have H:m=0:=by omega
      rw[H]at c;exact c
     ·exact fun c=>⟨0,by omega,by omega,c⟩
    ·have g:=(yB w n.Kids 0 (Int.le_refl _) e).2;have p:=XJ (A _ f (g _ f));constructor
     ·rintro⟨m,a,b,c⟩;exact (p m i j).1 c
     ·exact fun c=>⟨n.Min.toNat,by omega,by omega,(p _ i j).2 c⟩
  ·cases h
theorem JY{L:List AL.Node}{s:Str}(d:fN L=0){F:Nat}{st:List AL.State}{r:Int}(hb:J8 L (E9 L) F ((L.length:Int)-1) 0 [⟨4,⟨0,0,0,0⟩,0,0⟩]=some (st,r))(f:st.length<=8000) :
  AG ⟨st,r⟩/\((iO ⟨st,r⟩ s 0).2=true↔∃i j,i<=s.length/\j<=s.length/\Den L s ((L.length:Int)-1) i j):=by
 obtain⟨c,_,a⟩:=o3 d;exact B91 a c (fun k e b=>SD a L.length k B1 e b) hb f
end Go.Proofs.YtabbdaafimcjhaaGreatDoor
