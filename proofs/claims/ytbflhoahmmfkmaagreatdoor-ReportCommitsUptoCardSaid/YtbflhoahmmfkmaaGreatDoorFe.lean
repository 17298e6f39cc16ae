/- Walks of the program's functions. -/
import Derived.Test.YtbflhoahmmfkmaaGreatDoorFd
set_option linter.all false
namespace Go.Proofs.YtbflhoahmmfkmaaGreatDoor
open Go Go.AL
set_option maxRecDepth 100000
set_option maxHeartbeats 1000000
structure GG (B:Nat) (g:Graph):Prop where
 len:g.length<=16
 pars:∀c∈g,c.Parents.length<=3/\∀p∈c.Parents,0<=p/\p<(g.length:Int)
 files:∀c∈g,GF B c.Files
theorem GG.few{B:Nat}{g:Graph}(h:GG B g)(b:B<=16777216):FewT g :=
 ⟨⟨by have:=h.len;omega,fun c a=>by have:=(h.pars c a).1;omega⟩,fun c a=>(h.files c a).few b⟩
theorem GG.short{B:Nat}{g:Graph}(h:GG B g):Short g:=fun c=>by
 unfold J9;by_cases a:c<g.length
 ·rw[VA a];have:=(h.files _ (VE a)).len;show g[c].Files.length<=6;omega
 ·rw[VS (by omega)];simp
structure GU (L:Nat) (g:Graph):Prop where
 up:∀c p:Nat,(p:Int)∈D4 g c->p<c
 nice:∀c∈g,c.Parents.Nodup/\0<=c.Date/\c.Date<=5
 tree:∀c∈g,GN L c.Files
theorem GU.valid{B L:Nat}{g:Graph}(h:GG B g)(p:B<=1048576)(d:L<=2111)(k:OneWay g)(i:∀c∈g,c.Parents.Nodup/\0<=c.Date/\c.Date<=5)(j:∀c∈g,GN L c.Files):GV g where
 len:=h.len
 pars:=fun c b=>⟨(h.pars c b).1,(h.pars c b).2,i c b⟩
 way:=k
 files:=fun c b=>⟨(j c b).mono d,fun f e=>by have:=((h.files c b).all f e).2;omega⟩
theorem CS{g:Graph}{k:Nat}{x:Commit}(j:Nat){p:Int}(h:p∈D4 (g.set k x) j):(j=k/\p∈x.Parents)\/p∈D4 g j:=by
 unfold D4 at h ⊢;rw[WZ]at h;split at h
 ·rename_i e;split at h
  ·exact .inl ⟨e.symm,h⟩
  ·cases h
 ·exact .inr h
theorem CT(n:Int){l:List Int}(h:l.Nodup):(l.map fun q=>n-1-q).Nodup:=by
 rw[List.nodup_iff_pairwise_ne,List.pairwise_map];exact h.imp fun {a b} c e=>c (by omega)
theorem CU(g:Graph)(U:List Int)(B L:Nat)(S:GG B g)(P:GU L g)(hB:B<=1048576)(hL:L<=2111):FnOk Tryz.prog 29 [F4 g,K0 U] (fun rs=>∃W,rs=[F4 W]/\GG B W/\GV W):=by
 have ag:=S.len;refine FnOk.intro Tryz.func29 (by decide) Z Z Z Z ?_;refine k2 ?_;refine A7 (A6 (A9 Z Z) Z (B0 ?_));refine k1 (k2 (k2 ?_));refine A7 (A6 (A8 Z Z) Z (C8 (y7 U 3 (by omega) (by omega)) Z Z Z ?_));rintro _ rfl;refine A6 (gC Z Z (by omega)) Z (A6 (J1 Z Z) Z (B0 ?_));refine k1 ?_;refine B5 rfl (fun J=>?_) (fun J=>?_)
 ·refine k2 ?_;refine A7 (A6 (A8 Z Z) Z (A6 (A9 Z Z) Z (B0 ?_)));refine k1 (I8 (M6 ?_));exact B9 (rs:=[F4 g]) (I5 rfl rfl rfl) ⟨g,rfl,S,GU.valid S hB hL (.inl P.up) P.nice P.tree⟩
 refine k5 (k1 (k2 ?_));refine A7 (A6 (A8 Z Z) Z (A6 (F7 Z (.pure _ _ _ _)) Z (A6 (A9 Z Z) Z (B0 ?_))));refine k1 (k2 ?_);refine A7 (A6 (A8 Z Z) Z (D3 (fG 760 Commit E7 ⟨[],0,[]⟩ Z Z (by omega) (by omega) (fun _=>by first | exact⟨⟨rfl,rfl⟩,trivial⟩ | exact⟨J2 _ _ _,trivial⟩ | exact⟨J2 _ _ _,⟨rfl,rfl⟩,J2 _ _ _,trivial⟩ | exact⟨⟨rfl,rfl⟩,⟨rfl,rfl⟩,trivial⟩) (by first | rfl | (simp[H4,M1,Ob.free,SV.free,S1.free,TC.free]<;>rfl))) Z ?_));refine A6 (A9 Z Z) Z (B0 ?_);rw[VC];refine k1 (k2 (k2 ?_));refine A7 (A6 (A9 Z Z) Z (B0 ?_));refine k1 (k3 ?_)
 refine D9 (X:=Nat×List Commit) (fun x=>([(0,E2 Commit 3 E7 g),(5,D1 g.length),(6,.s (.one (.mut 760))),(7,D1 x.1)],[(760,.arr Commit 3 E7 x.2)])) (fun x=>x.1<=g.length/\x.2.length=g.length/\(∀y∈x.2,y.Parents.length<=3/\∀p∈y.Parents,0<=p/\p<(g.length:Int))/\(∀y∈x.2,GF B y.Files)/\(∀y∈x.2,(y.Parents.Nodup/\0<=y.Date/\y.Date<=5)/\GN L y.Files)/\∀j p:Nat,(p:Int)∈D4 x.2 j->j<p) (fun x=>g.length-x.1) (0,List.replicate g.length ⟨[],0,[]⟩) ⟨Nat.zero_le _,VX,fun y w=>by rw[(List.mem_replicate.1 w).2];exact⟨by simp,fun p hp=>by cases hp⟩,fun y w=>by rw[(List.mem_replicate.1 w).2];exact⟨by simp,fun f R=>by cases R⟩,fun y w=>by rw[(List.mem_replicate.1 w).2];exact⟨⟨List.nodup_nil,by decide,by decide⟩,List.nil_sublist _,(fun f R=>by cases R),fun f R=>by cases R⟩,fun j p h=>by
  unfold D4 at h;rw[List.getElem?_replicate]at h
  split at h<;>cases h⟩ (Sees.of ⟨B1 rfl,B1 rfl,B1 rfl,B1 rfl,trivial⟩ ⟨rfl,trivial⟩) ?_
 rintro⟨c,o⟩ ⟨hc,F,H,E,G,M⟩;dsimp only at hc F H E G M ⊢;refine k2 (k2 ?_);refine A7 (A6 (A8 Z Z) Z (A6 (A8 Z Z) Z (A6 (F1 Z Z) Z (B0 ?_))));refine k1 ?_;refine B5 rfl (fun J=>?_) (fun J=>?_);rotate_left
 ·refine k6 (k2 ?_);refine I7 (Sees.freeze (k:=760) Z) ?_;refine A7 (A6 (A8 Z Z) Z (A6 (A9 Z Z) Z (B0 ?_)));refine k1 (I8 ?_);exact B9 (rs:=[F4 o]) (I5 rfl rfl rfl) ⟨o,rfl,⟨by omega,by rw[F];exact H,E⟩,GU.valid (B:=B) ⟨by omega,by rw[F];exact H,E⟩ hB hL (.inr M) (fun y w=>(G y w).1) fun y w=>(G y w).2⟩
 have D:c<g.length:=by have z:=A0 J;(try dsimp only at z);omega
 obtain⟨d,K⟩:∃d,d=g[c]:=⟨_,rfl⟩
 have hv:g[c]?=some d:=by rw[K];simp[D]
 have V:d∈g:=by rw[K];exact VE D
 obtain⟨ah,hpr⟩:=S.pars d V;have Y:=S.files d V;have Q:=P.nice d V;have ab:=P.tree d V;have ac:∀q∈d.Parents,q<(c:Int):=fun q C=>by
  have z:=P.up c q.toNat (by rw[U6 D,<-K,Int.toNat_of_nonneg (hpr q C).1];exact C)
  have:=(hpr q C).1;omega
 refine k5 (k1 (k2 (k3 (k2 ?_))));refine A7 (A6 (A8 Z Z) Z (A6 (A8 Z Z) Z (A6 (B6 Z (.pure _ _ _ _) Z (by omega) hv) Z (A6 (H7 Z Z) Z (D3 (L4 8 Z) Z (H3 (D5 TySz.out Z Z Z Z Z Z) (B0 ?_)))))));refine k1 (k2 ?_);refine A7 (A6 (B2 Z) Z (H3 (D5 TySz.out Z Z Z Z Z Z) (B0 ?_)));refine k1 (k2 (k2 ?_));refine I7 (UQ 753 Int 1 G2 3 (kb:=8) (o:=0) Z Z Z) ?_;refine A7 (A6 (A9 Z Z) Z (B0 ?_));refine k1 (k3 ?_);refine D9 (X:=Nat×List Int) (fun x=>([(0,E2 Commit 3 E7 g),(5,D1 g.length),(6,.s (.one (.mut 760))),(7,D1 c),(8,.s (.one (.ref 8 0))),(9,D1 x.1)],[(8,.box [.buf 753 Int 1 G2 x.2,.p (.v (.int .i64 d.Date)),.p (.list File 2 Q4 d.Files)]),(753,.spare x.2.length 1 3),(760,.arr Commit 3 E7 o)])) (fun x=>x.1<=d.Parents.length/\x.2=(d.Parents.take x.1).map fun q=>(g.length:Int)-1-q) (fun x=>d.Parents.length-x.1) (0,[]) ⟨Nat.zero_le _,rfl⟩ (Sees.of ⟨B1 rfl,B1 rfl,B1 rfl,B1 rfl,B1 rfl,B1 rfl,trivial⟩ ⟨rfl,rfl,rfl,trivial⟩) ?_;rintro⟨p,ps⟩ ⟨hp,I⟩;dsimp only at hp I ⊢;have ai:ps.length=p:=by rw[I,VW,VM];omega
 refine k2 (k2 ?_);refine A7 (A6 (A8 Z Z) Z (A6 (A8 Z Z) Z (A6 (A8 Z Z) Z (A6 (B6 Z (.pure _ _ _ _) Z (by omega) hv) Z (A6 (G5 Z) Z (A6 (C0 Z Z) Z (A6 (F7 Z (.pure _ _ _ _)) Z (A6 (F1 Z Z) Z (B0 ?_)))))))));refine k1 ?_;refine B5 rfl (fun J=>?_) (fun J=>?_)
 ·have A:p<d.Parents.length:=by have z:=A0 J;(try dsimp only at z);omega
  obtain⟨q,C⟩:∃q,q=d.Parents[p]:=⟨_,rfl⟩
  have T:d.Parents[p]?=some q:=by rw[C];simp[A]
  have aj:=hpr q (by rw[C];exact VE A);refine k5 (k1 (k2 (k3 ?_)));refine H2 (by kernel_rfl) (by kernel_rfl) (C2 (B2 Z) Z Z (C2 (B4 Z Z Z) Z Z (C2 (A8 Z Z) Z Z (C2 (O3 Z Z (by omega)) Z Z (C2 (A8 Z Z) Z Z (C2 (A8 Z Z) Z Z (C2 (B6 Z (.pure _ _ _ _) Z (by omega) hv) Z Z (C2 (G5 Z) Z Z (C2 (C0 Z Z) Z Z (C2 (A8 Z Z) Z Z (C2 (B6 Z (.pure _ _ _ _) Z (by omega) T) Z Z (C2 (C0 Z Z) Z Z (C2 (O3 Z Z (by omega)) Z Z (C2 (D2 (c:=G2) (ys:=[(g.length:Int)-1-q]) (D6 Z Z Z Z G1) Z Z Z) Z Z (IS (L2 Z Z Z (.pure _ _ _ _) (by (simp only[VD,VI];omega)) Z) Z Z (C2 (B2 Z) Z Z (IR (D5 TySz.out Z Z Z Z Z Z) Z (i7 ?_))))))))))))))))));refine k4 (k1 ?_);refine A7 (A6 (A8 Z Z) Z (A6 (D8 Z Z (by omega)) Z (A6 (A9 Z Z) Z (B0 ?_))));refine k1 ?_;refine⟨(p+1,ps++[(g.length:Int)-1-q]),⟨A,by dsimp only;rw[vS T,WC,<-I];rfl⟩,by dsimp only;omega,(Sees.of ⟨B1 rfl,B1 rfl,B1 rfl,B1 rfl,B1 rfl,B1 rfl,trivial⟩ ⟨rfl,rfl,rfl,trivial⟩)⟩
 have af:¬(p:Int)<d.Parents.length:=A1 J;have O:ps=d.Parents.map fun q=>(g.length:Int)-1-q:=by rw[I,WB (by omega)]
 have ad:∀x∈ps,0<=x/\x<(g.length:Int):=fun x hx=>by
  rw[O]at hx;obtain⟨q,C,rfl⟩:=VT.1 hx;have:=hpr q C;omega
 have hi:0<=(g.length:Int)-1-c/\(g.length:Int)-1-c<o.length:=by omega
 have ae:o[((g.length:Int)-1-c).toNat]?=some o[((g.length:Int)-1-c).toNat]:=VA (by omega);refine k6 (k7 (k7 (k8 Z (k1 ?_))));refine A7 (A6 (A8 Z Z) Z (A6 (A8 Z Z) Z (A6 (O3 Z Z (by omega)) Z (A6 (A8 Z Z) Z (A6 (O3 Z Z (by omega)) Z (A6 (H0 Z Z Z) Z (A6 (E5 Z Z Z (by omega) (by omega)) Z (H3 (jM (y:=⟨ps,d.Date,d.Files⟩) TySz.out Z Z ae Z Z Z Z (fun _ _ us h=>by first | exact W8 h | (match us,h with | [_,_,_],h=>exact⟨h.1.2,h.2.1,h.2.2.1,trivial⟩)) (by intro j z h2;rcases j with _ | _ | _ | j<;>first | rfl | omega)) ?_))))))));refine B0 ?_;refine k4 (k1 ?_);refine A7 (A6 (A8 Z Z) Z (A6 (D8 Z Z (by omega)) Z (A6 (A9 Z Z) Z (B0 ?_))));refine k1 ?_;refine⟨(c+1,o.set ((g.length:Int)-1-c).toNat ⟨ps,d.Date,d.Files⟩),⟨D,by dsimp only;rw[VY];exact F,fun y w=>?_,fun y w=>?_,fun y w=>?_,fun j p hj=>?_⟩,by dsimp only;omega,(Sees.of ⟨B1 rfl,B1 rfl,B1 rfl,B1 rfl,trivial⟩ ⟨rfl,trivial⟩)⟩
 ·rcases List.mem_or_eq_of_mem_set w with w | rfl
  ·exact H y w
  ·exact⟨by dsimp only;omega,ad⟩
 ·rcases List.mem_or_eq_of_mem_set w with w | rfl
  ·exact E y w
  ·exact Y
 ·rcases List.mem_or_eq_of_mem_set w with w | rfl
  ·exact G y w
  ·exact⟨⟨by rw[O];exact CT _ Q.1,Q.2⟩,ab⟩
 ·rcases CS j hj with ⟨e,z⟩ | z
  ·dsimp only at z;rw[O]at z;obtain⟨q,C,e2⟩:=VT.1 z;have:=ac q C;omega
  ·exact M j p z
set_option maxHeartbeats 2000000
def qD:Nat->Nat
 | 0=>0
 | c+1=>5*qD c+64
def nP:Nat->Nat
 | 0=>32
 | c+1=>2*nP c+1
theorem NE(c:Nat)(h:c<=6):(32<=nP c/\qD c<=250000)/\nP c<=2111:=by
 match c,h with
 | 0,_=>decide
 | 1,_=>decide
 | 2,_=>decide
 | 3,_=>decide
 | 4,_=>decide
 | 5,_=>decide
 | 6,_=>decide
theorem GG.mono{B B':Nat}{g:Graph}(h:GG B g)(a:B<=B'):GG B' g:=⟨h.len,h.pars,fun c b=>(h.files c b).mono a⟩
theorem HB(w:List Int)(n z:Int)(hn:0<=n/\n<=6)(hl:0<=z/\z<=16):FnOk Tryz.prog 7 [K0 w,E6 n,E6 z] (fun rs=>∃g,rs=[F4 g]/\GG 250000 g/\GV g):=by
 have au:=U0 (W9 w 0) (n:=n+1) (by omega);obtain⟨m,hm⟩:∃m:Nat,R0 (W9 w 0) (n+1)=(m:Int):=⟨(R0 (W9 w 0) (n+1)).toNat,by omega⟩
 have ar:m<=6:=by omega
 refine FnOk.intro Tryz.func7 (by decide) Z Z Z Z ?_;refine k2 ?_;refine A7 (A6 (A9 Z Z) Z (B0 ?_));refine k1 (k2 ?_);refine A7 (A6 (A8 Z Z) Z (C8 (y7 w 0 (by omega) (by omega)) Z Z Z ?_));rintro _ rfl;refine A6 (A8 Z Z) Z (A6 (D8 Z Z (by omega)) Z (C8 (eH (W9 w 0) (n+1) (by omega) (by omega)) Z Z Z ?_));rintro _ rfl;refine A6 (A9 Z Z) Z (B0 ?_);rw[hm];refine k1 (k2 ?_);refine A7 (D3 (BB 7 (c:=E7) (ys:=([]:List Commit)) G1 Z Z Z (by first | rfl | (simp[H4,M1,Ob.free,SV.free,S1.free,TC.free]<;>rfl))) Z ?_);refine A6 (A9 Z Z) Z (B0 ?_);refine k1 (k2 (k2 ?_));refine A7 (A6 (A9 Z Z) Z (B0 ?_));refine k1 (k3 ?_);refine D9 (X:=Nat×List Commit) (fun x=>([(0,E2 Int 1 G2 w),(1,D1 m),(2,D1 z),(7,.s (.one (.buf 7 Commit 3 E7 x.2))),(8,D1 x.1)],[(7,.spare x.2.length 3 32)])) (fun x=>x.1<=m/\x.2.length=x.1/\(∀y∈x.2,y.Parents.length<=3/\∀p∈y.Parents,0<=p/\p<(x.1:Int))/\(∀y∈x.2,GF (qD x.1) y.Files)/\GU (nP x.1) x.2) (fun x=>m-x.1) (0,[]) ⟨Nat.zero_le _,rfl,(fun _ h=>by cases h),(fun _ h=>by cases h),(fun _ _ h=>by cases h),(fun _ h=>by cases h),(fun _ h=>by cases h)⟩ (Sees.of ⟨B1 rfl,B1 rfl,B1 rfl,B1 rfl,B1 rfl,trivial⟩ ⟨rfl,trivial⟩) ?_;rintro⟨c,E⟩ ⟨hc,P,I,H,D⟩;dsimp only at hc P I H D ⊢;obtain⟨⟨ac,aq⟩,ad⟩:=NE c (by omega);refine k2 (k2 ?_);refine A7 (A6 (A8 Z Z) Z (A6 (A8 Z Z) Z (A6 (F1 Z Z) Z (B0 ?_))));refine k1 ?_;refine B5 rfl (fun B=>?_) (fun B=>?_);rotate_left
 ·refine k6 (k2 ?_);refine A7 (A6 (A8 Z Z) Z (A6 (A8 Z Z) Z (C8 (CU E w (qD c) (nP c) ⟨by omega,by rw[P];exact I,H⟩ D (by omega) ad) Z Z Z ?_)));rintro _ ⟨g',rfl,ak,ao⟩;refine A6 (A9 Z Z) Z (B0 ?_);refine k1 (I8 ?_);exact B9 (rs:=[F4 g']) (I5 rfl rfl rfl) ⟨g',rfl,GG.mono ak (by omega),ao⟩
 have al:c<m:=by have J:=A0 B;(try dsimp only at J);omega
 refine k5 (k1 (k2 (k3 (k2 ?_))));refine A7 (A6 (A8 Z Z) Z (A6 (A8 Z Z) Z (A6 (D8 Z Z (by omega)) Z (C8 (y7 w (1000+(c:Int)) (by omega) (by omega)) Z Z Z ?_))));rintro _ rfl;refine C8 (eH (W9 w (1000+(c:Int))) 5 (by omega) (by omega)) Z Z Z ?_;rintro _ rfl;refine A6 (I9 Z) Z (D3 (L4 9 Z) Z (H3 (D5 TySz.out Z Z Z Z Z Z) (B0 ?_)));have ag:=U0 (W9 w (1000+(c:Int))) (n:=5) (by omega);obtain⟨d,hd⟩:∃d,d=R0 (W9 w (1000+(c:Int))) 5:=⟨_,rfl⟩
 rw[<-hd]at ag ⊢;refine k1 (k2 (k2 ?_));refine I7 (UQ 753 Int 1 G2 3 (kb:=9) (o:=0) Z Z Z) ?_;refine A7 (A6 (A9 Z Z) Z (B0 ?_));refine k1 (k3 ?_);refine D9 (X:=Nat×List Int) (fun x=>([(0,E2 Int 1 G2 w),(1,D1 m),(2,D1 z),(7,.s (.one (.buf 7 Commit 3 E7 E))),(8,D1 c),(9,.s (.one (.ref 9 0))),(10,D1 x.1)],[(7,.spare E.length 3 32),(9,.box [.buf 753 Int 1 G2 x.2,.p (.v (.int .i64 d)),.p (.v (.slice none 0 0))]),(753,.spare x.2.length 1 3)])) (fun x=>x.1<=c/\x.2.length<=3/\(∀q∈x.2,0<=q/\q<(x.1:Int))/\x.2.Nodup) (fun x=>c-x.1) (0,[]) ⟨Nat.zero_le _,by simp,(fun _ h=>by cases h),List.nodup_nil⟩ (Sees.of ⟨B1 rfl,B1 rfl,B1 rfl,B1 rfl,B1 rfl,B1 rfl,B1 rfl,trivial⟩ ⟨rfl,rfl,rfl,trivial⟩) ?_;rintro⟨p,ps⟩ ⟨hp,Q,F,hpn⟩;dsimp only at hp Q F hpn ⊢;refine k2 (k2 ?_);refine A7 (A6 (A8 Z Z) Z (A6 (A8 Z Z) Z (A6 (F1 Z Z) Z (B0 ?_))));refine k1 ?_;refine B5 rfl (fun B=>?_) (fun B=>?_)
 ·have L:p<c:=by have J:=A0 B;(try dsimp only at J);omega
  refine k5 (k1 (k2 (k3 (k2 ?_))));refine A7 (A6 (A8 Z Z) Z (A6 (A8 Z Z) Z (A6 (sD Z Z (by omega)) Z (A6 (D8 Z Z (by omega)) Z (A6 (A8 Z Z) Z (A6 (D8 Z Z (by omega)) Z (C8 (y7 w (1100+40*(c:Int)+(p:Int)) (by omega) (by omega)) Z Z Z ?_)))))));rintro _ rfl;refine A6 (gC Z Z (by omega)) Z (A6 (J1 Z Z) Z (A6 (A8 Z Z) Z (B3 Z Z Z Z (fun k=>by rw[k];exact B2 Z) ?_)));refine B3 Z Z Z Z (fun k=>by rw[k];exact B4 Z Z Z) ?_;refine B3 Z Z Z Z (fun k=>by rw[k];exact F7 Z (.buf _ _ _ _ _)) ?_;refine B3 Z Z Z Z (fun k=>by rw[k];exact F1 Z Z) ?_;refine A6 (C3 Z (fun h=>by first | rfl | (rw[h];rfl)) (fun h=>by first | rfl | (rw[h];rfl))) Z ?_;refine B0 ?_;refine k1 ?_;refine B5 rfl (fun B=>?_) (fun B=>?_)
  ·have h2:=(A0 (and_pick.symm.trans B)).2;skip;refine A7 (A6 (B2 Z) Z (A6 (B4 Z Z Z) Z (A6 (A8 Z Z) Z (A6 (D2 (c:=G2) (ys:=[(p:Int)]) (D6 Z Z Z Z G1) Z Z Z) Z (D3 (L2 Z Z Z (.pure _ _ _ _) (by (simp only[VD,VI];omega)) Z) Z (A6 (B2 Z) Z (H3 (D5 TySz.out Z Z Z Z Z Z) (B0 ?_))))))));refine k4 (k1 ?_);refine A7 (A6 (A8 Z Z) Z (A6 (D8 Z Z (by omega)) Z (A6 (A9 Z Z) Z (B0 ?_))));refine k1 ?_;refine⟨(p+1,ps++[(p:Int)]),⟨L,by rw[VF,List.length_singleton];omega,fun x T=>?_,?_⟩,by dsimp only;omega,(Sees.of ⟨B1 rfl,B1 rfl,B1 rfl,B1 rfl,B1 rfl,B1 rfl,B1 rfl,trivial⟩ ⟨rfl,rfl,rfl,trivial⟩)⟩
   ·rcases VG.1 T with T | T
    ·have:=F x T;dsimp only;omega
    ·rw[List.mem_singleton.1 T];dsimp only;omega
   ·dsimp only;refine List.nodup_append.2 ⟨hpn,by simp,fun a ha b hb e=>?_⟩;have:=F a ha;rw[e,List.mem_singleton.1 hb]at this;omega
  ·refine k5 (k4 (k1 ?_));refine A7 (A6 (A8 Z Z) Z (A6 (D8 Z Z (by omega)) Z (A6 (A9 Z Z) Z (B0 ?_))));refine k1 ?_;exact⟨(p+1,ps),⟨L,Q,fun x T=>by have:=F x T;dsimp only;omega,hpn⟩,by dsimp only;omega,(Sees.of ⟨B1 rfl,B1 rfl,B1 rfl,B1 rfl,B1 rfl,B1 rfl,B1 rfl,trivial⟩ ⟨rfl,rfl,rfl,trivial⟩)⟩
 refine k6 (k2 (k2 ?_));refine A7 (A6 (B2 Z) Z (A6 (B4 Z Z Z) Z (A6 (F7 Z (.buf _ _ _ _ _)) Z (A6 (J1 Z Z) Z (A6 (A8 Z Z) Z (B3 Z Z Z Z (fun k=>by rw[k];exact A8 Z Z) ?_))))));refine B3 Z Z Z Z (fun k=>by rw[k];exact N5 Z Z) ?_;refine A6 (C3 Z (fun h=>by first | rfl | (rw[h];rfl)) (fun h=>by first | rfl | (rw[h];rfl))) Z ?_;refine A6 (A8 Z Z) Z (B3 Z Z Z Z (fun k=>by rw[k];exact A8 Z Z) ?_);refine B3 Z Z Z Z (fun k=>by rw[k];exact A8 Z Z) ?_;refine B3 Z Z Z Z (fun k=>by have C:=k;(try simp at C);rw[k];exact D8 Z Z (by omega)) ?_;refine B3 Z Z Z Z (fun k=>by have C:=k;(try simp at C);rw[k];exact L3 (y7 w (1500+(c:Int)) (by omega) (by omega)) Z Z) ?_;refine B3 Z Z Z Z (fun k=>by have C:=k;(try simp at C);rw[k];exact gC Z Z (by omega)) ?_;refine B3 Z Z Z Z (fun k=>by rw[k];exact N5 Z Z) ?_;refine A6 (C3 Z (fun h=>by first | rfl | (rw[h];rfl)) (fun h=>by first | rfl | (rw[h];rfl))) Z ?_;refine B0 ?_;refine k1 ?_;refine pI (X:=List Int) (fun G=>([(0,E2 Int 1 G2 w),(1,D1 m),(2,D1 z),(7,.s (.one (.buf 7 Commit 3 E7 E))),(8,D1 c),(9,.s (.one (.ref 9 0)))],[(7,.spare E.length 3 32),(9,.box [.p (.list Int 1 G2 G),.p (.v (.int .i64 d)),.p (.v (.slice none 0 0))])])) (fun G=>G.length<=3/\(∀q∈G,0<=q/\q<(c:Int))/\G.Nodup) ?_ ?_
 ·refine B5 rfl (fun B=>?_) (fun B=>?_)
  ·rw[dK,dK,VB,VB]at B;have h2:=A0 B.1.2;skip;refine A7 (A6 (A8 Z Z) Z (A6 (O3 Z Z (by omega)) Z (A6 (D2 (c:=G2) (ys:=[(c:Int)-1]) (D6 Z Z Z Z G1) Z Z Z) Z (A6 (B2 Z) Z (H3 (D5 TySz.out Z Z Z Z Z Z) (B0 ?_))))));refine k1 ?_;exact⟨[(c:Int)-1],⟨by simp,fun q C=>by rw[List.mem_singleton.1 C];omega,by simp⟩,Sees.trans (US 9 0 rfl rfl rfl) (Sees.of ⟨B1 rfl,B1 rfl,B1 rfl,B1 rfl,B1 rfl,B1 rfl,trivial⟩ ⟨rfl,rfl,trivial⟩)⟩
  ·refine k5 (k1 ?_);exact⟨ps,⟨Q,fun q C=>by have:=F q C;omega,hpn⟩,Sees.trans (US 9 0 rfl rfl rfl) (Sees.of ⟨B1 rfl,B1 rfl,B1 rfl,B1 rfl,B1 rfl,B1 rfl,trivial⟩ ⟨rfl,rfl,trivial⟩)⟩
 rintro G ⟨am,S,an⟩;dsimp only;refine k2 ?_;refine A7 (A6 (A8 Z Z) Z (A6 (A8 Z Z) Z (A6 (sD Z Z (by omega)) Z (A6 (D8 Z Z (by omega)) Z (A6 (A8 Z Z) Z (C8 (tO w (2000+200*(c:Int)) z (by omega) hl) Z Z Z ?_))))));rintro _ ⟨fl,rfl,ah,ai⟩;refine A6 (B2 Z) Z (H3 (D5 TySz.out Z Z Z Z Z Z) (B0 ?_));refine k1 (k2 (k2 ?_));refine A7 (A6 (B2 Z) Z (A6 (B4 Z Z Z) Z (A6 (F7 Z (.pure _ _ _ _)) Z (A6 (N5 Z Z) Z (A6 (A8 Z Z) Z (B3 Z Z Z Z (fun k=>by rw[k];exact A8 Z Z) ?_))))));refine B3 Z Z Z Z (fun k=>by rw[k];exact A8 Z Z) ?_;refine B3 Z Z Z Z (fun k=>by have C:=k;(try simp at C);rw[k];exact D8 Z Z (by omega)) ?_;refine B3 Z Z Z Z (fun k=>by have C:=k;(try simp at C);rw[k];exact L3 (y7 w (1600+(c:Int)) (by omega) (by omega)) Z Z) ?_;refine B3 Z Z Z Z (fun k=>by have C:=k;(try simp at C);rw[k];exact gC Z Z (by omega)) ?_;refine B3 Z Z Z Z (fun k=>by rw[k];exact N5 Z Z) ?_;refine A6 (C3 Z (fun h=>by first | rfl | (rw[h];rfl)) (fun h=>by first | rfl | (rw[h];rfl))) Z ?_;refine B0 ?_;refine k1 ?_;refine pI (X:=List File) (fun M=>([(0,E2 Int 1 G2 w),(1,D1 m),(2,D1 z),(7,.s (.one (.buf 7 Commit 3 E7 E))),(8,D1 c),(9,.s (.one (.ref 9 0)))],[(7,.spare E.length 3 32),(9,.box [.p (.list Int 1 G2 G),.p (.v (.int .i64 d)),.p (.list File 2 Q4 M)])])) (fun M=>GF (qD (c+1)) M/\GN (nP (c+1)) M) ?_ ?_
 ·refine B5 rfl (fun B=>?_) (fun B=>?_)
  ·rw[dK,VB]at B;have h2:=A0 B.1;obtain⟨q,qr,rfl⟩:∃q qr,G=q::qr:=by
    cases G with
    | nil=>simp at h2
    | cons q qr=>exact⟨q,qr,rfl⟩
   have av:=S q (by simp);have R:q.toNat<E.length:=by omega
   obtain⟨U,O⟩:∃U,U=E[q.toNat]:=⟨_,rfl⟩
   have ap:E[q.toNat]?=some U:=by rw[O];simp[R]
   have ae:=H U (by rw[O];exact VE R);have af:=D.tree U (by rw[O];exact VE R);skip;refine A7 (A6 (A8 Z Z) Z (A6 (B2 Z) Z (A6 (B4 Z Z Z) Z (A6 (B6 Z (.pure _ _ _ _) Z (by omega) (show (q::qr)[Int.toNat 0]?=some q from Z)) Z (A6 (C0 Z Z) Z (A6 (B6 Z (.buf _ _ _ _ _) Z (by omega) ap) Z (A6 (G5 Z) Z (A6 (C0 Z Z) Z (A6 (A8 Z Z) Z (A6 (A8 Z Z) Z (A6 (sD Z Z (by omega)) Z (A6 (D8 Z Z (by omega)) Z (A6 (A8 Z Z) Z (C8 (CR U.Files w (2000+200*(c:Int)) z (qD c) (nP c) ae af ac (by omega) (by omega) hl) Z Z Z ?_))))))))))))));rintro _ ⟨ab,rfl,V,W⟩;refine A6 (B2 Z) Z (H3 (D5 TySz.out Z Z Z Z Z Z) (B0 ?_));refine k1 ?_;exact⟨ab,⟨V,W⟩,(Sees.of ⟨B1 rfl,B1 rfl,B1 rfl,B1 rfl,B1 rfl,B1 rfl,trivial⟩ ⟨rfl,rfl,trivial⟩)⟩
  ·refine k5 (k1 ?_);exact⟨fl,⟨ah.mono (show 64<=qD (c+1) by rw[qD];omega),ai.mono (show 64<=nP (c+1) by rw[nP];omega)⟩,(Sees.of ⟨B1 rfl,B1 rfl,B1 rfl,B1 rfl,B1 rfl,B1 rfl,trivial⟩ ⟨rfl,rfl,trivial⟩)⟩
 rintro M ⟨aj,Y⟩;dsimp only;skip;refine A7 (A6 (A8 Z Z) Z (A6 (H0 Z Z Z) Z (A6 (D2 (c:=E7) (ys:=[⟨G,d,M⟩]) (D6 Z Z Z Z G1) Z Z Z) Z (D3 (L2 Z Z Z (.pure _ _ _ _) (by (simp only[VD,VI];omega)) Z) Z (A6 (A9 Z Z) Z (B0 ?_))))));refine k4 (k1 ?_);refine A7 (A6 (A8 Z Z) Z (A6 (D8 Z Z (by omega)) Z (A6 (A9 Z Z) Z (B0 ?_))));refine k1 ?_;refine⟨(c+1,E++[⟨G,d,M⟩]),⟨al,by dsimp only;rw[VF,List.length_singleton,P],fun y A=>?_,fun y A=>?_,fun j p K=>?_,fun y A=>?_,fun y A=>?_⟩,by dsimp only;omega,(Sees.of ⟨B1 rfl,B1 rfl,B1 rfl,B1 rfl,B1 rfl,trivial⟩ ⟨rfl,trivial⟩)⟩
 ·rcases VG.1 A with A | A
  ·exact⟨(I y A).1,fun p hp=>by have:=(I y A).2 p hp;dsimp only;omega⟩
  ·rw[List.mem_singleton.1 A];exact⟨am,fun p hp=>by have:=S p hp;dsimp only;omega⟩
 ·rcases VG.1 A with A | A
  ·exact (H y A).mono (show qD c<=qD (c+1) by rw[qD];omega)
  ·rw[List.mem_singleton.1 A];exact aj
 ·dsimp only at K;unfold D4 at K;rcases Nat.lt_trichotomy j E.length with J | J | J
  ·rw[VP J]at K;exact D.up j p K
  ·subst J;rw[List.getElem?_concat_length]at K;have:=S p K;omega
  ·rw[VS (by rw[VF,List.length_singleton];omega)]at K;cases K
 ·rcases VG.1 A with A | A
  ·exact D.nice y A
  ·rw[List.mem_singleton.1 A];exact⟨an,by dsimp only;omega,by dsimp only;omega⟩
 ·rcases VG.1 A with A | A
  ·exact (D.tree y A).mono (show nP c<=nP (c+1) by rw[nP];omega)
  ·rw[List.mem_singleton.1 A];exact Y
set_option maxHeartbeats 1000000
abbrev auto5:AL.Auto:=⟨[TI,TJ,UC,RR,RR,TK],5⟩
abbrev aa:Str:=[97,97]
structure AS where
 opn:List Int
 th:List AL.Thread
 sn:List Bool
def HC(x:AS):Int:=I0 x.opn (x.opn.length-1)
def NF(a:Nat)(fr:Int)(x:AS):AS :=
 if E9 x.sn (HC x).toNat=true then ⟨x.opn.take (x.opn.length-1),x.th,x.sn⟩
 else ⟨x.opn.take (x.opn.length-1)++FH (auto5.States.getD (HC x).toNat dC) (decide ((a:Int)=0)) (decide ((a:Int)=(aa.length:Int))),x.th++[⟨HC x,fr⟩],x.sn.set (HC x).toNat true⟩
def OI(a:Nat)(fr:Int)(x:AS):Nat->AS
 | 0=>x
 | n+1=>NF a fr (OI a fr x n)
def CV(y:AS):Prop:=0<y.opn.length/\y.opn.length<=10/\0<=HC y/\HC y<6/\y.sn.length=6/\y.th.length<=10
instance (y:AS):Decidable (CV y):=by unfold CV;infer_instance
def addOk(a:Nat)(fr:Int)(x:AS)(n:Nat):Bool:=(List.range n).all (fun k=>decide (CV (OI a fr x k)))
end Go.Proofs.YtbflhoahmmfkmaaGreatDoor
