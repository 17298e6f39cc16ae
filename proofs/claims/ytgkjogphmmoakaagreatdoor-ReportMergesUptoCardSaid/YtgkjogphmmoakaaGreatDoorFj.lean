
/- Walks of the program's functions. -/
import Derived.Test.YtgkjogphmmoakaaGreatDoorFi
set_option linter.all false
namespace Go.Proofs.YtgkjogphmmoakaaGreatDoor
open Go Go.AL
set_option maxRecDepth 100000
set_option maxHeartbeats 4000000
abbrev g0:Graph:=[⟨[],0,[⟨[120],[97,97]⟩]⟩]
abbrev bb:Str:=[97,97]
abbrev g1:Graph:=[⟨[],0,[⟨[120],bb⟩]⟩]
theorem b8w{p:Prop}(h:p:=by dsimp only;rw[GH];exact (Sees.of lf lo)):p:=h
theorem vO{p:Prop}(h:p:=by dsimp only;decide):p:=h
theorem MB(ak:List Int)(a0 y:Int):FnOk Tryz.prog 3 [L0 ak,D2 a0,D2 y] (fun rs=>rs=[D5 true]):=by
 have aq:=a7 y (n:=3) B1;have z:=mE y 3 B1 B1;obtain⟨n,hn⟩:∃n,n=X2 y 3:=⟨_,rfl⟩
 rw[<-hn]at aq z;refine FnOk.intro Tryz.func3 G6 Z Z Z Z (zz 7 ?_);refine x7 (VT ak 6 4 B1 B1) Z Z Z ?_;rintro _ ⟨g,rfl,F,hv⟩;refine zz 2 ?_;have W:=F.gg.few G6;have bd:=F.len;have hd:=hv.check;refine zc 7 (fun m=>?_) fun m=>?_
 ·refine zz 2 ?_;refine D3 (qQ) (zz 3 ?_);exact A8 (rs:=[D5 true]) (F7 rfl rfl rfl) rfl
 have bi:¬(g.length:Int)=0:=A1 m;have ap:=a7 a0 (n:=(g.length:Int)) B1;refine zz 6 ?_;refine D3 (mE a0 (g.length:Int) B1 B1) (zz 2 ?_);obtain⟨a,ao⟩:∃a:Nat,X2 a0 (g.length:Int)=(a:Int):=⟨(X2 a0 (g.length:Int)).toNat,by omega⟩
 rw[ao]at ap ⊢;have ha:a<g.length:=by omega
 have M:iY g (a:Int):=⟨by omega,by omega⟩
 obtain⟨v,L⟩:∃cm,cm=g[a]:=⟨_,rfl⟩
 have T:g[((a:Nat):Int).toNat]?=some v:=by rw[L];simp[ha]
 have I:D8 g a=v.Parents:=by rw[dH ha,L]
 obtain⟨au,hpr⟩:=F.pars v (by rw[L];exact C35 ha);have B:(D8 g a).length<=3:=by rw[I];exact au
 have C:∀p∈D8 g a,0<=p/\p<(g.length:Int):=by rw[I];exact hpr
 have ai:∀c,(B6 (cU (O8 g c) [97])).length<=128/\(cU (O8 g c) [97]).length<=512:=fun c=>by
  unfold cU;cases hf:U8 (O8 g c) [97] with
  | none=>exact⟨by decide,by decide⟩
  | some w =>
   obtain⟨f,hm,_,rfl⟩:=CN hf;unfold O8 at hm;by_cases hc:c<g.length
   ·rw[C29 hc]at hm;have E:=(F.files _ (C35 hc)).all f hm;exact⟨E.2.2,E.2.1⟩
   ·rw[C49 B1]at hm;cases hm
 obtain⟨x,hx⟩:∃x,x=cU (O8 g a) [97]:=⟨_,rfl⟩
 have U:=ai a;rw[<-hx]at U;have ag:(M6 g a [97]).length=v.Parents.length:=by unfold M6;rw[C55,I]
 by_cases Q:v.Parents=[]
 ·have af:M6 g a [97]=[]:=by unfold M6;rw[I,Q];rfl
  have ar:∀d,gX [97] x (M6 g a [97]) n d=(comb0,2):=fun d=>by
   unfold gX;rw[af,A6 G6];have e:E7 x []=(⟨0,[]⟩,2):=by unfold E7;rw[A5 s6]
   rw[e];rfl
  have hO:=fun d=>vN g a n d [97] x comb0 2 [] W ha hx.symm C B (.inr ⟨af,U⟩) (ar d) (.inl ⟨by decide,rfl⟩);have hD:=fun d=>LJ g ⟨4,a,0,n,d,[97]⟩ [] 2 W hd vO (wO B1 B1) M (fun h=>absurd h vO) vO ⟨fun h=>absurd h vO,fun h=>absurd h vO,fun _=>hO d,fun h=>absurd h vO,fun h=>absurd h vO,fun h=>absurd h vO,fun h=>absurd h vO⟩;have bj:v.Parents.length=0:=by rw[Q];rfl
  refine zz 5 ?_;refine D3 (z) (zz 1 ?_);refine D3 ((hD false)) (zz 11 ?_);refine D3 (z) (zz 1 ?_);refine D3 ((hD true)) (zz 11 ?_);refine A7 (A9 Z (.pure _ _ _ _) Z B1 T) Z ?_;refine zc 5 (fun m=>?_) fun m=>?_;rotate_left
  ·exact absurd (A1 m) B1
  refine zz 9 ?_;refine C3 Z Z Z Z (fun F=>by have S:=F;(try simp at S);rw[F];exact I4 (qQ) Z Z) ?_;refine zz 4 ?_;exact A8 (F7 rfl rfl rfl) s6
 have ba:1<=v.Parents.length:=List.length_pos_iff.2 Q
 have hS:SmallM x (M6 g a [97]):=⟨by omega,by omega,fun b hb=>by
  rcases C36.1 hb with rfl | hb
  ·exact U
  ·unfold M6 at hb;obtain⟨p,_,rfl⟩:=C54.1 hb
   exact ai p.toNat⟩
 obtain⟨Y,e1,f1,V,w1,z1,y1,ay⟩:=CB (path:=[97]) (ctx:=n) false G6 G6 hS B1;obtain⟨c2,e2,f2,aj,w2,z2,y2,az⟩:=CB (path:=[97]) (ctx:=n) true G6 G6 hS B1;have al:=vN g a n false [97] x Y 0 (P6 Y) W ha hx.symm C B (.inl hS) e1 (.inr ⟨rfl,rfl,V,z1,y1⟩);have an:=vN g a n true [97] x c2 0 (P6 c2) W ha hx.symm C B (.inl hS) e2 (.inr ⟨rfl,rfl,aj,z2,y2⟩);have ab:=LJ g ⟨4,a,0,n,false,[97]⟩ (P6 Y) 0 W hd vO (wO B1 B1) M (fun h=>absurd h vO) vO ⟨fun h=>absurd h vO,fun h=>absurd h vO,fun _=>al,fun h=>absurd h vO,fun h=>absurd h vO,fun h=>absurd h vO,fun h=>absurd h vO⟩;have ac:=LJ g ⟨4,a,0,n,true,[97]⟩ (P6 c2) 0 W hd vO (wO B1 B1) M (fun h=>absurd h vO) vO ⟨fun h=>absurd h vO,fun h=>absurd h vO,fun _=>an,fun h=>absurd h vO,fun h=>absurd h vO,fun h=>absurd h vO,fun h=>absurd h vO⟩;have J:=mI V w1;have K:=mI aj w2;have G:=qS Y z1 y1;rw[A5 V]at G;have A:=XY (E7 x (M6 g a [97])).1 n hS.good.2.1 B1;rw[<-uQ (n:=(M6 g a [97]).length) ay,<-uQ (n:=(M6 g a [97]).length) az]at A;obtain⟨H1,ad⟩:∃H,H=Y0 (M6 g a [97]).length (E7 x (M6 g a [97])).1.Rows (K9 (E7 x (M6 g a [97])).1 n false).1:=⟨_,rfl⟩
 obtain⟨H2,ae⟩:∃H,H=Y0 (M6 g a [97]).length (E7 x (M6 g a [97])).1.Rows (K9 (E7 x (M6 g a [97])).1 n true).1:=⟨_,rfl⟩
 rw[<-ad,ag]at f1;rw[<-ae,ag]at f2;rw[<-ad,<-ae]at A;have bl:eO H1<=268435456:=by rw[f1]at z1;exact z1
 have bm:eO H2<=268435456:=by rw[f2]at z2;exact z2
 have be:=TN H1;have bf:=TN H2;have bg:=kT H1;have bh:=kT H2;obtain⟨s1,av⟩:∃s,s=P6 Y:=⟨_,rfl⟩
 obtain⟨s2,aw⟩:∃s,s=P6 c2:=⟨_,rfl⟩
 rw[<-av]at ab J G;rw[<-aw]at ac K;rw[f1]at J G;rw[f2]at K;have j:decide ((v.Parents.length:Int)≠(v.Parents.length:Int))=false:=by simp
 refine zz 5 ?_;refine D3 (z) (zz 1 ?_);refine D3 (ab) (zz 11 ?_);refine D3 (z) (zz 1 ?_);refine D3 (ac) (zz 11 ?_);refine A7 (A9 Z (.pure _ _ _ _) Z B1 T) Z ?_;refine zc 5 (fun m=>?_) fun m=>?_
 ·exact absurd (A0 m) B1
 refine zz 4 ?_;refine D3 (J) (zz 3 ?_);refine B8 (E6 12 Z) Z (zz 6 ?_);refine D3 (K) (zz 3 ?_);refine B8 (E6 14 Z) Z (zz 3 ?_);refine K4 [(1,B2 a),(7,C0 Commit 3 H8 g),(8,H6 s1),(9,B2 0),(11,B2 0),(12,.s (.one (.ref 12 0))),(13,B2 0),(14,.s (.one (.ref 14 0))),(15,B2 0)] [(12,.box (N5 ⟨[97],false,v.Parents.length,H1⟩).s1.cells),(14,.box (N5 ⟨[97],true,v.Parents.length,H2⟩).s1.cells)] (Sees.of lf lo) (zz 6 ?_);refine V9 Z Z Z Z (zz 1 ?_);refine V9 Z Z Z Z (zz 3 ?_);refine V9 Z Z Z Z (zz 1 ?_);refine V9 Z Z Z Z (zz 3 ?_);refine V9 Z Z Z Z (zz 1 ?_);refine V9 Z Z Z Z (zz 3 ?_);refine V9 Z Z Z Z (zz 1 ?_);refine V9 Z Z Z Z (zz 1 ?_);refine V9 Z Z Z Z (zz 1 ?_);refine V9 Z Z Z Z (zz 1 ?_);refine V9 Z Z Z Z (D7 (A9 Z (.pure _ _ _ _) Z B1 T) Z Z (V9 Z Z Z Z (zz 1 ?_)));refine V9 Z Z Z Z (zz 1 ?_);refine V9 Z Z Z Z (zz 1 ?_);refine V9 Z Z Z Z (zz 3 ?_);refine V9 Z Z j Z (zz 1 ?_);refine V9 Z Z j Z (zz 1 ?_);refine V9 Z Z j Z (zz 1 ?_);refine V9 Z Z j Z (zz 1 ?_);refine V9 Z Z j Z (zz 1 ?_);refine D7 (eT Z (j) Z) Z Z (zz 1 ?_);refine V9 Z Z j Z (zz 1 ?_);refine V9 Z Z j Z (zz 1 ?_);refine D7 (eT Z (j) Z) Z Z (zz 1 ?_);refine V9 Z Z Z Z (zz 1 ?_);refine V9 Z Z Z Z (zz 1 ?_);refine V9 Z Z Z Z (D7 (S7 Z) Z Z ?_);refine zc 2 (fun m=>?_) fun m=>?_
 ·cases m
 refine zz 12 ?_;refine C5 (X:=Nat) (fun k=>([(8,H6 s1),(12,.s (.one (.ref 12 0))),(14,.s (.one (.ref 14 0))),(16,B2 (P0 H1 k)),(17,B2 0),(18,B2 k)],[(12,.box (N5 ⟨[97],false,v.Parents.length,H1⟩).s1.cells),(14,.box (N5 ⟨[97],true,v.Parents.length,H2⟩).s1.cells)])) (fun k=>k<=H1.length) (fun k=>H1.length-k) 0 (Nat.zero_le _) b8w ?_;intro k hk;dsimp only at hk ⊢;have bk:=gP H1 k;refine zc 9 (fun m=>?_) fun m=>?_
 ·have P:k<H1.length:=by have E:=A0 m;(try dsimp only at E);omega
  obtain⟨q,S⟩:∃q,q=H1[k]:=⟨_,rfl⟩
  have D:H1[k]?=some q:=by rw[S];exact C29 P
  have ax:=qE D;have ah:=gP H1 (k+1);refine zz 8 ?_;refine A7 (A9 Z (.pure _ _ _ _) Z B1 D) Z (zz 6 ?_);rw[show (P0 H1 k:Int)+(q.Rows.length:Int)=((P0 H1 (k+1):Nat):Int) by omega];refine zz 5 ?_;exact⟨k+1,by omega,by omega,Sees.of lf lo⟩
 have O:k=H1.length:=by have E:=A1 m;(try dsimp only at E);omega
 rw[O];refine zz 7 ?_;refine C5 (X:=Nat) (fun k=>([(8,H6 s1),(12,.s (.one (.ref 12 0))),(14,.s (.one (.ref 14 0))),(16,B2 (P0 H1 H1.length)),(17,B2 (P0 H2 k)),(19,B2 k)],[(12,.box (N5 ⟨[97],false,v.Parents.length,H1⟩).s1.cells),(14,.box (N5 ⟨[97],true,v.Parents.length,H2⟩).s1.cells)])) (fun k=>k<=H2.length) (fun k=>H2.length-k) 0 (Nat.zero_le _) b8w ?_;intro k hk;dsimp only at hk ⊢;have bc:=gP H2 k;refine zc 9 (fun m=>?_) fun m=>?_
 ·have P:k<H2.length:=by have E:=A0 m;(try dsimp only at E);omega
  obtain⟨q,S⟩:∃q,q=H2[k]:=⟨_,rfl⟩
  have D:H2[k]?=some q:=by rw[S];exact C29 P
  have ax:=qE D;have ah:=gP H2 (k+1);refine zz 8 ?_;refine A7 (A9 Z (.pure _ _ _ _) Z B1 D) Z (zz 6 ?_);rw[show (P0 H2 k:Int)+(q.Rows.length:Int)=((P0 H2 (k+1):Nat):Int) by omega];refine zz 5 ?_;exact⟨k+1,by omega,by omega,Sees.of lf lo⟩
 have O:k=H2.length:=by have E:=A1 m;(try dsimp only at E);omega
 rw[O];refine zz 4 ?_;refine D3 (G) (zz 21 ?_);refine C3 Z Z Z Z (fun F=>by have S:=F;(try simp at S);rw[F];exact I4 (qQ) Z Z) ?_;refine zz 4 ?_;exact A8 (F7 rfl rfl rfl) YN
end Go.Proofs.YtgkjogphmmoakaaGreatDoor
