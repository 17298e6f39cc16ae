/- Walks of the program's functions. -/
import Derived.Test.YtgkjogphmmoakaaGreatDoorFh
set_option linter.all false
namespace Go.Proofs.YtgkjogphmmoakaaGreatDoor
open Go Go.AL
set_option maxRecDepth 100000
set_option maxHeartbeats 4000000
theorem vN(g:Graph)(a:Nat)(ctx:Int)(d:Bool)(t x:Str)(c:Comb)(e:Int)(m:Str)(h:FewT g)(ha:a<g.length)(hx:cU (O8 g a) t=x)(hpr:∀p∈D8 g a,0<=p/\p<(g.length:Int))(S:(D8 g a).length<=3)
  (hs:SmallM x (M6 g a t)\/(M6 g a t=[]/\(B6 x).length<=128/\x.length<=512)) (hm:gX t x (M6 g a t) ctx d=(c,e)) (hc:(e≠0/\m=[])\/(e=0/\m=P6 c/\J7 c=0/\eO c.Hunks<=268435456/\∀y∈c.Hunks,K1 y.Rows)) :
  FnOk Tryz.prog 26 [G9 g,kJ ⟨4,a,0,ctx,d,t⟩] (fun rs=>rs=[E5 m,D2 e]):=by
 have B:=PK g a t h ha;rw[hx]at B;have q:=A57 t x (M6 g a t) ctx d hs;rw[hm]at q;obtain⟨j,D⟩:∃Y,Y=g[a]:=⟨_,rfl⟩
 have I:g[((a:Nat):Int).toNat]?=some j:=by rw[D];simp[ha]
 have F:D8 g a=j.Parents:=by rw[dH ha,D]
 obtain⟨r,W⟩:∃r,r=M6 g a t:=⟨_,rfl⟩
 have G:r=j.Parents.map fun p=>cU (O8 g p.toNat) t:=by rw[W];unfold M6;rw[F]
 have ab:r.length=j.Parents.length:=by rw[G,C55]
 rw[<-W]at q;rw[F]at hpr S;obtain⟨C,v⟩:∃C:Cmd,C=⟨4,a,0,ctx,d,t⟩:=⟨_,rfl⟩
 have L:C.A=(a:Int):=by rw[v]
 have z:C.Text=t:=by rw[v]
 have M:C.C=ctx:=by rw[v]
 have O:C.Dense=d:=by rw[v]
 rw[<-v];rw[<-L]at B I;rw[<-z]at B q;rw[<-M,<-O]at q;refine FnOk.intro Tryz.func26 G6 Z Z Z Z (zz 2 ?_);refine B8 (P3 3 Z Z Z) Z (zz 5 ?_);refine B8 (w9 6 _ L2 Z) Z (zz 7 ?_);refine A7 (A9 Z (.pure _ _ _ _) Z B1 I) Z (zz 6 ?_);refine C5 (X:=Nat) (fun i=>([(0,C0 Commit 3 H8 g),(3,.s (.one (.ref 3 0))),(6,.s (.one (.buf 6 Str 1 L2 (r.take i)))),(16,C0 Int 1 E3 j.Parents),(17,B2 j.Parents.length),(18,B2 i)],[(3,.box (oR C)),(6,.spare (r.take i).length 1 9)])) (fun i=>i<=j.Parents.length) (fun i=>j.Parents.length-i) 0 (Nat.zero_le _) (Sees.of lf lo) ?_;intro i hi;dsimp only at hi ⊢;have ac:(r.take i).length<=3:=by rw[C41];omega
 refine zc 5 (fun k=>?_) fun k=>?_
 ·have E:i<j.Parents.length:=by have K:=A0 k;(try dsimp only at K);omega
  have R:=hpr _ (C35 E);obtain⟨p,V⟩:∃p:Nat,j.Parents[i]=(p:Int):=⟨j.Parents[i].toNat,by omega⟩
  rw[V]at R;have J:j.Parents[i]?=some (p:Int):=by rw[C29 E,V]
  have U:=PK g p t h B1;obtain⟨b,hb⟩:∃b,b=cU (O8 g p) t:=⟨_,rfl⟩
  rw[<-hb,<-z]at U;have T:r[i]?=some b:=by rw[G,C63,J,hb];rfl
  have H:r.take (i+1)=r.take i++[b]:=by rw[List.take_add_one,T];rfl
  refine zz 5 ?_;refine A7 (A9 Z (.pure _ _ _ _) Z B1 J) Z (zz 9 ?_);refine D3 (U) (A7 (C6 (c:=L2) (ys:=[b]) (D1 Z Z Z Z F2) Z Z Z) Z (zz 3 ?_));rw[<-H];refine zz 4 ?_;exact⟨i+1,by omega,by omega,(by rw[H];exact (Sees.of lf lo))⟩
 have Q:i=r.length:=by have K:=A1 k;(try dsimp only at K);omega
 rw[Q,C44];refine K4 [(0,C0 Commit 3 H8 g),(3,.s (.one (.ref 3 0))),(6,C0 Str 1 L2 r)] [(3,.box (oR C))] (Sees.of lf lo) (zz 2 ?_);refine jI [18,17] [[],[17],[18,17]] [(0,[17]),(1,[17]),(2,[17]),(3,[17]),(4,[17]),(5,[17]),(6,[17]),(7,[17]),(8,[17]),(9,[17]),(10,[17]),(11,[17]),(12,[17]),(13,[17]),(14,[17]),(15,[17]),(16,[17]),(16,[18,17])] F6 F6 (S2 Z (B5 Z) (S2 Z (C2 Z Z Z) (S2 Z (B3 Z Z) (S2 Z (B5 Z) (S2 Z (C2 Z Z Z) (S2 Z (B5 Z) (S2 Z (C2 Z Z Z) (S2 Z (I4 (B) Z Z) (S2 Z (B3 Z Z) (S2 Z (B5 Z) (S2 Z (C2 Z Z Z) (S2 Z (B5 Z) (S2 Z (C2 Z Z Z) (S2 Z (I4 (q) Z Z) (S2 Z (B3 Z Z) (S2 Z (C9 Z Z) (S2 Z (C9 Z Z) (KO 9 Z Z (KP (lS TySz.out Z Z Z Z Z Z) (S2 Z (C1 Z Z) ?_))))))))))))))))))));refine a_nil rfl ?_ ?_
 ·refine S3 Z Z (B5 Z) (S3 Z Z (C2 Z Z Z) (S3 Z Z (B3 Z Z) (S3 Z Z (B5 Z) (S3 Z Z (C2 Z Z Z) (S3 Z Z (B5 Z) (S3 Z Z (C2 Z Z Z) (S3 Z Z (I4 (B) Z Z) (S3 Z Z (B3 Z Z) (S3 Z Z (B5 Z) (S3 Z Z (C2 Z Z Z) (S3 Z Z (B5 Z) (S3 Z Z (C2 Z Z Z) (S3 Z Z (I4 (q) Z Z) (S3 Z Z (B3 Z Z) (S3 Z Z (C9 Z Z) (S3 Z Z (C9 Z Z) (S3 Z Z (C9 Z Z) ?_)))))))))))))))));exact o_nil
 refine zz 6 ?_;rcases hc with ⟨he,rfl⟩ | ⟨rfl,rfl,hc1,hc2,hc3⟩
 ·refine zc 0 (fun k=>?_) fun k=>?_;rotate_left
  ·exact absurd he (A1 k)
  refine zz 7 ?_;exact A8 (rs:=[E5 [],D2 e]) (S8 rfl rfl rfl rfl rfl) rfl
 ·have P:=qS c hc2 hc3;rw[A5 hc1]at P;obtain⟨w,hw⟩:∃w,w=P6 c:=⟨_,rfl⟩
  rw[<-hw]at P ⊢;refine zc 0 (fun k=>?_) fun k=>?_
  ·exact absurd rfl (A0 k)
  refine zz 4 ?_;refine D3 (P) (zz 6 ?_);exact A8 (rs:=[E5 w,D2 0]) (S8 rfl rfl rfl rfl rfl) rfl
end Go.Proofs.YtgkjogphmmoakaaGreatDoor
