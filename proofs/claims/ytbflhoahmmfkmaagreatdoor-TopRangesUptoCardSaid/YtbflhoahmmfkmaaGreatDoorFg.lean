/- Walks of the program's functions. -/
import Derived.Test.YtbflhoahmmfkmaaGreatDoorFf
set_option linter.all false
namespace Go.Proofs.YtbflhoahmmfkmaaGreatDoor
open Go Go.AL
set_option maxRecDepth 100000
set_option maxHeartbeats 1000000
set_option maxHeartbeats 2000000
abbrev g0:Graph:=[⟨[],0,[⟨[120],[97,97]⟩]⟩]
abbrev bb:Str:=[97,97]
abbrev g1:Graph:=[⟨[],0,[⟨[120],bb⟩]⟩]
def pR(l:List (Int×Int)):List (List Int):=l.map fun a=>[a.1,a.2]
theorem JD(g:Graph)(c:Cmd)(l:List (Int×Int))(e:Int)(E:l.length<=5000)(x:FnOk Tryz.prog 18 [H4 g,E8 c.A,I3 c.Text] (fun rs=>rs=[.one (.list (Int×Int) 2 pH l),E8 e])) :
  FnOk Tryz.prog 39 [H4 g,dA c] (fun rs=>rs=[I3 (x8 (pR l)),E8 e]):=by
 obtain⟨L,b⟩:∃L,L=pR l:=⟨_,rfl⟩
 have y:L.length=l.length:=by rw[b];unfold pR;rw[XW]
 have C:∀ns∈L,ns.length<=2:=fun ns q=>by
  rw[b]at q;obtain⟨c,_,rfl⟩:=XU.1 q;exact Nat.le_refl _
 rw[<-b];refine FnOk.intro Tryz.func39 (by decide) Z Z Z Z ?_;refine k2 ?_;refine A7 (D6 (j1 3 Z Z Z) Z (A6 (A9 Z Z) Z (A6 (A9 Z Z) Z (B0 ?_))));refine k1 (k2 ?_);refine A7 (A6 (A8 Z Z) Z (A6 (B1 Z) Z (A6 (B2 Z Z Z) Z (A6 (B1 Z) Z (A6 (B2 Z Z Z) Z (D1 (x) Z Z Z ?_))))));rintro _ rfl;refine A6 (A8 Z Z) Z (A6 (B7 Z Z) Z (A6 (B7 Z Z) Z (A6 (A9 Z Z) Z (A6 (A9 Z Z) Z (B0 ?_)))));refine k1 (k2 ?_);refine A7 (A6 (A9 Z Z) Z (B0 ?_));refine k1 (k2 (k2 ?_));refine A7 (A6 (A8 Z Z) Z (A6 (F0 Z (.pure _ _ _ _)) Z (A6 (A8 Z Z) Z (B0 ?_))));refine k1 (k3 ?_);refine E4 (X:=Nat) (fun i=>([(7,C7 e),(8,P2 (V9 L i)),(20,E3 (Int×Int) 2 pH l),(21,C7 l.length),(22,C7 i)],[])) (fun i=>i<=l.length) (fun i=>l.length-i) 0 (Nat.zero_le _) (by dsimp only;rw[gU];exact (Sees.of ⟨B4 rfl,B4 rfl,B4 rfl,B4 rfl,B4 rfl,trivial⟩ trivial)) ?_;intro i B;dsimp only at B ⊢;have D:=dC C i;refine k2 ?_;refine A7 (A6 (F3 Z Z) Z (B0 ?_));refine k1 (k2 ?_);refine B9 rfl (fun k=>?_) (fun k=>?_)
 ·have j:i<l.length:=by have d:=A0 k;(try dsimp only at d);omega
  obtain⟨a,ha⟩:∃a,a=l[i]:=⟨_,rfl⟩
  have w:l[i]?=some a:=by rw[ha];exact WT j
  have m:L[i]?=some [a.1,a.2]:=by rw[b];unfold pR;rw[YE,w];rfl
  have v:=aP m;have z:(n9 [a.1,a.2]).length<=28:=aB [a.1,a.2] 2;refine k5 (k1 (k2 (k3 (k2 ?_))));refine A7 (A6 (B8 Z (.pure _ _ _ _) Z (by omega) w) Z (A6 (G7 Z Z) Z (D6 (I1 10 Z) Z (F7 (C1 TySz.out Z Z Z Z Z Z) (B0 ?_)))));refine k1 ?_;refine A7 (A6 (A8 Z Z) Z (A6 (B1 Z) Z (A6 (B2 Z Z Z) Z (A6 (B1 Z) Z (A6 (B2 Z Z Z) Z (A6 (D9 (c:=G1) (ys:=[a.1,a.2]) (D8 Z Z Z Z (D8 Z Z Z Z H5)) Z Z Z) Z (D1 (jN [a.1,a.2] (by simp)) Z Z Z ?_)))))));rintro _ rfl;refine A6 (K8 Z Z (by (simp;omega))) Z (A6 (A9 Z Z) Z (B0 ?_));rw[<-v];refine k4 (k1 ?_);refine A7 (A6 (D5 Z Z (by omega)) Z (A6 (A8 Z Z) Z (B0 ?_)));refine k1 ?_;exact⟨i+1,by omega,by omega,(by rw[v];exact (Sees.of ⟨B4 rfl,B4 rfl,B4 rfl,B4 rfl,B4 rfl,trivial⟩ trivial))⟩
 have f:i=L.length:=by have d:=A1 k;(try dsimp only at d);omega
 rw[f];refine k6 (k2 ?_);refine A7 (A6 (A8 Z Z) Z (A6 (A8 Z Z) Z (A6 (A9 Z Z) Z (A6 (A9 Z Z) Z (B0 ?_)))));refine k1 (I9 ?_);exact C2 (rs:=[I3 (V9 L L.length),E8 e]) (U1 rfl rfl rfl rfl rfl) rfl
abbrev gR:Graph:=[⟨[],0,[⟨[120],[97,10]⟩]⟩]
theorem EL:FewT gR:=⟨⟨by decide,by decide⟩,fun c a=>by rw[List.mem_singleton.1 a];exact⟨by decide,by decide,by decide⟩⟩
theorem TP:GB gR:=⟨by decide,(fun c a=>by rw[List.mem_singleton.1 a];exact⟨by decide,fun p d=>by cases d⟩),.inl (fun c p h=>by
  cases c with
  | zero=>cases h
  | succ c=>simp[E1]at h),(fun c a f b=>by rw[List.mem_singleton.1 a]at b;rw[List.mem_singleton.1 b];exact⟨by decide,by decide⟩)⟩
abbrev wR:List Str:=[[98,108,97,109,101],[48],[120]]
abbrev cR:Cmd:=⟨8,0,0,0,false,[120]⟩
theorem RB:x8 [[0,0]]=[99,111,109,109,105,116,32,48,32,48,10]:=by
 unfold x8 V9 n9 aO lX;simp only[WW,XD,List.take,XK,List.map_nil,JK 0 (by decide) (by decide)];decide
theorem MV:FnOk Tryz.prog 54 [H4 gR,I3 (T5 wR)] (fun rs=>rs=[I3 (fV (T5 wR) (x8 [[0,0]]) 0)]):=by
 have b:=DU wR (by decide) (by decide) (by decide);rw[show nO wR=(cR,0) by kernel_rfl]at b;have a:=vG gR 0 [120] [97,10] EL TP (by kernel_rfl) (by kernel_rfl);rw[show W4 gR [120] 0 (D4 [97,10]).length=[(0,0)] by kernel_rfl]at a;have d:=JD gR cR [(0,0)] 0 (by decide) a;have c:=DV gR cR (x8 [[0,0]]) 0 EL (by kernel_rfl) (by decide) (by kernel_rfl) (by decide) (fun h=>absurd h (by decide)) (by decide) ⟨fun h=>absurd h (by decide),fun h=>absurd h (by decide),fun h=>absurd h (by decide),fun h=>absurd h (by decide),fun h=>absurd h (by decide),fun _=>d,fun h=>absurd h (by decide)⟩;exact AN gR (T5 wR) cR 0 (x8 [[0,0]]) 0 (by decide) (by rw[RB];decide) b fun _=>c
theorem rR:FnOk Tryz.prog 8 [] (fun rs=>rs=[H6 true]):=by
 have g:=OZ gR [98,108,97,109,101,32,48,32,120,10] [T5 wR] [fV (T5 wR) (x8 [[0,0]]) 0] EL (by kernel_rfl) (by decide) (by kernel_rfl) rfl (fun i j o d k=>by
  cases i with
  | zero =>
   cases d;cases k;exact MV
  | succ i=>simp at d) (by unfold fV;rw[RB];decide) (by decide)
 have m:[fV (T5 wR) (x8 [[0,0]]) 0].flatten=[62,32,98,108,97,109,101,32,48,32,120,10,99,111,109,109,105,116,32,48,32,48,10]:=by unfold fV;rw[RB];decide
 rw[m]at g;refine FnOk.intro Tryz.func8 (by decide) Z Z Z Z ?_;refine k2 ?_;refine A7 (A6 (A9 Z Z) Z (B0 ?_));refine k1 (k2 ?_);refine A7 (A6 (H1 Z) Z (A6 (D9 (c:=Z9) (ys:=[(⟨[120],[97,10]⟩:File)]) (D8 Z Z Z Z H5) Z Z Z) Z (A6 (H1 Z) Z (QS ((WO Int 1 G1 6 0 Z Z)) (A6 (D9 (c:=H3) (ys:=gR) (D8 Z Z Z Z H5) Z Z Z) Z (A6 (A9 Z Z) Z (B0 ?_)))))));refine k1 (k2 ?_);refine A7 (A6 (A8 Z Z) Z (D1 (g) Z Z Z ?_));rintro _ rfl;refine A6 (A8 Z Z) Z (A6 (B7 Z Z) Z (A6 (B7 Z Z) Z (A6 (A9 Z Z) Z (A6 (A9 Z Z) Z (B0 ?_)))));refine k1 (k2 ?_);refine A7 (A6 (A8 Z Z) Z (A6 (K4 Z Z) Z (A6 (A8 Z Z) Z (B6 Z Z Z Z (fun b=>by rw[b];exact A8 Z Z) ?_))));refine B6 Z Z Z Z (fun b=>by rw[b];exact aV Z Z) ?_;refine A6 (C6 Z (fun h=>by first | rfl | (rw[h];rfl)) (fun h=>by first | rfl | (rw[h];rfl))) Z ?_;refine A6 (A9 Z Z) Z (B0 ?_);refine k1 (I9 ?_);exact C2 (rs:=[H6 true]) (J5 rfl rfl rfl) rfl
def JE(s:Span)(n:Nat):Prop:=0<=s.From/\s.From<s.To/\s.To<=n
abbrev iA(s:Span):PV:=.agg [.v (.int .i64 s.From),.v (.int .i64 s.To)]
theorem vL(x y:List Str)(m n:Int)(s:Span)(R:x.length<=4096)(hy:y.length<=4096)(V:m=x.length)(Y:n=y.length)(hs:JE s y.length) :
  FnOk Tryz.prog 276 [pChanges (P1 x y),E8 m,E8 n,iA s] (fun rs=>rs=[O6 (L9 x y s),E8 0]):=by
 have g:=jW x y R hy;have H:=vC x y (P1 x y) m n V Y (lG R) g;have z:=g.pairs;rw[<-KS];obtain⟨N,D⟩:∃N,N=P1 x y:=⟨_,rfl⟩
 rw[<-D]at H z ⊢;obtain⟨ms,l⟩:∃ms,ms=R1 N x.length:=⟨_,rfl⟩
 have W:ms.length<=4096:=by
  rw[l,D];obtain⟨⟨_,ha⟩,⟨_,hb⟩,K⟩:=nF g.check;exact oH (by omega) K
 rw[<-l]at H z ⊢;obtain⟨F,j,O⟩:=hs;obtain⟨w,L⟩:∃w,w=wid s:=⟨_,rfl⟩
 have M:s.To-s.From=(w:Int):=by rw[L];unfold wid;omega
 refine FnOk.intro Tryz.func276 (by decide) Z Z Z Z ?_;refine k2 ?_;refine A7 (D6 (j1 7 Z Z Z) Z (A6 (J1 _ 1 G1) Z (A6 (A9 Z Z) Z (B0 ?_))));refine k1 (k2 ?_);refine A7 (A6 (A8 Z Z) Z (A6 (A8 Z Z) Z (A6 (A8 Z Z) Z (D1 (H) Z Z Z ?_))));rintro _ rfl;refine A6 (A8 Z Z) Z (A6 (B7 Z Z) Z (A6 (B7 Z Z) Z (A6 (A9 Z Z) Z (A6 (A9 Z Z) Z (B0 ?_)))));refine k1 (k2 (k2 ?_));refine A7 (A6 (A8 Z Z) Z (A6 (N5 Z Z) Z (B0 ?_)));refine k1 ?_;refine B9 rfl (fun d=>?_) (fun d=>?_)
 ·exact absurd rfl (A0 d)
 refine k5 (k1 (k2 (k2 ?_)));refine A7 (A6 (B1 Z) Z (A6 (B2 Z Z Z) Z (A6 (F3 Z Z) Z (A6 (A8 Z Z) Z (B6 Z Z Z Z (fun c=>by rw[c];exact B1 Z) ?_)))));refine B6 Z Z Z Z (fun c=>by rw[c];exact B2 Z Z Z) ?_;refine B6 Z Z Z Z (fun c=>by rw[c];exact B1 Z) ?_;refine B6 Z Z Z Z (fun c=>by rw[c];exact B2 Z Z Z) ?_;refine B6 Z Z Z Z (fun c=>by rw[c];exact U7 Z Z) ?_;refine A6 (C6 Z (fun h=>by first | rfl | (rw[h];rfl)) (fun h=>by first | rfl | (rw[h];rfl))) Z ?_;refine A6 (A8 Z Z) Z (B6 Z Z Z Z (fun c=>by rw[c];exact B1 Z) ?_);refine B6 Z Z Z Z (fun c=>by rw[c];exact B2 Z Z Z) ?_;refine B6 Z Z Z Z (fun c=>by rw[c];exact A8 Z Z) ?_;refine B6 Z Z Z Z (fun c=>by rw[c];exact P5 Z Z) ?_;refine A6 (C6 Z (fun h=>by first | rfl | (rw[h];rfl)) (fun h=>by first | rfl | (rw[h];rfl))) Z ?_;refine B0 ?_;refine k1 ?_;refine B9 rfl (fun d=>?_) (fun d=>?_)
 ·exfalso;rw[or_pick,or_pick]at d;have:=A0 d;omega
 refine Y9 [(7,.s (.one (.ref 7 0))),(10,E3 Span 2 spanC ms)] [(7,.box [.p (.v (.int .i64 s.From)),.p (.v (.int .i64 s.To))])] (Sees.of ⟨B4 rfl,B4 rfl,trivial⟩ ⟨rfl,trivial⟩) ?_;refine k5 (k1 (k2 ?_));refine A7 (A6 (B1 Z) Z (A6 (B2 Z Z Z) Z (A6 (B1 Z) Z (A6 (B2 Z Z Z) Z (A6 (O5 Z Z (by omega)) Z (D6 (aZ 751 Int G1 0 Z Z (by omega) (by omega) (fun _=>by first | exact⟨⟨rfl,rfl⟩,trivial⟩ | exact⟨I5 _ _ _,trivial⟩ | exact⟨I5 _ _ _,⟨rfl,rfl⟩,I5 _ _ _,trivial⟩ | exact⟨⟨rfl,rfl⟩,⟨rfl,rfl⟩,trivial⟩) (by first | rfl | (simp[I2,M9,Ob.free,SV.free,S1.free,TC.free]<;>rfl))) Z ?_))))));refine A6 (A9 Z Z) Z (B0 ?_);rw[M,WV];refine k1 (k2 (k2 ?_));refine A7 (A6 (A8 Z Z) Z (A6 (cP Z Z) Z (A6 (A8 Z Z) Z (B0 ?_))));refine k1 (k3 ?_);refine E4 (X:=Nat) (fun i=>([(7,.s (.one (.ref 7 0))),(10,E3 Span 2 spanC ms),(12,.s (.one (.mut 751))),(49,C7 w),(50,C7 i)],[(7,.box [.p (.v (.int .i64 s.From)),.p (.v (.int .i64 s.To))]),(751,.arr Int 1 G1 (gE w i))])) (fun i=>i<=w) (fun i=>w-i) 0 (Nat.zero_le _) (by dsimp only;rw[sZ];exact (Sees.of ⟨B4 rfl,B4 rfl,B4 rfl,TI Z (by first | (simp;done) | (simp;omega)),B4 rfl,trivial⟩ ⟨rfl,rfl,trivial⟩)) ?_;intro i Q;dsimp only at Q ⊢;have C:=wI Q;refine k2 ?_;refine A7 (A6 (F3 Z Z) Z (B0 ?_));refine k1 (k2 ?_);refine B9 rfl (fun d=>?_) (fun d=>?_)
 ·have q:i<w:=by have j:=A0 d;(try dsimp only at j);omega
  have E:=wJ q;refine k5 (k1 (k2 (k3 (k2 ?_))));refine A7 (A6 (A8 Z Z) Z (A6 (A9 Z Z) Z (B0 ?_)));refine k1 ?_;refine A7 (A6 (A8 Z Z) Z (A6 (A8 Z Z) Z (A6 (E2 Z Z Z (by omega) (by (rw[C];omega))) Z ?_)));refine F7 (J8 TySz.out Z Z (by (rw[C];omega)) Z Z) ?_;refine B0 ?_;rw[WV,E];refine k4 (k1 ?_);refine A7 (A6 (D5 Z Z (by omega)) Z (A6 (A8 Z Z) Z (B0 ?_)));refine k1 ?_;exact⟨i+1,by omega,by omega,Sees.of ⟨B4 rfl,B4 rfl,B4 rfl,B4 rfl,B4 rfl,trivial⟩ ⟨rfl,rfl,trivial⟩⟩
 have I:i=w:=by have j:=A1 d;(try dsimp only at j);omega
 rw[I,wK];have S:=FM (ms:=ms) F j O;rw[<-L]at S;rw[<-S];refine k6 (k2 (k2 ?_));refine A7 (A6 (A8 Z Z) Z (A6 (F0 Z (.pure _ _ _ _)) Z (A6 (A8 Z Z) Z (B0 ?_))));refine k1 (k3 ?_);refine E4 (X:=Nat) (fun k=>([(7,.s (.one (.ref 7 0))),(12,.s (.one (.mut 751))),(57,E3 Span 2 spanC ms),(58,C7 ms.length),(59,C7 k)],[(7,.box [.p (.v (.int .i64 s.From)),.p (.v (.int .i64 s.To))]),(751,.arr Int 1 G1 (aT ms y.length s k))])) (fun k=>k<=ms.length) (fun k=>ms.length-k) 0 (Nat.zero_le _) (Sees.of ⟨B4 rfl,B4 rfl,B4 rfl,B4 rfl,B4 rfl,trivial⟩ ⟨rfl,rfl,trivial⟩) ?_;intro k U;dsimp only at U ⊢;have B:=KQ (ms:=ms) (k:=k) F j O;rw[<-L]at B;refine k2 ?_;refine A7 (A6 (F3 Z Z) Z (B0 ?_));refine k1 (k2 ?_);refine B9 rfl (fun d=>?_) (fun d=>?_);rotate_left
 ·have J:k=ms.length:=by have j:=A1 d;(try dsimp only at j);omega
  rw[J];refine G8 (Sees.freeze (k:=751) Z) ?_;refine k6 (k2 ?_);refine A7 (A6 (A8 Z Z) Z (A6 (A9 Z Z) Z (A6 (A9 Z Z) Z (B0 ?_))));refine k1 (I9 ?_);exact C2 (rs:=[O6 (aT ms y.length s ms.length),E8 0]) (U1 rfl rfl rfl rfl rfl) rfl
 have q:k<ms.length:=by have j:=A0 d;(try dsimp only at j);omega
 obtain⟨p,hp⟩:∃p,p=ms[k]:=⟨_,rfl⟩
 have G:ms[k]?=some p:=by rw[hp];exact WT q
 obtain⟨_,p2,v,_,p4⟩:=z p (XL G);obtain⟨p5,_⟩:=List.getElem?_eq_some_iff.1 p4;refine k5 (k1 (k2 (k3 (k2 ?_))));refine A7 (A6 (B8 Z (.pure _ _ _ _) Z (by omega) G) Z (A6 (G7 Z Z) Z (D6 (I1 15 Z) Z (F7 (C1 TySz.out Z Z Z Z Z Z) (B0 ?_)))));refine k1 (k2 ?_);refine A7 (A6 (B1 Z) Z (A6 (B2 Z Z Z) Z (A6 (B1 Z) Z (A6 (B2 Z Z Z) Z (A6 (U7 Z Z) Z (A6 (A8 Z Z) Z (B6 Z Z Z Z (fun c=>by rw[c];exact B1 Z) ?_)))))));refine B6 Z Z Z Z (fun c=>by rw[c];exact B2 Z Z Z) ?_;refine B6 Z Z Z Z (fun c=>by rw[c];exact B1 Z) ?_;refine B6 Z Z Z Z (fun c=>by rw[c];exact B2 Z Z Z) ?_;refine B6 Z Z Z Z (fun c=>by rw[c];exact F3 Z Z) ?_;refine A6 (C6 Z (fun h=>by first | rfl | (rw[h];rfl)) (fun h=>by first | rfl | (rw[h];rfl))) Z ?_;refine B0 ?_;refine k1 ?_;refine B9 rfl (fun d=>?_) (fun d=>?_)
 ·rw[and_pick]at d;obtain⟨P,T⟩:=A0 d;have A:=NV (n:=y.length) G F (by omega) T;refine Y9 [(7,.s (.one (.ref 7 0))),(12,.s (.one (.mut 751))),(15,.s (.one (.ref 15 0))),(57,E3 Span 2 spanC ms),(58,C7 ms.length),(59,C7 k)] [(7,.box [.p (.v (.int .i64 s.From)),.p (.v (.int .i64 s.To))]),(15,.box [.p (.v (.int .i64 p.From)),.p (.v (.int .i64 p.To))]),(751,.arr Int 1 G1 (aT ms y.length s k))] (Sees.of ⟨B4 rfl,B4 rfl,B4 rfl,B4 rfl,B4 rfl,B4 rfl,trivial⟩ ⟨rfl,rfl,rfl,trivial⟩) ?_;skip;refine A7 (A6 (A8 Z Z) Z (A6 (B1 Z) Z (A6 (B2 Z Z Z) Z (A6 (B1 Z) Z (A6 (B2 Z Z Z) Z (A6 (O5 Z Z (by omega)) Z (A6 (B1 Z) Z (A6 (B2 Z Z Z) Z (A6 (E2 Z Z Z (by omega) (by (rw[B];omega))) Z ?_)))))))));refine F7 (J8 TySz.out Z Z (by (rw[B];omega)) Z Z) ?_;refine B0 ?_;rw[<-A];refine k4 (k1 ?_);refine A7 (A6 (D5 Z Z (by omega)) Z (A6 (A8 Z Z) Z (B0 ?_)));refine k1 ?_;exact⟨k+1,by omega,by omega,Sees.of ⟨B4 rfl,B4 rfl,B4 rfl,B4 rfl,B4 rfl,trivial⟩ ⟨rfl,rfl,trivial⟩⟩
 ·rw[and_pick]at d;have P:=A1 d;have A:=KR (n:=y.length) G F p2 (fun h=>P ⟨by omega,h.2⟩);refine k5 (k4 (k1 ?_));refine A7 (A6 (D5 Z Z (by omega)) Z (A6 (A8 Z Z) Z (B0 ?_)));refine k1 ?_;exact⟨k+1,by omega,by omega,(by rw[A];exact (Sees.of ⟨B4 rfl,B4 rfl,B4 rfl,B4 rfl,B4 rfl,trivial⟩ ⟨rfl,rfl,trivial⟩))⟩
theorem vM(a b:Span):FnOk Tryz.prog 217 [iA a,iA b] (fun rs=>rs=[iA (Y2 a b)]):=by
 obtain⟨R,m⟩:∃R,R=Y2 a b:=⟨_,rfl⟩
 have c:=m;unfold Y2 at c;rw[<-m];refine FnOk.intro Tryz.func217 (by decide) Z Z Z Z ?_;refine k2 ?_;refine A7 (D6 (j1 2 Z Z Z) Z (D6 (j1 3 Z Z Z) Z (D6 (I1 4 Z) Z (B0 ?_))));refine k1 (k2 (k3 (k2 ?_)));refine A7 (A6 (B1 Z) Z (A6 (B2 Z Z Z) Z (A6 (B1 Z) Z (A6 (B2 Z Z Z) Z (A6 (U7 Z Z) Z (A6 (A8 Z Z) Z (B6 Z Z Z Z (fun g=>by rw[g];exact B1 Z) ?_)))))));refine B6 Z Z Z Z (fun g=>by rw[g];exact B2 Z Z Z) ?_;refine B6 Z Z Z Z (fun g=>by rw[g];exact B1 Z) ?_;refine B6 Z Z Z Z (fun g=>by rw[g];exact B2 Z Z Z) ?_;refine B6 Z Z Z Z (fun g=>by rw[g];exact U7 Z Z) ?_;refine A6 (C6 Z (fun h=>by first | rfl | (rw[h];rfl)) (fun h=>by first | rfl | (rw[h];rfl))) Z ?_;refine A6 (A9 Z Z) Z (B0 ?_);refine k1 ?_;refine B9 rfl (fun d=>?_) (fun d=>?_)
 ·rw[and_pick]at d;have j:a.To<=a.From/\b.To<=b.From:=by have:=A0 d;omega
  rw[A4 j]at c;refine k2 ?_;refine A7 (A6 (H1 Z) Z (F7 (C1 TySz.out Z Z Z Z Z Z) (B0 ?_)));refine k1 (I9 (W5 (N4 ?_)));exact C2 (rs:=[iA ⟨0,0⟩]) (retc rfl rfl rfl rfl rfl) (by rw[c])
 have j:¬(a.To<=a.From/\b.To<=b.From):=by
  rw[and_pick]at d;have:=A1 d;omega
 rw[A5 j]at c;refine Y9 [(2,.s (.one (.ref 2 0))),(3,.s (.one (.ref 3 0))),(4,.s (.one (.ref 4 0)))] [(2,.box [.p (.v (.int .i64 a.From)),.p (.v (.int .i64 a.To))]),(3,.box [.p (.v (.int .i64 b.From)),.p (.v (.int .i64 b.To))]),(4,.box [.p (.v (.int .i64 0)),.p (.v (.int .i64 0))])] (Sees.of ⟨B4 rfl,B4 rfl,B4 rfl,trivial⟩ ⟨rfl,rfl,rfl,trivial⟩) ?_;refine k2 ?_;refine A7 (A6 (B1 Z) Z (A6 (B2 Z Z Z) Z (A6 (B1 Z) Z (A6 (B2 Z Z Z) Z (A6 (U7 Z Z) Z (A6 (A9 Z Z) Z (B0 ?_)))))));refine k1 ?_;refine B9 rfl (fun d=>?_) (fun d=>?_)
 ·have k:a.To<=a.From:=by have:=A0 d;omega
  rw[A4 k]at c;refine k2 ?_;refine A7 (A6 (F1 Z Z Z) Z (F7 (C1 TySz.out Z Z Z Z Z Z) (B0 ?_)));refine k1 (I9 (W5 (N4 ?_)));exact C2 (rs:=[iA b]) (retc rfl rfl rfl rfl rfl) (by rw[c])
 have k:¬a.To<=a.From:=by have:=A1 d;omega
 rw[A5 k]at c;refine k2 ?_;refine A7 (A6 (B1 Z) Z (A6 (B2 Z Z Z) Z (A6 (B1 Z) Z (A6 (B2 Z Z Z) Z (A6 (U7 Z Z) Z (A6 (A9 Z Z) Z (B0 ?_)))))));refine k1 ?_;refine B9 rfl (fun d=>?_) (fun d=>?_)
 ·have l:b.To<=b.From:=by have:=A0 d;omega
  rw[A4 l]at c;refine k2 ?_;refine A7 (A6 (F1 Z Z Z) Z (F7 (C1 TySz.out Z Z Z Z Z Z) (B0 ?_)));refine k1 (I9 (W5 (N4 ?_)));exact C2 (rs:=[iA a]) (retc rfl rfl rfl rfl rfl) (by rw[c])
 have l:¬b.To<=b.From:=by have:=A1 d;omega
 rw[A5 l]at c;refine k5 (k2 ?_);refine A7 (A6 (B1 Z) Z (A6 (B2 Z Z Z) Z (A6 (B1 Z) Z (A6 (B2 Z Z Z) Z (A6 (zE Z Z) Z (A6 (B1 Z) Z (A6 (B2 Z Z Z) Z (A6 (B1 Z) Z (A6 (B2 Z Z Z) Z (A6 (TG Z Z) Z (A6 (H1 Z) Z (F7 (C1 TySz.out Z Z Z Z Z Z) (B0 ?_)))))))))))));refine k1 (I9 ?_);have q:(if b.From<a.From then b.From else a.From)=min a.From b.From:=by split<;>omega
 have u:(if b.To>a.To then b.To else a.To)=max a.To b.To:=by split<;>omega
 exact C2 (rs:=[iA ⟨if b.From<a.From then b.From else a.From,if b.To>a.To then b.To else a.To⟩]) (retc rfl rfl rfl rfl rfl) (by rw[c,q,u])
theorem JF(x y:List Str)(m n:Int)(s:Span)(H:x.length<=4096)(I:y.length<=4096)(O:m=x.length)(Q:n=y.length)(S:JE s y.length) :
  FnOk Tryz.prog 216 [pChanges (P1 x y),E8 m,E8 n,iA s] (fun rs=>rs=[iA (eK (L9 x y s)).1,H6 (eK (L9 x y s)).2,E8 0]):=by
 have G:=vL x y m n s H I O Q S;have j:∀i∈L9 x y s,-1<=i/\i<4096:=fun i B=>CC H I (List.mem_of_mem_drop (List.mem_of_mem_take B));have q:(L9 x y s).length<=4096:=by
  unfold L9;rw[XG,XS,mH];omega
 obtain⟨P,L⟩:∃P,P=L9 x y s:=⟨_,rfl⟩
 rw[<-L]at G j q ⊢;obtain⟨z,J⟩:∃z:Span×Bool,z=(⟨0,0⟩,false):=⟨_,rfl⟩
 have d:eK P=P8 (P.take P.length) z:=by rw[XF,J];rfl
 rw[d];refine FnOk.intro Tryz.func216 (by decide) Z Z Z Z ?_;refine k2 ?_;refine A7 (D6 (j1 7 Z Z Z) Z (D6 (I1 8 Z) Z (A6 (A9 Z Z) Z (A6 (A9 Z Z) Z (B0 ?_)))));refine k1 (k2 ?_);refine A7 (A6 (A8 Z Z) Z (A6 (A8 Z Z) Z (A6 (A8 Z Z) Z (A6 (F1 Z Z Z) Z (D1 (G) Z Z Z ?_)))));rintro _ rfl;refine A6 (A8 Z Z) Z (A6 (B7 Z Z) Z (A6 (B7 Z Z) Z (A6 (A9 Z Z) Z (A6 (A9 Z Z) Z (B0 ?_)))));refine k1 (k2 (k2 ?_));refine A7 (A6 (A8 Z Z) Z (A6 (N5 Z Z) Z (B0 ?_)));refine k1 ?_;refine B9 rfl (fun c=>?_) (fun c=>?_)
 ·exact absurd rfl (A0 c)
 refine k5 (k1 (k2 ?_));refine A7 (D6 (I1 13 Z) Z (B0 ?_));refine k1 (k2 ?_);refine A7 (A6 (A9 Z Z) Z (B0 ?_));refine k1 (k2 (k2 ?_));refine A7 (A6 (A8 Z Z) Z (A6 (F0 Z (.pure _ _ _ _)) Z (A6 (A8 Z Z) Z (B0 ?_))));refine k1 (k3 ?_);refine E4 (X:=Nat) (fun k=>([(8,.s (.one (.ref 8 0))),(13,.s (.one (.ref 13 0))),(14,R6 (P8 (P.take k) z).2),(29,E3 Int 1 G1 P),(30,C7 P.length),(31,C7 k)],[(8,.box [.p (.v (.int .i64 0)),.p (.v (.int .i64 0))]),(13,.box [.p (.v (.int .i64 (P8 (P.take k) z).1.From)),.p (.v (.int .i64 (P8 (P.take k) z).1.To))])])) (fun k=>k<=P.length) (fun k=>P.length-k) 0 (Nat.zero_le _) (by dsimp only;rw[List.take_zero,J];exact (Sees.of ⟨B4 rfl,B4 rfl,B4 rfl,B4 rfl,B4 rfl,B4 rfl,trivial⟩ ⟨rfl,rfl,trivial⟩)) ?_;intro k N;dsimp only at N ⊢;refine k2 ?_;refine A7 (A6 (F3 Z Z) Z (B0 ?_));refine k1 (k2 ?_);refine B9 rfl (fun c=>?_) (fun c=>?_);rotate_left
 ·have C:k=P.length:=by have A:=A1 c;(try dsimp only at A);omega
  rw[C];refine k6 (k2 ?_);refine A7 (A6 (F1 Z Z Z) Z (A6 (A8 Z Z) Z (F7 (C1 TySz.out Z Z Z Z Z Z) (A6 (A9 Z Z) Z (A6 (A9 Z Z) Z (B0 ?_))))));refine k1 (I9 ?_);exact C2 (rs:=[iA (P8 (P.take P.length) z).1,H6 (P8 (P.take P.length) z).2,E8 0]) (TJ rfl rfl rfl rfl rfl rfl rfl rfl rfl) rfl
 have D:k<P.length:=by have A:=A0 c;(try dsimp only at A);omega
 obtain⟨i,B⟩:∃i,i=P[k]:=⟨_,rfl⟩
 have E:P[k]?=some i:=by rw[B];exact WT D
 have a:=KT E z;have M:=j i (XL E);obtain⟨r,R⟩:∃r,r=P8 (P.take k) z:=⟨_,rfl⟩
 rw[<-R]at a ⊢;have K:=vM r.1 ⟨i,i+1⟩;refine k5 (k1 (k2 (k3 (k2 ?_))));refine A7 (A6 (B8 Z (.pure _ _ _ _) Z (by omega) E) Z (A6 (C0 Z Z) Z (A6 (A9 Z Z) Z (B0 ?_))));refine k1 (k2 ?_);refine A7 (A6 (A8 Z Z) Z (A6 (U7 Z Z) Z (B0 ?_)));refine k1 ?_;refine B9 rfl (fun c=>?_) (fun c=>?_)
 ·have w:0<=i:=A0 c;rw[A4 w]at a;refine k2 ?_;refine A7 (A6 (F1 Z Z Z) Z (A6 (A8 Z Z) Z (A6 (A8 Z Z) Z (A6 (D5 Z Z (by omega)) Z (A6 (H1 Z) Z (D1 (K) Z Z Z ?_))))));rintro _ rfl;refine F7 (C1 TySz.out Z Z Z Z Z Z) (B0 ?_);refine k1 ?_;refine A7 (A6 (A9 Z Z) Z (B0 ?_));refine k4 (k1 ?_);refine A7 (A6 (D5 Z Z (by omega)) Z (A6 (A8 Z Z) Z (B0 ?_)));refine k1 ?_;exact⟨k+1,by omega,by omega,(by rw[a];exact (Sees.of ⟨B4 rfl,B4 rfl,B4 rfl,B4 rfl,B4 rfl,B4 rfl,trivial⟩ ⟨rfl,rfl,trivial⟩))⟩
 ·have w:¬0<=i:=A1 c;rw[A5 w]at a;refine k5 (k4 (k1 ?_));refine A7 (A6 (D5 Z Z (by omega)) Z (A6 (A8 Z Z) Z (B0 ?_)));refine k1 ?_;exact⟨k+1,by omega,by omega,(by rw[a];exact (Sees.of ⟨B4 rfl,B4 rfl,B4 rfl,B4 rfl,B4 rfl,B4 rfl,trivial⟩ ⟨rfl,rfl,trivial⟩))⟩
theorem EM(x y:List Str)(m n:Int)(s:Span)(Q:x.length<=4096)(R:y.length<=4096)(U:m=x.length)(V:n=y.length)(W:JE s y.length) :
  FnOk Tryz.prog 218 [pChanges (P1 x y),E8 m,E8 n,iA s] (fun rs=>rs=[H6 (bV (L9 x y s)),E8 0]):=by
 have M:=vL x y m n s Q R U V W;have z:∀i∈L9 x y s,-1<=i/\i<4096:=fun i F=>CC Q R (List.mem_of_mem_drop (List.mem_of_mem_take F));have E:(L9 x y s).length<=4096:=by
  unfold L9;rw[XG,XS,mH];omega
 obtain⟨P,S⟩:∃P,P=L9 x y s:=⟨_,rfl⟩
 rw[<-S]at M z E ⊢;refine FnOk.intro Tryz.func218 (by decide) Z Z Z Z ?_;refine k2 ?_;refine A7 (D6 (j1 7 Z Z Z) Z (A6 (A9 Z Z) Z (A6 (A9 Z Z) Z (B0 ?_))));refine k1 (k2 ?_);refine A7 (A6 (A8 Z Z) Z (A6 (A8 Z Z) Z (A6 (A8 Z Z) Z (A6 (F1 Z Z Z) Z (D1 (M) Z Z Z ?_)))));rintro _ rfl;refine A6 (A8 Z Z) Z (A6 (B7 Z Z) Z (A6 (B7 Z Z) Z (A6 (A9 Z Z) Z (A6 (A9 Z Z) Z (B0 ?_)))));refine k1 (k2 (k2 ?_));refine A7 (A6 (A8 Z Z) Z (A6 (N5 Z Z) Z (B0 ?_)));refine k1 ?_;refine B9 rfl (fun f=>?_) (fun f=>?_)
 ·exact absurd rfl (A0 f)
 refine k5 (k1 (k2 (k2 ?_)));refine A7 (A6 (A8 Z Z) Z (A6 (F0 Z (.pure _ _ _ _)) Z (A6 (A8 Z Z) Z (B0 ?_))));refine k1 (k3 ?_);refine E4 (X:=Nat) (fun k=>([(25,E3 Int 1 G1 P),(26,C7 P.length),(27,C7 k),(10,E3 Int 1 G1 P)],[])) (fun k=>k<=P.length/\∀j,j<k->bU P j=false) (fun k=>P.length-k) 0 ⟨Nat.zero_le _,fun j J=>absurd J (by omega)⟩ (Sees.of ⟨B4 rfl,B4 rfl,B4 rfl,B4 rfl,trivial⟩ trivial) ?_;rintro k ⟨T,w⟩;dsimp only at T w ⊢;refine k2 ?_;refine A7 (A6 (F3 Z Z) Z (B0 ?_));refine k1 (k2 ?_);refine B9 rfl (fun f=>?_) (fun f=>?_);rotate_left
 ·have K:k=P.length:=by have G:=A1 f;(try dsimp only at G);omega
  have d:=KU w K;refine k6 (k2 ?_);refine A7 (A6 (A9 Z Z) Z (A6 (A9 Z Z) Z (B0 ?_)));refine k1 (I9 ?_);exact C2 (rs:=[H6 false,E8 0]) (U1 rfl rfl rfl rfl rfl) (by rw[d])
 have v:k<P.length:=by have G:=A0 f;(try dsimp only at G);omega
 have L:P[k]?=some (P.getD k 0):=UC v;have B:0<k->P[((k:Int)-1).toNat]?=some (P.getD (k-1) 0):=fun h=>by
  rw[show ((k:Int)-1).toNat=k-1 by omega];exact UC (by omega)
 have H:=z _ (XL L);obtain⟨i,F⟩:∃i,i=P.getD k 0:=⟨_,rfl⟩
 obtain⟨i0,D⟩:∃i,i=P.getD (k-1) 0:=⟨_,rfl⟩
 have q:bU P k=(decide (i<0)||(decide (0<k)&&decide (i≠i0+1))):=by unfold bU;rw[<-F,<-D]
 rw[<-F]at L H;rw[<-D]at B;have I:0<k -> -1<=i0/\i0<4096:=fun h=>z _ (XL (B h));refine k5 (k1 (k2 (k3 (k2 ?_))));refine A7 (A6 (A8 Z Z) Z (A6 (B8 Z (.pure _ _ _ _) Z (by omega) L) Z (A6 (C0 Z Z) Z (A6 (A9 Z Z) Z (A6 (A9 Z Z) Z (B0 ?_))))));refine k1 (k2 ?_);by_cases c:i<0
 ·have C:bU P k=true:=by rw[q,A2 c,Bool.true_or]
  have d:=wT v C;refine A7 (A6 (A8 Z Z) Z (A6 (F3 Z Z) Z (A6 (A8 Z Z) Z (M3 Z Z Z (by simp[c]) Z (M3 Z Z Z (by simp[c]) Z (M3 Z Z Z (by simp[c]) Z (bT Z Z Z Z (bT Z Z Z Z (bT Z Z Z Z (bT Z Z Z Z (bT Z Z Z Z (bT Z Z Z Z (bT Z Z Z Z (bT Z Z Z Z (M3 Z Z Z (by simp[c]) Z (A6 (m7 Z ((by simp[c])) Z) Z (B0 ?_)))))))))))))))));refine k1 ?_;refine B9 rfl (fun f=>?_) (fun f=>?_);rotate_left
  ·cases f
  refine k2 ?_;refine A7 (A6 (A9 Z Z) Z (A6 (A9 Z Z) Z (B0 ?_)));refine k1 (I9 (W5 (N4 (N4 (W5 (N4 ?_))))));exact C2 (rs:=[H6 true,E8 0]) (U1 rfl rfl rfl rfl rfl) (by rw[d])
 by_cases b:0<k
 ·rw[A3 c,Bool.false_or,A2 b,Bool.true_and]at q;have O:=I b;refine A7 (A6 (A8 Z Z) Z (A6 (F3 Z Z) Z (A6 (A8 Z Z) Z (K0 Z Z Z (by simp[c]) (A6 (A8 Z Z) Z (K0 Z Z Z (by simp[c]) (A6 (P5 Z Z) Z (K0 Z Z Z (by simp[c]) (A6 (A8 Z Z) Z (K0 Z Z Z (by simp[b]) (A6 (A8 Z Z) Z (K0 Z Z Z (by simp[b]) (A6 (A8 Z Z) Z (K0 Z Z Z (by simp[b]) (A6 (A8 Z Z) Z (K0 Z Z Z (by simp[b]) (A6 (O5 Z Z (by omega)) Z (K0 Z Z Z (by simp[b]) (A6 (B8 Z (.pure _ _ _ _) Z (by omega) (B b)) Z (K0 Z Z Z (by simp[b]) (A6 (C0 Z Z) Z (K0 Z Z Z (by simp[b]) (A6 (D5 Z Z (by omega)) Z ?_)))))))))))))))))))))));refine K0 Z Z Z (by simp[b]) (A6 (N5 Z Z) Z (K0 Z Z Z (by simp[c]) (A6 (m7 Z ((by simp[b])) Z) Z (A6 (P0 Z ((by simp[c])) Z) Z (B0 ?_)))));refine k1 ?_;refine B9 rfl (fun f=>?_) (fun f=>?_)
  ·have A:i≠i0+1:=A0 f;have d:=wT v (by rw[q];exact A2 A);refine k2 ?_;refine A7 (A6 (A9 Z Z) Z (A6 (A9 Z Z) Z (B0 ?_)));refine k1 (I9 (W5 (N4 (N4 (W5 (N4 ?_))))));exact C2 (rs:=[H6 true,E8 0]) (U1 rfl rfl rfl rfl rfl) (by rw[d])
  ·have A:¬i≠i0+1:=A1 f;refine k5 (k4 (k1 ?_));refine A7 (A6 (D5 Z Z (by omega)) Z (A6 (A8 Z Z) Z (B0 ?_)));refine k1 ?_;refine⟨k+1,⟨v,fun j J=>?_⟩,by omega,(Sees.of ⟨B4 rfl,B4 rfl,B4 rfl,B4 rfl,trivial⟩ trivial)⟩;by_cases e:j=k
   ·rw[e,q];exact A3 A
   ·exact w j (by omega)
 ·rw[A3 c,Bool.false_or,A3 b,Bool.false_and]at q;refine A7 (A6 (A8 Z Z) Z (A6 (F3 Z Z) Z (A6 (A8 Z Z) Z (K0 Z Z Z (by simp[c]) (A6 (A8 Z Z) Z (K0 Z Z Z (by simp[c]) (A6 (P5 Z Z) Z (K0 Z Z Z (by simp[c]) (A6 (A8 Z Z) Z (M3 Z Z Z (by simp[b]) Z (M3 Z Z Z (by simp[b]) Z (M3 Z Z Z (by simp[b]) Z (M3 Z Z Z (by simp[b]) Z (M3 Z Z Z (by simp[b]) Z (M3 Z Z Z (by simp[b]) Z (M3 Z Z Z (by simp[b]) Z (M3 Z Z Z (by simp[b]) Z (K0 Z Z Z (by simp[c]) (A6 (P0 Z ((by simp[b])) Z) Z (A6 (P0 Z ((by simp[c])) Z) Z (B0 ?_)))))))))))))))))))));refine k1 ?_;refine B9 rfl (fun f=>?_) (fun f=>?_)
  ·cases f
  refine k5 (k4 (k1 ?_));refine A7 (A6 (D5 Z Z (by omega)) Z (A6 (A8 Z Z) Z (B0 ?_)));refine k1 ?_;refine⟨k+1,⟨v,fun j J=>?_⟩,by omega,(Sees.of ⟨B4 rfl,B4 rfl,B4 rfl,B4 rfl,trivial⟩ trivial)⟩;by_cases e:j=k
  ·rw[e,q]
  ·exact w j (by omega)
end Go.Proofs.YtbflhoahmmfkmaaGreatDoor
