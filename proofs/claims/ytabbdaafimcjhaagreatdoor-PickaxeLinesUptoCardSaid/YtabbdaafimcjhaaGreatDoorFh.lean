
/- Walks of the program's functions. -/
import Derived.Test.YtabbdaafimcjhaaGreatDoorFg
import Derived.RecoverIn
set_option linter.all false
namespace Go.Proofs.YtabbdaafimcjhaaGreatDoor
open Go Go.AL
set_option maxRecDepth 100000
set_option maxHeartbeats 4000000
theorem PM(L:List AL.Node)(O:DV L)(A:1<=L.length)(hl:L.length<=4000)(Y:∀n∈L,n.Kids.length<=4000):FnOk Tryz.prog 92 [N9 L] (fun rs=>rs=[D3 0]):=by
 refine FnOk.intro Tryz.func92 F2 A0 A0 A0 A0 ?_;refine zc 16 (fun j=>?_) fun j=>?_
 ·exfalso;rw[aI,B63,decide_eq_true_eq,decide_eq_true_eq]at j;omega
 refine zz 7 ?_;refine C2 (X:=Nat) (fun i=>([(0,B8 AL.Node 8 N7 L),(3,B7 i)],[])) (fun i=>i<=L.length) (fun i=>L.length-i) 0 (Nat.zero_le _) (Sees.of lf lo) ?_;intro i V;dsimp only at V ⊢;refine zc 8 (fun j=>?_) fun j=>?_
 ·have M:i<L.length:=by have A:=A1 j;(try dsimp only at A);omega
  obtain⟨n,S⟩:∃n,n=L[i]:=⟨_,rfl⟩
  have B:L[i]?=some n:=by rw[S];simp[M]
  have hv:L[((i:Nat):Int).toNat]?=some n:=by rw[B45];exact B
  have I:=O i n B;have z:=j5 I;have C:=aH I;have D:=x9 I;have J:=Y n (B52 B);clear S B I;obtain⟨K,Z,G,H,kids⟩:=n;dsimp only at z C D J;obtain⟨_,T⟩:=D;refine zz 7 ?_;refine B0 (A9 A0 (.pure _ _ _ _) A0 B3 hv) A0 (zz 1 ?_);refine C4 (H9 4 A0) A0 (zz 8 ?_);refine C2 (X:=Nat) (fun q=>([(0,B8 AL.Node 8 N7 L),(3,B7 i),(4,.s (.one (.ref 4 0))),(5,B7 q)],[(4,.box [.p (.v (.int .i64 K)),.p (.v (.int .u64 Z.a)),.p (.v (.int .u64 Z.b)),.p (.v (.int .u64 Z.c)),.p (.v (.int .u64 Z.d)),.p (.v (.int .i64 G)),.p (.v (.int .i64 H)),.p (.list Int 1 D2 kids)])])) (fun q=>q<=kids.length) (fun q=>kids.length-q) 0 (Nat.zero_le _) (Sees.of lf lo) ?_;intro q P;dsimp only at P ⊢;refine zc 9 (fun j=>?_) fun j=>?_
  ·have E:q<kids.length:=by have A:=A1 j;(try dsimp only at A);omega
   obtain⟨c,R⟩:∃c,c=kids[q]:=⟨_,rfl⟩
   have F:kids[((q:Nat):Int).toNat]?=some c:=by rw[B45,R];simp[E]
   have U:=z c (by rw[R];exact B50 E);refine zz 8 ?_;refine B0 (A9 A0 (.pure _ _ _ _) A0 B3 F) A0 (zz 6 ?_);refine F7 A0 A0 A0 A0 (fun w=>by have P:=w;(try simp at P);rw[w];exact A9 A0 (.pure _ _ _ _) A0 B3 F) ?_;refine zc 5 (fun j=>?_) fun j=>?_
   ·exfalso;rw[aI,B63,decide_eq_true_eq,decide_eq_true_eq]at j;omega
   refine zz 6 ?_;exact⟨q+1,by omega,by omega,(Sees.of lf lo)⟩
  refine zz 21 ?_;refine zH [(0,B8 AL.Node 8 N7 L),(3,B7 i),(4,.s (.one (.ref 4 0))),(6,K9 true)] [(4,.box [.p (.v (.int .i64 K)),.p (.v (.int .u64 Z.a)),.p (.v (.int .u64 Z.b)),.p (.v (.int .u64 Z.c)),.p (.v (.int .u64 Z.d)),.p (.v (.int .i64 G)),.p (.v (.int .i64 H)),.p (.list Int 1 D2 kids)])] ?_ ?_
  ·rcases T with ⟨Q,ab⟩ | ⟨Q,hk2⟩ | ⟨Q,hk1,h2,h3,h4⟩
   ·rw[A4 (show (kids.length:Int)=0 by omega)];skip;refine zc 0 (fun j=>?_) fun j=>?_
    ·have:=A1 j;omega
    refine zc 6 (fun j=>?_) fun j=>?_
    ·have:=A1 j;omega
    skip;refine zc 4 (fun j=>?_) fun j=>?_
    ·have:=A1 j;omega
    refine zz 1 ?_;exact (Sees.of lf lo)
   ·skip;refine zc 0 (fun j=>?_) fun j=>?_
    ·have:=A1 j;omega
    refine zc 6 (fun j=>?_) fun j=>?_
    ·refine zc 1 (fun j=>?_) fun j=>?_;rotate_left
     ·rename_i A;rw[A]at j;cases j
     skip;refine zz 7 ?_;rw[A4 (show (kids.length:Int)>=2 by omega)];refine zz 0 ?_;exact (Sees.of lf lo)
    ·skip;refine zc 4 (fun j=>?_) fun j=>?_;rotate_left
     ·rename_i A;have g1:=A3 A;have g2:=A3 j;omega
     skip;refine zz 7 ?_;rw[A4 (show (kids.length:Int)>=2 by omega)];refine zz 0 ?_;exact (Sees.of lf lo)
   ·skip;refine zc 0 (fun j=>?_) fun j=>?_;rotate_left
    ·have:=A3 j;omega
    have hb:(if (if (if decide ((kids.length:Int)=1)=true then decide (G>=0) else false)=true then decide (G<=100) else false)=true then (if decide (H = -1)=true then true else if decide (H>=G)=true then decide (H<=100) else false) else false)=true:=by
     simp only[aI,W8];simp only[B47,B63,decide_eq_true_eq];omega
    skip;refine zz 20 ?_;refine J5 A0 A0 A0 (.gd (.val _)) A0 (fun w=>by obtain⟨k,m⟩:=P9 w;(try rw[k]);(try rw[m]);exact F0 A0) ?_;refine J5 A0 A0 A0 (.gd (.val _)) A0 (fun w=>by obtain⟨k,m⟩:=P9 w;(try rw[k]);(try rw[m]);exact D8 A0 A0 A0) ?_;refine J5 A0 A0 A0 (.gd (.val _)) A0 (fun w=>by obtain⟨k,m⟩:=P9 w;(try rw[k]);(try rw[m]);exact F0 A0) ?_;refine J5 A0 A0 A0 (.gd (.val _)) A0 (fun w=>by obtain⟨k,m⟩:=P9 w;(try rw[k]);(try rw[m]);exact D8 A0 A0 A0) ?_;refine J5 A0 A0 A0 (.gd (.val _)) A0 (fun w=>by obtain⟨k,m⟩:=P9 w;(try rw[k]);(try rw[m]);exact zU A0 A0) ?_;refine zz 1 ?_;refine J5 A0 A0 A0 (.gd (.gd (.val _))) A0 (fun w=>by obtain⟨k,m,y⟩:=oQ w;(try rw[k]);(try rw[m]);(try rw[y]);exact F0 A0) ?_;refine J5 A0 A0 A0 (.gd (.gd (.val _))) A0 (fun w=>by obtain⟨k,m,y⟩:=oQ w;(try rw[k]);(try rw[m]);(try rw[y]);exact D8 A0 A0 A0) ?_;refine J5 A0 A0 A0 (.gd (.gd (.val _))) A0 (fun w=>by obtain⟨k,m,y⟩:=oQ w;(try rw[k]);(try rw[m]);(try rw[y]);exact MW A0 A0) ?_;refine J5 A0 A0 A0 (.gd (.val _)) A0 (fun w=>by obtain⟨k,m⟩:=P9 w;(try rw[k]);(try rw[m]);exact z6 A0 (fun h=>by first | rfl | (rw[h];rfl)) (fun h=>by first | rfl | (rw[h];rfl))) ?_;refine zz 4 ?_;rw[hb];refine zz 0 ?_;exact (Sees.of lf lo)
  refine zz 5 ?_;refine F7 rfl rfl rfl rfl (fun h=>by rw[h];exact F0 rfl) ?_;refine F7 rfl rfl rfl rfl (fun h=>by rw[h];exact D8 rfl rfl rfl) ?_;refine F7 rfl rfl rfl rfl (fun h=>by rw[h];exact MV rfl rfl) ?_;refine zc 7 (fun j=>?_) fun j=>?_
  ·exfalso;simp only[aI]at j;simp only[B63,Bool.not_true,decide_eq_true_eq]at j;rcases j with (h | h) | h
   ·cases h
   ·omega
   ·omega
  refine zz 6 ?_;exact⟨i+1,by omega,by omega,(Sees.of lf lo)⟩
 have W:i=L.length:=by have A:=A3 j;(try dsimp only at A);omega
 refine zz 6 ?_;exact B2 (rs:=[D3 0]) (G6 rfl rfl rfl) rfl
theorem CO(n:Int):FnOk Tryz.prog 93 [D3 n] (fun rs=>rs=[D3 (S9 n 4001)]):=by
 refine FnOk.intro Tryz.func93 F2 A0 A0 A0 A0 (zz 11 ?_);refine B2 (G6 A0 A0 A0) ?_;rfl
theorem wt_get{L:List AL.Node}{c:Int}{i:Nat}(b:0<=c)(d:c<(i:Int))(f:i<=L.length):((D9 L).take i)[c.toNat]?=some (H4 (D9 L) c.toNat):=by
 have j:(D9 L).length=L.length:=by rw[<-lB];exact oV L L.length
 unfold H4;rw[B81 B3,B44 (show c.toNat<(D9 L).length by omega)];rfl
theorem HM(w:List Int):∀(b:List Int) (k a:Int),n6 w a (b++[k])=S9 (n6 w a b+H4 w k.toNat) 4001
 | [],_,_=>rfl
 | x::r,k,a=>by rw[B71,n6,n6,HM w r k]
def rawW(n:AL.Node)(a:Int):Int:=if n.Kind=5 then a+n.Kids.length-1 else if n.Kind=6 then n.Min*a+(if n.Max>=0 then (n.Max-n.Min)*(a+1) else a+1) else if n.Kind=4 then a else 1
theorem raw_cap{n:AL.Node}{w:List Int}(f:0<=n6 w 0 n.Kids)(g:n6 w 0 n.Kids<=4001):S9 (rawW n (n6 w 0 n.Kids)) 4001=T0 n w:=by
 unfold rawW T0;dsimp only;obtain⟨a,ha⟩:∃a,a=n6 w 0 n.Kids:=⟨_,rfl⟩
 rw[<-ha]at f g ⊢;by_cases b:n.Kind=4
 ·rw[A7 B3,A7 B3,A6 b,A6 b];unfold S9;rw[A7 B3]
 rw[A7 b,A7 b];by_cases c:n.Kind=5
 ·rw[A6 c,A6 c]
 rw[A7 c,A7 c];by_cases d:n.Kind=6
 ·rw[A6 d,A6 d];by_cases e:n.Max<0
  ·rw[A7 B3,A6 e,show n.Min*a+(a+1)=n.Min*a+a+1 by omega]
  ·rw[A6 B3,A7 e]
 ·rw[A7 d,A7 d];rfl
theorem UP(L:List AL.Node)(x:DV L)(j:1<=L.length)(hl:L.length<=4000)(hk:∀n∈L,n.Kids.length<=4000):FnOk Tryz.prog 48 [N9 L] (fun rs=>rs=[D3 (pV L),D3 0]):=by
 have F:(D9 L).length=L.length:=by rw[<-lB];exact oV L L.length
 have v:=UN x;have E:∀c:Int,0<=H4 (D9 L) c.toNat/\H4 (D9 L) c.toNat<=4001:=lA (D9 L) v;obtain⟨W,K⟩:∃W,W=D9 L:=⟨_,rfl⟩
 rw[<-K]at F v E;refine FnOk.intro Tryz.func48 F2 A0 A0 A0 A0 (zz 9 ?_);refine E3 (PM L x j hl hk) ?_;refine zc 2 (fun d=>?_) fun d=>?_
 ·exact absurd rfl (A1 d)
 refine zz 3 ?_;refine C4 (O9 4 _ D2 A0) A0 (zz 7 ?_);refine C2 (X:=Nat) (fun i=>([(0,B8 AL.Node 8 N7 L),(4,.s (.one (.buf 4 Int 1 D2 (W.take i)))),(5,B7 i)],[(4,.spare (W.take i).length 1 3)])) (fun i=>i<=L.length) (fun i=>L.length-i) 0 (Nat.zero_le _) (Sees.of lf lo) ?_;intro i hi;dsimp only at hi ⊢;have I:(W.take i).length=i:=by rw[B54,F];omega
 refine zc 8 (fun d=>?_) fun d=>?_;rotate_left
 ·have U:i=L.length:=by have j:=A3 d;(try dsimp only at j);omega
  have B:(W.take i)[(((W.take i).length:Int)-1).toNat]?=some (pV L):=by
   unfold pV H4;rw[I,U,<-K,B69 B3,show ((L.length:Int)-1).toNat=L.length-1 by omega,B44 B3];rfl
  refine zz 7 ?_;refine B0 (A9 A0 (.buf _ _ _ _ _) A0 B3 B) A0 (zz 5 ?_);exact B2 (rs:=[D3 (pV L),D3 0]) (S6 rfl rfl rfl rfl rfl) rfl
 have Y:i<L.length:=by have j:=A1 d;(try dsimp only at j);omega
 obtain⟨n,hn⟩:∃n,n=L.getD i J6:=⟨_,rfl⟩
 have C:L[i]?=some n:=by rw[hn,B46,B44 Y];rfl
 have z:L[((i:Nat):Int).toNat]?=some n:=by rw[B45];exact C
 have T:=x i n C;have A:=j5 T;have V:=aH T;have G:=dU T;have ai:=hk n (B52 C);have Q:H4 W i=T0 n W:=by
  have:=wt_at x (k:=(i:Int)) ⟨by omega,by omega⟩;rw[B45,<-hn,<-K]at this;exact this
 have H:=oW W v n.Kids 0 F2;refine zz 13 ?_;refine C2 (X:=Nat) (fun q=>([(0,B8 AL.Node 8 N7 L),(4,.s (.one (.buf 4 Int 1 D2 (W.take i)))),(5,B7 i),(6,B7 (n6 W 0 (n.Kids.take q))),(7,B7 q)],[(4,.spare (W.take i).length 1 3)])) (fun q=>q<=n.Kids.length) (fun q=>n.Kids.length-q) 0 (Nat.zero_le _) (Sees.of lf lo) ?_;intro q hq;dsimp only at hq ⊢;refine zz 6 ?_;refine B0 (A9 A0 (.pure _ _ _ _) A0 B3 z) A0 ?_;refine zc 5 (fun d=>?_) fun d=>?_
 ·have ae:q<n.Kids.length:=by have j:=A1 d;(try dsimp only at j);omega
  obtain⟨c,hc⟩:∃c,c=n.Kids[q]:=⟨_,rfl⟩
  have D:n.Kids[q]?=some c:=by rw[hc];simp[ae]
  have af:n.Kids[((q:Nat):Int).toNat]?=some c:=by rw[B45];exact D
  obtain⟨R,S⟩:=A c (B52 D);have ag:(W.take i)[c.toNat]?=some (H4 W c.toNat):=by rw[K];exact wt_get R S B3
  have ao:=oW W v (n.Kids.take q) 0 F2;have ah:=E c;refine zz 8 ?_;refine B0 (A9 A0 (.pure _ _ _ _) A0 B3 z) A0 (zz 3 ?_);refine B0 (A9 A0 (.pure _ _ _ _) A0 B3 af) A0 (zz 1 ?_);refine B0 (A9 A0 (.buf _ _ _ _ _) A0 B3 ag) A0 (zz 2 ?_);refine tF (CO _) A0 A0 A0 (zz 2 ?_);rw[<-HM,<-kJ D];refine zz 5 ?_;exact⟨q+1,by omega,by omega,(Sees.of lf lo)⟩
 have ad:q=n.Kids.length:=by have j:=A3 d;(try dsimp only at j);omega
 rw[ad,B51];obtain⟨a,ha⟩:∃a,a=n6 W 0 n.Kids:=⟨_,rfl⟩
 have y:=raw_cap (n:=n) (w:=W) B3 B3;rw[<-ha]at y H ⊢;refine zz 6 ?_;refine B0 (A9 A0 (.pure _ _ _ _) A0 B3 z) A0 (zz 9 ?_);refine zH [(0,B8 AL.Node 8 N7 L),(4,.s (.one (.buf 4 Int 1 D2 (W.take i)))),(5,B7 i),(6,B7 (rawW n a))] [(4,.spare (W.take i).length 1 3)] ?_ ?_
 ·unfold rawW;skip;refine zc 0 (fun d=>?_) fun d=>?_
  ·have O:n.Kind=5:=A1 d;rw[A6 O];skip;refine zz 4 ?_;refine B0 (A9 A0 (.pure _ _ _ _) A0 B3 z) A0 (zz 7 ?_);exact (Sees.of lf lo)
  have O:¬n.Kind=5:=A3 d;rw[A7 O];refine zc 5 (fun d=>?_) fun d=>?_
  ·have J:n.Kind=6:=A1 d;obtain⟨_,aj,ak,al⟩:=G J;have am:0<=n.Min*a:=Int.mul_nonneg B3 B3;have an:n.Min*a<=100*4001:=Int.mul_le_mul B3 B3 B3 B3;rw[A6 J];refine zz 11 ?_;refine B0 (A9 A0 (.pure _ _ _ _) A0 B3 z) A0 (zz 4 ?_);refine S7 [(0,B8 AL.Node 8 N7 L),(4,.s (.one (.buf 4 Int 1 D2 (W.take i)))),(5,B7 i),(6,B7 a),(8,B7 (if n.Max>=0 then (n.Max-n.Min)*(a+1) else a+1))] [(4,.spare (W.take i).length 1 3)] ?_ ?_
   ·skip;refine zc 0 (fun d=>?_) fun d=>?_
    ·have P:n.Max>=0:=A1 d;have Z:0<=(n.Max-n.Min)*(a+1):=Int.mul_nonneg B3 B3;have ab:(n.Max-n.Min)*(a+1)<=100*4002:=Int.mul_le_mul B3 B3 B3 B3;rw[A6 P];skip;refine zz 3 ?_;refine D1 (A9 A0 (.pure _ _ _ _) A0 B3 z) A0 A0 (zz 4 ?_);refine D1 (A9 A0 (.pure _ _ _ _) A0 B3 z) A0 A0 (zz 2 ?_);refine D1 (aL A0 A0 b0y) A0 A0 (zz 2 ?_);refine D1 (sS A0 A0 b0y) A0 A0 (zz 2 ?_);exact (Sees.of lf lo)
    ·have P:¬n.Max>=0:=A3 d;rw[A7 P];refine zz 1 ?_;exact (Sees.of lf lo)
   have ac:0<=(if n.Max>=0 then (n.Max-n.Min)*(a+1) else a+1)/\(if n.Max>=0 then (n.Max-n.Min)*(a+1) else a+1)<=1000000:=by
    split
    ·have Z:0<=(n.Max-n.Min)*(a+1):=Int.mul_nonneg B3 B3;have ab:(n.Max-n.Min)*(a+1)<=100*4002:=Int.mul_le_mul B3 B3 B3 B3;omega
    ·omega
   obtain⟨m,hm⟩:∃m,m=(if n.Max>=0 then (n.Max-n.Min)*(a+1) else a+1):=⟨_,rfl⟩
   rw[<-hm]at ac ⊢;skip;refine zz 3 ?_;refine B0 (A9 A0 (.pure _ _ _ _) A0 B3 z) A0 (zz 8 ?_);exact (Sees.of lf lo)
  have J:¬n.Kind=6:=A3 d;rw[A7 J];refine zc 5 (fun d=>?_) fun d=>?_
  ·have M:n.Kind=4:=A1 d;rw[A6 M];refine zz 1 ?_;exact (Sees.of lf lo)
  have M:¬n.Kind=4:=A3 d;rw[A7 M];skip;refine zz 3 ?_;exact (Sees.of lf lo)
 skip;refine zz 3 ?_;refine tF (CO _) A0 A0 A0 (B0 (C0 (c:=D2) (ys:=[S9 (rawW n a) 4001]) (C3 A0 A0 A0 A0 E6) A0 A0 A0) A0 (C4 (X5 A0 A0 A0 (.pure _ _ _ _) (by (rw[I];simp only[B49,List.length_nil];omega)) A0) A0 ?_));refine zz 2 ?_;rw[y];refine zz 5 ?_;refine⟨i+1,by omega,by omega,?_⟩;rw[kJ (show W[i]?=some (T0 n W) by rw[<-Q];unfold H4;rw[B44 B3];rfl)];exact (Sees.of lf lo)
theorem CP{P:Program}{ops:Array Oper}{Q:Exit->Act->List Frame->World->Prop}{i:Nat}{rest:List Nat}{a:Act}{b:List Frame}{w w1:World}{t:TypeId}{x y:Operand}{ty:TypeId}{pos:String}{af:Array Edge}
  (d:ops[i]?=some ⟨none,.store t x y,ty,pos,af,none⟩) (f:(Instr.storeAt t (a.eval x) (a.eval y)).run P w=.ok () w1) (h:wpOpsSIn Fence.wide 0 P ops Q rest a b w1):wpOpsSIn Fence.wide 0 P ops Q (i::rest) a b w:=by
 simp only[wpOpsSIn,d];refine⟨fun _ _=>trivial,?_⟩;have c:(execOp a.eval ⟨none,.store t x y,ty,pos,af,none⟩).run P w=.ok .skip w1:=by
  simp only[execOp,Sem.run_bind,f,Result.andThen_ok,Sem.run_pure]
 rw[c];have g:Region.wanted ⟨none,.store t x y,ty,pos,af,none⟩ (yielded ops a.tmps)=true:=rfl;rw[A6 g];exact h
theorem A03{P:Program}{ops:Array Oper}{Q:Exit->Act->List Frame->World->Prop}{i:Nat}{rest:List Nat}{a:Act}{b:List Frame}{w:World}{d:Option Nat}{x:Operand}{ty:TypeId}{pos:String}{af:Array Edge}
  (f:ops[i]?=some ⟨d,.move x,ty,pos,af,none⟩) (h:wpOpsSIn Fence.wide 0 P ops Q rest (a.put d (a.eval x)) b w):wpOpsSIn Fence.wide 0 P ops Q (i::rest) a b w:=by
 simp only[wpOpsSIn,f];refine⟨fun _ _=>trivial,?_⟩;have c:(execOp a.eval ⟨d,.move x,ty,pos,af,none⟩).run P w=.ok (.value (a.eval x)) w:=by
  simp only[execOp,Sem.run_bind,Result.andThen_ok,Sem.run_pure]
 rw[c];have g:Region.wanted ⟨d,.move x,ty,pos,af,none⟩ (yielded ops a.tmps)=true:=rfl;rw[A6 g];exact h
theorem UQ:RecFn Tryz.prog eT 62 57 27:=by
 intro p1 p2 e w w1 w2 hs1 hs2;refine⟨L5 ⟨_,rfl,rfl,rfl⟩,?_⟩;have hta:(Instr.typeAssert (.iface 27 (.int .i64 e)) 20 27 true).run Tryz.prog w=.ok (.tuple #[.int .i64 e,.bool true]) w:=by
  simp only[Instr.typeAssert];rfl
 refine callsDIn_of_wpSIn Tryz.func62 rfl trivial fun c₀ cs hu=>?_;simp only[Tryz.ntmps62,List.size_toArray,B49,List.length_nil,Nat.reduceAdd,Nat.reduceSub,Array.replicate_succ,Array.replicate_zero,List.push_toArray,List.append_toArray,B83,B71];apply wpSIn_seq;apply wpSIn_region;simp[wpOpsSIn,go_sem,recoverD,hu,Exit.thenS,hta];apply wpSIn_seq;apply wpSIn_region;simp[wpOpsSIn,go_sem,Exit.thenS];refine wpSIn_cond (t:=true) (by simp[Act.eval]) ?_;simp only[if_true];apply wpSIn_region;show wpOpsSIn Fence.wide 0 _ _ _ [0,1,2] _ _ _;refine A03 A0 (CP A0 (by simpa[Act.eval,Act.put] using hs1) (CP A0 (by simpa[Act.eval,Act.put] using hs2) ?_));cases c₀;simp_all [wpOpsSIn,bodyPostS,results,Tryz.results62,settle];rfl
theorem PN{P:Program}{T:TypeId}{fn:Func}{d:List PV->Prop}{k1 k2 i1 i2:Nat}{fr:Fr}{ob:Obs}{e:Int}{j k:TC}(g1:D4 fr 1000001=some (.s (.one (.ref k1 0))))(m:D4 fr 1000002=some (.s (.one (.ref k2 0))))(q:n5 fr i1=some (.s (.one (.ref k1 0))))(u:n5 fr i2=some (.s (.one (.ref k2 0))))
  (w:B6 ob k1=some (.box [j])) (y:B6 ob k2=some (.box [k])) (g:k1≠k2) (h:retP P fn d .ret (JO fr) ((k2,.box [.p (.v (.int .i64 e))])::(k1,.box [.p (.v (.slice none 0 0))])::ob)):recQ T k1 k2 i1 i2 (retP P fn d) (.panic (gV T e)) fr ob :=
 ⟨e,j,k,rfl,g1,m,q,u,w,y,g,h⟩
theorem z23{K:List Nat}(q:KOk K)(h:E5 K 2=false)(m:E5 K 3=false){c d:Cell}{ob:Obs}(f:B6 ob 2=some (.box [.p c]))(g:B6 ob 3=some (.box [.p d])):ZOk K [(2,.box [.p c]),(3,.box [.p d])] ob:=by
 have key:∀k o,B6 [(2,Ob.box [.p c]),(3,.box [.p d])] k=some o->(k=2/\o=.box [.p c])\/(k=3/\o=.box [.p d]):=fun k o a=>by
  by_cases e:2=k
  ·subst e;rw[B4]at a;cases a;exact .inl ⟨rfl,rfl⟩
  rw[A8 e]at a;by_cases a3:3=k
  ·subst a3;rw[B4]at a;cases a;exact .inr ⟨rfl,rfl⟩
  rw[A8 a3]at a;cases a
 refine⟨q,fun k o a=>?_,fun k o a=>?_,fun k o a j _=>?_⟩
 ·rcases key k o a with ⟨rfl,rfl⟩ | ⟨rfl,rfl⟩
  ·exact f
  ·exact g
 ·rcases key k o a with ⟨rfl,rfl⟩ | ⟨rfl,rfl⟩
  ·exact⟨by decide,h⟩
  ·exact⟨by decide,m⟩
 ·rcases key k o a with ⟨rfl,rfl⟩ | ⟨rfl,rfl⟩<;>rfl
theorem ks_ref{K:List Nat}{i o:Nat}(h:E5 K i=false):∀k,E5 K k=true->(SV.s (.one (.ref i o))).free k=true:=fun k a=>by
 show (!Nat.beq i k)=true;rw[nR (fun e=>by rw[<-e,h]at a;cases a)];rfl
theorem ks_clo2{K:List Nat}{f i j:Nat}(g:E5 K i=false)(h:E5 K j=false):∀k,E5 K k=true->(SV.s (.one (.clo f [] [(i,0),(j,0)]))).free k=true:=fun k a=>by
 show (!(gL k []||gL k [(i,0),(j,0)]))=true;have b:i≠k:=fun e=>by rw[<-e,g]at a;cases a
 have d:j≠k:=fun e=>by rw[<-e,h]at a;cases a
 simp[gL,nR b,nR d]
theorem A79{b:Rd}{z:Value}{α:Type}{a:Nat}{c:α->Nat->Cell}(h:(PV.one (.v (.slice none 0 0))).rep b z):(PV.one (.list α a c [])).rep b z:=by
 have e:z=.slice none 0 0:=by simp only[PV.rep,Cell.rep]at h;exact h.1
 rw[e];exact F6 α a c
theorem retcn{P:Program}{fn:Func}{fr:Fr}{ob:Obs}{t E:Tmp}{k D:Nat}{tt d:TypeId}{F j:List TC}{B:Cell}{α:Type}{ec:Nat}{H:α->Nat->Cell}[TyOne P tt][TyOne P d](M:fn.results=#[.cell t tt,.cell E d])(N:n5 fr t=some (.s (.one (.ref k 0))))(L:B6 ob k=some (.box F))(I:F[0]?=some (.p (.v (.slice none 0 0))))
  (A:n5 fr E=some (.s (.one (.ref D 0)))) (y:B6 ob D=some (.box j)) (m:j[0]?=some (.p B)):RetOk P fn fr ob [.one (.list α ec H []),.one B]:=by
 unfold RetOk;intro S G a w h;obtain⟨b,z,C,J,K⟩:=zK h (tt:=tt) N L I;obtain⟨O,Q,g,q,u⟩:=zK h (tt:=d) A y m;rw[Array.getD_eq_getD_getElem?]at C g;exact⟨_,by simp[results,M,C,g,asAddr,J,q],[_,_],rfl,A79 K,u,trivial⟩
def parsed(s:Str):List AL.Node×Int:=p8 s F8 1100
theorem b2x{p:Prop}(h:p:=by repeat (first | exact FreeKs.nil | refine FreeKs.cons (fun _ _=>rfl) ?_ | refine FreeKs.cons (s7 (by assumption)) ?_ | refine FreeKs.cons (ks_ref (by assumption)) ?_ | refine FreeKs.cons (ks_ref (by assumption)) ?_ | refine FreeKs.cons (ks_clo2 (by assumption) (by assumption)) ?_)):p:=h
theorem wE(s:Str)(C:s.length<=1099511627776):FnOk Tryz.prog 35 [F3 s] (fun rs=>rs=[N9 (parsed s).1,D3 (parsed s).2]):=by
 refine B34 Tryz.func35 F2 A0 A0 A0 A0 (XF (zz 1 ?_));refine C4 (H9 2 A0) A0 (C4 (H9 3 A0) A0 (zz 1 ?_));refine XF ?_;refine zc 6 (fun l=>?_) fun l=>?_
 ·have d:s.length>256:=by have:=A1 l;omega
  have f:parsed s=([],1):=by unfold parsed p8;rw[A6 d]
  rw[f];refine zz 6 ?_;exact B2 (rs:=[N9 [],D3 1]) (retcn rfl rfl rfl rfl rfl rfl rfl) rfl
 have d:¬s.length>256:=by have:=A3 l;omega
 have f:parsed s=match bF s F8 1100 ⟨0,0,[]⟩ with
  | .error e=>([],e)
  | .ok (st,_)=>if st.at_<s.length then ([],40) else (st.nodes,0):=by unfold parsed p8;rw[A7 d];rfl
 have z:SOk s ⟨0,0,[]⟩:=⟨by omega,Nat.zero_le _,by decide⟩
 have y:bF s F8 1100 ⟨0,0,[]⟩≠.error 0:=(sM 1100).pat _ (Nat.zero_le _) b5x;obtain⟨K,m⟩:∃K,K=iW 51:=⟨_,rfl⟩
 have n:KOk K:=by rw[m];exact vY 51
 have u:E5 K 2=false:=by rw[m];exact CD F2
 have w:E5 K 3=false:=by rw[m];exact CD F2
 have j:=(UH s 1101 1100 F2 F2).pat 50 ⟨0,0,[]⟩ rfl z (Nat.le_refl _) y;rw[<-m]at j;clear m;refine zz 1 ?_;refine SN (T:=eT) (k1:=2) (k2:=3) (i1:=2) (i2:=3) (t1:=57) (t2:=27) A0 A0 A0 OS UQ A0 A0 (zz 4 ?_);refine C4 (n8 810 A0 A0 A0) A0 (zz 2 ?_);refine C1 (B19 811 AL.Node 8 N7 154 (kb:=810) (o:=3) A0 A0 A0) (k2 ?_);cases i:bF s F8 1100 ⟨0,0,[]⟩ with
 | error A =>
  rw[i]at f;refine zz 2 ?_;refine M2 (j _ _ _ ⟨rfl,rfl,z23 n u w rfl rfl⟩) b2x rfl rfl rfl ?_ ?_
  ·(rintro e ob' ⟨b,rfl⟩;rw[i]at b;cases b;exact PN rfl rfl rfl rfl rfl rfl F2 (B2 (rs:=[N9 [],D3 A]) (retcn rfl rfl rfl rfl rfl rfl rfl) (by rw[f])))
  rintro _ _ ⟨_,_,b,_,_⟩;refine zz 1 ?_;rw[i]at b;cases b
 | ok q =>
  obtain⟨st,v⟩:=q;rw[i]at f;dsimp only at f;obtain⟨g,_⟩:=(V6 (s:=s) 1100).pat (Nat.zero_le _) i;have B:=g.len;have x:=g.cnt;dsimp only[List.length_nil]at x;refine zz 2 ?_;refine M2 (j _ _ _ ⟨rfl,rfl,z23 n u w rfl rfl⟩) b2x rfl rfl rfl ?_ ?_
  ·(rintro e ob' ⟨b,rfl⟩;rw[i]at b;cases b)
  rintro _ _ ⟨st',D,b,rfl,rfl⟩;rw[i]at b;cases b;refine zz 1 ?_;refine zc 11 (fun l=>?_) fun l=>?_
  ·have h:st.at_<s.length:=by have:=A1 l;omega
   rw[A6 h]at f;skip;refine zz 2 ?_;refine O0 A0 ?_;exact PN rfl rfl rfl rfl rfl rfl F2 (B2 (rs:=[N9 [],D3 40]) (retcn rfl rfl rfl rfl rfl rfl rfl) (by rw[f]))
  have h:¬st.at_<s.length:=by have:=A3 l;omega
  rw[A7 h]at f;refine zz 10 ?_;refine C1 (Sees.freezeG (k:=811) (α:=AL.Node) (ec:=8) (c:=N7) (xs:=st.nodes) (e:=154) A0 A0) (k10 ?_);exact B2 (rs:=[N9 st.nodes,D3 0]) (retcc rfl rfl rfl rfl rfl rfl rfl) (by rw[f])
theorem PO{A:AL.Auto}{s:Str}{f a:Nat}{m m1 g:Mach}{b d:Int×Int}{e c:Bool}{i:Int}(h:(if e=true then m else uU A s a ⟨A.Start,a⟩ m)=m1)(l:T3 A m1.1=i)(hb:(if 0<=i then (i,(a:Int)) else b)=d)(k:(if 0<=i then true else e)=c)(j:(if 0<=i then (gC i m1.1,m1.2) else m1)=g) :
  jF A s (f+1) a m b e=if a=s.length\/(c=true/\g.1=[]) then (d,c) else jF A s f (a+1) (uV A s a g) d c:=by
 subst h l hb k j;rfl
theorem A80(A:AL.Auto)(s:Str)(D:AG A)(P:s.length<=16777216):FnOk Tryz.prog 88 [iJ A,F3 s,D3 0] (fun rs=>rs=[.agg [.v (.int .i64 (gF A s 0).1.1),.v (.int .i64 (gF A s 0).1.2)],E1 (gF A s 0).2]):=by
 obtain⟨R,N⟩:∃R,gF A s 0=R:=⟨_,rfl⟩
 rw[N];have K:jF A s (s.length+1-0) 0 ([],List.replicate A.States.length false) (0,0) false=R:=N;obtain⟨T,U⟩:=D.len;refine FnOk.intro Tryz.func88 F2 A0 A0 A0 A0 (zz 3 ?_);refine C4 (H9 6 A0) A0 (zz 7 ?_);refine eK (UJ A s D) A0 A0 A0 A0 ?_;rintro _ _ ⟨rfl,rfl⟩;refine⟨rfl,?_⟩;refine zz 2 ?_;refine zz 0 ?_;refine C1 (B19 831 AL.Thread 2 r7 202 (kb:=830) (o:=4) A0 A0 A0) (zz 2 ?_);refine C4 (H9 9 A0) A0 (zz 6 ?_);refine C2 (X:=Nat×Mach×(Int×Int)×Bool) (fun x=>([(1,Q6 s),(3,.s (.one (.eref Unit 2 (CF A) () 0))),(6,.s (.one (.ref 6 0))),(8,.s (.one (.ref 830 0))),(9,.s (.one (.ref 9 0))),(10,K9 x.2.2.2)],[(830,fN A s x.1),(831,CG x.2.1.1),(832,xR x.2.1.2),(6,.box [.p (.v (.int .i64 0)),.p (.v (.int .i64 0))]),(9,.box [.p (.v (.int .i64 x.2.2.1.1)),.p (.v (.int .i64 x.2.2.1.2))])])) (fun x=>x.1<=s.length/\MG A x.2.1/\jF A s (s.length+1-x.1) x.1 x.2.1 x.2.2.1 x.2.2.2=R) (fun x=>s.length-x.1) (0,([],List.replicate A.States.length false),(0,0),false) ⟨Nat.zero_le _,MG.first A,K⟩ (Sees.of lf lo) ?_;rintro⟨a,m,⟨L,M⟩,H⟩ ⟨ha,I,c⟩;dsimp only at ha I c ⊢;obtain⟨m1,q⟩:∃m1,(if H=true then m else uU A s a ⟨A.Start,a⟩ m)=m1:=⟨_,rfl⟩
 obtain⟨i,O⟩:∃i,T3 A m1.1=i:=⟨_,rfl⟩
 obtain⟨C,y⟩:∃C,(if 0<=i then (i,(a:Int)) else (L,M))=C:=⟨_,rfl⟩
 obtain⟨w,j⟩:∃w,(if 0<=i then true else H)=w:=⟨_,rfl⟩
 obtain⟨B,u⟩:∃B,(if 0<=i then (gC i m1.1,m1.2) else m1)=B:=⟨_,rfl⟩
 rw[show s.length+1-a=(s.length-a)+1 by omega,PO q O y j u]at c;have E:MG A m1:=by
  rw[<-q];split
  ·exact I
  ·exact wT s D D.start I
 have z:MG A B:=by
  rw[<-u];split
  ·exact E.keep i
  ·exact E
 have Q:=E.cnt;have S:=z.cnt;refine zz 7 ?_;refine S7 [(1,Q6 s),(3,.s (.one (.eref Unit 2 (CF A) () 0))),(6,.s (.one (.ref 6 0))),(8,.s (.one (.ref 830 0))),(9,.s (.one (.ref 9 0))),(10,K9 H)] [(830,fN A s a),(831,CG m1.1),(832,xR m1.2),(6,.box [.p (.v (.int .i64 0)),.p (.v (.int .i64 0))]),(9,.box [.p (.v (.int .i64 L)),.p (.v (.int .i64 M))])] ?_ ?_
 ·cases H with
  | true =>
   rw[A6 rfl]at q;subst q;skip;refine zc 0 (fun d=>?_) fun d=>?_
   ·cases d
   refine zz 1 ?_;exact Sees.of lf lo
  | false =>
   rw[A7 F2]at q;skip;refine zc 0 (fun d=>?_) fun d=>?_;rotate_left
   ·cases d
   skip;refine qC 8 D6 D6 A0 (zz 7 ?_);refine D1 (zG A0) A0 A0 (zz 1 ?_);refine AF (HH A s D a A.Start a m m1 I D.start q A0 A0 A0 A0) A0 A0 A0 ?_;rintro _ _ ⟨rfl,rfl⟩;refine⟨_,rfl,?_⟩;refine zz 1 ?_;refine zz 0 ?_;exact Sees.of lf lo
 refine zz 4 ?_;refine H8 (CH A s a m1.1 m1.2 E.st B3 A0 A0 A0 A0) A0 A0 A0 ?_;rintro _ _ ⟨rfl,rfl⟩;refine zz 3 ?_;rw[O];refine zz 4 ?_;refine S7 [(1,Q6 s),(3,.s (.one (.eref Unit 2 (CF A) () 0))),(6,.s (.one (.ref 6 0))),(8,.s (.one (.ref 830 0))),(9,.s (.one (.ref 9 0))),(10,K9 w)] [(830,fN A s a),(831,CG B.1),(832,xR B.2),(6,.box [.p (.v (.int .i64 0)),.p (.v (.int .i64 0))]),(9,.box [.p (.v (.int .i64 C.1)),.p (.v (.int .i64 C.2))])] ?_ ?_
 ·skip;refine zc 0 (fun d=>?_) fun d=>?_
  ·have J:=A1 d;rw[A6 J]at y j u;subst y j u;refine zz 14 ?_;refine H8 (UK A s a i m1.1 m1.2 B3 A0 A0 A0 A0) A0 A0 A0 ?_;rintro _ _ ⟨rfl,rfl⟩;refine zz 1 ?_;exact Sees.of lf lo
  ·have J:=A3 d;rw[A7 J]at y j u;subst y j u;refine zz 1 ?_;exact Sees.of lf lo
 refine zz 2 ?_;by_cases F:a=s.length
 ·have k:decide ((a:Int)=(s.length:Int))=true:=A4 B3;rw[A6 (.inl F)]at c;refine zz 9 ?_;refine J9 A0 A0 A0 (by rw[k];decide) A0 ?_;refine J9 A0 A0 A0 (by rw[k];decide) A0 ?_;refine pN A0 A0 A0 A0 (pN A0 A0 A0 A0 (pN A0 A0 A0 A0 (pN A0 A0 A0 A0 (pN A0 A0 A0 A0 (pN A0 A0 A0 A0 (J9 A0 A0 A0 (by rw[k];decide) A0 ?_))))));refine B0 (L6 A0 (k) A0) A0 ?_;refine zc 1 (fun d=>?_) fun d=>?_;rotate_left
  ·cases d
  refine zz 8 ?_;exact B2 (rs:=[.agg [.v (.int .i64 C.1),.v (.int .i64 C.2)],E1 w]) (zX rfl rfl rfl rfl rfl rfl rfl) (by rw[<-c])
 have k:decide ((a:Int)=(s.length:Int))=false:=A5 B3;cases w with
 | true =>
  refine zz 9 ?_;refine J4 A0 A0 A0 k (zz 1 ?_);refine J4 A0 A0 A0 k (zz 13 ?_);refine J4 A0 A0 A0 k (B0 (L6 A0 (rfl) A0) A0 (B0 (V3 A0 (k) A0) A0 ?_));refine zc 1 (fun d=>?_) fun d=>?_
  ·have G:B.1=[]:=List.length_eq_zero_iff.1 (by have:=A1 d;omega);rw[A6 (.inr ⟨rfl,G⟩)]at c;refine zz 8 ?_;exact B2 (rs:=[.agg [.v (.int .i64 C.1),.v (.int .i64 C.2)],E1 true]) (zX rfl rfl rfl rfl rfl rfl rfl) (by rw[<-c])
  ·have G:B.1≠[]:=fun e=>by have:=A3 d;rw[e]at this;exact this rfl
   rw[A7 (fun h=>h.elim F fun h=>G h.2)]at c;refine zz 3 ?_;refine H8 (CI A s D a B3 P B z A0 A0 A0) A0 A0 A0 ?_;rintro _ _ ⟨rfl,rfl⟩;refine zz 1 ?_;exact⟨(a+1,uV A s a B,C,true),⟨by dsimp only;omega,DT s D z,by dsimp only;rw[show s.length+1-(a+1)=s.length-a by omega];exact c⟩,by dsimp only;omega,Sees.of lf lo⟩
 | false =>
  rw[A7 (fun h=>h.elim F fun h=>by cases h.1)]at c;refine zz 9 ?_;refine J4 A0 A0 A0 k (zz 1 ?_);refine J4 A0 A0 A0 k (zz 7 ?_);refine J4 A0 A0 A0 k (B0 (V3 A0 (rfl) A0) A0 (B0 (V3 A0 (k) A0) A0 ?_));refine zc 1 (fun d=>?_) fun d=>?_
  ·cases d
  refine zz 3 ?_;refine H8 (CI A s D a B3 P B z A0 A0 A0) A0 A0 A0 ?_;rintro _ _ ⟨rfl,rfl⟩;refine zz 1 ?_;exact⟨(a+1,uV A s a B,C,false),⟨by dsimp only;omega,DT s D z,by dsimp only;rw[show s.length+1-(a+1)=s.length-a by omega];exact c⟩,by dsimp only;omega,Sees.of lf lo⟩
theorem anyG_ok(A:AL.Auto)(s:Str)(a:AG A)(c:s.length<=16777216):FnOk Tryz.prog 45 [iJ A,F3 s] (fun rs=>rs=[E1 (gF A s 0).2,D3 0]):=by
 refine FnOk.intro Tryz.func45 F2 A0 A0 A0 A0 (zz 10 ?_);refine E3 (UI A a) ?_;refine zc 7 (fun b=>?_) fun b=>?_
 ·cases b
 refine zz 5 ?_;refine E3 (A80 A s a c) (zz 3 ?_);refine C4 (H9 7 A0) A0 (zz 10 ?_);exact B2 (rs:=[E1 (gF A s 0).2,D3 0]) (S6 rfl rfl rfl rfl rfl) rfl
abbrev eW(A:AL.Auto)(s:Str):Bool:=(gF A s 0).2
theorem tX(A:AL.Auto)(hA:AG A)(a b:Str)(ha:I0 a=0)(hb:I0 b=0):FnOk Tryz.prog 24 [iJ A,F3 a,F3 b] (fun rs=>rs=[n7 (cO (eW A) a b),D3 0]):=by
 have w:∀{s:Str},I0 s=0->s.length<=1048576/\(E2 s).length<=4096:=fun {s} h=>by
  unfold I0 at h;split at h
  ·cases h
  ·omega
 obtain⟨am,G⟩:=w ha;obtain⟨an,H⟩:=w hb;have z:=GQ a B3;have B:=GQ b B3;rw[show R1 a=(E2 a,0) by unfold R1;rw[A7 B3]]at z;rw[show R1 b=(E2 b,0) by unfold R1;rw[A7 B3]]at B;obtain⟨x,hx⟩:∃x,x=E2 a:=⟨_,rfl⟩
 obtain⟨y,hy⟩:∃y,y=E2 b:=⟨_,rfl⟩
 have aj:∀s∈x,s.length<=1048576:=fun s q=>by rw[hx]at q;have:=uJ _ _ q;omega
 have ak:∀s∈y,s.length<=1048576:=fun s q=>by rw[hy]at q;have:=uJ _ _ q;omega
 have af:cO (eW A) a b=R6 (eW A) x y (mJ x y):=by unfold cO;rw[hx,hy]
 rw[af];rw[<-hx]at G z;rw[<-hy]at H B;have ab:=KL [x,y] dV (by simp only[B82,List.flatten_nil,B48,List.length_nil];omega);have Q:=TV (J8 (D5 [x,y]) x) (J8 (D5 [x,y]) y) (by rw[gJ];exact G) (by rw[gJ];exact H);obtain⟨L,hL⟩:∃L,L=mJ x y:=⟨_,rfl⟩
 have ag:sB (J8 (D5 [x,y]) x) (J8 (D5 [x,y]) y)=L:=hL.symm;rw[ag]at Q;obtain⟨R,F⟩:=wW x y;rw[<-hL]at R F ⊢;have ah:([x,y].map (J8 (D5 [x,y])))[(0:Int).toNat]?=some (J8 (D5 [x,y]) x):=rfl;have ai:([x,y].map (J8 (D5 [x,y])))[(1:Int).toNat]?=some (J8 (D5 [x,y]) y):=rfl;refine FnOk.intro Tryz.func24 F2 A0 A0 A0 A0 (zz 9 ?_);refine E3 (z) ?_;refine zc 12 (fun d=>?_) fun d=>?_
 ·cases d
 refine zz 4 ?_;refine E3 (B) ?_;refine zc 12 (fun d=>?_) fun d=>?_
 ·cases d
 refine zz 5 ?_;refine B0 (C0 (c:=strsC) (ys:=[x,y]) (C3 A0 A0 A0 A0 (C3 A0 A0 A0 A0 E6)) A0 A0 A0) A0 (E3 (ab) (zz 5 ?_));refine D1 (A9 A0 (.pure _ _ _ _) A0 B3 ah) A0 A0 (zz 2 ?_);refine D1 (A9 A0 (.pure _ _ _ _) A0 B3 ai) A0 A0 (zz 1 ?_);refine D1 (K4 (Q) A0 A0) A0 A0 (zz 8 ?_);refine C4 (O9 14 _ K7 A0) A0 (zz 9 ?_);refine C2 (X:=Nat) (fun i=>([(3,.s (.one (.eref Unit 2 (CF A) () 0))),(8,B8 Str 1 K7 x),(10,B8 Str 1 K7 y),(14,.s (.one (.buf 14 Str 1 K7 (R6 (eW A) x y (L.take i))))),(51,.s (pChanges L).s1),(52,B7 L.length),(53,B7 i)],[(14,.spare (R6 (eW A) x y (L.take i)).length 1 9)])) (fun i=>i<=L.length) (fun i=>L.length-i) 0 (Nat.zero_le _) (Sees.of lf lo) ?_;intro i hi;have O:=iL (eW A) x y (L.take i);rw[B54]at O;have P:(R6 (eW A) x y (L.take i)).length<=4097*8192:=Nat.le_trans O (Nat.mul_le_mul B3 B3);dsimp only at hi ⊢;refine zc 5 (fun d=>?_) fun d=>?_;rotate_left
 ·have ac:i=L.length:=by have:=A3 d;omega
  rw[ac,B51];refine zz 8 ?_;exact B2 (rs:=[n7 (R6 (eW A) x y L),D3 0]) (S6 rfl rfl rfl rfl rfl) rfl
 have ae:i<L.length:=by have:=A1 d;omega
 obtain⟨c,hc⟩:∃c,c=L[i]:=⟨_,rfl⟩
 have C:L[i]?=some c:=by rw[hc];simp[ae]
 obtain⟨q1,q2,q3,q4,q5,q6⟩:=F c (B52 C);obtain⟨W,hW⟩:∃W,W=R6 (eW A) x y (L.take i):=⟨_,rfl⟩
 have hnx:R6 (eW A) x y (L.take (i+1))=W++l6 (eW A) (Z9 x y c):=by
  rw[KR C,hW];unfold R6;rw[List.flatMap_append,List.flatMap_singleton]
 rw[<-hW]at P ⊢;have E:=oL x y c
 have J:=KJ [(x.drop c.Old.toNat).take ((c.Old+c.OldLen).toNat-c.Old.toNat),(y.drop c.New.toNat).take ((c.New+c.NewLen).toNat-c.New.toNat)] dV (by
  simp only[B82,List.flatten_nil,B67]
  exact Nat.le_trans E B3)
 have Y:[(x.drop c.Old.toNat).take ((c.Old+c.OldLen).toNat-c.Old.toNat),(y.drop c.New.toNat).take ((c.New+c.NewLen).toNat-c.New.toNat)].flatten=Z9 x y c:=by
  simp only[B82,List.flatten_nil,B67];rfl
 rw[Y]at J;refine zz 5 ?_;refine B0 (A9 A0 (.pure _ _ _ _) A0 B3 C) A0 (zz 1 ?_);refine C4 (H9 16 A0) A0 (zz 11 ?_);refine D1 (Y6 A0 A0 oY) A0 A0 (D1 (x6 A0 (.pure _ _ _ _) A0 A0 oY oY oY) A0 A0 (zz 7 ?_));refine D1 (Y6 A0 A0 oY) A0 A0 (D1 (x6 A0 (.pure _ _ _ _) A0 A0 oY oY oY) A0 A0 (D1 (C0 (c:=strsC) (ys:=[(x.drop c.Old.toNat).take ((c.Old+c.OldLen).toNat-c.Old.toNat),(y.drop c.New.toNat).take ((c.New+c.NewLen).toNat-c.New.toNat)]) (C3 A0 A0 A0 A0 (C3 A0 A0 A0 A0 E6)) A0 A0 A0) A0 A0 (D1 (K4 (J) A0 A0) A0 A0 (zz 4 ?_))));obtain⟨M,hM⟩:∃M,M=Z9 x y c:=⟨_,rfl⟩
 have S:∀s∈M,s.length<=1048576:=fun s q=>by
  rw[hM]at q;exact (yR q).elim (aj s) (ak s)
 rw[<-hM]at E hnx ⊢;refine C2 (X:=Nat) (fun j=>([(3,.s (.one (.eref Unit 2 (CF A) () 0))),(8,B8 Str 1 K7 x),(10,B8 Str 1 K7 y),(14,.s (.one (.buf 14 Str 1 K7 (W++l6 (eW A) (M.take j))))),(51,.s (pChanges L).s1),(52,B7 L.length),(53,B7 i),(76,B8 Str 1 K7 M),(77,B7 M.length),(78,B7 j)],[(14,.spare (W++l6 (eW A) (M.take j)).length 1 9)])) (fun j=>j<=M.length) (fun j=>M.length-j) 0 (Nat.zero_le _) ?_ ?_
 ·dsimp only;rw[List.take_zero,show l6 (eW A) []=[] from rfl,B67];exact Sees.of lf lo
 intro j hj;have Z:=RP (eW A) (M.take j);rw[B54]at Z;dsimp only at hj ⊢;refine zc 5 (fun d=>?_) fun d=>?_;rotate_left
 ·have ad:j=M.length:=by have:=A3 d;omega
  rw[ad,B51,<-hnx];refine zz 5 ?_;exact⟨i+1,by omega,by omega,Sees.of lf lo⟩
 have K:j<M.length:=by have:=A1 d;omega
 obtain⟨s,q⟩:∃s,s=M[j]:=⟨_,rfl⟩
 have D:M[j]?=some s:=by rw[q];simp[K]
 have ao:=S s (B52 D);have I:=A58 s B3;have U:(V4 s).length<=16777216:=by unfold V4;split<;>(try rw[List.length_dropLast])<;>omega
 obtain⟨V,T⟩:∃V,V=W++l6 (eW A) (M.take j):=⟨_,rfl⟩
 have al:V.length<=4097*8192+8192:=by rw[T,B48];omega
 have v:W++l6 (eW A) (M.take (j+1))=V++(if eW A (V4 s)=true then [V4 s] else []):=by
  rw[T,KR D];unfold l6;rw[B77,B99,B57]
  congr 2
  simp only[B62,List.map_nil,B94,List.filter_nil]
 rw[<-T];refine zz 5 ?_;refine B0 (A9 A0 (.pure _ _ _ _) A0 B3 D) A0 (zz 7 ?_);refine D1 (K4 (I) A0 A0) A0 A0 (D1 (K4 (anyG_ok A (V4 s) hA U) A0 A0) A0 A0 ?_);refine zc 10 (fun d=>?_) fun d=>?_
 ·rw[A6 d]at v;skip;refine zz 3 ?_;refine E3 (I) (B0 (C0 (c:=K7) (ys:=[V4 s]) (C3 A0 A0 A0 A0 E6) A0 A0 A0) A0 (zz 7 ?_));refine⟨j+1,by omega,by omega,?_⟩
  (try dsimp only)
  rw[v];exact Sees.of lf lo
 ·rw[A7 (fun h=>by rw[show (gF A (V4 s) 0).2=true from h]at d;cases d),B67]at v;refine zz 5 ?_;refine⟨j+1,by omega,by omega,?_⟩
  (try dsimp only)
  rw[v];exact Sees.of lf lo
theorem PP(A:AL.Auto)(c:AG A)(a b:Str)(ha:I0 a=0)(hb:I0 b=0):AL.Met Tryz.prog 23 [OP (a,b),.one (.eref Unit 2 (CF A) () 0)] [] [] [] (fun rs ob'=>rs=[mG (decide (0<(cO (eW A) a b).length))]/\ob'=[]):=by
 refine AL.Met.intro Tryz.func23 F2 A0 A0 A0 (zz 2 ?_);refine C4 (n8 2 A0 A0 A0) A0 (zz 9 ?_);refine E3 (tX A c a b ha hb) (zz 14 ?_);refine C7 (F1 rfl rfl) gM (ObIn.spec (ob':=[]) trivial) ⟨?_,rfl⟩
 first
  | rfl
  | (congr 1;simp)
structure GF (B:Nat) (l:List File):Prop where
 len:l.length<=4
 all:∀f∈l,f.Path.length<=3/\f.Blob.length<=B
theorem GF.few{B:Nat}{l:List File}(h:GF B l)(b:B<=16777216):FewF l :=
 ⟨by have:=h.len;omega,fun f a=>by have:=(h.all f a).1;omega,fun f a=>by have:=(h.all f a).2;omega⟩
theorem GF.mono{B B':Nat}{l:List File}(h:GF B l)(b:B<=B'):GF B' l:=⟨h.len,fun f a=>⟨(h.all f a).1,by have:=(h.all f a).2;omega⟩⟩
structure GG (B:Nat) (g:Graph):Prop where
 len:g.length<=16
 pars:∀c∈g,c.Parents.length<=3/\∀p∈c.Parents,0<=p/\p<(g.length:Int)
 files:∀c∈g,GF B c.Files
theorem GG.few{B:Nat}{g:Graph}(h:GG B g)(b:B<=16777216):FewT g :=
 ⟨⟨by have:=h.len;omega,fun c a=>by have:=(h.pars c a).1;omega⟩,fun c a=>(h.files c a).few b⟩
theorem GG.short{B:Nat}{g:Graph}(h:GG B g):Short g:=fun c=>by
 unfold R2;by_cases a:c<g.length
 ·rw[B44 a];have:=(h.files _ (B50 a)).len;show g[c].Files.length<=6;omega
 ·rw[B56 B3];simp
structure GU (L:Nat) (g:Graph):Prop where
 up:∀c p:Nat,(p:Int)∈E9 g c->p<c
 nice:∀c∈g,c.Parents.Nodup/\0<=c.Date/\c.Date<=5
 tree:∀c∈g,GN L c.Files
theorem GU.valid{B L:Nat}{g:Graph}(h:GG B g)(p:B<=1048576)(d:L<=2111)(k:OneWay g)(i:∀c∈g,c.Parents.Nodup/\0<=c.Date/\c.Date<=5)(j:∀c∈g,GN L c.Files):GV g where
 len:=h.len
 pars:=fun c b=>⟨(h.pars c b).1,(h.pars c b).2,i c b⟩
 way:=k
 files:=fun c b=>⟨(j c b).mono d,fun f e=>by have:=((h.files c b).all f e).2;omega⟩
theorem GG.mono{B B':Nat}{g:Graph}(h:GG B g)(a:B<=B'):GG B' g:=⟨h.len,h.pars,fun c b=>(h.files c b).mono a⟩
theorem wF(a:List Int)(ha:a.length<=1099511627776):FnOk Tryz.prog 10 [K8 a,K8 a] (fun rs=>rs=[E1 true]):=by
 refine FnOk.intro Tryz.func10 F2 A0 A0 A0 A0 ?_;refine zc 13 (fun b=>?_) fun b=>?_
 ·exact absurd rfl (A1 b)
 refine zz 7 ?_;refine C2 (X:=Nat) (fun i=>([(0,B8 Int 1 D2 a),(1,B8 Int 1 D2 a),(5,B7 i)],[])) (fun i=>i<=a.length) (fun i=>a.length-i) 0 (Nat.zero_le _) (Sees.of lf lo) ?_;intro i f;dsimp only at f ⊢;refine zc 8 (fun b=>?_) fun b=>?_
 ·have c:i<a.length:=by have:=A1 b;omega
  have d:=getI c;refine zz 7 ?_;refine D1 (A9 A0 (.pure _ _ _ _) A0 B3 d) A0 A0 (zz 3 ?_);refine D1 (A9 A0 (.pure _ _ _ _) A0 B3 d) A0 A0 ?_;refine zc 3 (fun b=>?_) fun b=>?_
  ·exact absurd rfl (A1 b)
  refine zz 6 ?_;exact⟨i+1,by omega,by omega,Sees.of lf lo⟩
 ·refine zz 6 ?_;exact B2 (rs:=[E1 true]) (G6 rfl rfl rfl) rfl
abbrev g0:Graph:=[⟨[],0,[⟨[120],[97,97]⟩]⟩]
abbrev rexF(A:AL.Auto)(x:Str×Str):Bool:=decide (0<(cO (eW A) x.1 x.2).length)
theorem xS{l:List File}(h:G4 l=0)(p:Str):I0 (iI l p)=0:=by
 unfold iI;cases a:L1 l p with
 | none=>decide
 | some x =>
  obtain⟨y,b,_,rfl⟩:=fS a;exact (cM h).2.2.1 y b
theorem PQ:G4 []=0:=by decide
theorem xU{g:Graph}(h:Valid g)(c:Nat):G4 (R2 g c)=0:=by
 unfold R2;by_cases a:c<g.length
 ·rw[B44 a];exact h.tree _ (B50 a)
 ·rw[B56 B3];exact PQ
theorem PR{g:Graph}(h:Valid g){c:Nat}{x:Str×Str}(k:x∈(Q4 g c).flatten):I0 x.1=0/\I0 x.2=0:=by
 obtain⟨l,j,i⟩:=List.mem_flatten.1 k;obtain⟨t,b,rfl⟩:=List.mem_map.1 j;obtain⟨d,_,rfl⟩:=List.mem_map.1 i;refine⟨xS ?_ _,xS (xU h c) _⟩;unfold R3 at b;split at b
 ·rw[List.mem_singleton.1 b];exact PQ
 ·obtain⟨p,_,rfl⟩:=List.mem_map.1 b;exact xU h _
theorem UR(g:Graph)(s:Int)(p:Str)(A:AL.Auto)(f:AG A)(h:FewT g)(l:Short g)(m:FnOk Tryz.prog 21 [F3 p] (fun rs=>rs=[iJ A,D3 0])) :
  FnOk Tryz.prog 8 [S3 g,D3 s,F3 p] (fun rs=>rs=[K8 (Y2 (rexF A) g s).1,D3 (Y2 (rexF A) g s).2]):=by
 have a:=xN g s 23 Unit 2 (CF A) () (rexF A) h l (fun o c _ x q=>by
  obtain⟨d,e⟩:=PR o q
  exact PP A f x.1 x.2 d e)
 obtain⟨R,j⟩:∃R,R=Y2 (rexF A) g s:=⟨_,rfl⟩
 rw[<-j]at a ⊢;refine FnOk.intro Tryz.func8 F2 A0 A0 A0 A0 (zz 2 ?_);refine B0 (E8 _ 1 D2) A0 (zz 5 ?_);refine E3 (m) (zz 3 ?_);refine C4 (H9 8 A0) A0 ?_;refine zc 9 (fun b=>?_) fun b=>?_
 ·cases b
 refine zz 2 ?_;refine C1 (B31 (t:=8) (k:=8) (cs:=[Cell.list AL.State 7 gB A.States,Cell.v (.int .i64 A.Start)]) A0 A0 A0 A0) (zz 3 ?_);refine B0 (xE A0) A0 (eK (a) A0 A0 A0 A0 ?_);rintro _ _ ⟨rfl,rfl⟩;refine⟨rfl,?_⟩;refine zz 5 ?_;refine zz 1 ?_;exact B2 (rs:=[K8 R.1,D3 R.2]) (S6 rfl rfl rfl rfl rfl) rfl
theorem US(a b p:Str)(A:AL.Auto)(d:AG A)(ha:I0 a=0)(hb:I0 b=0)(e:FnOk Tryz.prog 21 [F3 p] (fun rs=>rs=[iJ A,D3 0])) :
  FnOk Tryz.prog 14 [F3 a,F3 b,F3 p] (fun rs=>rs=[n7 (cO (eW A) a b),D3 0]):=by
 refine FnOk.intro Tryz.func14 F2 A0 A0 A0 A0 (zz 2 ?_);refine B0 (E8 _ 1 K7) A0 (zz 5 ?_);refine E3 (e) (zz 3 ?_);refine C4 (H9 8 A0) A0 ?_;refine zc 9 (fun c=>?_) fun c=>?_
 ·cases c
 refine zz 6 ?_;refine E3 (tX A d a b ha hb) (zz 6 ?_);exact B2 (rs:=[n7 (cO (eW A) a b),D3 0]) (S6 rfl rfl rfl rfl rfl) rfl
abbrev autoW:AL.Auto:=⟨[⟨4,⟨0,0,0,0⟩,0,0⟩,⟨3,⟨0,0,0,0⟩,0,0⟩,⟨1,⟨0,0,0,0⟩,3,1⟩,⟨0,⟨0,8589934592,0,0⟩,2,0⟩,⟨0,⟨0,8589934592,0,0⟩,2,0⟩,⟨2,⟨0,0,0,0⟩,4,0⟩],5⟩
abbrev bb:Str:=[97,97]
abbrev g1:Graph:=[⟨[],0,[⟨[120],bb⟩]⟩]
theorem UT:FewT g1:=⟨⟨by decide,by decide⟩,fun c a=>by rw[List.mem_singleton.1 a];exact⟨by decide,by decide,by decide⟩⟩
theorem CQ:Short g1:=fun c=>by
 unfold R2;cases c with
 | zero=>decide
 | succ c=>simp
theorem scr_bb:mJ [] [bb]=[⟨0,0,0,1⟩]:=by
 unfold mJ;rw[show J8 (D5 [[],[bb]]) []=[] by kernel_rfl,show J8 (D5 [[],[bb]]) [bb]=[0] by kernel_rfl];unfold sB;rw[X3];rfl
theorem rex_bb:rexF autoW ([],bb)=true:=by
 show decide (0<(R6 (eW autoW) (E2 []) (E2 bb) (mJ (E2 []) (E2 bb))).length)=true;rw[show E2 []=[] by kernel_rfl,show E2 bb=[bb] by kernel_rfl,scr_bb]
 kernel_rfl
theorem A04:Y2 (rexF autoW) g1 0=([0],0):=by
 have a:p5 g1 0=([0],0):=by kernel_rfl
 have b:Q4 g1 0=[[([],bb)]]:=by kernel_rfl
 unfold Y2;rw[a,A7 (fun e=>e rfl)];simp only[B94,List.filter_nil,w9,Int.toNat_zero,b,List.any_cons,List.any_nil,rex_bb,Bool.or_false,if_true]
theorem lit1:bX g1 0 [97]=([0],0):=by kernel_rfl
theorem cnt1:bY g1 0 [97]=([2],0):=by kernel_rfl
theorem PS(p:Str)(L:List AL.Node)(e:Int)(b:e≠0)(c:FnOk Tryz.prog 35 [F3 p] (fun rs=>rs=[N9 L,D3 e])) :
  FnOk Tryz.prog 21 [F3 p] (fun rs=>rs=[lF,D3 e]):=by
 refine FnOk.intro Tryz.func21 F2 A0 A0 A0 A0 (zz 2 ?_);refine C4 (H9 2 A0) A0 (zz 5 ?_);refine E3 (c) ?_;refine zc 12 (fun a=>?_) fun a=>?_;rotate_left
 ·exact absurd b (A3 a)
 refine zz 8 ?_;exact B2 (rs:=[lF,D3 e]) (zX rfl rfl rfl rfl rfl rfl rfl) rfl
theorem PT(p:Str)(L:List AL.Node)(b:FnOk Tryz.prog 35 [F3 p] (fun rs=>rs=[N9 L,D3 0]))(hb:FnOk Tryz.prog 36 [N9 L] (fun rs=>rs=[lF,D3 1])) :
  FnOk Tryz.prog 21 [F3 p] (fun rs=>rs=[lF,D3 1]):=by
 refine FnOk.intro Tryz.func21 F2 A0 A0 A0 A0 (zz 2 ?_);refine C4 (H9 2 A0) A0 (zz 5 ?_);refine E3 (b) ?_;refine zc 12 (fun a=>?_) fun a=>?_
 ·cases a
 refine zz 4 ?_;refine E3 (hb) (zz 6 ?_);exact B2 (rs:=[lF,D3 1]) (zX rfl rfl rfl rfl rfl rfl rfl) rfl
def qs(n:Nat):Str:=List.replicate n 113
theorem PU:FnOk Tryz.prog 21 [F3 pat4] (fun rs=>rs=[iJ autoW,D3 0]):=by
 have h:=wE pat4 F2;rw[show parsed pat4=(KG,0) by kernel_rfl]at h;exact xP pat4 KG autoW h (BU KG autoW.States 5 20 D6 F2 (by rw[show pV KG=5 by kernel_rfl];decide) D6 F2)
theorem HN:FnOk Tryz.prog 11 [] (fun rs=>rs=[E1 true]):=by
 have b:=OU g1 0 [97] UT CQ F2;have a:=TT g1 0 [97] UT CQ F2;have d:=UR g1 0 pat4 autoW (ag_of D6) UT CQ PU;rw[lit1]at b;rw[cnt1]at a;rw[A04]at d;refine FnOk.intro Tryz.func11 F2 A0 A0 A0 A0 (zz 7 ?_);refine B0 (C0 (c:=eL) (ys:=[(⟨[120],[97,97]⟩:File)]) (C3 A0 A0 A0 A0 E6) A0 A0 A0) A0 (zz 1 ?_);refine fF ((B16 Int 1 D2 10 0 A0 A0)) (B0 (C0 (c:=K5) (ys:=g1) (C3 A0 A0 A0 A0 E6) A0 A0 A0) A0 (zz 5 ?_));refine E3 (b) (zz 9 ?_);refine E3 (d) (zz 9 ?_);refine E3 (a) (zz 15 ?_);refine B0 (L6 A0 (rfl) A0) A0 (zz 5 ?_);refine B0 (L6 A0 (rfl) A0) A0 (zz 4 ?_);refine B0 (C0 (c:=D2) (ys:=[(0:Int)]) (C3 A0 A0 A0 A0 E6) A0 A0 A0) A0 (zz 1 ?_);refine E3 (wF [0] F2) (B0 (L6 A0 (rfl) A0) A0 (zz 4 ?_));refine B0 (C0 (c:=D2) (ys:=[(0:Int)]) (C3 A0 A0 A0 A0 E6) A0 A0 A0) A0 (zz 1 ?_);refine E3 (wF [0] F2) (B0 (L6 A0 (rfl) A0) A0 (zz 4 ?_));refine B0 (C0 (c:=D2) (ys:=[(2:Int)]) (C3 A0 A0 A0 A0 E6) A0 A0 A0) A0 (zz 1 ?_);refine E3 (wF [2] F2) (B0 (L6 A0 (rfl) A0) A0 (zz 3 ?_));exact B2 (rs:=[E1 true]) (G6 rfl rfl rfl) rfl
theorem KT{w:List Int}(d:∀v∈w,0<=v/\v<=4001):∀(c:List Int) (b:Int),0<=b->n6 w b c<=4000->n6 w b c=b+((c.map fun k=>(H4 w k.toNat).toNat).sum:Nat)
 | [],b,_,_=>by simp[n6]
 | k::r,b,h0,h=>by
  have j:=lA w d k;rw[n6]at h ⊢;have e:0<=S9 (b+H4 w k.toNat) 4001:=by unfold S9;split<;>omega
  have f:=KT d r _ e h;rw[f]at h ⊢;have g:S9 (b+H4 w k.toNat) 4001=b+H4 w k.toNat:=by
   unfold S9 at h ⊢;split at h
   ·omega
   ·rename_i i;rw[A7 i]
  rw[g];simp only[B62,B93];omega
theorem KU{g:Int->Nat}:∀{l:List Int} {k:Int},k∈l->g k<=(l.map g).sum
 | y::r,k,h=>by
  simp only[B62,B93];rcases List.mem_cons.1 h with rfl | h
  ·omega
  ·have:=KU (g:=g) h;omega
theorem UU{a:Int}(h:S9 a 4001<=4000):S9 a 4001=a:=by
 unfold S9 at h ⊢;split at h
 ·omega
 ·rename_i b;rw[A7 b]
theorem PW{L:List AL.Node}(C:DV L):∀(B:Nat) (k:Int),k<B->0<=k/\k<L.length->H4 (D9 L) k.toNat<=4000->Bable (L:=L) (w:=D9 L) k (H4 (D9 L) k.toNat).toNat
 | 0,k,h,hk,_=>by omega
 | B + 1,k,hB,hk,hW=>by
  intro next st;have U:=iK C hk;have b:=wt_at C hk;have hw:=UN C;obtain⟨n,i⟩:∃n,n=L.getD k.toNat J6:=⟨_,rfl⟩
  rw[<-i]at U b;have X:=j5 U;have ad:=aH U;obtain⟨W,f⟩:∃W,W=H4 (D9 L) k.toNat:=⟨_,rfl⟩
  obtain⟨g,hg⟩:∃g:Int->Nat,g=fun c=>(H4 (D9 L) c.toNat).toNat:=⟨_,rfl⟩
  have V:∀c,(g c:Int)=H4 (D9 L) c.toNat:=fun c=>by rw[hg];have:=(lA (D9 L) hw c).1;dsimp only;omega
  rw[<-f]at hW b ⊢;by_cases v:W=0
  ·exact⟨1,st,next,by rw[I9];dsimp only;rw[<-f,A6 v],by omega⟩
  have ih:∀c∈n.Kids,g c<=4000->Bable (L:=L) (w:=D9 L) c (g c):=fun c I h=>by
   have:=X c I;have M:=V c;have:=PW C B c B3 B3 B3;rw[hg];exact this
  have ai:=(oW (D9 L) hw n.Kids 0 F2).1;unfold T0 at b;dsimp only at b;by_cases E:n.Kind=1
  ·rw[A7 B3,A7 B3,A7 B3]at b;exact⟨1,st++[_],_,by rw[I9];dsimp only;rw[<-f,<-i,A7 v,A6 E];rfl,by rw[B48,List.length_singleton];omega⟩
  by_cases J:n.Kind=2
  ·rw[A7 B3,A7 B3,A7 B3]at b;exact⟨1,st++[_],_,by rw[I9];dsimp only;rw[<-f,<-i,A7 v,A7 E,A6 J];rfl,by rw[B48,List.length_singleton];omega⟩
  by_cases P:n.Kind=3
  ·rw[A7 B3,A7 B3,A7 B3]at b;exact⟨1,st++[_],_,by rw[I9];dsimp only;rw[<-f,<-i,A7 v,A7 E,A7 J,A6 P];rfl,by rw[B48,List.length_singleton];omega⟩
  by_cases H:n.Kind=4
  ·rw[A6 H]at b;have hs:=KT hw n.Kids 0 (Int.le_refl _) B3;rw[show (fun k:Int=>(H4 (D9 L) k.toNat).toNat)=g from hg.symm]at hs;obtain⟨F,st',q,K,M⟩:=cat_ex (L:=L) (w:=D9 L) (g:=g) (l:=n.Kids.reverse) (fun c I=>ih c (List.mem_reverse.1 I) (by have:=KU (g:=g) (List.mem_reverse.1 I);omega)) next st;refine⟨F+1,st',q,by rw[I9];dsimp only;rw[<-f,<-i,A7 v,A7 E,A7 J,A7 P,A6 H];exact K,?_⟩;rw[List.map_reverse,List.sum_reverse]at M;omega
  by_cases Q:n.Kind=5
  ·rw[A7 H,A6 Q]at b;obtain⟨_,hX⟩:=x9 U;have af:2<=n.Kids.length:=by omega
   have Z:=UU (show S9 _ 4001<=4000 by rw[<-b];exact hW);rw[Z]at b;have hs:=KT hw n.Kids 0 (Int.le_refl _) B3;rw[show (fun k:Int=>(H4 (D9 L) k.toNat).toNat)=g from hg.symm]at hs;have D:n.Kids.reverse.length=n.Kids.length:=B90;have ab:(n.Kids.reverse.map g).sum=(n.Kids.map g).sum:=by rw[List.map_reverse,List.sum_reverse]
   have A:∀c∈n.Kids.reverse,c∈n.Kids:=fun c I=>List.mem_reverse.1 I;have hb:∀c∈n.Kids,g c<=4000:=fun c I=>by have:=KU (g:=g) I;omega
   cases hr:n.Kids.reverse with
   | nil=>rw[hr]at D;simp at D;omega
   | cons c r =>
    rw[hr]at D ab A;simp only[B62,B93,B49]at ab D;have T:=A c (List.mem_cons_self ..);obtain⟨F,st1,q1,K,M⟩:=ih c T (hb c T) next st;obtain⟨G,p,q2,S,h4⟩:=alt_ex (L:=L) (w:=D9 L) (g:=g) (l:=r) (fun x hx=>ih x (A x (List.mem_cons_of_mem _ hx)) (hb x (A x (List.mem_cons_of_mem _ hx)))) next q1 st1;refine⟨F+G+1,p,q2,?_,by omega⟩;rw[I9];dsimp only;rw[<-f,<-i,A7 v,A7 E,A7 J,A7 P,A7 H,A6 Q,hr];dsimp only;rw[gK G K];have:=WN F S
    rwa[show G+F=F+G by omega]at this
  by_cases R:n.Kind=6
  ·rw[A7 H,A7 Q,A6 R]at b;obtain⟨hl,ag,_,ah⟩:=dU U R;obtain⟨e,O⟩:∃e,e=n.Kids.getD 0 0:=⟨_,rfl⟩
   have hkl:n.Kids=[e]:=by
    rw[O]
    match n.Kids,hl with
    | [x],_=>rfl
   have Y:e∈n.Kids:=by rw[hkl];exact List.mem_cons_self ..
   have ae:n6 (D9 L) 0 n.Kids=(g e:Int):=by
    rw[hkl,n6,n6,V e,Int.zero_add];have:=lA (D9 L) hw e;unfold S9;split<;>omega
   rw[ae]at b;obtain⟨a,ha⟩:∃a:Nat,n.Min=(a:Int):=⟨n.Min.toNat,by omega⟩
   have j:∀x y:Nat,(x:Int)*(y:Int)=((x*y:Nat):Int):=fun x y=>(Int.natCast_mul x y).symm;by_cases c7:n.Max<0
   ·rw[A6 c7]at b;have Z:=UU (show S9 _ 4001<=4000 by rw[<-b];exact hW);rw[Z,ha,j]at b;have hb:=ih e Y B3;obtain⟨F,st1,q1,K,M⟩:=hb st.length (st++[{ T7 with Kind:=1,Other:=next }]);rw[B48,List.length_singleton]at M;obtain⟨G,p,q2,S,h4⟩:=WP (L:=L) (w:=D9 L) hb n.Min.toNat (st.length:Int) (st1.set st.length { (st1.getD st.length T7) with Next:=q1 })
    rw[B65,ha,B45]at h4;refine⟨F+G+1,p,q2,?_,by omega⟩;rw[I9];dsimp only;rw[<-f,<-i,A7 v,A7 E,A7 J,A7 P,A7 H,A7 Q,A6 R,A6 c7,<-O,gK G K];dsimp only;have:=ML F S;rw[show G+F=F+G by omega]at this;rw[B45];exact this
   ·rw[A7 c7]at b;have Z:=UU (show S9 _ 4001<=4000 by rw[<-b];exact hW);obtain⟨d,hd⟩:∃d:Nat,n.Max-n.Min=(d:Int):=⟨(n.Max-n.Min).toNat,by omega⟩
    rw[Z,ha,j,<-ha,hd,show ((g e:Int)+1)=((g e+1:Nat):Int) by omega,j]at b;have ac:g e<=4000:=by
     by_cases z:d=0
     ·by_cases z2:a=0
      ·rw[z,z2]at b;simp at b;exact absurd b v
      ·have:=Nat.le_mul_of_pos_left (g e) (show 0<a by omega);omega
     ·have:=Nat.le_mul_of_pos_left (g e+1) (show 0<d by omega);omega
    have hb:=ih e Y ac;obtain⟨F,st1,q1,K,M⟩:=max_ex (L:=L) (w:=D9 L) hb next (n.Max-n.Min).toNat next st;obtain⟨G,p,q2,S,h4⟩:=WP (L:=L) (w:=D9 L) hb n.Min.toNat q1 st1;rw[hd,B45]at M;rw[ha,B45]at h4;refine⟨F+G+1,p,q2,?_,by omega⟩;rw[I9];dsimp only;rw[<-f,<-i,A7 v,A7 E,A7 J,A7 P,A7 H,A7 Q,A6 R,A7 c7,<-O,WO G K];dsimp only;have:=ML F S
    rwa[show G+F=F+G by omega]at this
  ·exact⟨1,st,next,by rw[I9];dsimp only;rw[<-f,<-i,A7 v,A7 E,A7 J,A7 P,A7 H,A7 Q,A7 R],by omega⟩
def rR(p:Str):Int:=if (parsed p).2≠0 then (parsed p).2 else if pV (parsed p).1>4000 then 1 else 0
def Hit(p s:Str):Prop:=∃i j,i<=s.length/\j<=s.length/\Den (parsed p).1 s (((parsed p).1.length:Int)-1) i j
theorem PY(p:Str)(k:p.length<=1099511627776)(h:rR p≠0):FnOk Tryz.prog 21 [F3 p] (fun l=>l=[lF,D3 (rR p)]):=by
 have d:=wE p k;unfold rR at h ⊢;by_cases c:(parsed p).2≠0
 ·rw[A6 c];exact PS p _ _ c d
 ·have b:(parsed p).2=0:=Decidable.not_not.1 c;rw[A7 c]at h ⊢;by_cases e:pV (parsed p).1>4000
  ·rw[A6 e];rw[b]at d;have m:p.length<=256:=by
    refine Nat.le_of_not_lt fun j=>?_;unfold parsed p8 at b;rw[A6 j]at b;cases b
   obtain⟨g,i⟩:=mC (s:=p) (f:=1100) F2 (L:=(parsed p).1) (Prod.ext rfl b) ((sM 1100).pat _ (Nat.zero_le _) b5x);exact PT p _ d (UA _ g i e)
  ·rw[A7 e]at h;exact absurd rfl h
theorem KV(p:Str)(x:p.length<=1099511627776)(h:rR p=0):∃A,AG A/\(∀s,(gF A s 0).2=true↔Hit p s)/\FnOk Tryz.prog 21 [F3 p] (fun y=>y=[iJ A,D3 0]):=by
 have g:=wE p x;unfold rR at h;have b:(parsed p).2=0:=by
  by_cases l:(parsed p).2≠0
  ·rw[A6 l]at h;exact h
  ·exact Decidable.not_not.1 l
 rw[A7 (fun e=>e b)]at h;have n:¬pV (parsed p).1>4000:=fun e=>by rw[A6 e]at h;cases h
 have z:p.length<=256:=by
  refine Nat.le_of_not_lt fun u=>?_;unfold parsed p8 at b;rw[A6 u]at b;cases b
 rw[b]at g;unfold Hit;obtain⟨c,m⟩:=mC (s:=p) (f:=1100) F2 (L:=(parsed p).1) (Prod.ext rfl b) ((sM 1100).pat _ (Nat.zero_le _) b5x);obtain⟨L,q⟩:∃L,L=(parsed p).1:=⟨_,rfl⟩
 rw[<-q]at g c m n ⊢;obtain⟨v,w,i⟩:=d6 c;have k:H4 (D9 L) (L.length-1)<=4000:=by unfold pV at n;omega
 obtain⟨F,st,r,hb,j⟩:=PW (L:=L) i L.length ((L.length:Int)-1) B3 ⟨by omega,by omega⟩ (by rw[show ((L.length:Int)-1).toNat=L.length-1 by omega];exact k) 0 [⟨4,⟨0,0,0,0⟩,0,0⟩];rw[show ((L.length:Int)-1).toNat=L.length-1 by omega,List.length_singleton]at j;have d:st.length<=8000:=by omega
 refine⟨⟨st,r⟩,?_,?_,xP p L ⟨st,r⟩ g (BU L st r F c m B3 hb B3)⟩
 ·exact (HL (s:=[]) c hb d).1
 ·exact fun s=>(HL c hb d).2
theorem PZ(s:Str):FnOk Tryz.prog 47 [F3 s] (fun rs=>rs=[N9 (parsed s).1,D3 (parsed s).2]):=by
 obtain⟨Q,j⟩:∃Q,Q=MA s 1100:=⟨_,rfl⟩
 have F:parsed s=Q:=by rw[j,WA 1100 F2];rfl
 rw[F];unfold MA at j;refine FnOk.intro Tryz.func47 F2 A0 A0 A0 A0 (zz 2 ?_);refine B0 (E8 _ 8 N7) A0 ?_;refine zc 9 (fun d=>?_) fun d=>?_
 ·have i:s.length>256:=by have:=A1 d;omega
  rw[A6 i]at j;rw[j];refine zz 2 ?_;refine B0 (E8 _ 8 N7) A0 (zz 3 ?_);exact B2 (rs:=[N9 [],D3 1]) (S6 rfl rfl rfl rfl rfl) rfl
 have i:¬s.length>256:=by have:=A3 d;omega
 rw[A7 i]at j;have D:SOk s ⟨0,0,[]⟩:=⟨by omega,Nat.zero_le _,by decide⟩
 have B:lZ s 1100 ⟨0,0,[]⟩≠.error 0:=by
  rcases YL (s:=s) 1100 ⟨0,0,[]⟩ rfl (Nat.zero_le _) b5x with h | ⟨h,_⟩
  ·rw[h];exact (sM 1100).pat _ (Nat.zero_le _) b5x
  ·rw[h];exact fun g=>by cases g
 obtain⟨K,z⟩:∃K,K=iW 51:=⟨_,rfl⟩
 have w:KOk K:=by rw[z];exact vY 51
 have u:=rx_all s 1101 1100 F2 F2 50 ⟨0,0,[]⟩ rfl D (Nat.le_refl _) B;rw[<-z]at u;clear z;obtain⟨A,E⟩:∃A,A=lZ s 1100 ⟨0,0,[]⟩:=⟨_,rfl⟩
 rw[<-E]at u j;refine zz 5 ?_;refine C4 (n8 810 A0 A0 A0) A0 (zz 2 ?_);refine C1 (B19 811 AL.Node 8 N7 154 (kb:=810) (o:=3) A0 A0 A0) (zz 3 ?_);refine S0 (u _ _ [] ⟨rfl,rfl,⟨w,(fun _ _ h=>by cases h),(fun _ _ h=>by cases h),(fun _ _ h=>by cases h)⟩⟩) (by repeat (first | exact FreeKs.nil | refine FreeKs.cons (fun _ _=>rfl) ?_ | refine FreeKs.cons (s7 w) ?_)) rfl rfl rfl ?_;rintro _ _ ⟨y,e,v,rfl,rfl,C⟩;refine zz 1 ?_;obtain⟨n,b⟩:∃n:Int,n=if e=0/\y.at_<s.length then 40 else e:=⟨_,rfl⟩
 have f:Q=if n≠0 then ([],n) else (y.nodes,0):=by
  rcases C with ⟨rfl,q⟩ | ⟨he,q,_⟩
  ·rw[q]at j;dsimp only at j;rw[j];by_cases m:y.at_<s.length
   ·rw[A6 ⟨rfl,m⟩]at b;rw[A6 m,b,A6 F2]
   ·rw[A7 (fun g=>m g.2)]at b;rw[A7 m,b,A7 F2]
  ·rw[q]at j;rw[A7 (fun g=>he g.1)]at b;rw[j,b,A6 he]
 refine zz 18 ?_;refine S7 [(4,.s G8)] (RObs s y n []) ?_ ?_
 ·skip;refine zc 0 (fun d=>?_) fun d=>?_
  ·rw[W8,B47,decide_eq_true_eq,decide_eq_true_eq]at d;rw[A6 ⟨d.1,by omega⟩]at b;have x:(if e=0 then (40:Int) else e)=40:=A6 d.1;subst b;skip;refine zz 2 ?_;refine H8 (j2 s y.at_ y.depth e 40 A0) A0 A0 A0 ?_;rintro _ _ ⟨rfl,rfl⟩;refine zz 1 ?_;rw[x];refine zz 0 ?_;exact B20 ⟨Y7 rfl,trivial⟩ (C8 (L:=[(810,_),(811,_)]) ⟨rfl,rfl,trivial⟩ (fun _ _ _ h=>by cases h))
  ·rw[W8,B86,decide_eq_false_iff_not,decide_eq_false_iff_not]at d;rw[A7 (by rintro⟨g1,G⟩;rcases d with h | h;exact h g1;omega)]at b;subst b;refine zz 1 ?_;exact B20 ⟨Y7 rfl,trivial⟩ (C8 (L:=[(810,_),(811,_)]) ⟨rfl,rfl,trivial⟩ (fun _ _ _ h=>by cases h))
 refine zz 9 ?_;by_cases l:n=0
 ·rw[A7 (fun g=>g l)]at f;rw[f];refine zc 0 (fun d=>?_) fun d=>?_
  ·exact absurd l (A1 d)
  refine zz 2 ?_;refine C1 (Sees.freezeG (k:=811) (α:=AL.Node) (ec:=8) (c:=N7) (xs:=y.nodes) (e:=154) A0 A0) (zz 9 ?_);exact B2 (rs:=[N9 y.nodes,D3 0]) (S6 rfl rfl rfl rfl rfl) rfl
 ·rw[A6 l]at f;rw[f];refine zc 0 (fun d=>?_) fun d=>?_;rotate_left
  ·exact absurd (Decidable.not_not.1 (A3 d)) l
  refine zz 6 ?_;refine D1 (E8 _ 8 N7) A0 A0 (zz 3 ?_);exact B2 (rs:=[N9 [],D3 n]) (S6 rfl rfl rfl rfl rfl) rfl
theorem A05(p:Str):FnOk Tryz.prog 25 [F3 p] (fun rs=>rs=if rR p≠0 then [N9 [],D3 (rR p)] else [N9 (parsed p).1,D3 0]):=by
 have g:=PZ p;unfold rR;obtain⟨L,l⟩:∃L,L=(parsed p).1:=⟨_,rfl⟩
 obtain⟨e,d⟩:∃e,e=(parsed p).2:=⟨_,rfl⟩
 rw[<-l,<-d]at g ⊢;by_cases b:e≠0
 ·simp only[A6 b];refine FnOk.intro Tryz.func25 F2 A0 A0 A0 A0 (zz 2 ?_);refine B0 (E8 _ 8 N7) A0 (zz 5 ?_);refine E3 (g) ?_;refine zc 12 (fun c=>?_) fun c=>?_;rotate_left
  ·exact absurd b (A3 c)
  refine zz 3 ?_;refine B0 (E8 _ 8 N7) A0 (zz 3 ?_);exact B2 (rs:=[N9 [],D3 e]) (S6 rfl rfl rfl rfl rfl) rfl
 have b:e=0:=Decidable.not_not.1 b;have r:p.length<=256:=by
  refine Nat.le_of_not_lt fun q=>?_;unfold parsed p8 at d;rw[A6 q]at d;rw[b]at d;cases d
 obtain⟨n,o⟩:=mC (s:=p) (f:=1100) F2 (L:=(parsed p).1) (Prod.ext rfl (d.symm.trans b)) ((sM 1100).pat _ (Nat.zero_le _) b5x);rw[<-l]at n o;obtain⟨i,j,k⟩:=d6 n;have m:=UP L k i j o;subst b;by_cases h:pV L>4000
 ·simp only[A7 (show ¬(0:Int)≠0 by decide),A6 h,A6 (show (1:Int)≠0 by decide)];refine FnOk.intro Tryz.func25 F2 A0 A0 A0 A0 (zz 2 ?_);refine B0 (E8 _ 8 N7) A0 (zz 5 ?_);refine E3 (g) ?_;refine zc 12 (fun c=>?_) fun c=>?_
  ·exact absurd rfl (A1 c)
  refine zz 4 ?_;refine E3 (m) ?_;refine zc 12 (fun c=>?_) fun c=>?_;rotate_left
  ·exact absurd h (A3 c)
  refine zz 2 ?_;refine B0 (E8 _ 8 N7) A0 (zz 3 ?_);exact B2 (rs:=[N9 [],D3 1]) (S6 rfl rfl rfl rfl rfl) rfl
 ·simp only[A7 (show ¬(0:Int)≠0 by decide),A7 h];refine FnOk.intro Tryz.func25 F2 A0 A0 A0 A0 (zz 2 ?_);refine B0 (E8 _ 8 N7) A0 (zz 5 ?_);refine E3 (g) ?_;refine zc 12 (fun c=>?_) fun c=>?_
  ·exact absurd rfl (A1 c)
  refine zz 4 ?_;refine E3 (m) ?_;refine zc 12 (fun c=>?_) fun c=>?_
  ·exact absurd (A1 c) h
  refine zz 8 ?_;exact B2 (rs:=[N9 L,D3 0]) (S6 rfl rfl rfl rfl rfl) rfl
theorem pA(s:Str)(b:Bool)(H:s.length<=1000000):FnOk Tryz.prog 147 [F3 s,E1 b] (fun rs=>rs=[cB (mK (s.length+1) b)]):=by
 obtain⟨n,F⟩:∃n,n=s.length+1:=⟨_,rfl⟩
 obtain⟨f,B⟩:∃f:Nat->Nat->Bool,f=fun i j=>decide (i=j)&&b:=⟨_,rfl⟩
 have C:mK (s.length+1) b=r8 n f:=by rw[F,B];rfl
 rw[C];have E:=zR n f;refine FnOk.intro Tryz.func147 F2 A0 A0 A0 A0 (zz 6 ?_);refine C4 (O9 5 _ M1 A0) A0 (zz 7 ?_);refine C2 (X:=Nat) (fun i=>([(0,Q6 s),(1,K9 b),(5,.s (.one (.buf 5 (List Bool) 1 M1 ((r8 n f).take i)))),(6,B7 i)],[(5,.spare ((r8 n f).take i).length 1 90)])) (fun i=>i<=n) (fun i=>n-i) 0 (Nat.zero_le _) (Sees.of lf lo) ?_;intro i D;dsimp only at D ⊢;have A:((r8 n f).take i).length=i:=by rw[B54,E];omega
 refine zc 8 (fun z=>?_) fun z=>?_
 ·have y:i<n:=by have v:=A1 z;(try dsimp only at v);omega
  have d:(List.replicate n false).set i b=(List.range n).map (f i):=by
   rw[EJ (g:=f i),B];refine List.ext_getElem (by simp[MJ]) fun q v G=>?_;rw[List.getElem_set];simp only[a6,List.getElem_map,List.getElem_range];by_cases w:i=q
   ·rw[A6 w,A4 w];rfl
   ·rw[A7 w,A5 w];simp
  refine zz 8 ?_;refine C4 (l7 700 Bool Q9 false A0 A0 B3 B3 (fun _=>by first | exact⟨⟨rfl,rfl⟩,trivial⟩ | exact⟨F6 _ _ _,trivial⟩ | exact⟨F6 _ _ _,⟨rfl,rfl⟩,F6 _ _ _,trivial⟩) b7w) A0 ?_;refine zz 2 ?_;rw[show ((s.length:Int)+1).toNat=n by omega];refine zz 5 ?_;refine B0 (E4 A0 A0 A0 B3 MR) A0 (V1 (G5 TySz.out A0 A0 MR A0 A0) (zz 1 ?_));rw[B45,d];refine zz 0 ?_;refine C1 (Sees.freeze (k:=700) A0) (zz 3 ?_);refine B0 (C0 (c:=M1) (ys:=[(List.range n).map (f i)]) (C3 A0 A0 A0 A0 E6) A0 A0 A0) A0 (C4 (X5 A0 A0 A0 (.pure _ _ _ _) (by (rw[A];simp only[B49,List.length_nil];omega)) A0) A0 ?_);refine zz 7 ?_;refine⟨i+1,by omega,by omega,?_⟩;rw[EK y];exact (Sees.of lf lo)
 have x:i=n:=by have v:=A3 z;(try dsimp only at v);omega
 rw[x,B69 B3];refine zz 7 ?_;exact B2 (rs:=[cB (r8 n f)]) (G6 rfl rfl rfl) rfl
theorem HO(n:Nat)(A B:List (List Bool))(hn:n<=1000001)(U:A.length=n)(C:∀r∈A,r.length=n)(V:B.length=n)(D:∀r∈B,r.length=n):FnOk Tryz.prog 150 [cB A,cB B] (fun rs=>rs=[cB (EF n A B)]):=by
 obtain⟨f,R⟩:∃f:Nat->Nat->Bool,f=fun i j=>m8 A i j||m8 B i j:=⟨_,rfl⟩
 have W:EF n A B=r8 n f:=by rw[R];rfl
 rw[W];have hl:=zR n f;refine FnOk.intro Tryz.func150 F2 A0 A0 A0 A0 (zz 6 ?_);refine C4 (O9 5 _ M1 A0) A0 (zz 7 ?_);refine C2 (X:=Nat) (fun i=>([(0,B8 (List Bool) 1 M1 A),(1,B8 (List Bool) 1 M1 B),(5,.s (.one (.buf 5 (List Bool) 1 M1 ((r8 n f).take i)))),(6,B7 i)],[(5,.spare ((r8 n f).take i).length 1 90)])) (fun i=>i<=n) (fun i=>n-i) 0 (Nat.zero_le _) (Sees.of lf lo) ?_;intro i hi;dsimp only at hi ⊢;have L:((r8 n f).take i).length=i:=by rw[B54,hl];omega
 refine zc 8 (fun w=>?_) fun w=>?_
 ·have v:i<n:=by have q:=A1 w;(try dsimp only at q);omega
  obtain⟨S,E,Y,F⟩:=vD U C v;obtain⟨T,G,Z,H⟩:=vD V D v;have M:A[((i:Nat):Int).toNat]?=some S:=by rw[B45];exact E
  have O:B[((i:Nat):Int).toNat]?=some T:=by rw[B45];exact G
  refine zz 7 ?_;refine C4 (l7 700 Bool Q9 false A0 A0 B3 B3 (fun _=>by first | exact⟨⟨rfl,rfl⟩,trivial⟩ | exact⟨F6 _ _ _,trivial⟩ | exact⟨F6 _ _ _,⟨rfl,rfl⟩,F6 _ _ _,trivial⟩) b7w) A0 ?_;refine zz 2 ?_;rw[show ((A.length:Nat):Int).toNat=n by omega,EJ (g:=f i)];refine zz 6 ?_;refine C2 (X:=Nat) (fun j=>([(0,B8 (List Bool) 1 M1 A),(1,B8 (List Bool) 1 M1 B),(5,.s (.one (.buf 5 (List Bool) 1 M1 ((r8 n f).take i)))),(6,B7 i),(7,.s (.one (.mut 700))),(8,B7 j)],[(700,.arr Bool 1 Q9 (a6 n (fun _=>false) (f i) j)),(5,.spare ((r8 n f).take i).length 1 90)])) (fun j=>j<=n) (fun j=>n-j) 0 (Nat.zero_le _) (Sees.of lf lo) ?_;intro j hj;dsimp only at hj ⊢;have z:=MJ n (fun _=>false) (f i) j;refine zc 8 (fun w=>?_) fun w=>?_
  ·have y:j<n:=by have q:=A1 w;(try dsimp only at q);omega
   have P:S[((j:Nat):Int).toNat]?=some (m8 A i j):=by rw[B45];exact F j y
   have Q:T[((j:Nat):Int).toNat]?=some (m8 B i j):=by rw[B45];exact H j y
   have d:=YP (n:=n) (f:=fun _=>false) (g:=f i) (j:=j);rw[show f i j=(m8 A i j||m8 B i j) by rw[R]]at d;refine zz 8 ?_;refine B0 (A9 A0 (.pure _ _ _ _) A0 B3 M) A0 (zz 2 ?_);refine B0 (A9 A0 (.pure _ _ _ _) A0 B3 P) A0 (zz 4 ?_);refine F7 A0 A0 A0 A0 (fun x=>by have K:=x;(try simp at K);rw[x];exact A9 A0 (.pure _ _ _ _) A0 B3 O) ?_;refine zz 2 ?_;refine F7 A0 A0 A0 A0 (fun x=>by have K:=x;(try simp at K);rw[x];exact A9 A0 (.pure _ _ _ _) A0 B3 Q) ?_;refine zz 2 ?_;refine B0 (E4 A0 A0 A0 B3 (by (rw[z];omega))) A0 ?_;refine V1 (G5 TySz.out A0 A0 (by (rw[z];omega)) A0 A0) ?_;refine zz 1 ?_;rw[aI,B45,d];refine zz 5 ?_;exact⟨j+1,by omega,by omega,(Sees.of lf lo)⟩
  have J:j=n:=by have q:=A3 w;(try dsimp only at q);omega
  rw[J,RS];refine zz 1 ?_;refine C1 (Sees.freeze (k:=700) A0) (zz 3 ?_);refine B0 (C0 (c:=M1) (ys:=[(List.range n).map (f i)]) (C3 A0 A0 A0 A0 E6) A0 A0 A0) A0 (C4 (X5 A0 A0 A0 (.pure _ _ _ _) (by (rw[L];simp only[B49,List.length_nil];omega)) A0) A0 ?_);refine zz 7 ?_;refine⟨i+1,by omega,by omega,?_⟩;rw[EK v];exact (Sees.of lf lo)
 have I:i=n:=by have q:=A3 w;(try dsimp only at q);omega
 rw[I,B69 B3];refine zz 7 ?_;exact B2 (rs:=[cB (r8 n f)]) (G6 rfl rfl rfl) rfl
theorem nT(n:Nat)(A B:List (List Bool))(hn:n<=1000001)(Z:A.length=n)(I:∀r∈A,r.length=n)(hB:B.length=n)(J:∀r∈B,r.length=n):FnOk Tryz.prog 149 [cB A,cB B] (fun rs=>rs=[cB (EG n A B)]):=by
 obtain⟨f,hf⟩:∃f:Nat->Nat->Bool,f=fun i j=>m9 A B i n j:=⟨_,rfl⟩
 have hT:EG n A B=r8 n f:=by rw[hf];rfl
 rw[hT];have hl:=zR n f;refine FnOk.intro Tryz.func149 F2 A0 A0 A0 A0 (zz 12 ?_);refine C4 (O9 6 _ M1 A0) A0 (zz 7 ?_);refine C2 (X:=Nat) (fun i=>([(0,B8 (List Bool) 1 M1 A),(1,B8 (List Bool) 1 M1 B),(5,B7 n),(6,.s (.one (.buf 6 (List Bool) 1 M1 ((r8 n f).take i)))),(7,B7 i)],[(6,.spare ((r8 n f).take i).length 1 90)])) (fun i=>i<=n) (fun i=>n-i) 0 (Nat.zero_le _) (by rw[<-Z];exact (Sees.of lf lo)) ?_;intro i hi;dsimp only at hi ⊢;have S:((r8 n f).take i).length=i:=by rw[B54,hl];omega
 refine zc 7 (fun d=>?_) fun d=>?_
 ·have G:i<n:=by have w:=A1 d;(try dsimp only at w);omega
  obtain⟨ra,K,ab,L⟩:=vD Z I G;have T:A[((i:Nat):Int).toNat]?=some ra:=by rw[B45];exact K
  refine zz 6 ?_;refine C4 (l7 700 Bool Q9 false A0 A0 B3 B3 (fun _=>by first | exact⟨⟨rfl,rfl⟩,trivial⟩ | exact⟨F6 _ _ _,trivial⟩ | exact⟨F6 _ _ _,⟨rfl,rfl⟩,F6 _ _ _,trivial⟩) b7w) A0 ?_;refine zz 2 ?_;have h0:List.replicate n false=(List.range n).map (m9 A B i i):=by
   rw[EJ (g:=m9 A B i i)];exact RT (fun q=>(EH i (Nat.le_refl i)).symm)
  rw[B45,h0];refine zz 7 ?_;refine C2 (X:=Nat) (fun k=>([(0,B8 (List Bool) 1 M1 A),(1,B8 (List Bool) 1 M1 B),(5,B7 n),(6,.s (.one (.buf 6 (List Bool) 1 M1 ((r8 n f).take i)))),(7,B7 i),(8,.s (.one (.mut 700))),(9,B7 k)],[(700,.arr Bool 1 Q9 ((List.range n).map (m9 A B i k))),(6,.spare ((r8 n f).take i).length 1 90)])) (fun k=>i<=k/\k<=n) (fun k=>n-k) i ⟨Nat.le_refl i,hi⟩ (Sees.of lf lo) ?_;rintro k ⟨D,hk⟩;dsimp only at D hk ⊢;refine zc 7 (fun d=>?_) fun d=>?_
  ·have hkl:k<n:=by have w:=A1 d;(try dsimp only at w);omega
   obtain⟨rb,M,ac,O⟩:=vD hB J hkl;have U:B[((k:Nat):Int).toNat]?=some rb:=by rw[B45];exact M
   have V:ra[((k:Nat):Int).toNat]?=some (m8 A i k):=by rw[B45];exact L k hkl
   rw[A39 (g:=m9 A B i (k+1)) (j:=k) (fun q x=>by rw[pR,A5 (show ¬k<=q by omega),Bool.false_and,Bool.and_false,Bool.and_false,Bool.or_false])];refine zz 9 ?_;refine C2 (X:=Nat) (fun j=>([(0,B8 (List Bool) 1 M1 A),(1,B8 (List Bool) 1 M1 B),(5,B7 n),(6,.s (.one (.buf 6 (List Bool) 1 M1 ((r8 n f).take i)))),(7,B7 i),(8,.s (.one (.mut 700))),(9,B7 k),(10,B7 j)],[(700,.arr Bool 1 Q9 (a6 n (m9 A B i k) (m9 A B i (k+1)) j)),(6,.spare ((r8 n f).take i).length 1 90)])) (fun j=>k<=j/\j<=n) (fun j=>n-j) k ⟨Nat.le_refl k,hk⟩ (Sees.of lf lo) ?_;rintro j ⟨F,hj⟩;dsimp only at F hj ⊢;have C:=MJ n (m9 A B i k) (m9 A B i (k+1)) j;refine zz 9 ?_;refine F7 A0 A0 A0 A0 (fun v=>by have x:=v;(try simp at x);rw[v];exact A9 A0 (.pure _ _ _ _) A0 B3 T) ?_;refine zz 2 ?_;refine F7 A0 A0 A0 A0 (fun v=>by have x:=v;(try simp at x);rw[v];exact A9 A0 (.pure _ _ _ _) A0 B3 V) ?_;refine zc 3 (fun d=>?_) fun d=>?_
   ·rw[W8,B47,decide_eq_true_eq]at d;have E:j<n:=by have w:=d.1;omega
    have W:rb[((j:Nat):Int).toNat]?=some (m8 B k j):=by rw[B45];exact O j E
    have Y:(a6 n (m9 A B i k) (m9 A B i (k+1)) j)[((j:Nat):Int).toNat]?=some (m9 A B i k j):=by rw[B45];exact mix_get E
    have z:=YP (n:=n) (f:=m9 A B i k) (g:=m9 A B i (k+1)) (j:=j);rw[pR,d.2,A4 D,A4 F,Bool.true_and,Bool.true_and,Bool.true_and]at z;refine zz 8 ?_;refine B0 (E4 A0 A0 A0 B3 (by (rw[C];omega))) A0 ?_;refine B0 (M4 A0 A0 Y A0) A0 (zz 3 ?_);refine F7 A0 A0 A0 A0 (fun v=>by have x:=v;(try simp at x);rw[v];exact A9 A0 (.pure _ _ _ _) A0 B3 U) ?_;refine zz 2 ?_;refine F7 A0 A0 A0 A0 (fun v=>by have x:=v;(try simp at x);rw[v];exact A9 A0 (.pure _ _ _ _) A0 B3 W) ?_;refine zz 2 ?_;refine B0 (E4 A0 A0 A0 B3 (by (rw[C];omega))) A0 ?_;refine V1 (G5 TySz.out A0 A0 (by (rw[C];omega)) A0 A0) ?_;refine zz 1 ?_;rw[aI,B45,z];refine zz 5 ?_;exact⟨j+1,⟨by omega,by omega⟩,by omega,(Sees.of lf lo)⟩
   rw[W8,B86]at d;have H:a6 n (m9 A B i k) (m9 A B i (k+1)) j=(List.range n).map (m9 A B i (k+1)):=by
    rcases d with h | h
    ·have w:=A3 h;have Q:j=n:=by omega
     rw[Q,RS]
    ·exact RT (fun q=>by rw[pR,h,Bool.false_and,Bool.and_false,Bool.or_false])
   rw[H];refine zz 6 ?_;exact⟨k+1,⟨by omega,by omega⟩,by omega,(Sees.of lf lo)⟩
  have R:k=n:=by have w:=A3 d;(try dsimp only at w);omega
  rw[R,show (List.range n).map (m9 A B i n)=(List.range n).map (f i) by rw[hf]];refine zz 1 ?_;refine C1 (Sees.freeze (k:=700) A0) (zz 3 ?_);refine B0 (C0 (c:=M1) (ys:=[(List.range n).map (f i)]) (C3 A0 A0 A0 A0 E6) A0 A0 A0) A0 (C4 (X5 A0 A0 A0 (.pure _ _ _ _) (by (rw[S];simp only[B49,List.length_nil];omega)) A0) A0 ?_);refine zz 7 ?_;refine⟨i+1,by omega,by omega,?_⟩;rw[EK G];exact (Sees.of lf lo)
 have P:i=n:=by have w:=A3 d;(try dsimp only at w);omega
 rw[P,B69 B3];refine zz 7 ?_;exact B2 (rs:=[cB (r8 n f)]) (G6 rfl rfl rfl) rfl
abbrev aC(m:Nat):List TC:=V8 Q9 m 0 (fun _=>([]:List Bool))
abbrev jT(n:Nat):Nat->List Bool:=fun _=>List.replicate n false
theorem CR{m k:Nat}(c:k<1000):(aC m).all (TC.free k)=true:=by
 rw[List.all_eq_true];intro t b;obtain⟨r,_,rfl⟩:=List.mem_map.1 b;rw[A7 B3];simp[TC.free,P8 (show r+1000≠k by omega)]
theorem QA(k:Nat):(aC k).all (TC.free (k+1000))=true:=by
 rw[List.all_eq_true];intro t c;obtain⟨r,b,rfl⟩:=List.mem_map.1 c;have:=List.mem_range.1 b;rw[A7 B3];simp[TC.free,P8 (show r+1000≠k+1000 by omega)]
theorem UV(k:Nat):(aC k++[TC.mut 734]).map (TC.ren 734 (k+1000))=aC (k+1):=by
 unfold aC V8;rw[B77,B96,B77,B80];have b:(List.range k).map (TC.ren 734 (k+1000) ∘ fun r=>if r<0 then TC.p (.list Bool 1 Q9 []) else TC.mut (r+1000))=(List.range k).map fun r=>if r<0 then TC.p (.list Bool 1 Q9 []) else TC.mut (r+1000):=by
  refine List.map_congr_left fun r c=>?_;show TC.ren 734 (k+1000) (if r<0 then _ else TC.mut (r+1000))=_;rw[A7 B3];simp[TC.ren,P8 (show r+1000≠734 by omega)]
 exact congr (congrArg _ b) (by simp[TC.ren])
theorem A06(m:Nat)(g:Nat->List Bool):aC m=V8 Q9 m 0 g:=by
 unfold aC V8;refine List.map_congr_left fun r _=>?_;rw[A7 B3,A7 B3]
theorem A07{k:Nat}(a:k<1000){m:Nat}{g:Nat->List Bool}:J0 k (R7 Q9 g (List.range m))=true:=AC (k:=k) B3 (List.range m) (fun r _=>by omega) (c:=Q9) (g:=g)
theorem QB(q:Nat)(g:Nat->List Bool)(l:List Nat):Obs.forget q (R7 Q9 g l)=R7 Q9 g l:=by
 unfold Obs.forget R7;rw[B80];exact List.map_congr_left fun r _=>rfl
theorem A81{K:List Nat}{q:Nat}{g:Nat->List Bool}{l:List Nat}:∀j x,E5 K j=false->B6 (R7 Q9 g l) j=some x->B6 (Obs.forget q (R7 Q9 g l)) j=some x:=fun j x _ h=>by rw[QB];exact h
abbrev j8(k:Nat)(g:Nat->List Bool):Obs:=(702,.growT 90 k 1 (aC k))::R7 Q9 g (List.range k)
theorem xV(q k:Nat)(a:q<1000)(h:702≠q)(g:Nat->List Bool):J0 q (j8 k g)=true:=by
 simp only[j8,J0,Ob.free,A07 a,CR a,P8 h];rfl
theorem HP(g:Nat->List Bool):∀l:List Nat,nD (R7 Q9 g l)=[]
 | []=>rfl
 | r::l=>HP g l
theorem QC(n:Nat)(g:Nat->List Bool):∀k∈nD (j8 n g),(B6 (j8 n g) k).isSome=true:=fun k d=>by
 have h:k∈(aC n).flatMap TC.refs:=by
  have b:k∈(aC n).flatMap TC.refs++nD (R7 Q9 g (List.range n)):=d;rw[HP,B67]at b;exact b
 obtain⟨t,b,c⟩:=List.mem_flatMap.1 h;obtain⟨r,j,rfl⟩:=List.mem_map.1 b;rw[A7 B3]at c;have e:k=r+1000:=List.mem_singleton.1 c;subst e;rw[A8 B3,kP j];rfl
theorem UW{P:Program}{nt:Nat}{fr:Fr}{n k:Nat}(p:k<=900000)(c:I3 (k+1000) fr=true) :
  Sees P nt fr ([(702,.growT 90 (k+1) 1 (aC k++[TC.mut 734])),(734,.arr Bool 1 Q9 (List.replicate n false)),(735,.tarr 1 1 [.mut 734])]++R7 Q9 (jT n) (List.range k)) fr (j8 (k+1) (jT n)):=by
 refine B41 (j:=734) (k:=k+1000) A0 b2y B3 c ?_;intro i o h;have b:=P8 (show 734≠k+1000 by omega);by_cases e:i=702
 ·subst e;have h:some (.growT 90 (k+1) 1 (aC (k+1)))=some o:=h;cases h;refine⟨by omega,.growT 90 (k+1) 1 (aC k++[TC.mut 734]),by rw[A7 B3];rfl,?_,?_⟩
  ·simp only[Ob.free,B97,QA,List.all_cons,List.all_nil,TC.free,b];rfl
  ·show _=Ob.growT _ _ _ _;rw[UV]
 have h:B6 ([(702,.growT 90 (k+1) 1 (aC (k+1)))]++R7 Q9 (jT n) (List.range (k+1))) i=some o:=h;have d:B6 ([(702,.growT 90 (k+1) 1 (aC (k+1)))]:Obs) i=none:=by
  rw[A8 (Ne.symm e)];rfl
 rw[U4 d]at h;obtain⟨r,f,rfl,rfl⟩:=(jN _ _ _).1 h;have f:=List.mem_range.1 f;refine⟨by omega,.arr Bool 1 Q9 (List.replicate n false),?_,rfl,rfl⟩;by_cases l:r=k
 ·subst l;rw[A6 rfl];rfl
 ·rw[A7 B3,U4 (mX rfl B3)];exact kP (List.mem_range.2 B3)
theorem rS(s:Str)(B:s.length<=899000):AL.Met Tryz.prog 147 [(F3 s).s1,(E1 false).s1] [] [] [702] (fun rs ob'=>rs=[.one (.mut 702)]/\ob'=j8 (s.length+1) (jT (s.length+1))):=by
 obtain⟨n,y⟩:∃n,n=s.length+1:=⟨_,rfl⟩
 rw[<-y];refine AL.Met.intro Tryz.func147 F2 A0 A0 A0 (zz 6 ?_);refine C4 (AE 702 _ M1 A0) A0 (zz 1 ?_);refine C1 (B42 702 A0) (zz 6 ?_);refine C2 (X:=Nat) (fun i=>([(0,Q6 s),(1,K9 false),(5,.s (.one (.mut 702))),(6,B7 i)],j8 i (jT n))) (fun i=>i<=n) (fun i=>n-i) 0 (Nat.zero_le _) (Sees.of lf lo) ?_;intro i v;dsimp only at v ⊢;refine zc 8 (fun l=>?_) fun l=>?_
 ·have x:i<n:=by have j:=A1 l;(try dsimp only at j);omega
  have c:=xV 734 i B3 B3 (jT n);have b:J0 735 ((734,.arr Bool 1 Q9 (List.replicate n false))::j8 i (jT n))=true:=by
   have:=xV 735 i B3 B3 (jT n);rw[J0,this];rfl
  have d:(aC i++[TC.mut 734]).map (TC.forget 702)=aC i++[TC.mut 734]:=aR (by rw[B97,CR B3];rfl);have f:(List.replicate n false).set i false=List.replicate n false:=by
   refine List.ext_getElem dV fun q j A=>?_;rw[List.getElem_set];split<;>simp
  refine zz 8 ?_;refine C4 (l7 734 Bool Q9 false A0 A0 B3 B3 (fun _=>by first | exact⟨⟨rfl,rfl⟩,trivial⟩ | exact⟨F6 _ _ _,trivial⟩ | exact⟨F6 _ _ _,⟨rfl,rfl⟩,F6 _ _ _,trivial⟩) (by simp only[I3,SV.free,S1.free,TC.free,c];rfl)) A0 ?_;refine zz 2 ?_;rw[show ((s.length:Int)+1).toNat=n by omega];refine zz 5 ?_;refine B0 (E4 A0 A0 A0 B3 MR) A0 (V1 (G5 TySz.out A0 A0 MR A0 A0) (zz 1 ?_));rw[B45,f];refine zz 3 ?_;refine C4 (A50 735 A0 A0 A0 A0 A0 (by first | exact b | (simp only[I3,SV.free,S1.free,TC.free,b];rfl))) A0 ?_;refine C4 (JM A0 A0 A0 A0 B3 A0) A0 (zz 2 ?_);refine t8 [(0,Q6 s),(1,K9 false),(5,.s (.one (.mut 702))),(6,B7 i)] ([(702,.growT 90 (i+1) 1 (aC i++[TC.mut 734])),(734,.arr Bool 1 Q9 (List.replicate n false)),(735,.tarr 1 1 [.mut 734])]++R7 Q9 (jT n) (List.range i)) (B20 lf (C8 (L:=[(702,_),(734,_),(735,_)]) ⟨congrArg (fun z=>some (Ob.growT 90 (i+1) 1 z)) d,rfl,rfl,trivial⟩ (by repeat (first | exact A81 | refine R9 rfl ?_)))) ?_;refine C1 (UW B3 A0) ?_;skip;refine zz 5 ?_;refine⟨i+1,by omega,by omega,?_⟩;exact B20 lf (fun _ _ h=>h)
 have k:i=n:=by have j:=A3 l;(try dsimp only at j);omega
 rw[k];refine zz 7 ?_;exact C7 (F1 rfl rfl) gM (fun _ _ h=>h) ⟨rfl,rfl⟩
end Go.Proofs.YtabbdaafimcjhaaGreatDoor
