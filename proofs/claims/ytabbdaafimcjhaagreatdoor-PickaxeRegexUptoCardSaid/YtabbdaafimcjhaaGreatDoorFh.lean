
/- Walks of the program's functions. -/
import Derived.Test.YtabbdaafimcjhaaGreatDoorFg
import Derived.RecoverIn
set_option linter.all false
namespace Go.Proofs.YtabbdaafimcjhaaGreatDoor
open Go Go.AL
open Tryz (prog)
set_option maxRecDepth 100000
set_option maxHeartbeats 4000000
theorem SE(L:List AL.Node)(M:FZ L)(A:1<=L.length)(hl:L.length<=4000)(W:∀n∈L,n.Kids.length<=4000):FnOk prog 92 [P8 L] (fun rs=>rs=[C8 0]):=by
 refine FnOk.intro Tryz.func92 F1 A0 A0 A0 A0 ?_;refine zc 16 (fun j=>?_) fun j=>?_
 ·exfalso;rw[x7,C67,decide_eq_true_eq,decide_eq_true_eq]at j;omega
 refine I3 ?_;refine B9 (X:=Nat) (fun i=>([(0,B8 AL.Node 8 P5 L),(3,B6 i)],[])) (fun i=>i<=L.length) (fun i=>L.length-i) 0 (C41 _) (C1) ?_;intro i U;dsimp only at U ⊢;refine zc 8 (fun j=>?_) fun j=>?_
 ·have J:i<L.length:=by have A:=A1 j;(try dsimp only at A);omega
  obtain⟨n,R⟩:∃n,n=L[i]:=⟨_,rfl⟩
  have B:L[i]?=some n:=by rw[R];simp[J]
  have hv:L[((i:Nat):Int).toNat]?=some n:=by rw[C37];exact B
  have H:=M i n B;have z:=r7 H;have C:=bZ H;have D:=bK H;have I:=W n (C60 B);clear R B H;obtain⟨K,Z,F,G,kids⟩:=n;dsimp only at z C D I;obtain⟨_,S⟩:=D;refine Z2 ?_;refine C2 (H9 4 A0) A0 (R3 ?_);refine B9 (X:=Nat) (fun q=>([(0,B8 AL.Node 8 P5 L),(3,B6 i),(4,.s (.one (.ref 4 0))),(5,B6 q)],[(4,.box [.p (.v (.int .i64 K)),.p (.v (.int .u64 Z.a)),.p (.v (.int .u64 Z.b)),.p (.v (.int .u64 Z.c)),.p (.v (.int .u64 Z.d)),.p (.v (.int .i64 F)),.p (.v (.int .i64 G)),.p (.list Int 1 C7 kids)])])) (fun q=>q<=kids.length) (fun q=>kids.length-q) 0 (C41 _) (C1) ?_;intro q O;dsimp only at O ⊢;refine zc 9 (fun j=>?_) fun j=>?_
  ·have E:q<kids.length:=by have A:=A1 j;(try dsimp only at A);omega
   obtain⟨c,Q⟩:∃c,c=kids[q]:=⟨_,rfl⟩
   have ab:kids[((q:Nat):Int).toNat]?=some c:=by rw[C37,Q];simp[E]
   have T:=z c (by rw[Q];exact C43 E);refine zz 15 ?_;refine D7 A0 A0 A0 A0 (fun w=>by have O:=w;(try simp at O);rw[w];exact C5 A0 (.pure _ _ _ _) A0 B1 aT) ?_;refine zc 5 (fun j=>?_) fun j=>?_
   ·exfalso;rw[x7,C67,decide_eq_true_eq,decide_eq_true_eq]at j;omega
   refine J0 ?_;exact⟨q+1,by omega,by omega,(C1)⟩
  refine zz 21 ?_;refine BF [(0,B8 AL.Node 8 P5 L),(3,B6 i),(4,.s (.one (.ref 4 0))),(6,L6 true)] [(4,.box [.p (.v (.int .i64 K)),.p (.v (.int .u64 Z.a)),.p (.v (.int .u64 Z.b)),.p (.v (.int .u64 Z.c)),.p (.v (.int .u64 Z.d)),.p (.v (.int .i64 F)),.p (.v (.int .i64 G)),.p (.list Int 1 C7 kids)])] ?_ ?_
  ·rcases S with ⟨P,Y⟩ | ⟨P,hk2⟩ | ⟨P,hk1,h2,h3,h4⟩
   ·rw[A4 (show (kids.length:Int)=0 by omega)];skip;refine zc 0 (fun j=>?_) fun j=>?_
    ·have:=A1 j;omega
    refine zc 6 (fun j=>?_) fun j=>?_
    ·have:=A1 j;omega
    skip;refine zc 4 (fun j=>?_) fun j=>?_
    ·have:=A1 j;omega
    refine G5 ?_;exact (C1)
   ·skip;refine zc 0 (fun j=>?_) fun j=>?_
    ·have:=A1 j;omega
    refine zc 6 (fun j=>?_) fun j=>?_
    ·refine zc 1 (fun j=>?_) fun j=>?_;rotate_left
     ·rename_i A;rw[A]at j;cases j
     skip;refine I3 ?_;rw[A4 (show (kids.length:Int)>=2 by omega)];refine uI ?_;exact (C1)
    ·skip;refine zc 4 (fun j=>?_) fun j=>?_;rotate_left
     ·rename_i A;have g1:=A3 A;have g2:=A3 j;omega
     skip;refine I3 ?_;rw[A4 (show (kids.length:Int)>=2 by omega)];refine uI ?_;exact (C1)
   ·skip;refine zc 0 (fun j=>?_) fun j=>?_;rotate_left
    ·have:=A3 j;omega
    have hb:(if (if (if decide ((kids.length:Int)=1)=true then decide (F>=0) else false)=true then decide (F<=100) else false)=true then (if decide (G = -1)=true then true else if decide (G>=F)=true then decide (G<=100) else false) else false)=true:=by
     simp only[x7,P4];simp only[C39,C67,decide_eq_true_eq];omega
    skip;refine zz 20 ?_;refine K4 A0 A0 A0 (.gd (.val _)) A0 (fun w=>by obtain⟨k,m⟩:=N0 w;(try rw[k]);(try rw[m]);exact F4 A0) ?_;refine K4 A0 A0 A0 (.gd (.val _)) A0 (fun w=>by obtain⟨k,m⟩:=N0 w;(try rw[k]);(try rw[m]);exact E7 A0 A0 A0) ?_;refine K4 A0 A0 A0 (.gd (.val _)) A0 (fun w=>by obtain⟨k,m⟩:=N0 w;(try rw[k]);(try rw[m]);exact F4 A0) ?_;refine K4 A0 A0 A0 (.gd (.val _)) A0 (fun w=>by obtain⟨k,m⟩:=N0 w;(try rw[k]);(try rw[m]);exact E7 A0 A0 A0) ?_;refine K4 A0 A0 A0 (.gd (.val _)) A0 (fun w=>by obtain⟨k,m⟩:=N0 w;(try rw[k]);(try rw[m]);exact BS A0 A0) ?_;refine G5 ?_;refine K4 A0 A0 A0 (.gd (.gd (.val _))) A0 (fun w=>by obtain⟨k,m,y⟩:=qI w;(try rw[k]);(try rw[m]);(try rw[y]);exact F4 A0) ?_;refine K4 A0 A0 A0 (.gd (.gd (.val _))) A0 (fun w=>by obtain⟨k,m,y⟩:=qI w;(try rw[k]);(try rw[m]);(try rw[y]);exact E7 A0 A0 A0) ?_;refine K4 A0 A0 A0 (.gd (.gd (.val _))) A0 (fun w=>by obtain⟨k,m,y⟩:=qI w;(try rw[k]);(try rw[m]);(try rw[y]);exact PM A0 A0) ?_;refine K4 A0 A0 A0 (.gd (.val _)) A0 (fun w=>by obtain⟨k,m⟩:=N0 w;(try rw[k]);(try rw[m]);exact l8 A0 (fun h=>by first | rfl | (rw[h];rfl)) (fun h=>by first | rfl | (rw[h];rfl))) ?_;refine P1 ?_;rw[hb];refine uI ?_;exact (C1)
  refine zc 15 (fun j=>?_) fun j=>?_
  ·exfalso;simp only[x7]at j;simp only[C67,Bool.not_true,decide_eq_true_eq]at j;rcases j with (h | h) | h
   ·cases h
   ·omega
   ·omega
  refine J0 ?_;exact⟨i+1,by omega,by omega,(C1)⟩
 have V:i=L.length:=by have A:=A3 j;(try dsimp only at A);omega
 refine J0 ?_;exact A9 (rs:=[C8 0]) M1 rfl
theorem EQ(n:Int):FnOk prog 93 [C8 n] (fun rs=>rs=[C8 (V1 n 4001)]):=by
 refine FnOk.intro Tryz.func93 F1 A0 A0 A0 A0 (V7 ?_);refine A9 M1 ?_;rfl
theorem wt_get{L:List AL.Node}{c:Int}{i:Nat}(b:0<=c)(d:c<(i:Int))(f:i<=L.length):((E9 L).take i)[c.toNat]?=some (I0 (E9 L) c.toNat):=by
 have j:(E9 L).length=L.length:=by rw[<-mU];exact qO L L.length
 unfold I0;rw[D04 B1,C36 (show c.toNat<(E9 L).length by omega)];rfl
theorem JZ(w:List Int):∀(b:List Int) (k a:Int),w8 w a (b++[k])=V1 (w8 w a b+I0 w k.toNat) 4001
 | [],_,_=>rfl
 | x::r,k,a=>by rw[C92,w8,w8,JZ w r k]
def rawW(n:AL.Node)(a:Int):Int:=if n.Kind=5 then a+n.Kids.length-1 else if n.Kind=6 then n.Min*a+(if n.Max>=0 then (n.Max-n.Min)*(a+1) else a+1) else if n.Kind=4 then a else 1
theorem raw_cap{n:AL.Node}{w:List Int}(f:0<=w8 w 0 n.Kids)(g:w8 w 0 n.Kids<=4001):V1 (rawW n (w8 w 0 n.Kids)) 4001=V2 n w:=by
 unfold rawW V2;dsimp only;obtain⟨a,ha⟩:∃a,a=w8 w 0 n.Kids:=⟨_,rfl⟩
 rw[<-ha]at f g ⊢;by_cases b:n.Kind=4
 ·rw[A7 B1,A7 B1,A6 b,A6 b];unfold V1;rw[A7 B1]
 rw[A7 b,A7 b];by_cases c:n.Kind=5
 ·rw[A6 c,A6 c]
 rw[A7 c,A7 c];by_cases d:n.Kind=6
 ·rw[A6 d,A6 d];by_cases e:n.Max<0
  ·rw[A7 B1,A6 e,show n.Min*a+(a+1)=n.Min*a+a+1 by omega]
  ·rw[A6 B1,A7 e]
 ·rw[A7 d,A7 d];rfl
theorem XK(L:List AL.Node)(x:FZ L)(j:1<=L.length)(hl:L.length<=4000)(hk:∀n∈L,n.Kids.length<=4000):FnOk prog 48 [P8 L] (fun rs=>rs=[C8 (rQ L),C8 0]):=by
 have E:(E9 L).length=L.length:=by rw[<-mU];exact qO L L.length
 have v:=XI x;have D:∀c:Int,0<=I0 (E9 L) c.toNat/\I0 (E9 L) c.toNat<=4001:=mT (E9 L) v;obtain⟨W,J⟩:∃W,W=E9 L:=⟨_,rfl⟩
 rw[<-J]at E v D;refine FnOk.intro Tryz.func48 F1 A0 A0 A0 A0 (Z2 ?_);refine E2 (SE L x j hl hk) ?_;refine zc 2 (fun d=>?_) fun d=>?_
 ·exact absurd rfl (A1 d)
 refine H3 ?_;refine C2 (L2 4 _ C7 A0) A0 (I3 ?_);refine B9 (X:=Nat) (fun i=>([(0,B8 AL.Node 8 P5 L),(4,.s (.one (.buf 4 Int 1 C7 (W.take i)))),(5,B6 i)],[(4,.spare (W.take i).length 1 3)])) (fun i=>i<=L.length) (fun i=>L.length-i) 0 (C41 _) (C1) ?_;intro i hi;dsimp only at hi ⊢;have H:(W.take i).length=i:=by rw[C59,E];omega
 refine zc 8 (fun d=>?_) fun d=>?_;rotate_left
 ·have T:i=L.length:=by have j:=A3 d;(try dsimp only at j);omega
  have A:(W.take i)[(((W.take i).length:Int)-1).toNat]?=some (rQ L):=by
   unfold rQ I0;rw[H,T,<-J,C83 B1,show ((L.length:Int)-1).toNat=L.length-1 by omega,C36 B1];rfl
  refine I3 ?_;refine B2 (C5 A0 (.buf _ _ _ _ _) A0 B1 A) A0 (I2 ?_);exact A9 (rs:=[C8 (rQ L),C8 0]) cN rfl
 have V:i<L.length:=by have j:=A1 d;(try dsimp only at j);omega
 obtain⟨n,hn⟩:∃n,n=L.getD i K8:=⟨_,rfl⟩
 have B:L[i]?=some n:=by rw[hn,C38,C36 V];rfl
 have hv:L[((i:Nat):Int).toNat]?=some n:=by rw[C37];exact B
 have S:=x i n B;have z:=r7 S;have U:=bZ S;have F:=fI S;have ag:=hk n (C60 B);have P:I0 W i=V2 n W:=by
  have:=wt_at x (k:=(i:Int)) ⟨by omega,by omega⟩;rw[C37,<-hn,<-J]at this;exact this
 have G:=qP W v n.Kids 0 F1;refine zz 13 ?_;refine B9 (X:=Nat) (fun q=>([(0,B8 AL.Node 8 P5 L),(4,.s (.one (.buf 4 Int 1 C7 (W.take i)))),(5,B6 i),(6,B6 (w8 W 0 (n.Kids.take q))),(7,B6 q)],[(4,.spare (W.take i).length 1 3)])) (fun q=>q<=n.Kids.length) (fun q=>n.Kids.length-q) 0 (C41 _) (C1) ?_;intro q hq;dsimp only at hq ⊢;refine zc 12 (fun d=>?_) fun d=>?_
 ·have ad:q<n.Kids.length:=by have j:=A1 d;(try dsimp only at j);omega
  obtain⟨c,hc⟩:∃c,c=n.Kids[q]:=⟨_,rfl⟩
  have C:n.Kids[q]?=some c:=by rw[hc];simp[ad]
  have an:n.Kids[((q:Nat):Int).toNat]?=some c:=by rw[C37];exact C
  obtain⟨Q,R⟩:=z c (C60 C);have ae:(W.take i)[c.toNat]?=some (I0 W c.toNat):=by rw[J];exact wt_get Q R B1
  have am:=qP W v (n.Kids.take q) 0 F1;have af:=D c;refine zz 14 ?_;refine B2 (C5 A0 (.buf _ _ _ _ _) A0 B1 ae) A0 (F5 ?_);refine uZ (EQ _) A0 A0 A0 (F5 ?_);rw[<-JZ,<-mA C];refine I2 ?_;exact⟨q+1,by omega,by omega,(C1)⟩
 have ac:q=n.Kids.length:=by have j:=A3 d;(try dsimp only at j);omega
 rw[ac,C48];obtain⟨a,ha⟩:∃a,a=w8 W 0 n.Kids:=⟨_,rfl⟩
 have y:=raw_cap (n:=n) (w:=W) B1 B1;rw[<-ha]at y G ⊢;refine zz 16 ?_;refine BF [(0,B8 AL.Node 8 P5 L),(4,.s (.one (.buf 4 Int 1 C7 (W.take i)))),(5,B6 i),(6,B6 (rawW n a))] [(4,.spare (W.take i).length 1 3)] ?_ ?_
 ·unfold rawW;skip;refine zc 0 (fun d=>?_) fun d=>?_
  ·have M:n.Kind=5:=A1 d;rw[A6 M];skip;refine x5 ?_;exact (C1)
  have M:¬n.Kind=5:=A3 d;rw[A7 M];refine zc 5 (fun d=>?_) fun d=>?_
  ·have I:n.Kind=6:=A1 d;obtain⟨_,ah,ai,aj⟩:=F I;have ak:0<=n.Min*a:=Int.mul_nonneg B1 B1;have al:n.Min*a<=100*4001:=Int.mul_le_mul B1 B1 B1 B1;rw[A6 I];refine zz 16 ?_;refine U9 [(0,B8 AL.Node 8 P5 L),(4,.s (.one (.buf 4 Int 1 C7 (W.take i)))),(5,B6 i),(6,B6 a),(8,B6 (if n.Max>=0 then (n.Max-n.Min)*(a+1) else a+1))] [(4,.spare (W.take i).length 1 3)] ?_ ?_
   ·skip;refine zc 0 (fun d=>?_) fun d=>?_
    ·have O:n.Max>=0:=A1 d;have Y:0<=(n.Max-n.Min)*(a+1):=Int.mul_nonneg B1 B1;have Z:(n.Max-n.Min)*(a+1)<=100*4002:=Int.mul_le_mul B1 B1 B1 B1;rw[A6 O];skip;refine V7 ?_;refine D6 (aM A0 A0 b8y) A0 A0 (F5 ?_);refine D6 (rW A0 A0 b8y) A0 A0 (F5 ?_);exact (C1)
    ·have O:¬n.Max>=0:=A3 d;rw[A7 O];refine G5 ?_;exact (C1)
   have ab:0<=(if n.Max>=0 then (n.Max-n.Min)*(a+1) else a+1)/\(if n.Max>=0 then (n.Max-n.Min)*(a+1) else a+1)<=1000000:=by
    split
    ·have Y:0<=(n.Max-n.Min)*(a+1):=Int.mul_nonneg B1 B1;have Z:(n.Max-n.Min)*(a+1)<=100*4002:=Int.mul_le_mul B1 B1 B1 B1;omega
    ·omega
   obtain⟨m,hm⟩:∃m,m=(if n.Max>=0 then (n.Max-n.Min)*(a+1) else a+1):=⟨_,rfl⟩
   rw[<-hm]at ab ⊢;skip;refine x5 ?_;exact (C1)
  have I:¬n.Kind=6:=A3 d;rw[A7 I];refine zc 5 (fun d=>?_) fun d=>?_
  ·have K:n.Kind=4:=A1 d;rw[A6 K];refine G5 ?_;exact (C1)
  have K:¬n.Kind=4:=A3 d;rw[A7 K];skip;refine H3 ?_;exact (C1)
 skip;refine H3 ?_;refine uZ (EQ _) A0 A0 A0 (B2 (B7 (c:=C7) (ys:=[V1 (rawW n a) 4001]) (C0 A0 A0 A0 A0 D2) A0 A0 A0) A0 (C2 (W4 A0 A0 A0 (.pure _ _ _ _) (by (rw[H];simp only[C46,List.length_nil];omega)) A0) A0 ?_));refine F5 ?_;rw[y];refine I2 ?_;refine⟨i+1,by omega,by omega,?_⟩;rw[mA (show W[i]?=some (V2 n W) by rw[<-P];unfold I0;rw[C36 B1];rfl)];exact (C1)
theorem ER{P:Program}{ops:Array Oper}{Q:Exit->Act->List Frame->World->Prop}{i:Nat}{rest:List Nat}{a:Act}{b:List Frame}{w w1:World}{t:TypeId}{x y:Operand}{ty:TypeId}{pos:String}{af:Array Edge}
  (d:ops[i]?=some ⟨none,.store t x y,ty,pos,af,none⟩)(f:(Instr.storeAt t (a.eval x) (a.eval y)).run P w=.ok () w1)(h:wpOpsSIn Fence.wide 0 P ops Q rest a b w1):wpOpsSIn Fence.wide 0 P ops Q (i::rest) a b w:=by
 simp only[wpOpsSIn,d];refine⟨fun _ _=>trivial,?_⟩;have c:(execOp a.eval ⟨none,.store t x y,ty,pos,af,none⟩).run P w=.ok .skip w1:=by
  simp only[execOp,Sem.run_bind,f,Result.andThen_ok,Sem.run_pure]
 rw[c];have g:Region.wanted ⟨none,.store t x y,ty,pos,af,none⟩ (yielded ops a.tmps)=true:=rfl;rw[A6 g];exact h
theorem A91{P:Program}{ops:Array Oper}{Q:Exit->Act->List Frame->World->Prop}{i:Nat}{rest:List Nat}{a:Act}{b:List Frame}{w:World}{d:Option Nat}{x:Operand}{ty:TypeId}{pos:String}{af:Array Edge}
  (f:ops[i]?=some ⟨d,.move x,ty,pos,af,none⟩)(h:wpOpsSIn Fence.wide 0 P ops Q rest (a.put d (a.eval x)) b w):wpOpsSIn Fence.wide 0 P ops Q (i::rest) a b w:=by
 simp only[wpOpsSIn,f];refine⟨fun _ _=>trivial,?_⟩;have c:(execOp a.eval ⟨d,.move x,ty,pos,af,none⟩).run P w=.ok (.value (a.eval x)) w:=by
  simp only[execOp,Sem.run_bind,Result.andThen_ok,Sem.run_pure]
 rw[c];have g:Region.wanted ⟨d,.move x,ty,pos,af,none⟩ (yielded ops a.tmps)=true:=rfl;rw[A6 g];exact h
theorem XL:RecFn prog eT 62 57 27:=by
 intro p1 p2 e w w1 w2 hs1 hs2;refine⟨M2 ⟨_,rfl,rfl,rfl⟩,?_⟩;have hta:(Instr.typeAssert (.iface 27 (.int .i64 e)) 20 27 true).run prog w=.ok (.tuple #[.int .i64 e,.bool true]) w:=by
  simp only[Instr.typeAssert];rfl
 refine callsDIn_of_wpSIn Tryz.func62 rfl trivial fun c₀ cs hu=>?_;simp only[Tryz.ntmps62,List.size_toArray,C46,List.length_nil,Nat.reduceAdd,Nat.reduceSub,Array.replicate_succ,Array.replicate_zero,List.push_toArray,List.append_toArray,D06,C92];apply wpSIn_seq;apply wpSIn_region;simp[wpOpsSIn,go_sem,recoverD,hu,Exit.thenS,hta];apply wpSIn_seq;apply wpSIn_region;simp[wpOpsSIn,go_sem,Exit.thenS];refine wpSIn_cond (t:=true) (by simp[Act.eval]) ?_;simp only[if_true];apply wpSIn_region;show wpOpsSIn Fence.wide 0 _ _ _ [0,1,2] _ _ _;refine A91 A0 (ER A0 (by simpa[Act.eval,Act.put] using hs1) (ER A0 (by simpa[Act.eval,Act.put] using hs2) ?_));cases c₀;simp_all [wpOpsSIn,bodyPostS,results,Tryz.results62,settle];rfl
theorem SF{P:Program}{T:TypeId}{fn:Func}{d:List PV->Prop}{k1 k2 i1 i2:Nat}{fr:Fr}{ob:Obs}{e:Int}{j k:TC}(g1:D5 fr 1000001=some (.s (.one (.ref k1 0))))(m:D5 fr 1000002=some (.s (.one (.ref k2 0))))(q:w7 fr i1=some (.s (.one (.ref k1 0))))(u:w7 fr i2=some (.s (.one (.ref k2 0))))
  (w:B5 ob k1=some (.box [j]))(y:B5 ob k2=some (.box [k]))(g:k1≠k2)(h:retP P fn d .ret (MD fr) ((k2,.box [.p (.v (.int .i64 e))])::(k1,.box [.p (.v (.slice none 0 0))])::ob)):recQ T k1 k2 i1 i2 (retP P fn d) (.panic (jE T e)) fr ob :=
 ⟨e,j,k,rfl,g1,m,q,u,w,y,g,h⟩
theorem z23{K:List Nat}(q:KOk K)(h:F0 K 2=false)(m:F0 K 3=false){c d:Cell}{ob:Obs}(f:B5 ob 2=some (.box [.p c]))(g:B5 ob 3=some (.box [.p d])):ZOk K [(2,.box [.p c]),(3,.box [.p d])] ob:=by
 have key:∀k o,B5 [(2,Ob.box [.p c]),(3,.box [.p d])] k=some o->(k=2/\o=.box [.p c])\/(k=3/\o=.box [.p d]):=fun k o a=>by
  by_cases e:2=k
  ·subst e;rw[B3]at a;cases a;exact .inl ⟨rfl,rfl⟩
  rw[A8 e]at a;by_cases a3:3=k
  ·subst a3;rw[B3]at a;cases a;exact .inr ⟨rfl,rfl⟩
  rw[A8 a3]at a;cases a
 refine⟨q,fun k o a=>?_,fun k o a=>?_,fun k o a j _=>?_⟩
 ·rcases key k o a with ⟨rfl,rfl⟩ | ⟨rfl,rfl⟩
  ·exact f
  ·exact g
 ·rcases key k o a with ⟨rfl,rfl⟩ | ⟨rfl,rfl⟩
  ·exact⟨by decide,h⟩
  ·exact⟨by decide,m⟩
 ·rcases key k o a with ⟨rfl,rfl⟩ | ⟨rfl,rfl⟩<;>rfl
theorem ks_ref{K:List Nat}{i o:Nat}(h:F0 K i=false):∀k,F0 K k=true->(SV.s (.one (.ref i o))).free k=true:=fun k a=>by
 show (!Nat.beq i k)=true;rw[pG (fun e=>by rw[<-e,h]at a;cases a)];rfl
theorem ks_clo2{K:List Nat}{f i j:Nat}(g:F0 K i=false)(h:F0 K j=false):∀k,F0 K k=true->(SV.s (.one (.clo f [] [(i,0),(j,0)]))).free k=true:=fun k a=>by
 show (!(iU k []||iU k [(i,0),(j,0)]))=true;have b:i≠k:=fun e=>by rw[<-e,g]at a;cases a
 have d:j≠k:=fun e=>by rw[<-e,h]at a;cases a
 simp[iU,pG b,pG d]
theorem B70{b:Rd}{z:Value}{α:Type}{a:Nat}{c:α->Nat->Cell}(h:(PV.one (.v (.slice none 0 0))).rep b z):(PV.one (.list α a c [])).rep b z:=by
 have e:z=.slice none 0 0:=by simp only[PV.rep,Cell.rep]at h;exact h.1
 rw[e];exact t7 α a c
theorem retcn{P:Program}{fn:Func}{fr:Fr}{ob:Obs}{t E:Tmp}{k D:Nat}{tt d:TypeId}{F j:List TC}{B:Cell}{α:Type}{ec:Nat}{H:α->Nat->Cell}[TyOne P tt][TyOne P d](M:fn.results=#[.cell t tt,.cell E d])(N:w7 fr t=some (.s (.one (.ref k 0))))(L:B5 ob k=some (.box F))(I:F[0]?=some (.p (.v (.slice none 0 0))))
  (A:w7 fr E=some (.s (.one (.ref D 0))))(y:B5 ob D=some (.box j))(m:j[0]?=some (.p B)):RetOk P fn fr ob [.one (.list α ec H []),.one B]:=by
 unfold RetOk;intro S G a w h;obtain⟨b,z,C,J,K⟩:=BI h (tt:=tt) N L I;obtain⟨O,Q,g,q,u⟩:=BI h (tt:=d) A y m;rw[C54]at C g;exact⟨_,by simp[results,M,C,g,asAddr,J,q],[_,_],rfl,B70 K,u,trivial⟩
def parsed(s:Str):List AL.Node×Int:=y8 s G6 1100
theorem b7x{p:Prop}(h:p:=by repeat (first | exact FreeKs.nil | refine FreeKs.cons (fun _ _=>rfl) ?_ | refine FreeKs.cons (aG (by assumption)) ?_ | refine FreeKs.cons (ks_ref (by assumption)) ?_ | refine FreeKs.cons (ks_ref (by assumption)) ?_ | refine FreeKs.cons (ks_clo2 (by assumption) (by assumption)) ?_)):p:=h
theorem yC(s:Str)(C:s.length<=1099511627776):FnOk prog 35 [F6 s] (fun rs=>rs=[P8 (parsed s).1,C8 (parsed s).2]):=by
 refine C27 Tryz.func35 F1 A0 A0 A0 A0 (A07 (G5 ?_));refine C2 (H9 2 A0) A0 (C2 (H9 3 A0) A0 (G5 ?_));refine A07 ?_;refine zc 6 (fun l=>?_) fun l=>?_
 ·have d:s.length>256:=by have:=A1 l;omega
  have f:parsed s=([],1):=by unfold parsed y8;rw[A6 d]
  rw[f];refine J0 ?_;exact A9 (rs:=[P8 [],C8 1]) (retcn rfl rfl rfl rfl rfl rfl rfl) rfl
 have d:¬s.length>256:=by have:=A3 l;omega
 have f:parsed s=match dA s G6 1100 ⟨0,0,[]⟩ with
  | .error e=>([],e)
  | .ok (st,_)=>if st.at_<s.length then ([],40) else (st.nodes,0):=by unfold parsed y8;rw[A7 d];rfl
 have z:SOk s ⟨0,0,[]⟩:=⟨by omega,C41 _,by decide⟩
 have y:dA s G6 1100 ⟨0,0,[]⟩≠.error 0:=(uE 1100).pat _ (C41 _) b9x;obtain⟨K,m⟩:∃K,K=kF 51:=⟨_,rfl⟩
 have n:KOk K:=by rw[m];exact xY 51
 have u:F0 K 2=false:=by rw[m];exact EG F1
 have w:F0 K 3=false:=by rw[m];exact EG F1
 have j:=(XC s 1101 1100 F1 F1).pat 50 ⟨0,0,[]⟩ rfl z (C45 _) y;rw[<-m]at j;clear m;refine G5 ?_;refine VE (T:=eT) (k1:=2) (k2:=3) (i1:=2) (i2:=3) (t1:=57) (t2:=27) A0 A0 A0 RK XL A0 A0 (P1 ?_);refine C2 (w9 810 A0 A0 A0) A0 (F5 ?_);refine C3 (C10 811 AL.Node 8 P5 154 (kb:=810) (o:=3) A0 A0 A0) (k2 ?_);cases i:dA s G6 1100 ⟨0,0,[]⟩ with
 | error A =>
  rw[i]at f;refine F5 ?_;refine N3 (j _ _ _ ⟨rfl,rfl,z23 n u w rfl rfl⟩) b7x rfl rfl rfl ?_ ?_
  ·(rintro e ob' ⟨b,rfl⟩;rw[i]at b;cases b;exact SF rfl rfl rfl rfl rfl rfl F1 (A9 (rs:=[P8 [],C8 A]) (retcn rfl rfl rfl rfl rfl rfl rfl) (by rw[f])))
  rintro _ _ ⟨_,_,b,_,_⟩;refine G5 ?_;rw[i]at b;cases b
 | ok q =>
  obtain⟨st,v⟩:=q;rw[i]at f;dsimp only at f;obtain⟨g,_⟩:=(Y6 (s:=s) 1100).pat (C41 _) i;have B:=g.len;have x:=g.cnt;dsimp only[List.length_nil]at x;refine F5 ?_;refine N3 (j _ _ _ ⟨rfl,rfl,z23 n u w rfl rfl⟩) b7x rfl rfl rfl ?_ ?_
  ·(rintro e ob' ⟨b,rfl⟩;rw[i]at b;cases b)
  rintro _ _ ⟨st',D,b,rfl,rfl⟩;rw[i]at b;cases b;refine G5 ?_;refine zc 11 (fun l=>?_) fun l=>?_
  ·have h:st.at_<s.length:=by have:=A1 l;omega
   rw[A6 h]at f;skip;refine F5 ?_;refine P9 A0 ?_;exact SF rfl rfl rfl rfl rfl rfl F1 (A9 (rs:=[P8 [],C8 40]) (retcn rfl rfl rfl rfl rfl rfl rfl) (by rw[f]))
  have h:¬st.at_<s.length:=by have:=A3 l;omega
  rw[A7 h]at f;refine O6 ?_;refine C3 (Sees.freezeG (k:=811) (α:=AL.Node) (ec:=8) (c:=P5) (xs:=st.nodes) (e:=154) A0 A0) (k10 ?_);exact A9 (rs:=[P8 st.nodes,C8 0]) (retcc rfl rfl rfl rfl rfl rfl rfl) (by rw[f])
theorem SG{A:AL.Auto}{s:Str}{f a:Nat}{m m1 g:Mach}{b d:Int×Int}{e c:Bool}{i:Int}(h:(if e=true then m else wU A s a ⟨A.Start,a⟩ m)=m1)(l:V3 A m1.1=i)(hb:(if 0<=i then (i,(a:Int)) else b)=d)(k:(if 0<=i then true else e)=c)(j:(if 0<=i then (iN i m1.1,m1.2) else m1)=g) :
  kP A s (f+1) a m b e=if a=s.length\/(c=true/\g.1=[]) then (d,c) else kP A s f (a+1) (wV A s a g) d c:=by
 subst h l hb k j;rfl
theorem B71(A:AL.Auto)(s:Str)(D:AG A)(P:s.length<=16777216):FnOk prog 88 [lQ A,F6 s,C8 0] (fun rs=>rs=[.agg [.v (.int .i64 (iO A s 0).1.1),.v (.int .i64 (iO A s 0).1.2)],E1 (iO A s 0).2]):=by
 obtain⟨R,N⟩:∃R,iO A s 0=R:=⟨_,rfl⟩
 rw[N];have K:kP A s (s.length+1-0) 0 ([],List.replicate A.States.length false) (0,0) false=R:=N;obtain⟨T,U⟩:=D.len;refine FnOk.intro Tryz.func88 F1 A0 A0 A0 A0 (H3 ?_);refine C2 (H9 6 A0) A0 (I3 ?_);refine fS (XE A s D) A0 A0 A0 A0 ?_;rintro _ _ ⟨rfl,rfl⟩;refine⟨rfl,?_⟩;refine F5 ?_;refine uI ?_;refine C3 (C10 831 AL.Thread 2 z8 202 (kb:=830) (o:=4) A0 A0 A0) (F5 ?_);refine C2 (H9 9 A0) A0 (J0 ?_);refine B9 (X:=Nat×Mach×(Int×Int)×Bool) (fun x=>([(1,P6 s),(3,.s (.one (.eref Unit 2 (EI A) () 0))),(6,.s (.one (.ref 6 0))),(8,.s (.one (.ref 830 0))),(9,.s (.one (.ref 9 0))),(10,L6 x.2.2.2)],[(830,iC A s x.1),(831,EJ x.2.1.1),(832,zQ x.2.1.2),(6,.box [.p (.v (.int .i64 0)),.p (.v (.int .i64 0))]),(9,.box [.p (.v (.int .i64 x.2.2.1.1)),.p (.v (.int .i64 x.2.2.1.2))])])) (fun x=>x.1<=s.length/\MG A x.2.1/\kP A s (s.length+1-x.1) x.1 x.2.1 x.2.2.1 x.2.2.2=R) (fun x=>s.length-x.1) (0,([],List.replicate A.States.length false),(0,0),false) ⟨C41 _,MG.first A,K⟩ (C1) ?_;rintro⟨a,m,⟨L,M⟩,H⟩ ⟨ha,I,c⟩;dsimp only at ha I c ⊢;obtain⟨m1,q⟩:∃m1,(if H=true then m else wU A s a ⟨A.Start,a⟩ m)=m1:=⟨_,rfl⟩
 obtain⟨i,O⟩:∃i,V3 A m1.1=i:=⟨_,rfl⟩
 obtain⟨C,y⟩:∃C,(if 0<=i then (i,(a:Int)) else (L,M))=C:=⟨_,rfl⟩
 obtain⟨w,j⟩:∃w,(if 0<=i then true else H)=w:=⟨_,rfl⟩
 obtain⟨B,u⟩:∃B,(if 0<=i then (iN i m1.1,m1.2) else m1)=B:=⟨_,rfl⟩
 rw[show s.length+1-a=(s.length-a)+1 by omega,SG q O y j u]at c;have E:MG A m1:=by
  rw[<-q];split
  ·exact I
  ·exact yQ s D D.start I
 have z:MG A B:=by
  rw[<-u];split
  ·exact E.keep i
  ·exact E
 have Q:=E.cnt;have S:=z.cnt;refine I3 ?_;refine U9 [(1,P6 s),(3,.s (.one (.eref Unit 2 (EI A) () 0))),(6,.s (.one (.ref 6 0))),(8,.s (.one (.ref 830 0))),(9,.s (.one (.ref 9 0))),(10,L6 H)] [(830,iC A s a),(831,EJ m1.1),(832,zQ m1.2),(6,.box [.p (.v (.int .i64 0)),.p (.v (.int .i64 0))]),(9,.box [.p (.v (.int .i64 L)),.p (.v (.int .i64 M))])] ?_ ?_
 ·cases H with
  | true =>
   rw[A6 rfl]at q;subst q;skip;refine zc 0 (fun d=>?_) fun d=>?_
   ·cases d
   refine G5 ?_;exact C1
  | false =>
   rw[A7 F1]at q;skip;refine zc 0 (fun d=>?_) fun d=>?_;rotate_left
   ·cases d
   skip;refine rY 8 E4 E4 A0 (I3 ?_);refine D6 (uO A0) A0 A0 (G5 ?_);refine CE (JV A s D a A.Start a m m1 I D.start q A0 A0 A0 A0) A0 A0 A0 ?_;rintro _ _ ⟨rfl,rfl⟩;refine⟨_,rfl,?_⟩;refine G5 ?_;refine uI ?_;exact C1
 refine P1 ?_;refine O4 (EK A s a m1.1 m1.2 E.st B1 A0 A0 A0 A0) A0 A0 A0 (H3 ?_);rw[O];refine P1 ?_;refine U9 [(1,P6 s),(3,.s (.one (.eref Unit 2 (EI A) () 0))),(6,.s (.one (.ref 6 0))),(8,.s (.one (.ref 830 0))),(9,.s (.one (.ref 9 0))),(10,L6 w)] [(830,iC A s a),(831,EJ B.1),(832,zQ B.2),(6,.box [.p (.v (.int .i64 0)),.p (.v (.int .i64 0))]),(9,.box [.p (.v (.int .i64 C.1)),.p (.v (.int .i64 C.2))])] ?_ ?_
 ·skip;refine zc 0 (fun d=>?_) fun d=>?_
  ·have J:=A1 d;rw[A6 J]at y j u;subst y j u;refine zz 14 ?_;refine O4 (XF A s a i m1.1 m1.2 B1 A0 A0 A0 A0) A0 A0 A0 (G5 ?_);exact C1
  ·have J:=A3 d;rw[A7 J]at y j u;subst y j u;refine G5 ?_;exact C1
 refine F5 ?_;by_cases F:a=s.length
 ·have k:decide ((a:Int)=(s.length:Int))=true:=A4 B1;rw[A6 (.inl F)]at c;refine Z2 ?_;refine L1 A0 A0 A0 (by rw[k];decide) A0 ?_;refine L1 A0 A0 A0 (by rw[k];decide) A0 ?_;refine rI A0 A0 A0 A0 (rI A0 A0 A0 A0 (rI A0 A0 A0 A0 (rI A0 A0 A0 A0 (rI A0 A0 A0 A0 (rI A0 A0 A0 A0 (L1 A0 A0 A0 (by rw[k];decide) A0 ?_))))));refine B2 (O2 A0 (k) A0) A0 ?_;refine zc 1 (fun d=>?_) fun d=>?_;rotate_left
  ·cases d
  refine R3 ?_;exact A9 (rs:=[.agg [.v (.int .i64 C.1),.v (.int .i64 C.2)],E1 w]) (BV rfl rfl rfl rfl rfl rfl rfl) (by rw[<-c])
 have k:decide ((a:Int)=(s.length:Int))=false:=A5 B1;cases w with
 | true =>
  refine Z2 ?_;refine G7 A0 A0 A0 k (G5 ?_);refine G7 A0 A0 A0 k (G5 ?_);refine G7 A0 A0 A0 A0 (G5 ?_);refine G7 A0 A0 A0 A0 (G5 ?_);refine G7 A0 A0 A0 A0 (G5 ?_);refine G7 A0 A0 A0 A0 (G5 ?_);refine G7 A0 A0 A0 A0 (G5 ?_);refine G7 A0 A0 A0 A0 (G5 ?_);refine G7 A0 A0 A0 k (B2 (O2 A0 (rfl) A0) A0 (B2 (Y2 A0 (k) A0) A0 ?_));refine zc 1 (fun d=>?_) fun d=>?_
  ·have G:B.1=[]:=List.length_eq_zero_iff.1 (by have:=A1 d;omega);rw[A6 (.inr ⟨rfl,G⟩)]at c;refine R3 ?_;exact A9 (rs:=[.agg [.v (.int .i64 C.1),.v (.int .i64 C.2)],E1 true]) (BV rfl rfl rfl rfl rfl rfl rfl) (by rw[<-c])
  ·have G:B.1≠[]:=fun e=>by have:=A3 d;rw[e]at this;exact this rfl
   rw[A7 (fun h=>h.elim F fun h=>G h.2)]at c;refine H3 ?_;refine O4 (EL A s D a B1 P B z A0 A0 A0) A0 A0 A0 (G5 ?_);exact⟨(a+1,wV A s a B,C,true),⟨by dsimp only;omega,FX s D z,by dsimp only;rw[show s.length+1-(a+1)=s.length-a by omega];exact c⟩,by dsimp only;omega,C1⟩
 | false =>
  rw[A7 (fun h=>h.elim F fun h=>by cases h.1)]at c;refine Z2 ?_;refine G7 A0 A0 A0 k (G5 ?_);refine G7 A0 A0 A0 k (I3 ?_);refine G7 A0 A0 A0 k (B2 (Y2 A0 (rfl) A0) A0 (B2 (Y2 A0 (k) A0) A0 ?_));refine zc 1 (fun d=>?_) fun d=>?_
  ·cases d
  refine H3 ?_;refine O4 (EL A s D a B1 P B z A0 A0 A0) A0 A0 A0 (G5 ?_);exact⟨(a+1,wV A s a B,C,false),⟨by dsimp only;omega,FX s D z,by dsimp only;rw[show s.length+1-(a+1)=s.length-a by omega];exact c⟩,by dsimp only;omega,C1⟩
theorem anyG_ok(A:AL.Auto)(s:Str)(a:AG A)(c:s.length<=16777216):FnOk prog 45 [lQ A,F6 s] (fun rs=>rs=[E1 (iO A s 0).2,C8 0]):=by
 refine FnOk.intro Tryz.func45 F1 A0 A0 A0 A0 (O6 ?_);refine E2 (XD A a) ?_;refine zc 7 (fun b=>?_) fun b=>?_
 ·cases b
 refine I2 ?_;refine E2 (B71 A s a c) (H3 ?_);refine C2 (H9 7 A0) A0 (O6 ?_);exact A9 (rs:=[E1 (iO A s 0).2,C8 0]) cN rfl
abbrev iW(A:AL.Auto)(s:Str):Bool:=(iO A s 0).2
theorem NH(A:AL.Auto)(hA:AG A)(a b:Str)(ha:I6 a=0)(hb:I6 b=0):FnOk prog 24 [lQ A,F6 a,F6 b] (fun rs=>rs=[cG (gL (iW A) a b),C8 0]):=by
 have w:∀{s:Str},I6 s=0->s.length<=1048576/\(F8 s).length<=4096:=fun {s} h=>by
  unfold I6 at h;split at h
  ·cases h
  ·omega
 obtain⟨ak,E⟩:=w ha;obtain⟨al,F⟩:=w hb;have z:=JH a B1;have B:=JH b B1;rw[show T6 a=(F8 a,0) by unfold T6;rw[A7 B1]]at z;rw[show T6 b=(F8 b,0) by unfold T6;rw[A7 B1]]at B;obtain⟨x,hx⟩:∃x,x=F8 a:=⟨_,rfl⟩
 obtain⟨y,hy⟩:∃y,y=F8 b:=⟨_,rfl⟩
 have ah:∀s∈x,s.length<=1048576:=fun s q=>by rw[hx]at q;have:=wJ _ _ q;omega
 have ai:∀s∈y,s.length<=1048576:=fun s q=>by rw[hy]at q;have:=wJ _ _ q;omega
 have af:gL (iW A) a b=T9 (iW A) x y (qB x y):=by unfold gL;rw[hx,hy]
 rw[af];rw[<-hx]at E z;rw[<-hy]at F B;have ab:=MZ [x,y] dV (by simp only[D03,List.flatten_nil,C40,List.length_nil];omega);have Q:=WQ (L0 (E0 [x,y]) x) (L0 (E0 [x,y]) y) (by rw[iS];exact E) (by rw[iS];exact F);obtain⟨L,hL⟩:∃L,L=qB x y:=⟨_,rfl⟩
 have ag:tV (L0 (E0 [x,y]) x) (L0 (E0 [x,y]) y)=L:=hL.symm;rw[ag]at Q;obtain⟨R,D⟩:=LI x y;rw[<-hL]at R D ⊢;have an:([x,y].map (L0 (E0 [x,y])))[(0:Int).toNat]?=some (L0 (E0 [x,y]) x):=rfl;have ao:([x,y].map (L0 (E0 [x,y])))[(1:Int).toNat]?=some (L0 (E0 [x,y]) y):=rfl;refine FnOk.intro Tryz.func24 F1 A0 A0 A0 A0 (Z2 ?_);refine E2 (z) ?_;refine zc 12 (fun d=>?_) fun d=>?_
 ·cases d
 refine P1 ?_;refine E2 (B) ?_;refine zc 12 (fun d=>?_) fun d=>?_
 ·cases d
 refine I2 ?_;refine B2 (B7 (c:=strsC) (ys:=[x,y]) (C0 A0 A0 A0 A0 (C0 A0 A0 A0 A0 D2)) A0 A0 A0) A0 (E2 (ab) (O6 ?_));refine D6 (I5 (Q) A0 A0) A0 A0 (R3 ?_);refine C2 (L2 14 _ L8 A0) A0 (Z2 ?_);refine B9 (X:=Nat) (fun i=>([(3,.s (.one (.eref Unit 2 (EI A) () 0))),(8,B8 Str 1 L8 x),(10,B8 Str 1 L8 y),(14,.s (.one (.buf 14 Str 1 L8 (T9 (iW A) x y (L.take i))))),(51,.s (pChanges L).s1),(52,B6 L.length),(53,B6 i)],[(14,.spare (T9 (iW A) x y (L.take i)).length 1 9)])) (fun i=>i<=L.length) (fun i=>L.length-i) 0 (C41 _) (C1) ?_;intro i hi;have J:=qD (iW A) x y (L.take i);rw[C59]at J;have K:(T9 (iW A) x y (L.take i)).length<=4097*8192:=C82 J (Nat.mul_le_mul B1 B1);dsimp only at hi ⊢;refine zc 5 (fun d=>?_) fun d=>?_;rotate_left
 ·have ac:i=L.length:=by have:=A3 d;omega
  rw[ac,C48];refine R3 ?_;exact A9 (rs:=[cG (T9 (iW A) x y L),C8 0]) cN rfl
 have ae:i<L.length:=by have:=A1 d;omega
 obtain⟨c,hc⟩:∃c,c=L[i]:=⟨_,rfl⟩
 have O:L[i]?=some c:=by rw[hc];simp[ae]
 obtain⟨q1,q2,q3,q4,q5,q6⟩:=D c (C60 O);obtain⟨W,hW⟩:∃W,W=T9 (iW A) x y (L.take i):=⟨_,rfl⟩
 have hnx:T9 (iW A) x y (L.take (i+1))=W++t6 (iW A) (l6 x y c):=by
  rw[NF O,hW];unfold T9;rw[List.flatMap_append,List.flatMap_singleton]
 rw[<-hW]at K ⊢;have C:=qC x y c
 have H:=MX [(x.drop c.Old.toNat).take ((c.Old+c.OldLen).toNat-c.Old.toNat),(y.drop c.New.toNat).take ((c.New+c.NewLen).toNat-c.New.toNat)] dV (by
  simp only[D03,List.flatten_nil,C77]
  exact C82 C B1)
 have Y:[(x.drop c.Old.toNat).take ((c.Old+c.OldLen).toNat-c.Old.toNat),(y.drop c.New.toNat).take ((c.New+c.NewLen).toNat-c.New.toNat)].flatten=l6 x y c:=by
  simp only[D03,List.flatten_nil,C77];rfl
 rw[Y]at H;refine I3 ?_;refine C2 (H9 16 A0) A0 (V7 ?_);refine D6 (Z3 A0 A0 qR) A0 A0 (D6 (bE A0 (.pure _ _ _ _) A0 A0 qR qR qR) A0 A0 (I3 ?_));refine D6 (Z3 A0 A0 qR) A0 A0 (D6 (bE A0 (.pure _ _ _ _) A0 A0 qR qR qR) A0 A0 (D6 (B7 (c:=strsC) (ys:=[(x.drop c.Old.toNat).take ((c.Old+c.OldLen).toNat-c.Old.toNat),(y.drop c.New.toNat).take ((c.New+c.NewLen).toNat-c.New.toNat)]) (C0 A0 A0 A0 A0 (C0 A0 A0 A0 A0 D2)) A0 A0 A0) A0 A0 (D6 (I5 (H) A0 A0) A0 A0 (P1 ?_))));obtain⟨M,hM⟩:∃M,M=l6 x y c:=⟨_,rfl⟩
 have S:∀s∈M,s.length<=1048576:=fun s q=>by
  rw[hM]at q;exact (AP q).elim (ah s) (ai s)
 rw[<-hM]at C hnx ⊢;refine B9 (X:=Nat) (fun j=>([(3,.s (.one (.eref Unit 2 (EI A) () 0))),(8,B8 Str 1 L8 x),(10,B8 Str 1 L8 y),(14,.s (.one (.buf 14 Str 1 L8 (W++t6 (iW A) (M.take j))))),(51,.s (pChanges L).s1),(52,B6 L.length),(53,B6 i),(76,B8 Str 1 L8 M),(77,B6 M.length),(78,B6 j)],[(14,.spare (W++t6 (iW A) (M.take j)).length 1 9)])) (fun j=>j<=M.length) (fun j=>M.length-j) 0 (C41 _) ?_ ?_
 ·dsimp only;rw[C79,show t6 (iW A) []=[] from rfl,C77];exact C1
 intro j hj;have Z:=UG (iW A) (M.take j);rw[C59]at Z;dsimp only at hj ⊢;refine zc 5 (fun d=>?_) fun d=>?_;rotate_left
 ·have ad:j=M.length:=by have:=A3 d;omega
  rw[ad,C48,<-hnx];refine I2 ?_;exact⟨i+1,by omega,by omega,C1⟩
 have I:j<M.length:=by have:=A1 d;omega
 obtain⟨s,q⟩:∃s,s=M[j]:=⟨_,rfl⟩
 have P:M[j]?=some s:=by rw[q];simp[I]
 have am:=S s (C60 P);have G:=B47 s B1;have U:(Y4 s).length<=16777216:=by unfold Y4;split<;>(try rw[List.length_dropLast])<;>omega
 obtain⟨V,T⟩:∃V,V=W++t6 (iW A) (M.take j):=⟨_,rfl⟩
 have aj:V.length<=4097*8192+8192:=by rw[T,C40];omega
 have v:W++t6 (iW A) (M.take (j+1))=V++(if iW A (Y4 s)=true then [Y4 s] else []):=by
  rw[T,NF P];unfold t6;rw[C90,D20,C65]
  congr 2
  simp only[C73,List.map_nil,D17,List.filter_nil]
 rw[<-T];refine zz 13 ?_;refine D6 (I5 (G) A0 A0) A0 A0 (D6 (I5 (anyG_ok A (Y4 s) hA U) A0 A0) A0 A0 ?_);refine zc 10 (fun d=>?_) fun d=>?_
 ·rw[A6 d]at v;skip;refine H3 ?_;refine E2 (G) (B2 (B7 (c:=L8) (ys:=[Y4 s]) (C0 A0 A0 A0 A0 D2) A0 A0 A0) A0 (I3 ?_));refine⟨j+1,by omega,by omega,?_⟩
  (try dsimp only)
  rw[v];exact C1
 ·rw[A7 (fun h=>by rw[show (iO A (Y4 s) 0).2=true from h]at d;cases d),C77]at v;refine I2 ?_;refine⟨j+1,by omega,by omega,?_⟩
  (try dsimp only)
  rw[v];exact C1
theorem SH(A:AL.Auto)(c:AG A)(a b:Str)(ha:I6 a=0)(hb:I6 b=0):AL.Met prog 23 [RH (a,b),.one (.eref Unit 2 (EI A) () 0)] [] [] [] (fun rs ob'=>rs=[oA (decide (0<(gL (iW A) a b).length))]/\ob'=[]):=by
 refine AL.Met.intro Tryz.func23 F1 A0 A0 A0 (F5 ?_);refine C2 (w9 2 A0 A0 A0) A0 (Z2 ?_);refine E2 (NH A c a b ha hb) (zz 14 ?_);refine D1 V9 iV (ObIn.spec (ob':=[]) trivial) ⟨?_,rfl⟩
 first
  | rfl
  | (congr 1;simp)
structure GF (B:Nat) (l:List File):Prop where
 len:l.length<=4
 all:∀f∈l,f.Path.length<=3/\f.Blob.length<=B
theorem GF.few{B:Nat}{l:List File}(h:GF B l)(b:B<=16777216):FewF l :=
 ⟨by have:=h.len;omega,fun f a=>by have:=(h.all f a).1;omega,fun f a=>by have:=(h.all f a).2;omega⟩
theorem GF.mono{B B':Nat}{l:List File}(h:GF B l)(b:B<=B'):GF B' l:=⟨h.len,fun f a=>⟨(h.all f a).1,by have:=(h.all f a).2;omega⟩⟩
theorem name4(i:Nat)(h:i<4):∃b:Str,names4[((i:Nat):Int).toNat]?=some b/\b.length<=3:=by
 rw[C37]
 match i,h with
 | 0,_=>exact⟨_,rfl,by decide⟩
 | 1,_=>exact⟨_,rfl,by decide⟩
 | 2,_=>exact⟨_,rfl,by decide⟩
 | 3,_=>exact⟨_,rfl,by decide⟩
theorem XM(a:Str)(b:List Int)(k:Int):(jZ a b k).length<=5*a.length:=by
 have c:=mR b k (F8 a) 0 [];have d:=pJ a;rw[aX]at c;unfold jZ;simp only[List.length_nil]at c;omega
theorem A92(k:Int):(bJ k).count 10=0:=by
 have h:∀s∈lineTab,s.count 10=0:=by decide
 have d:=Y3 k (n:=10) B1;have b:(S8 k 10).toNat<lineTab.length:=by show _<10;omega
 unfold bJ;rw[C38,C36 b];exact h _ (C43 b)
theorem nA(a:List Int)(k:Int):∀(l:List Str) (i:Nat) (s:Str),(aD a k i s l).count 10<=s.count 10+l.flatten.count 10+l.length
 | [],i,s=>by simp[aD]
 | x::r,i,s=>by
  have e:=nA a k r (i+1) s;have f:=nA a k r (i+1) (s++bJ (W5 a (k+40+(i:Int)))++[10]++x);have g:=nA a k r (i+1) (s++x);have b:=A92 (W5 a (k+40+(i:Int)));have d:List.count (10:UInt8) [10]=1:=by decide
  simp only[List.count_append,b,d,D03,C46]at *;unfold aD;split
  ·omega
  split
  ·omega
  ·omega
theorem XN(a:Str)(b:List Int)(k:Int):(jZ a b k).count 10<=2*a.count 10+1:=by
 have d:=nA b k (F8 a) 0 [];have e:=kK a;rw[aX]at d;unfold jZ;simp only[List.count_nil]at d;split at e<;>omega
theorem ES(k:Int):NoDig (bJ k):=by
 have h:∀s∈lineTab,∀c∈s,c.toNat<48\/57<c.toNat:=by decide
 have d:=Y3 k (n:=10) B1;have b:(S8 k 10).toNat<lineTab.length:=by show _<10;omega
 unfold bJ;rw[C38,C36 b];exact h _ (C43 b)
theorem lf_dig:NoDig [10]:=fun c a=>by rw[C42.1 a];decide
theorem nB(b:List Int)(k:Int):∀(l:List Str) (i:Nat) (s:Str),NoDig s->(∀x∈l,NoDig x)->NoDig (aD b k i s l)
 | [],_,_,hs,_=>hs
 | x::r,i,s,hs,hl=>by
  have d:=hl x dV;have c:∀y∈r,NoDig y:=fun y e=>hl y (by simp[e]);unfold aD;split
  ·exact nB b k r _ _ hs c
  split
  ·exact nB b k r _ _ (((hs.app (ES _)).app lf_dig).app d) c
  ·exact nB b k r _ _ (hs.app d) c
theorem XO{a:Str}(h:NoDig a)(b:List Int)(k:Int):NoDig (jZ a b k) :=
 nB b k _ 0 [] (fun _ h=>by cases h) fun x e=>h.sub fun c d=>by rw[<-aX a];exact List.mem_flatten.2 ⟨x,e,d⟩
theorem kG(d:List Int)(k b:Int):∀m,NoDig (p9 d k b m)
 | 0=>fun c e=>by simp[p9]at e
 | m+1=>by rw[gZ];exact ((kG d k b m).app (ES _)).app lf_dig
theorem XP(d:List Int)(k n a:Int):NoDig (mQ d k n a):=by
 unfold mQ;simp only;split
 ·exact (kG d k a _).sub fun c e=>C97 e
 ·exact kG d k a _
theorem NJ{α:Type}{l:List α}{i:Nat}{x:α}(h:l[i]?=some x):l.take (i+1)=l.take i++[x]:=by rw[C52,h];rfl
theorem KA(j:List Int)(k d:Int)(I:0<=k/\k<=1000000)(B:0<=d/\d<=16):FnOk prog 18 [I4 j,C8 k,C8 d] (fun rs=>∃l,rs=[R5 l]/\GF 64 l/\GN 64 l):=by
 refine FnOk.intro Tryz.func18 F1 A0 A0 A0 A0 (J0 ?_);refine B2 (B7 (c:=L8) (ys:=names4) (C0 A0 A0 A0 A0 (C0 A0 A0 A0 A0 (C0 A0 A0 A0 A0 (C0 A0 A0 A0 A0 D2)))) A0 A0 A0) A0 (P1 ?_);refine C2 (L2 8 _ U6 A0) A0 (I3 ?_);refine B9 (X:=Nat×List File) (fun x=>([(0,B8 Int 1 C7 j),(1,B6 k),(2,B6 d),(7,B8 Str 1 L8 names4),(8,.s (.one (.buf 8 File 2 U6 x.2))),(9,B6 x.1)],[(8,.spare x.2.length 2 65)])) (fun x=>x.1<=4/\x.2.length<=x.1/\(∀f∈x.2,f.Path.length<=3/\f.Blob.length<=64)/\(x.2.map (·.Path)).Sublist (names4.take x.1)/\∀f∈x.2,NoDig f.Blob) (fun x=>4-x.1) (0,[]) ⟨C41 _,C45 _,(fun _ h=>by cases h),List.Sublist.refl [],(fun _ h=>by cases h)⟩ (C1) ?_;rintro⟨i,w⟩ ⟨H,E,g,m,v⟩;dsimp only at H E g m v ⊢;refine zc 6 (fun A=>?_) fun A=>?_;rotate_left
 ·refine I3 ?_;exact A9 (rs:=[R5 w]) M1 ⟨w,rfl,⟨by omega,g⟩,m.trans (List.take_sublist _ _),fun f q=>C82 List.count_le_length (g f q).2,v⟩
 have y:i<4:=by have B:=A1 A;(try dsimp only at B);omega
 obtain⟨F,D,C⟩:=name4 i y;have z:names4.take (i+1)=names4.take i++[F]:=NJ (by rw[<-D,C37]);refine Z2 ?_;refine E2 (cP j (k+(i:Int)) B1 B1) ?_;refine zc 3 (fun A=>?_) fun A=>?_
 ·have G:=VL j (k+10+20*(i:Int)) d 4 B.1;skip;refine O6 ?_;refine D6 (rW A0 A0 B1) A0 A0 (F5 ?_);refine D6 (I5 (blob_ok j (k+10+20*(i:Int)) d 4 B1 B1 B1) A0 A0) A0 A0 (D6 (uO A0) A0 A0 (D6 (B7 (c:=U6) (ys:=[⟨F,mQ j (k+10+20*(i:Int)) d 4⟩]) (C0 A0 A0 A0 A0 D2) A0 A0 A0) A0 A0 (UW (W4 A0 A0 A0 (.pure _ _ _ _) PH A0) A0 A0 (I3 ?_))));refine⟨(i+1,w++[⟨F,mQ j (k+10+20*(i:Int)) d 4⟩]),⟨y,by rw[C40,C51];omega,fun f q=>?_,by dsimp only;rw[z,C90];exact m.append (List.Sublist.refl _),fun f q=>?_⟩,by dsimp only;omega,(C1)⟩
  ·rcases C49.1 q with q | q
   ·exact g f q
   ·rw[C42.1 q];exact⟨C,by dsimp only;omega⟩
  ·rcases C49.1 q with q | q
   ·exact v f q
   ·rw[C42.1 q];exact XP _ _ _ _
 ·refine J0 ?_;exact⟨(i+1,w),⟨y,by dsimp only;omega,g,by dsimp only;rw[z];exact m.trans (List.sublist_append_left _ _),v⟩,by dsimp only;omega,(C1)⟩
theorem XQ(l:List File)(g:List Int)(k j:Int)(B L:Nat)(O:GF B l)(J:GN L l)(hL:32<=L)(hB:B<=3000000)(Q:0<=k/\k<=1000000)(I:0<=j/\j<=16):FnOk prog 19 [R5 l,I4 g,C8 k,C8 j] (fun rs=>∃E,rs=[R5 E]/\GF (5*B+64) E/\GN (2*L+1) E):=by
 have V:=O.len;refine FnOk.intro Tryz.func19 F1 A0 A0 A0 A0 (J0 ?_);refine C2 (L2 9 _ U6 A0) A0 (J0 ?_);refine E2 (cP g (k+3) B1 B1) (E2 (gY (W5 g (k+3)) 4 B1 B1) (F5 ?_));obtain⟨m,W⟩:∃m,m=S8 (W5 g (k+3)) 4:=⟨_,rfl⟩
 rw[<-W];refine J0 ?_;refine B9 (X:=Nat×List File) (fun x=>([(0,B8 File 2 U6 l),(1,B8 Int 1 C7 g),(2,B6 k),(3,B6 j),(9,.s (.one (.buf 9 File 2 U6 x.2))),(10,B6 m),(11,B6 x.1)],[(9,.spare x.2.length 2 65)])) (fun x=>x.1<=l.length/\x.2.length<=x.1/\(∀f∈x.2,f.Path.length<=3/\f.Blob.length<=5*B+64)/\(x.2.map (·.Path)).Sublist ((l.take x.1).map (·.Path))/\(∀f∈x.2,f.Blob.count 10<=2*L+1)/\∀f∈x.2,NoDig f.Blob) (fun x=>l.length-x.1) (0,[]) ⟨C41 _,C45 _,(fun _ h=>by cases h),List.Sublist.refl [],(fun _ h=>by cases h),(fun _ h=>by cases h)⟩ (C1) ?_;rintro⟨i,A⟩ ⟨U,N,q,v,y,z⟩;dsimp only at U N q v y z ⊢;refine zc 8 (fun C=>?_) fun C=>?_;rotate_left
 ·refine zc 8 (fun C=>?_) fun C=>?_
  ·refine I2 ?_;refine r8 (KA g k j Q I) A0 A0 A0 ?_;rintro _ ⟨E,rfl,K,M⟩;refine F5 ?_;refine G5 ?_;exact A9 (rs:=[R5 E]) M1 ⟨E,rfl,K.mono B1,M.mono B1⟩
  ·refine I3 ?_;exact A9 (rs:=[R5 A]) M1 ⟨A,rfl,⟨by omega,q⟩,(v.trans ((List.take_sublist _ _).map _)).trans J.sub,y,z⟩
 have w:i<l.length:=by have I:=A1 C;(try dsimp only at I);omega
 obtain⟨f,H⟩:∃f,f=l[i]:=⟨_,rfl⟩
 have hv:l[i]?=some f:=by rw[H];simp[w]
 obtain⟨G,R⟩:=O.all f (by rw[H];exact C43 w);have Z:=XM f.Blob g (k+7);have Y:=XN f.Blob g (k+7);have T:=J.cnt f (by rw[H];exact C43 w);have F:=J.dig f (by rw[H];exact C43 w);have D:(l.take (i+1)).map (·.Path)=(l.take i).map (·.Path)++[f.Path]:=by rw[NJ hv,C90];rfl
 refine Z2 ?_;refine C2 (H9 12 A0) A0 ?_;refine zc 9 (fun C=>?_) fun C=>?_
 ·refine I3 ?_;refine E2 (near_ok f.Blob g (k+7) B1 B1) (R3 ?_);refine E2 (cP g (k+5) B1 B1) ?_;refine zc 3 (fun C=>?_) fun C=>?_
  ·refine J0 ?_;exact⟨(i+1,A),⟨w,by dsimp only;omega,q,by dsimp only;rw[D];exact v.trans (List.sublist_append_left _ _),y,z⟩,by dsimp only;omega,(C1)⟩
  ·refine P1 ?_;refine B2 (B7 (c:=U6) (ys:=[⟨f.Path,jZ f.Blob g (k+7)⟩]) (C0 A0 A0 A0 A0 D2) A0 A0 A0) A0 (R3 ?_);refine⟨(i+1,A++[⟨f.Path,jZ f.Blob g (k+7)⟩]),⟨w,by rw[C40,C51];omega,fun x d=>?_,by dsimp only;rw[D,C90];exact v.append (List.Sublist.refl _),fun x d=>?_,fun x d=>?_⟩,by dsimp only;omega,(C1)⟩
   ·rcases C49.1 d with d | d
    ·exact q x d
    ·rw[C42.1 d];exact⟨G,by dsimp only;omega⟩
   ·rcases C49.1 d with d | d
    ·exact y x d
    ·rw[C42.1 d];dsimp only;omega
   ·rcases C49.1 d with d | d
    ·exact z x d
    ·rw[C42.1 d];exact XO F g (k+7)
 ·refine P1 ?_;refine B2 (B7 (c:=U6) (ys:=[f]) (C0 A0 A0 A0 A0 D2) A0 A0 A0) A0 (R3 ?_);refine⟨(i+1,A++[f]),⟨w,by rw[C40,C51];omega,fun x d=>?_,by dsimp only;rw[D,C90];exact v.append (List.Sublist.refl _),fun x d=>?_,fun x d=>?_⟩,by dsimp only;omega,(C1)⟩
  ·rcases C49.1 d with d | d
   ·exact q x d
   ·rw[C42.1 d];exact⟨G,by omega⟩
  ·rcases C49.1 d with d | d
   ·exact y x d
   ·rw[C42.1 d];omega
  ·rcases C49.1 d with d | d
   ·exact z x d
   ·rw[C42.1 d];exact F
structure GG (B:Nat) (g:Graph):Prop where
 len:g.length<=16
 pars:∀c∈g,c.Parents.length<=3/\∀p∈c.Parents,0<=p/\p<(g.length:Int)
 files:∀c∈g,GF B c.Files
theorem GG.few{B:Nat}{g:Graph}(h:GG B g)(b:B<=16777216):FewT g :=
 ⟨⟨by have:=h.len;omega,fun c a=>by have:=(h.pars c a).1;omega⟩,fun c a=>(h.files c a).few b⟩
theorem GG.short{B:Nat}{g:Graph}(h:GG B g):Short g:=fun c=>by
 unfold Q9;by_cases a:c<g.length
 ·rw[C36 a];have:=(h.files _ (C43 a)).len;show g[c].Files.length<=6;omega
 ·rw[C63 B1];simp
structure GU (L:Nat) (g:Graph):Prop where
 up:∀c p:Nat,(p:Int)∈D8 g c->p<c
 nice:∀c∈g,c.Parents.Nodup/\0<=c.Date/\c.Date<=5
 tree:∀c∈g,GN L c.Files
theorem GU.valid{B L:Nat}{g:Graph}(h:GG B g)(p:B<=1048576)(d:L<=2111)(k:OneWay g)(i:∀c∈g,c.Parents.Nodup/\0<=c.Date/\c.Date<=5)(j:∀c∈g,GN L c.Files):GV g where
 len:=h.len
 pars:=fun c b=>⟨(h.pars c b).1,(h.pars c b).2,i c b⟩
 way:=k
 files:=fun c b=>⟨(j c b).mono d,fun f e=>by have:=((h.files c b).all f e).2;omega⟩
theorem XR{g:Graph}{k:Nat}{x:Commit}(j:Nat){p:Int}(h:p∈D8 (g.set k x) j):(j=k/\p∈x.Parents)\/p∈D8 g j:=by
 unfold D8 at h ⊢;rw[D22]at h;split at h
 ·rename_i e;split at h
  ·exact .inl ⟨e.symm,h⟩
  ·cases h
 ·exact .inr h
theorem XS(n:Int){l:List Int}(h:l.Nodup):(l.map fun q=>n-1-q).Nodup:=by
 rw[List.nodup_iff_pairwise_ne,List.pairwise_map];exact h.imp fun {a b} c e=>c B1
theorem XT(g:Graph)(T:List Int)(B L:Nat)(S:GG B g)(P:GU L g)(hB:B<=1048576)(hL:L<=2111):FnOk prog 20 [I9 g,I4 T] (fun rs=>∃V,rs=[I9 V]/\GG B V/\GV V):=by
 have af:=S.len;refine FnOk.intro Tryz.func20 F1 A0 A0 A0 A0 (R3 ?_);refine E2 (cP T 3 B1 B1) ?_;refine zc 3 (fun J=>?_) fun J=>?_
 ·refine J0 ?_;exact A9 (rs:=[I9 g]) M1 ⟨g,rfl,S,GU.valid S hB hL (.inl P.up) P.nice P.tree⟩
 refine O6 ?_;refine C2 (a8 760 Commit F2 ⟨[],0,[]⟩ A0 A0 B1 B1 (fun _=>PE) VH) A0 (F5 ?_);rw[C37];refine J0 ?_
 refine B9 (X:=Nat×List Commit) (fun x=>([(0,B8 Commit 3 F2 g),(5,B6 g.length),(6,.s (.one (.mut 760))),(7,B6 x.1)],[(760,.arr Commit 3 F2 x.2)])) (fun x=>x.1<=g.length/\x.2.length=g.length/\(∀y∈x.2,y.Parents.length<=3/\∀p∈y.Parents,0<=p/\p<(g.length:Int))/\(∀y∈x.2,GF B y.Files)/\(∀y∈x.2,(y.Parents.Nodup/\0<=y.Date/\y.Date<=5)/\GN L y.Files)/\∀j p:Nat,(p:Int)∈D8 x.2 j->j<p) (fun x=>g.length-x.1) (0,List.replicate g.length ⟨[],0,[]⟩) ⟨C41 _,C95,fun y w=>by rw[(List.mem_replicate.1 w).2];exact⟨by simp,fun p hp=>by cases hp⟩,fun y w=>by rw[(List.mem_replicate.1 w).2];exact⟨by simp,fun f R=>by cases R⟩,fun y w=>by rw[(List.mem_replicate.1 w).2];exact⟨⟨List.nodup_nil,by decide,by decide⟩,List.nil_sublist _,(fun f R=>by cases R),fun f R=>by cases R⟩,fun j p h=>by
  unfold D8 at h;rw[List.getElem?_replicate]at h
  split at h<;>cases h⟩ (C1) ?_
 rintro⟨c,o⟩ ⟨hc,F,H,E,G,M⟩;dsimp only at hc F H E G M ⊢;refine zc 7 (fun J=>?_) fun J=>?_;rotate_left
 ·refine F5 ?_;refine C3 (Sees.freeze (k:=760) A0) (I2 ?_);exact A9 (rs:=[I9 o]) M1 ⟨o,rfl,⟨by omega,by rw[F];exact H,E⟩,GU.valid (B:=B) ⟨by omega,by rw[F];exact H,E⟩ hB hL (.inr M) (fun y w=>(G y w).1) fun y w=>(G y w).2⟩
 have D:c<g.length:=by have z:=A1 J;(try dsimp only at z);omega
 obtain⟨d,K⟩:∃d,d=g[c]:=⟨_,rfl⟩
 have hv:g[c]?=some d:=by rw[K];simp[D]
 have U:d∈g:=by rw[K];exact C43 D
 obtain⟨ag,hpr⟩:=S.pars d U;have W:=S.files d U;have Q:=P.nice d U;have Y:=P.tree d U;have Z:∀q∈d.Parents,q<(c:Int):=fun q C=>by
  have z:=P.up c q.toNat (by rw[c9 D,<-K,Int.toNat_of_nonneg (hpr q C).1];exact C)
  have:=(hpr q C).1;omega
 refine Z2 ?_;refine C2 (H9 8 A0) A0 (Z2 ?_);refine C3 (C18 753 Int 1 C7 3 (kb:=8) (o:=0) A0 A0 A0) (P1 ?_);refine B9 (X:=Nat×List Int) (fun x=>([(0,B8 Commit 3 F2 g),(5,B6 g.length),(6,.s (.one (.mut 760))),(7,B6 c),(8,.s (.one (.ref 8 0))),(9,B6 x.1)],[(8,.box [.buf 753 Int 1 C7 x.2,.p (.v (.int .i64 d.Date)),.p (.list File 2 U6 d.Files)]),(753,.spare x.2.length 1 3),(760,.arr Commit 3 F2 o)])) (fun x=>x.1<=d.Parents.length/\x.2=(d.Parents.take x.1).map fun q=>(g.length:Int)-1-q) (fun x=>d.Parents.length-x.1) (0,[]) ⟨C41 _,rfl⟩ (C1) ?_;rintro⟨p,ps⟩ ⟨hp,I⟩;dsimp only at hp I ⊢;have ah:ps.length=p:=by rw[I,C74,C59];omega
 refine zc 12 (fun J=>?_) fun J=>?_
 ·have A:p<d.Parents.length:=by have z:=A1 J;(try dsimp only at z);omega
  obtain⟨q,C⟩:∃q,q=d.Parents[p]:=⟨_,rfl⟩
  have ad:d.Parents[p]?=some q:=by rw[C];simp[A]
  have ai:=hpr q (by rw[C];exact C43 A);refine I3 ?_;refine D6 (aM A0 A0 B1) A0 A0 (R3 ?_);refine D6 (aM A0 A0 B1) A0 A0 (D6 (B7 (c:=C7) (ys:=[(g.length:Int)-1-q]) (C0 A0 A0 A0 A0 D2) A0 A0 A0) A0 A0 (UW (W4 A0 A0 A0 (.pure _ _ _ _) PH A0) A0 A0 (G5 ?_)));refine BZ (K5 TySz.out A0 A0 A0 A0 A0 A0) A0 (J0 ?_);refine⟨(p+1,ps++[(g.length:Int)-1-q]),⟨A,by dsimp only;rw[NJ ad,C90,<-I];rfl⟩,by dsimp only;omega,(C1)⟩
 have ae:¬(p:Int)<d.Parents.length:=A3 J;have O:ps=d.Parents.map fun q=>(g.length:Int)-1-q:=by rw[I,C83 B1]
 have ab:∀x∈ps,0<=x/\x<(g.length:Int):=fun x hx=>by
  rw[O]at hx;obtain⟨q,C,rfl⟩:=C71.1 hx;have:=hpr q C;omega
 have hi:0<=(g.length:Int)-1-c/\(g.length:Int)-1-c<o.length:=by omega
 have ac:o[((g.length:Int)-1-c).toNat]?=some o[((g.length:Int)-1-c).toNat]:=C36 B1;refine Z2 ?_;refine U0 (uP (y:=⟨ps,d.Date,d.Files⟩) TySz.out A0 A0 ac A0 A0 A0 A0 (fun _ _ us h=>by first | exact cL h | (match us,h with | [_,_,_],h=>exact⟨h.1.2,h.2.1,h.2.2.1,trivial⟩)) (by intro j z h2;rcases j with _ | _ | _ | j<;>first | rfl | omega)) ?_;refine J0 ?_;refine⟨(c+1,o.set ((g.length:Int)-1-c).toNat ⟨ps,d.Date,d.Files⟩),⟨D,by dsimp only;rw[C78];exact F,fun y w=>?_,fun y w=>?_,fun y w=>?_,fun j p hj=>?_⟩,by dsimp only;omega,(C1)⟩
 ·rcases List.mem_or_eq_of_mem_set w with w | rfl
  ·exact H y w
  ·exact⟨by dsimp only;omega,ab⟩
 ·rcases List.mem_or_eq_of_mem_set w with w | rfl
  ·exact E y w
  ·exact W
 ·rcases List.mem_or_eq_of_mem_set w with w | rfl
  ·exact G y w
  ·exact⟨⟨by rw[O];exact XS _ Q.1,Q.2⟩,Y⟩
 ·rcases XR j hj with ⟨e,z⟩ | z
  ·dsimp only at z;rw[O]at z;obtain⟨q,C,e2⟩:=C71.1 z;have:=Z q C;omega
  ·exact M j p z
def ET:Nat->Nat
 | 0=>0
 | c+1=>5*ET c+64
def BA:Nat->Nat
 | 0=>32
 | c+1=>2*BA c+1
theorem bndG_le(c:Nat)(h:c<=6):(32<=BA c/\ET c<=250000)/\BA c<=2111:=by
 match c,h with
 | 0,_=>decide
 | 1,_=>decide
 | 2,_=>decide
 | 3,_=>decide
 | 4,_=>decide
 | 5,_=>decide
 | 6,_=>decide
theorem GG.mono{B B':Nat}{g:Graph}(h:GG B g)(a:B<=B'):GG B' g:=⟨h.len,h.pars,fun c b=>(h.files c b).mono a⟩
theorem A93(k:List Int)(n w:Int)(hn:0<=n/\n<=6)(hl:0<=w/\w<=16):FnOk prog 5 [I4 k,C8 n,C8 w] (fun rs=>∃g,rs=[I9 g]/\GG 250000 g/\GV g):=by
 have au:=Y3 (W5 k 0) (n:=n+1) B1;obtain⟨m,hm⟩:∃m:Nat,S8 (W5 k 0) (n+1)=(m:Int):=⟨(S8 (W5 k 0) (n+1)).toNat,by omega⟩
 have ar:m<=6:=by omega
 refine FnOk.intro Tryz.func5 F1 A0 A0 A0 A0 (I3 ?_);refine E2 (cP k 0 B1 B1) (F5 ?_);refine E2 (gY (W5 k 0) (n+1) B1 B1) (F5 ?_);rw[hm];refine F5 ?_;refine C2 (sY 7 (c:=F2) (ys:=([]:List Commit)) D2 A0 A0 A0 VH) A0 (R3 ?_);refine B9 (X:=Nat×List Commit) (fun x=>([(0,B8 Int 1 C7 k),(1,B6 m),(2,B6 w),(7,.s (.one (.buf 7 Commit 3 F2 x.2))),(8,B6 x.1)],[(7,.spare x.2.length 3 43)])) (fun x=>x.1<=m/\x.2.length=x.1/\(∀y∈x.2,y.Parents.length<=3/\∀p∈y.Parents,0<=p/\p<(x.1:Int))/\(∀y∈x.2,GF (ET x.1) y.Files)/\GU (BA x.1) x.2) (fun x=>m-x.1) (0,[]) ⟨C41 _,rfl,(fun _ h=>by cases h),(fun _ h=>by cases h),(fun _ _ h=>by cases h),(fun _ h=>by cases h),(fun _ h=>by cases h)⟩ (C1) ?_;rintro⟨c,E⟩ ⟨hc,O,H,G,D⟩;dsimp only at hc O H G D ⊢;obtain⟨⟨ac,aq⟩,ad⟩:=bndG_le c B1;refine zc 7 (fun B=>?_) fun B=>?_;rotate_left
 ·refine I2 ?_;refine r8 (XT E k (ET c) (BA c) ⟨by omega,by rw[O];exact H,G⟩ D B1 ad) A0 A0 A0 ?_;rintro _ ⟨g',rfl,ak,ao⟩;refine F5 ?_;refine G5 ?_;exact A9 (rs:=[I9 g']) M1 ⟨g',rfl,GG.mono ak B1,ao⟩
 have al:c<m:=by have I:=A1 B;(try dsimp only at I);omega
 refine R3 ?_;refine E2 (cP k (1000+(c:Int)) B1 B1) (E2 (gY (W5 k (1000+(c:Int))) 5 B1 B1) (G5 ?_));refine C2 (H9 9 A0) A0 (F5 ?_);have ag:=Y3 (W5 k (1000+(c:Int))) (n:=5) B1;obtain⟨d,hd⟩:∃d,d=S8 (W5 k (1000+(c:Int))) 5:=⟨_,rfl⟩
 rw[<-hd]at ag ⊢;refine F5 ?_;refine C3 (C18 753 Int 1 C7 3 (kb:=9) (o:=0) A0 A0 A0) (P1 ?_);refine B9 (X:=Nat×List Int) (fun x=>([(0,B8 Int 1 C7 k),(1,B6 m),(2,B6 w),(7,.s (.one (.buf 7 Commit 3 F2 E))),(8,B6 c),(9,.s (.one (.ref 9 0))),(10,B6 x.1)],[(7,.spare E.length 3 43),(9,.box [.buf 753 Int 1 C7 x.2,.p (.v (.int .i64 d)),.p (.v (.slice none 0 0))]),(753,.spare x.2.length 1 3)])) (fun x=>x.1<=c/\x.2.length<=3/\(∀q∈x.2,0<=q/\q<(x.1:Int))/\x.2.Nodup) (fun x=>c-x.1) (0,[]) ⟨C41 _,by simp,(fun _ h=>by cases h),List.nodup_nil⟩ (C1) ?_;rintro⟨p,ps⟩ ⟨Y,P,F,hpn⟩;dsimp only at Y P F hpn ⊢;refine zc 7 (fun B=>?_) fun B=>?_
 ·have K:p<c:=by have I:=A1 B;(try dsimp only at I);omega
  refine V7 ?_;refine E2 (cP k (1100+40*(c:Int)+(p:Int)) B1 B1) (I2 ?_);refine D7 A0 A0 A0 A0 (fun A=>by rw[A];exact uL A0 (.buf _ _ _ _ _)) ?_;refine zc 3 (fun B=>?_) fun B=>?_
  ·have h2:=(A1 (and_pick.symm.trans B)).2;skip;refine P1 ?_;refine B2 (B7 (c:=C7) (ys:=[(p:Int)]) (C0 A0 A0 A0 A0 D2) A0 A0 A0) A0 (Z2 ?_);refine⟨(p+1,ps++[(p:Int)]),⟨K,by rw[C40,C51];omega,fun x S=>?_,?_⟩,by dsimp only;omega,(C1)⟩
   ·rcases C49.1 S with S | S
    ·have:=F x S;dsimp only;omega
    ·rw[C42.1 S];dsimp only;omega
   ·dsimp only;refine List.nodup_append.2 ⟨hpn,by simp,fun a ha b hb e=>?_⟩;have:=F a ha;rw[e,C42.1 hb]at this;omega
  ·refine J0 ?_;exact⟨(p+1,ps),⟨K,P,fun x S=>by have:=F x S;dsimp only;omega,hpn⟩,by dsimp only;omega,(C1)⟩
 refine zz 15 ?_;refine D7 A0 A0 A0 A0 (fun A=>by have C:=A;(try simp at C);rw[A];exact Z3 A0 A0 B1) ?_;refine D7 A0 A0 A0 A0 (fun A=>by have C:=A;(try simp at C);rw[A];exact I5 (cP k (1500+(c:Int)) B1 B1) A0 A0) ?_;refine D7 A0 A0 A0 A0 (fun A=>by have C:=A;(try simp at C);rw[A];exact PJ A0 A0 B1) ?_;refine H3 ?_;refine uX (X:=List Int) (fun qs=>([(0,B8 Int 1 C7 k),(1,B6 m),(2,B6 w),(7,.s (.one (.buf 7 Commit 3 F2 E))),(8,B6 c),(9,.s (.one (.ref 9 0)))],[(7,.spare E.length 3 43),(9,.box [.p (.list Int 1 C7 qs),.p (.v (.int .i64 d)),.p (.v (.slice none 0 0))])])) (fun qs=>qs.length<=3/\(∀q∈qs,0<=q/\q<(c:Int))/\qs.Nodup) ?_ ?_
 ·refine zc 0 (fun B=>?_) fun B=>?_
  ·rw[P4,P4,C39,C39]at B;have h2:=A1 B.1.2;skip;refine H3 ?_;refine B2 (B7 (c:=C7) (ys:=[(c:Int)-1]) (C0 A0 A0 A0 A0 D2) A0 A0 A0) A0 (H3 ?_);exact⟨[(c:Int)-1],⟨by simp,fun q C=>by rw[C42.1 C];omega,by simp⟩,Sees.trans (C23 9 0 rfl rfl rfl) (C1)⟩
  ·refine G5 ?_;exact⟨ps,⟨P,fun q C=>by have:=F q C;omega,hpn⟩,Sees.trans (C23 9 0 rfl rfl rfl) (C1)⟩
 rintro qs ⟨am,R,an⟩;dsimp only;refine I3 ?_;refine r8 (KA k (2000+200*(c:Int)) w B1 hl) A0 A0 A0 ?_;rintro _ ⟨fl,rfl,ah,ai⟩;refine H3 ?_;refine O6 ?_;refine D7 A0 A0 A0 A0 (fun A=>by have C:=A;(try simp at C);rw[A];exact Z3 A0 A0 B1) ?_;refine D7 A0 A0 A0 A0 (fun A=>by have C:=A;(try simp at C);rw[A];exact I5 (cP k (1600+(c:Int)) B1 B1) A0 A0) ?_;refine D7 A0 A0 A0 A0 (fun A=>by have C:=A;(try simp at C);rw[A];exact PJ A0 A0 B1) ?_;refine H3 ?_;refine uX (X:=List File) (fun L=>([(0,B8 Int 1 C7 k),(1,B6 m),(2,B6 w),(7,.s (.one (.buf 7 Commit 3 F2 E))),(8,B6 c),(9,.s (.one (.ref 9 0)))],[(7,.spare E.length 3 43),(9,.box [.p (.list Int 1 C7 qs),.p (.v (.int .i64 d)),.p (.list File 2 U6 L)])])) (fun L=>GF (ET (c+1)) L/\GN (BA (c+1)) L) ?_ ?_
 ·refine zc 0 (fun B=>?_) fun B=>?_
  ·rw[P4,C39]at B;have h2:=A1 B.1;obtain⟨q,Z,rfl⟩:∃q Z,qs=q::Z:=by
    cases qs with
    | nil=>simp at h2
    | cons q Z=>exact⟨q,Z,rfl⟩
   have av:=R q dV;have Q:q.toNat<E.length:=by omega
   obtain⟨T,M⟩:∃T,T=E[q.toNat]:=⟨_,rfl⟩
   have ap:E[q.toNat]?=some T:=by rw[M];simp[Q]
   have ae:=G T (by rw[M];exact C43 Q);have af:=D.tree T (by rw[M];exact C43 Q);skip;refine P1 ?_;refine B2 (C5 A0 (.pure _ _ _ _) A0 B1 (show (q::Z)[Int.toNat 0]?=some q from A0)) A0 (G5 ?_);refine B2 (C5 A0 (.buf _ _ _ _ _) A0 B1 ap) A0 (I3 ?_);refine r8 (XQ T.Files k (2000+200*(c:Int)) w (ET c) (BA c) ae af ac B1 B1 hl) A0 A0 A0 ?_;rintro _ ⟨ab,rfl,U,V⟩;refine H3 ?_;refine uI ?_;exact⟨ab,⟨U,V⟩,(C1)⟩
  ·refine G5 ?_;exact⟨fl,⟨ah.mono (show 64<=ET (c+1) by rw[ET];omega),ai.mono (show 64<=BA (c+1) by rw[BA];omega)⟩,(C1)⟩
 rintro L ⟨aj,W⟩;dsimp only;skip;refine H3 ?_;refine B2 (B7 (c:=F2) (ys:=[⟨qs,d,L⟩]) (C0 A0 A0 A0 A0 D2) A0 A0 A0) A0 (R3 ?_);refine⟨(c+1,E++[⟨qs,d,L⟩]),⟨al,by dsimp only;rw[C40,C51,O],fun y z=>?_,fun y z=>?_,fun j p J=>?_,fun y z=>?_,fun y z=>?_⟩,by dsimp only;omega,(C1)⟩
 ·rcases C49.1 z with z | z
  ·exact⟨(H y z).1,fun p Y=>by have:=(H y z).2 p Y;dsimp only;omega⟩
  ·rw[C42.1 z];exact⟨am,fun p Y=>by have:=R p Y;dsimp only;omega⟩
 ·rcases C49.1 z with z | z
  ·exact (G y z).mono (show ET c<=ET (c+1) by rw[ET];omega)
  ·rw[C42.1 z];exact aj
 ·dsimp only at J;unfold D8 at J;rcases Nat.lt_trichotomy j E.length with I | I | I
  ·rw[C68 I]at J;exact D.up j p J
  ·subst I;rw[List.getElem?_concat_length]at J;have:=R p J;omega
  ·rw[C63 (by rw[C40,C51];omega)]at J;cases J
 ·rcases C49.1 z with z | z
  ·exact D.nice y z
  ·rw[C42.1 z];exact⟨an,by dsimp only;omega,by dsimp only;omega⟩
 ·rcases C49.1 z with z | z
  ·exact (D.tree y z).mono (show BA c<=BA (c+1) by rw[BA];omega)
  ·rw[C42.1 z];exact W
theorem qS(a:List Int)(ha:a.length<=1099511627776):FnOk prog 10 [I4 a,I4 a] (fun rs=>rs=[E1 true]):=by
 refine FnOk.intro Tryz.func10 F1 A0 A0 A0 A0 ?_;refine zc 13 (fun b=>?_) fun b=>?_
 ·exact absurd rfl (A1 b)
 refine I3 ?_;refine B9 (X:=Nat) (fun i=>([(0,B8 Int 1 C7 a),(1,B8 Int 1 C7 a),(5,B6 i)],[])) (fun i=>i<=a.length) (fun i=>a.length-i) 0 (C41 _) (C1) ?_;intro i d;dsimp only at d ⊢;refine zc 8 (fun b=>?_) fun b=>?_
 ·have c:i<a.length:=by have:=A1 b;omega
  have e:=getI c;refine zc 15 (fun b=>?_) fun b=>?_
  ·exact absurd rfl (A1 b)
  refine J0 ?_;exact⟨i+1,by omega,by omega,C1⟩
 ·refine J0 ?_;exact A9 (rs:=[E1 true]) M1 rfl
abbrev g0:Graph:=[⟨[],0,[⟨[120],[97,97]⟩]⟩]
abbrev XU(A:AL.Auto)(x:Str×Str):Bool:=decide (0<(gL (iW A) x.1 x.2).length)
theorem zR{l:List File}(h:E8 l=0)(p:Str):I6 (bC l p)=0:=by
 unfold bC;cases a:J7 l p with
 | none=>decide
 | some x =>
  obtain⟨y,b,_,rfl⟩:=eW a;exact (dZ h).2.2.1 y b
theorem SI:E8 []=0:=by decide
theorem zS{g:Graph}(h:Valid g)(c:Nat):E8 (Q9 g c)=0:=by
 unfold Q9;by_cases a:c<g.length
 ·rw[C36 a];exact h.tree _ (C43 a)
 ·rw[C63 B1];exact SI
theorem zT{g:Graph}(h:Valid g){c:Nat}{x:Str×Str}(k:x∈(L9 g c).flatten):I6 x.1=0/\I6 x.2=0:=by
 obtain⟨l,j,i⟩:=List.mem_flatten.1 k;obtain⟨t,b,rfl⟩:=C71.1 j;obtain⟨d,_,rfl⟩:=C71.1 i;refine⟨zR ?_ _,zR (zS h c) _⟩;unfold O9 at b;split at b
 ·rw[C42.1 b];exact SI
 ·obtain⟨p,_,rfl⟩:=C71.1 b;exact zS h _
theorem EU(g:Graph)(s:Int)(p:Str)(A:AL.Auto)(f:AG A)(h:FewT g)(l:Short g)(m:FnOk prog 21 [F6 p] (fun rs=>rs=[lQ A,C8 0])) :
  FnOk prog 8 [I9 g,C8 s,F6 p] (fun rs=>rs=[I4 (Q7 (XU A) g s).1,C8 (Q7 (XU A) g s).2]):=by
 have a:=zM g s 23 Unit 2 (EI A) () (XU A) h l (fun o c _ x q=>by
  obtain⟨d,e⟩:=zT o q
  exact SH A f x.1 x.2 d e)
 obtain⟨R,j⟩:∃R,R=Q7 (XU A) g s:=⟨_,rfl⟩
 rw[<-j]at a ⊢;refine FnOk.intro Tryz.func8 F1 A0 A0 A0 A0 (F5 ?_);refine B2 (E3 _ 1 C7) A0 (I2 ?_);refine E2 (m) (H3 ?_);refine C2 (H9 8 A0) A0 ?_;refine zc 9 (fun b=>?_) fun b=>?_
 ·cases b
 refine F5 ?_;refine C3 (C24 (t:=8) (k:=8) (cs:=[Cell.list AL.State 7 iM A.States,Cell.v (.int .i64 A.Start)]) A0 A0 A0 A0) (H3 ?_);refine B2 (zB A0) A0 (fS (a) A0 A0 A0 A0 ?_);rintro _ _ ⟨rfl,rfl⟩;refine⟨rfl,?_⟩;refine I2 ?_;refine G5 ?_;exact A9 (rs:=[I4 R.1,C8 R.2]) cN rfl
abbrev autoW:AL.Auto:=⟨[⟨4,⟨0,0,0,0⟩,0,0⟩,⟨3,⟨0,0,0,0⟩,0,0⟩,⟨1,⟨0,0,0,0⟩,3,1⟩,⟨0,⟨0,8589934592,0,0⟩,2,0⟩,⟨0,⟨0,8589934592,0,0⟩,2,0⟩,⟨2,⟨0,0,0,0⟩,4,0⟩],5⟩
abbrev bb:Str:=[97,97]
abbrev g1:Graph:=[⟨[],0,[⟨[120],bb⟩]⟩]
theorem XV:FewT g1:=⟨⟨by decide,by decide⟩,fun c a=>by rw[C42.1 a];exact⟨by decide,by decide,by decide⟩⟩
theorem EV:Short g1:=fun c=>by
 unfold Q9;cases c with
 | zero=>decide
 | succ c=>simp
theorem scr_bb:qB [] [bb]=[⟨0,0,0,1⟩]:=by
 unfold qB;rw[show L0 (E0 [[],[bb]]) []=[] by kernel_rfl,show L0 (E0 [[],[bb]]) [bb]=[0] by kernel_rfl];unfold tV;rw[Z9];rfl
theorem rex_bb:XU autoW ([],bb)=true:=by
 show decide (0<(T9 (iW autoW) (F8 []) (F8 bb) (qB (F8 []) (F8 bb))).length)=true;rw[show F8 []=[] by kernel_rfl,show F8 bb=[bb] by kernel_rfl,scr_bb]
 kernel_rfl
theorem A94:Q7 (XU autoW) g1 0=([0],0):=by
 have a:N6 g1 0=([0],0):=by kernel_rfl
 have b:L9 g1 0=[[([],bb)]]:=by kernel_rfl
 unfold Q7;rw[a,A7 (fun e=>e rfl)];simp only[D17,List.filter_nil,R0,Int.toNat_zero,b,List.any_cons,List.any_nil,rex_bb,Bool.or_false,if_true]
theorem lit1:dN g1 0 [97]=([0],0):=by kernel_rfl
theorem cnt1:dO g1 0 [97]=([2],0):=by kernel_rfl
theorem SJ(p:Str)(L:List AL.Node)(e:Int)(b:e≠0)(c:FnOk prog 35 [F6 p] (fun rs=>rs=[P8 L,C8 e])) :
  FnOk prog 21 [F6 p] (fun rs=>rs=[mY,C8 e]):=by
 refine FnOk.intro Tryz.func21 F1 A0 A0 A0 A0 (F5 ?_);refine C2 (H9 2 A0) A0 (I2 ?_);refine E2 (c) ?_;refine zc 12 (fun a=>?_) fun a=>?_;rotate_left
 ·exact absurd b (A3 a)
 refine R3 ?_;exact A9 (rs:=[mY,C8 e]) (BV rfl rfl rfl rfl rfl rfl rfl) rfl
theorem SK(p:Str)(L:List AL.Node)(b:FnOk prog 35 [F6 p] (fun rs=>rs=[P8 L,C8 0]))(hb:FnOk prog 36 [P8 L] (fun rs=>rs=[mY,C8 1])) :
  FnOk prog 21 [F6 p] (fun rs=>rs=[mY,C8 1]):=by
 refine FnOk.intro Tryz.func21 F1 A0 A0 A0 A0 (F5 ?_);refine C2 (H9 2 A0) A0 (I2 ?_);refine E2 (b) ?_;refine zc 12 (fun a=>?_) fun a=>?_
 ·cases a
 refine P1 ?_;refine E2 (hb) (J0 ?_);exact A9 (rs:=[mY,C8 1]) (BV rfl rfl rfl rfl rfl rfl rfl) rfl
theorem XW(g:Graph)(s:Int)(p:Str)(e:Int)(c:e≠0)(b:FnOk prog 21 [F6 p] (fun rs=>rs=[mY,C8 e])) :
  FnOk prog 8 [I9 g,C8 s,F6 p] (fun rs=>rs=[I4 [],C8 e]):=by
 refine FnOk.intro Tryz.func8 F1 A0 A0 A0 A0 (F5 ?_);refine B2 (E3 _ 1 C7) A0 (I2 ?_);refine E2 (b) (H3 ?_);refine C2 (H9 8 A0) A0 ?_;refine zc 9 (fun a=>?_) fun a=>?_;rotate_left
 ·exact absurd c (A3 a)
 refine H3 ?_;refine B2 (E3 _ 1 C7) A0 (H3 ?_);exact A9 (rs:=[I4 [],C8 e]) cN rfl
def qs(n:Nat):Str:=List.replicate n 113
theorem SL:FnOk prog 21 [F6 pat4] (fun rs=>rs=[lQ autoW,C8 0]):=by
 have h:=yC pat4 F1;rw[show parsed pat4=(MU,0) by kernel_rfl]at h;exact zO pat4 MU autoW h (DX MU autoW.States 5 20 E4 F1 (by rw[show rQ MU=5 by kernel_rfl];decide) E4 F1)
theorem A95:FnOk prog 11 [] (fun rs=>rs=[E1 true]):=by
 have b:=RM g1 0 [97] XV EV F1;have a:=WO g1 0 [97] XV EV F1;have d:=EU g1 0 pat4 autoW (ag_of E4) XV EV SL;rw[lit1]at b;rw[cnt1]at a;rw[A94]at d;refine FnOk.intro Tryz.func11 F1 A0 A0 A0 A0 (I3 ?_);refine B2 (B7 (c:=U6) (ys:=[(⟨[120],[97,97]⟩:File)]) (C0 A0 A0 A0 A0 D2) A0 A0 A0) A0 (G5 ?_);refine gR ((C07 Int 1 C7 10 0 A0 A0)) (B2 (B7 (c:=F2) (ys:=g1) (C0 A0 A0 A0 A0 D2) A0 A0 A0) A0 (I2 ?_));refine E2 (b) (Z2 ?_);refine E2 (d) (Z2 ?_);refine E2 (a) (V7 ?_);refine G7 A0 A0 A0 A0 (G5 ?_);refine G7 A0 A0 A0 A0 (G5 ?_);refine B2 (O2 A0 (rfl) A0) A0 (G5 ?_);refine G7 A0 A0 A0 A0 (G5 ?_);refine G7 A0 A0 A0 A0 (G5 ?_);refine B2 (O2 A0 (rfl) A0) A0 (G5 ?_);refine G7 A0 A0 A0 A0 (G5 ?_);refine G7 A0 A0 A0 A0 (B2 (B7 (c:=C7) (ys:=[(0:Int)]) (C0 A0 A0 A0 A0 D2) A0 A0 A0) A0 (G7 A0 A0 A0 A0 (E2 (qS [0] F1) (B2 (O2 A0 (rfl) A0) A0 (G5 ?_)))));refine G7 A0 A0 A0 A0 (G5 ?_);refine G7 A0 A0 A0 A0 (B2 (B7 (c:=C7) (ys:=[(0:Int)]) (C0 A0 A0 A0 A0 D2) A0 A0 A0) A0 (G7 A0 A0 A0 A0 (E2 (qS [0] F1) (B2 (O2 A0 (rfl) A0) A0 (G5 ?_)))));refine G7 A0 A0 A0 A0 (G5 ?_);refine G7 A0 A0 A0 A0 (B2 (B7 (c:=C7) (ys:=[(2:Int)]) (C0 A0 A0 A0 A0 D2) A0 A0 A0) A0 (G7 A0 A0 A0 A0 (E2 (qS [2] F1) (B2 (O2 A0 (rfl) A0) A0 (H3 ?_)))));exact A9 (rs:=[E1 true]) M1 rfl
theorem NK{w:List Int}(d:∀v∈w,0<=v/\v<=4001):∀(c:List Int) (b:Int),0<=b->w8 w b c<=4000->w8 w b c=b+((c.map fun k=>(I0 w k.toNat).toNat).sum:Nat)
 | [],b,_,_=>by simp[w8]
 | k::r,b,h0,h=>by
  have j:=mT w d k;rw[w8]at h ⊢;have e:0<=V1 (b+I0 w k.toNat) 4001:=by unfold V1;split<;>omega
  have f:=NK d r _ e h;rw[f]at h ⊢;have g:V1 (b+I0 w k.toNat) 4001=b+I0 w k.toNat:=by
   unfold V1 at h ⊢;split at h
   ·omega
   ·rename_i i;rw[A7 i]
  rw[g];simp only[C73,D19];omega
theorem NL{g:Int->Nat}:∀{l:List Int} {k:Int},k∈l->g k<=(l.map g).sum
 | y::r,k,h=>by
  simp only[C73,D19];rcases C50.1 h with rfl | h
  ·omega
  ·have:=NL (g:=g) h;omega
theorem XX{a:Int}(h:V1 a 4001<=4000):V1 a 4001=a:=by
 unfold V1 at h ⊢;split at h
 ·omega
 ·rename_i b;rw[A7 b]
theorem SM{L:List AL.Node}(C:FZ L):∀(B:Nat) (k:Int),k<B->0<=k/\k<L.length->I0 (E9 L) k.toNat<=4000->Bable (L:=L) (w:=E9 L) k (I0 (E9 L) k.toNat).toNat
 | 0,k,h,hk,_=>by omega
 | B + 1,k,hB,hk,hW=>by
  intro next st;have U:=jT C hk;have b:=wt_at C hk;have hw:=XI C;obtain⟨n,i⟩:∃n,n=L.getD k.toNat K8:=⟨_,rfl⟩
  rw[<-i]at U b;have X:=r7 U;have ad:=bZ U;obtain⟨W,f⟩:∃W,W=I0 (E9 L) k.toNat:=⟨_,rfl⟩
  obtain⟨g,hg⟩:∃g:Int->Nat,g=fun c=>(I0 (E9 L) c.toNat).toNat:=⟨_,rfl⟩
  have V:∀c,(g c:Int)=I0 (E9 L) c.toNat:=fun c=>by rw[hg];have:=(mT (E9 L) hw c).1;dsimp only;omega
  rw[<-f]at hW b ⊢;by_cases v:W=0
  ·exact⟨1,st,next,by rw[J8];dsimp only;rw[<-f,A6 v],by omega⟩
  have ih:∀c∈n.Kids,g c<=4000->Bable (L:=L) (w:=E9 L) c (g c):=fun c I h=>by
   have:=X c I;have M:=V c;have:=SM C B c B1 B1 B1;rw[hg];exact this
  have ai:=(qP (E9 L) hw n.Kids 0 F1).1;unfold V2 at b;dsimp only at b;by_cases E:n.Kind=1
  ·rw[A7 B1,A7 B1,A7 B1]at b;exact⟨1,st++[_],_,by rw[J8];dsimp only;rw[<-f,<-i,A7 v,A6 E];rfl,by rw[C40,C51];omega⟩
  by_cases J:n.Kind=2
  ·rw[A7 B1,A7 B1,A7 B1]at b;exact⟨1,st++[_],_,by rw[J8];dsimp only;rw[<-f,<-i,A7 v,A7 E,A6 J];rfl,by rw[C40,C51];omega⟩
  by_cases P:n.Kind=3
  ·rw[A7 B1,A7 B1,A7 B1]at b;exact⟨1,st++[_],_,by rw[J8];dsimp only;rw[<-f,<-i,A7 v,A7 E,A7 J,A6 P];rfl,by rw[C40,C51];omega⟩
  by_cases H:n.Kind=4
  ·rw[A6 H]at b;have hs:=NK hw n.Kids 0 (Int.le_refl _) B1;rw[show (fun k:Int=>(I0 (E9 L) k.toNat).toNat)=g from hg.symm]at hs;obtain⟨F,st',q,K,M⟩:=cat_ex (L:=L) (w:=E9 L) (g:=g) (l:=n.Kids.reverse) (fun c I=>ih c (List.mem_reverse.1 I) (by have:=NL (g:=g) (List.mem_reverse.1 I);omega)) next st;refine⟨F+1,st',q,by rw[J8];dsimp only;rw[<-f,<-i,A7 v,A7 E,A7 J,A7 P,A6 H];exact K,?_⟩;rw[List.map_reverse,List.sum_reverse]at M;omega
  by_cases Q:n.Kind=5
  ·rw[A7 H,A6 Q]at b;obtain⟨_,hX⟩:=bK U;have af:2<=n.Kids.length:=by omega
   have Z:=XX (show V1 _ 4001<=4000 by rw[<-b];exact hW);rw[Z]at b;have hs:=NK hw n.Kids 0 (Int.le_refl _) B1;rw[show (fun k:Int=>(I0 (E9 L) k.toNat).toNat)=g from hg.symm]at hs;have D:n.Kids.reverse.length=n.Kids.length:=D14;have ab:(n.Kids.reverse.map g).sum=(n.Kids.map g).sum:=by rw[List.map_reverse,List.sum_reverse]
   have A:∀c∈n.Kids.reverse,c∈n.Kids:=fun c I=>List.mem_reverse.1 I;have hb:∀c∈n.Kids,g c<=4000:=fun c I=>by have:=NL (g:=g) I;omega
   cases hr:n.Kids.reverse with
   | nil=>rw[hr]at D;simp at D;omega
   | cons c r =>
    rw[hr]at D ab A;simp only[C73,D19,C46]at ab D;have T:=A c (C56 ..);obtain⟨F,st1,q1,K,M⟩:=ih c T (hb c T) next st;obtain⟨G,p,q2,S,h4⟩:=alt_ex (L:=L) (w:=E9 L) (g:=g) (l:=r) (fun x hx=>ih x (A x (C55 _ hx)) (hb x (A x (C55 _ hx)))) next q1 st1;refine⟨F+G+1,p,q2,?_,by omega⟩;rw[J8];dsimp only;rw[<-f,<-i,A7 v,A7 E,A7 J,A7 P,A7 H,A6 Q,hr];dsimp only;rw[iT G K];have:=ZO F S
    rwa[show G+F=F+G by omega]at this
  by_cases R:n.Kind=6
  ·rw[A7 H,A7 Q,A6 R]at b;obtain⟨hl,ag,_,ah⟩:=fI U R;obtain⟨e,O⟩:∃e,e=n.Kids.getD 0 0:=⟨_,rfl⟩
   have hkl:n.Kids=[e]:=by
    rw[O]
    match n.Kids,hl with
    | [x],_=>rfl
   have Y:e∈n.Kids:=by rw[hkl];exact C56 ..
   have ae:w8 (E9 L) 0 n.Kids=(g e:Int):=by
    rw[hkl,w8,w8,V e,Int.zero_add];have:=mT (E9 L) hw e;unfold V1;split<;>omega
   rw[ae]at b;obtain⟨a,ha⟩:∃a:Nat,n.Min=(a:Int):=⟨n.Min.toNat,by omega⟩
   have j:∀x y:Nat,(x:Int)*(y:Int)=((x*y:Nat):Int):=fun x y=>(Int.natCast_mul x y).symm;by_cases c7:n.Max<0
   ·rw[A6 c7]at b;have Z:=XX (show V1 _ 4001<=4000 by rw[<-b];exact hW);rw[Z,ha,j]at b;have hb:=ih e Y B1;obtain⟨F,st1,q1,K,M⟩:=hb st.length (st++[{ V8 with Kind:=1,Other:=next }]);rw[C40,C51]at M;obtain⟨G,p,q2,S,h4⟩:=ZQ (L:=L) (w:=E9 L) hb n.Min.toNat (st.length:Int) (st1.set st.length { (st1.getD st.length V8) with Next:=q1 })
    rw[C78,ha,C37]at h4;refine⟨F+G+1,p,q2,?_,by omega⟩;rw[J8];dsimp only;rw[<-f,<-i,A7 v,A7 E,A7 J,A7 P,A7 H,A7 Q,A6 R,A6 c7,<-O,iT G K];dsimp only;have:=OZ F S;rw[show G+F=F+G by omega]at this;rw[C37];exact this
   ·rw[A7 c7]at b;have Z:=XX (show V1 _ 4001<=4000 by rw[<-b];exact hW);obtain⟨d,hd⟩:∃d:Nat,n.Max-n.Min=(d:Int):=⟨(n.Max-n.Min).toNat,by omega⟩
    rw[Z,ha,j,<-ha,hd,show ((g e:Int)+1)=((g e+1:Nat):Int) by omega,j]at b;have ac:g e<=4000:=by
     by_cases z:d=0
     ·by_cases z2:a=0
      ·rw[z,z2]at b;simp at b;exact absurd b v
      ·have:=Nat.le_mul_of_pos_left (g e) (show 0<a by omega);omega
     ·have:=Nat.le_mul_of_pos_left (g e+1) (show 0<d by omega);omega
    have hb:=ih e Y ac;obtain⟨F,st1,q1,K,M⟩:=max_ex (L:=L) (w:=E9 L) hb next (n.Max-n.Min).toNat next st;obtain⟨G,p,q2,S,h4⟩:=ZQ (L:=L) (w:=E9 L) hb n.Min.toNat q1 st1;rw[hd,C37]at M;rw[ha,C37]at h4;refine⟨F+G+1,p,q2,?_,by omega⟩;rw[J8];dsimp only;rw[<-f,<-i,A7 v,A7 E,A7 J,A7 P,A7 H,A7 Q,A6 R,A7 c7,<-O,ZP G K];dsimp only;have:=OZ F S
    rwa[show G+F=F+G by omega]at this
  ·exact⟨1,st,next,by rw[J8];dsimp only;rw[<-f,<-i,A7 v,A7 E,A7 J,A7 P,A7 H,A7 Q,A7 R],by omega⟩
def lG(p:Str):Int:=if (parsed p).2≠0 then (parsed p).2 else if rQ (parsed p).1>4000 then 1 else 0
def Hit(p s:Str):Prop:=∃i j,i<=s.length/\j<=s.length/\Den (parsed p).1 s (((parsed p).1.length:Int)-1) i j
theorem SN(p:Str)(k:p.length<=1099511627776)(h:lG p≠0):FnOk prog 21 [F6 p] (fun l=>l=[mY,C8 (lG p)]):=by
 have d:=yC p k;unfold lG at h ⊢;by_cases c:(parsed p).2≠0
 ·rw[A6 c];exact SJ p _ _ c d
 ·have b:(parsed p).2=0:=C75.1 c;rw[A7 c]at h ⊢;by_cases e:rQ (parsed p).1>4000
  ·rw[A6 e];rw[b]at d;have m:p.length<=256:=by
    refine Nat.le_of_not_lt fun j=>?_;unfold parsed y8 at b;rw[A6 j]at b;cases b
   obtain⟨g,i⟩:=nW (s:=p) (f:=1100) F1 (L:=(parsed p).1) (Prod.ext rfl b) ((uE 1100).pat _ (C41 _) b9x);exact SK p _ d (WV _ g i e)
  ·rw[A7 e]at h;exact absurd rfl h
theorem NM(p:Str)(x:p.length<=1099511627776)(h:lG p=0):∃A,AG A/\(∀s,(iO A s 0).2=true↔Hit p s)/\FnOk prog 21 [F6 p] (fun y=>y=[lQ A,C8 0]):=by
 have g:=yC p x;unfold lG at h;have b:(parsed p).2=0:=by
  by_cases l:(parsed p).2≠0
  ·rw[A6 l]at h;exact h
  ·exact C75.1 l
 rw[A7 (fun e=>e b)]at h;have n:¬rQ (parsed p).1>4000:=fun e=>by rw[A6 e]at h;cases h
 have z:p.length<=256:=by
  refine Nat.le_of_not_lt fun u=>?_;unfold parsed y8 at b;rw[A6 u]at b;cases b
 rw[b]at g;unfold Hit;obtain⟨c,m⟩:=nW (s:=p) (f:=1100) F1 (L:=(parsed p).1) (Prod.ext rfl b) ((uE 1100).pat _ (C41 _) b9x);obtain⟨L,q⟩:∃L,L=(parsed p).1:=⟨_,rfl⟩
 rw[<-q]at g c m n ⊢;obtain⟨v,w,i⟩:=o3 c;have k:I0 (E9 L) (L.length-1)<=4000:=by unfold rQ at n;omega
 obtain⟨F,st,r,hb,j⟩:=SM (L:=L) i L.length ((L.length:Int)-1) B1 ⟨by omega,by omega⟩ (by rw[show ((L.length:Int)-1).toNat=L.length-1 by omega];exact k) 0 [⟨4,⟨0,0,0,0⟩,0,0⟩];rw[show ((L.length:Int)-1).toNat=L.length-1 by omega,C51]at j;have d:st.length<=8000:=by omega
 refine⟨⟨st,r⟩,?_,?_,zO p L ⟨st,r⟩ g (DX L st r F c m B1 hb B1)⟩
 ·exact (JY (s:=[]) c hb d).1
 ·exact fun s=>(JY c hb d).2
theorem SO(s:Str):FnOk prog 47 [F6 s] (fun rs=>rs=[P8 (parsed s).1,C8 (parsed s).2]):=by
 obtain⟨Q,j⟩:∃Q,Q=OO s 1100:=⟨_,rfl⟩
 have F:parsed s=Q:=by rw[j,ZB 1100 F1];rfl
 rw[F];unfold OO at j;refine FnOk.intro Tryz.func47 F1 A0 A0 A0 A0 (F5 ?_);refine B2 (E3 _ 8 P5) A0 ?_;refine zc 9 (fun d=>?_) fun d=>?_
 ·have i:s.length>256:=by have:=A1 d;omega
  rw[A6 i]at j;rw[j];refine F5 ?_;refine B2 (E3 _ 8 P5) A0 (H3 ?_);exact A9 (rs:=[P8 [],C8 1]) cN rfl
 have i:¬s.length>256:=by have:=A3 d;omega
 rw[A7 i]at j;have D:SOk s ⟨0,0,[]⟩:=⟨by omega,C41 _,by decide⟩
 have B:nT s 1100 ⟨0,0,[]⟩≠.error 0:=by
  rcases A40 (s:=s) 1100 ⟨0,0,[]⟩ rfl (C41 _) b9x with h | ⟨h,_⟩
  ·rw[h];exact (uE 1100).pat _ (C41 _) b9x
  ·rw[h];exact fun g=>by cases g
 obtain⟨K,z⟩:∃K,K=kF 51:=⟨_,rfl⟩
 have w:KOk K:=by rw[z];exact xY 51
 have u:=rx_all s 1101 1100 F1 F1 50 ⟨0,0,[]⟩ rfl D (C45 _) B;rw[<-z]at u;clear z;obtain⟨A,E⟩:∃A,A=nT s 1100 ⟨0,0,[]⟩:=⟨_,rfl⟩
 rw[<-E]at u j;refine I2 ?_;refine C2 (w9 810 A0 A0 A0) A0 (F5 ?_);refine C3 (C10 811 AL.Node 8 P5 154 (kb:=810) (o:=3) A0 A0 A0) (H3 ?_);refine gX (u _ _ [] ⟨rfl,rfl,⟨w,(fun _ _ h=>by cases h),(fun _ _ h=>by cases h),(fun _ _ h=>by cases h)⟩⟩) (by repeat (first | exact FreeKs.nil | refine FreeKs.cons (fun _ _=>rfl) ?_ | refine FreeKs.cons (aG w) ?_)) rfl rfl rfl ?_;rintro _ _ ⟨y,e,v,rfl,rfl,C⟩;refine G5 ?_;obtain⟨n,b⟩:∃n:Int,n=if e=0/\y.at_<s.length then 40 else e:=⟨_,rfl⟩
 have f:Q=if n≠0 then ([],n) else (y.nodes,0):=by
  rcases C with ⟨rfl,q⟩ | ⟨he,q,_⟩
  ·rw[q]at j;dsimp only at j;rw[j];by_cases m:y.at_<s.length
   ·rw[A6 ⟨rfl,m⟩]at b;rw[A6 m,b,A6 F1]
   ·rw[A7 (fun g=>m g.2)]at b;rw[A7 m,b,A7 F1]
  ·rw[q]at j;rw[A7 (fun g=>he g.1)]at b;rw[j,b,A6 he]
 refine zz 18 ?_;refine U9 [(4,.s H1)] (RObs s y n []) ?_ ?_
 ·skip;refine zc 0 (fun d=>?_) fun d=>?_
  ·rw[P4,C39,decide_eq_true_eq,decide_eq_true_eq]at d;rw[A6 ⟨d.1,by omega⟩]at b;have x:(if e=0 then (40:Int) else e)=40:=A6 d.1;subst b;skip;refine F5 ?_;refine O4 (q9 s y.at_ y.depth e 40 A0) A0 A0 A0 (G5 ?_);rw[x];refine uI ?_;exact C11 ⟨i6 rfl,trivial⟩ (D3 (L:=[(810,_),(811,_)]) ⟨rfl,rfl,trivial⟩ (fun _ _ _ h=>by cases h))
  ·rw[P4,D05,decide_eq_false_iff_not,decide_eq_false_iff_not]at d;rw[A7 (by rintro⟨g1,G⟩;rcases d with h | h;exact h g1;omega)]at b;subst b;refine G5 ?_;exact C11 ⟨i6 rfl,trivial⟩ (D3 (L:=[(810,_),(811,_)]) ⟨rfl,rfl,trivial⟩ (fun _ _ _ h=>by cases h))
 refine Z2 ?_;by_cases l:n=0
 ·rw[A7 (fun g=>g l)]at f;rw[f];refine zc 0 (fun d=>?_) fun d=>?_
  ·exact absurd l (A1 d)
  refine F5 ?_;refine C3 (Sees.freezeG (k:=811) (α:=AL.Node) (ec:=8) (c:=P5) (xs:=y.nodes) (e:=154) A0 A0) (Z2 ?_);exact A9 (rs:=[P8 y.nodes,C8 0]) cN rfl
 ·rw[A6 l]at f;rw[f];refine zc 0 (fun d=>?_) fun d=>?_;rotate_left
  ·exact absurd (C75.1 (A3 d)) l
  refine J0 ?_;refine D6 (E3 _ 8 P5) A0 A0 (H3 ?_);exact A9 (rs:=[P8 [],C8 n]) cN rfl
theorem KC(p:Str):FnOk prog 25 [F6 p] (fun rs=>rs=if lG p≠0 then [P8 [],C8 (lG p)] else [P8 (parsed p).1,C8 0]):=by
 have g:=SO p;unfold lG;obtain⟨L,l⟩:∃L,L=(parsed p).1:=⟨_,rfl⟩
 obtain⟨e,d⟩:∃e,e=(parsed p).2:=⟨_,rfl⟩
 rw[<-l,<-d]at g ⊢;by_cases b:e≠0
 ·simp only[A6 b];refine FnOk.intro Tryz.func25 F1 A0 A0 A0 A0 (F5 ?_);refine B2 (E3 _ 8 P5) A0 (I2 ?_);refine E2 (g) ?_;refine zc 12 (fun c=>?_) fun c=>?_;rotate_left
  ·exact absurd b (A3 c)
  refine H3 ?_;refine B2 (E3 _ 8 P5) A0 (H3 ?_);exact A9 (rs:=[P8 [],C8 e]) cN rfl
 have b:e=0:=C75.1 b;have r:p.length<=256:=by
  refine Nat.le_of_not_lt fun q=>?_;unfold parsed y8 at d;rw[A6 q]at d;rw[b]at d;cases d
 obtain⟨n,o⟩:=nW (s:=p) (f:=1100) F1 (L:=(parsed p).1) (Prod.ext rfl (d.symm.trans b)) ((uE 1100).pat _ (C41 _) b9x);rw[<-l]at n o;obtain⟨i,j,k⟩:=o3 n;have m:=XK L k i j o;subst b;by_cases h:rQ L>4000
 ·simp only[A7 (show ¬(0:Int)≠0 by decide),A6 h,A6 (show (1:Int)≠0 by decide)];refine FnOk.intro Tryz.func25 F1 A0 A0 A0 A0 (F5 ?_);refine B2 (E3 _ 8 P5) A0 (I2 ?_);refine E2 (g) ?_;refine zc 12 (fun c=>?_) fun c=>?_
  ·exact absurd rfl (A1 c)
  refine P1 ?_;refine E2 (m) ?_;refine zc 12 (fun c=>?_) fun c=>?_;rotate_left
  ·exact absurd h (A3 c)
  refine F5 ?_;refine B2 (E3 _ 8 P5) A0 (H3 ?_);exact A9 (rs:=[P8 [],C8 1]) cN rfl
 ·simp only[A7 (show ¬(0:Int)≠0 by decide),A7 h];refine FnOk.intro Tryz.func25 F1 A0 A0 A0 A0 (F5 ?_);refine B2 (E3 _ 8 P5) A0 (I2 ?_);refine E2 (g) ?_;refine zc 12 (fun c=>?_) fun c=>?_
  ·exact absurd rfl (A1 c)
  refine P1 ?_;refine E2 (m) ?_;refine zc 12 (fun c=>?_) fun c=>?_
  ·exact absurd (A1 c) h
  refine R3 ?_;exact A9 (rs:=[P8 L,C8 0]) cN rfl
theorem qT(s:Str)(b:Bool)(H:s.length<=1000000):FnOk prog 147 [F6 s,E1 b] (fun rs=>rs=[dR (oD (s.length+1) b)]):=by
 obtain⟨n,F⟩:∃n,n=s.length+1:=⟨_,rfl⟩
 obtain⟨f,B⟩:∃f:Nat->Nat->Bool,f=fun i j=>decide (i=j)&&b:=⟨_,rfl⟩
 have C:oD (s.length+1) b=aA n f:=by rw[F,B];rfl
 rw[C];have E:=BP n f;refine FnOk.intro Tryz.func147 F1 A0 A0 A0 A0 (J0 ?_);refine C2 (L2 5 _ N1 A0) A0 (I3 ?_);refine B9 (X:=Nat) (fun i=>([(0,P6 s),(1,L6 b),(5,.s (.one (.buf 5 (List Bool) 1 N1 ((aA n f).take i)))),(6,B6 i)],[(5,.spare ((aA n f).take i).length 1 90)])) (fun i=>i<=n) (fun i=>n-i) 0 (C41 _) (C1) ?_;intro i D;dsimp only at D ⊢;have A:((aA n f).take i).length=i:=by rw[C59,E];omega
 refine zc 8 (fun z=>?_) fun z=>?_
 ·have y:i<n:=by have v:=A1 z;(try dsimp only at v);omega
  have d:(List.replicate n false).set i b=(List.range n).map (f i):=by
   rw[GW (g:=f i),B];refine List.ext_getElem (by simp[OX]) fun q v G=>?_;rw[List.getElem_set];simp only[l7,List.getElem_map,List.getElem_range];by_cases w:i=q
   ·rw[A6 w,A4 w];rfl
   ·rw[A7 w,A5 w];simp
  refine R3 ?_;refine C2 (a8 700 Bool M8 false A0 A0 B1 B1 (fun _=>PE) VH) A0 (F5 ?_);rw[show ((s.length:Int)+1).toNat=n by omega];refine I2 ?_;refine B2 (D9 A0 A0 A0 B1 PF) A0 (U0 (G3 TySz.out A0 A0 PF A0 A0) (G5 ?_));rw[C37,d];refine uI ?_;refine C3 (Sees.freeze (k:=700) A0) (H3 ?_);refine B2 (B7 (c:=N1) (ys:=[(List.range n).map (f i)]) (C0 A0 A0 A0 A0 D2) A0 A0 A0) A0 (C2 (W4 A0 A0 A0 (.pure _ _ _ _) (by (rw[A];simp only[C46,List.length_nil];omega)) A0) A0 ?_);refine I3 ?_;refine⟨i+1,by omega,by omega,?_⟩;rw[GX y];exact (C1)
 have x:i=n:=by have v:=A3 z;(try dsimp only at v);omega
 rw[x,C83 B1];refine I3 ?_;exact A9 (rs:=[dR (aA n f)]) M1 rfl
theorem KD(n:Nat)(A B:List (List Bool))(hn:n<=1000001)(Q:A.length=n)(C:∀r∈A,r.length=n)(R:B.length=n)(D:∀r∈B,r.length=n):FnOk prog 150 [dR A,dR B] (fun rs=>rs=[dR (GP n A B)]):=by
 obtain⟨f,M⟩:∃f:Nat->Nat->Bool,f=fun i j=>v7 A i j||v7 B i j:=⟨_,rfl⟩
 have S:GP n A B=aA n f:=by rw[M];rfl
 rw[S];have Y:=BP n f;refine FnOk.intro Tryz.func150 F1 A0 A0 A0 A0 (J0 ?_);refine C2 (L2 5 _ N1 A0) A0 (I3 ?_);refine B9 (X:=Nat) (fun i=>([(0,B8 (List Bool) 1 N1 A),(1,B8 (List Bool) 1 N1 B),(5,.s (.one (.buf 5 (List Bool) 1 N1 ((aA n f).take i)))),(6,B6 i)],[(5,.spare ((aA n f).take i).length 1 90)])) (fun i=>i<=n) (fun i=>n-i) 0 (C41 _) (C1) ?_;intro i V;dsimp only at V ⊢;have L:((aA n f).take i).length=i:=by rw[C59,Y];omega
 refine zc 8 (fun w=>?_) fun w=>?_
 ·have v:i<n:=by have q:=A1 w;(try dsimp only at q);omega
  obtain⟨O,E,T,F⟩:=xD Q C v;obtain⟨P,G,U,H⟩:=xD R D v;have Z:A[((i:Nat):Int).toNat]?=some O:=by rw[C37];exact E
  have ab:B[((i:Nat):Int).toNat]?=some P:=by rw[C37];exact G
  refine I3 ?_;refine C2 (a8 700 Bool M8 false A0 A0 B1 B1 (fun _=>PE) VH) A0 (F5 ?_);rw[show ((A.length:Nat):Int).toNat=n by omega,GW (g:=f i)];refine J0 ?_;refine B9 (X:=Nat) (fun j=>([(0,B8 (List Bool) 1 N1 A),(1,B8 (List Bool) 1 N1 B),(5,.s (.one (.buf 5 (List Bool) 1 N1 ((aA n f).take i)))),(6,B6 i),(7,.s (.one (.mut 700))),(8,B6 j)],[(700,.arr Bool 1 M8 (l7 n (fun _=>false) (f i) j)),(5,.spare ((aA n f).take i).length 1 90)])) (fun j=>j<=n) (fun j=>n-j) 0 (C41 _) (C1) ?_;intro j W;dsimp only at W ⊢;have z:=OX n (fun _=>false) (f i) j;refine zc 8 (fun w=>?_) fun w=>?_
  ·have y:j<n:=by have q:=A1 w;(try dsimp only at q);omega
   have ac:O[((j:Nat):Int).toNat]?=some (v7 A i j):=by rw[C37];exact F j y
   have ad:P[((j:Nat):Int).toNat]?=some (v7 B i j):=by rw[C37];exact H j y
   have d:=A44 (n:=n) (f:=fun _=>false) (g:=f i) (j:=j);rw[show f i j=(v7 A i j||v7 B i j) by rw[M]]at d;refine zz 16 ?_;refine D7 A0 A0 A0 A0 (fun x=>by have K:=x;(try simp at K);rw[x];exact C5 A0 (.pure _ _ _ _) A0 B1 aT) ?_;refine F5 ?_;refine D7 A0 A0 A0 A0 (fun x=>by have K:=x;(try simp at K);rw[x];exact C5 A0 (.pure _ _ _ _) A0 B1 aT) ?_;refine F5 ?_;refine B2 (D9 A0 A0 A0 B1 (by (rw[z];omega))) A0 ?_;refine U0 (G3 TySz.out A0 A0 (by (rw[z];omega)) A0 A0) ?_;refine G5 ?_;rw[x7,C37,d];refine I2 ?_;exact⟨j+1,by omega,by omega,(C1)⟩
  have J:j=n:=by have q:=A3 w;(try dsimp only at q);omega
  rw[J,UJ];refine G5 ?_;refine C3 (Sees.freeze (k:=700) A0) (H3 ?_);refine B2 (B7 (c:=N1) (ys:=[(List.range n).map (f i)]) (C0 A0 A0 A0 A0 D2) A0 A0 A0) A0 (C2 (W4 A0 A0 A0 (.pure _ _ _ _) (by (rw[L];simp only[C46,List.length_nil];omega)) A0) A0 ?_);refine I3 ?_;refine⟨i+1,by omega,by omega,?_⟩;rw[GX v];exact (C1)
 have I:i=n:=by have q:=A3 w;(try dsimp only at q);omega
 rw[I,C83 B1];refine I3 ?_;exact A9 (rs:=[dR (aA n f)]) M1 rfl
theorem pI(n:Nat)(A B:List (List Bool))(hn:n<=1000001)(U:A.length=n)(I:∀r∈A,r.length=n)(hB:B.length=n)(J:∀r∈B,r.length=n):FnOk prog 149 [dR A,dR B] (fun rs=>rs=[dR (GQ n A B)]):=by
 obtain⟨f,V⟩:∃f:Nat->Nat->Bool,f=fun i j=>v8 A B i n j:=⟨_,rfl⟩
 have hT:GQ n A B=aA n f:=by rw[V];rfl
 rw[hT];have hl:=BP n f;refine FnOk.intro Tryz.func149 F1 A0 A0 A0 A0 (x5 ?_);refine C2 (L2 6 _ N1 A0) A0 (I3 ?_);refine B9 (X:=Nat) (fun i=>([(0,B8 (List Bool) 1 N1 A),(1,B8 (List Bool) 1 N1 B),(5,B6 n),(6,.s (.one (.buf 6 (List Bool) 1 N1 ((aA n f).take i)))),(7,B6 i)],[(6,.spare ((aA n f).take i).length 1 90)])) (fun i=>i<=n) (fun i=>n-i) 0 (C41 _) (by rw[<-U];exact (C1)) ?_;intro i W;dsimp only at W ⊢;have S:((aA n f).take i).length=i:=by rw[C59,hl];omega
 refine zc 7 (fun d=>?_) fun d=>?_
 ·have G:i<n:=by have w:=A1 d;(try dsimp only at w);omega
  obtain⟨Z,K,ab,L⟩:=xD U I G;have ad:A[((i:Nat):Int).toNat]?=some Z:=by rw[C37];exact K
  refine J0 ?_;refine C2 (a8 700 Bool M8 false A0 A0 B1 B1 (fun _=>PE) VH) A0 (F5 ?_);have h0:List.replicate n false=(List.range n).map (v8 A B i i):=by
   rw[GW (g:=v8 A B i i)];exact UK (fun q=>(GR i (C45 i)).symm)
  rw[C37,h0];refine I3 ?_;refine B9 (X:=Nat) (fun k=>([(0,B8 (List Bool) 1 N1 A),(1,B8 (List Bool) 1 N1 B),(5,B6 n),(6,.s (.one (.buf 6 (List Bool) 1 N1 ((aA n f).take i)))),(7,B6 i),(8,.s (.one (.mut 700))),(9,B6 k)],[(700,.arr Bool 1 M8 ((List.range n).map (v8 A B i k))),(6,.spare ((aA n f).take i).length 1 90)])) (fun k=>i<=k/\k<=n) (fun k=>n-k) i ⟨C45 i,W⟩ (C1) ?_;rintro k ⟨D,Y⟩;dsimp only at D Y ⊢;refine zc 7 (fun d=>?_) fun d=>?_
  ·have hkl:k<n:=by have w:=A1 d;(try dsimp only at w);omega
   obtain⟨rb,M,ac,O⟩:=xD hB J hkl;have ae:B[((k:Nat):Int).toNat]?=some rb:=by rw[C37];exact M
   have af:Z[((k:Nat):Int).toNat]?=some (v7 A i k):=by rw[C37];exact L k hkl
   rw[B28 (g:=v8 A B i (k+1)) (j:=k) (fun q x=>by rw[rL,A5 (show ¬k<=q by omega),Bool.false_and,Bool.and_false,Bool.and_false,Bool.or_false])];refine Z2 ?_;refine B9 (X:=Nat) (fun j=>([(0,B8 (List Bool) 1 N1 A),(1,B8 (List Bool) 1 N1 B),(5,B6 n),(6,.s (.one (.buf 6 (List Bool) 1 N1 ((aA n f).take i)))),(7,B6 i),(8,.s (.one (.mut 700))),(9,B6 k),(10,B6 j)],[(700,.arr Bool 1 M8 (l7 n (v8 A B i k) (v8 A B i (k+1)) j)),(6,.spare ((aA n f).take i).length 1 90)])) (fun j=>k<=j/\j<=n) (fun j=>n-j) k ⟨C45 k,Y⟩ (C1) ?_;rintro j ⟨F,hj⟩;dsimp only at F hj ⊢;have C:=OX n (v8 A B i k) (v8 A B i (k+1)) j;refine Z2 ?_;refine D7 A0 A0 A0 A0 (fun v=>by have x:=v;(try simp at x);rw[v];exact C5 A0 (.pure _ _ _ _) A0 B1 aT) ?_;refine F5 ?_;refine D7 A0 A0 A0 A0 (fun v=>by have x:=v;(try simp at x);rw[v];exact C5 A0 (.pure _ _ _ _) A0 B1 aT) ?_;refine zc 3 (fun d=>?_) fun d=>?_
   ·rw[P4,C39,decide_eq_true_eq]at d;have E:j<n:=by have w:=d.1;omega
    have ag:rb[((j:Nat):Int).toNat]?=some (v7 B k j):=by rw[C37];exact O j E
    have T:(l7 n (v8 A B i k) (v8 A B i (k+1)) j)[((j:Nat):Int).toNat]?=some (v8 A B i k j):=by rw[C37];exact mix_get E
    have z:=A44 (n:=n) (f:=v8 A B i k) (g:=v8 A B i (k+1)) (j:=j);rw[rL,d.2,A4 D,A4 F,C84,C84,C84]at z;refine R3 ?_;refine B2 (D9 A0 A0 A0 B1 (by (rw[C];omega))) A0 ?_;refine B2 (M7 A0 A0 T A0) A0 (H3 ?_);refine D7 A0 A0 A0 A0 (fun v=>by have x:=v;(try simp at x);rw[v];exact C5 A0 (.pure _ _ _ _) A0 B1 aT) ?_;refine F5 ?_;refine D7 A0 A0 A0 A0 (fun v=>by have x:=v;(try simp at x);rw[v];exact C5 A0 (.pure _ _ _ _) A0 B1 aT) ?_;refine F5 ?_;refine B2 (D9 A0 A0 A0 B1 (by (rw[C];omega))) A0 ?_;refine U0 (G3 TySz.out A0 A0 (by (rw[C];omega)) A0 A0) ?_;refine G5 ?_;rw[x7,C37,z];refine I2 ?_;exact⟨j+1,⟨by omega,by omega⟩,by omega,(C1)⟩
   rw[P4,D05]at d;have H:l7 n (v8 A B i k) (v8 A B i (k+1)) j=(List.range n).map (v8 A B i (k+1)):=by
    rcases d with h | h
    ·have w:=A3 h;have Q:j=n:=by omega
     rw[Q,UJ]
    ·exact UK (fun q=>by rw[rL,h,Bool.false_and,Bool.and_false,Bool.or_false])
   rw[H];refine J0 ?_;exact⟨k+1,⟨by omega,by omega⟩,by omega,(C1)⟩
  have R:k=n:=by have w:=A3 d;(try dsimp only at w);omega
  rw[R,show (List.range n).map (v8 A B i n)=(List.range n).map (f i) by rw[V]];refine G5 ?_;refine C3 (Sees.freeze (k:=700) A0) (H3 ?_);refine B2 (B7 (c:=N1) (ys:=[(List.range n).map (f i)]) (C0 A0 A0 A0 A0 D2) A0 A0 A0) A0 (C2 (W4 A0 A0 A0 (.pure _ _ _ _) (by (rw[S];simp only[C46,List.length_nil];omega)) A0) A0 ?_);refine I3 ?_;refine⟨i+1,by omega,by omega,?_⟩;rw[GX G];exact (C1)
 have P:i=n:=by have w:=A3 d;(try dsimp only at w);omega
 rw[P,C83 B1];refine I3 ?_;exact A9 (rs:=[dR (aA n f)]) M1 rfl
abbrev bU(m:Nat):List TC:=Y8 M8 m 0 (fun _=>([]:List Bool))
abbrev lH(n:Nat):Nat->List Bool:=fun _=>List.replicate n false
theorem EW{m k:Nat}(c:k<1000):(bU m).all (TC.free k)=true:=by
 rw[C47];intro t b;obtain⟨r,_,rfl⟩:=C71.1 b;rw[A7 B1];simp[TC.free,S4 (show r+1000≠k by omega)]
theorem SP(k:Nat):(bU k).all (TC.free (k+1000))=true:=by
 rw[C47];intro t c;obtain⟨r,b,rfl⟩:=C71.1 c;have:=C62.1 b;rw[A7 B1];simp[TC.free,S4 (show r+1000≠k+1000 by omega)]
theorem XY(k:Nat):(bU k++[TC.mut 734]).map (TC.ren 734 (k+1000))=bU (k+1):=by
 unfold bU Y8;rw[C90,D15,C90,D01];have b:(List.range k).map (TC.ren 734 (k+1000) ∘ fun r=>if r<0 then TC.p (.list Bool 1 M8 []) else TC.mut (r+1000))=(List.range k).map fun r=>if r<0 then TC.p (.list Bool 1 M8 []) else TC.mut (r+1000):=by
  refine C81 fun r c=>?_;show TC.ren 734 (k+1000) (if r<0 then _ else TC.mut (r+1000))=_;rw[A7 B1];simp[TC.ren,S4 (show r+1000≠734 by omega)]
 exact congr (congrArg _ b) (by simp[TC.ren])
theorem A96(m:Nat)(g:Nat->List Bool):bU m=Y8 M8 m 0 g:=by
 unfold bU Y8;refine C81 fun r _=>?_;rw[A7 B1,A7 B1]
theorem A97{k:Nat}(a:k<1000){m:Nat}{g:Nat->List Bool}:J9 k (U1 M8 g (List.range m))=true:=CA (k:=k) B1 (List.range m) (fun r _=>by omega) (c:=M8) (g:=g)
theorem SQ(q:Nat)(g:Nat->List Bool)(l:List Nat):Obs.forget q (U1 M8 g l)=U1 M8 g l:=by
 unfold Obs.forget U1;rw[D01];exact C81 fun r _=>rfl
theorem B72{K:List Nat}{q:Nat}{g:Nat->List Bool}{l:List Nat}:∀j x,F0 K j=false->B5 (U1 M8 g l) j=some x->B5 (Obs.forget q (U1 M8 g l)) j=some x:=fun j x _ h=>by rw[SQ];exact h
abbrev s7(k:Nat)(g:Nat->List Bool):Obs:=(702,.growT 90 k 1 (bU k))::U1 M8 g (List.range k)
theorem zU(q k:Nat)(a:q<1000)(h:702≠q)(g:Nat->List Bool):J9 q (s7 k g)=true:=by
 simp only[s7,J9,Ob.free,A97 a,EW a,S4 h];rfl
theorem KE(g:Nat->List Bool):∀l:List Nat,oT (U1 M8 g l)=[]
 | []=>rfl
 | r::l=>KE g l
theorem SR(n:Nat)(g:Nat->List Bool):∀k∈oT (s7 n g),(B5 (s7 n g) k).isSome=true:=fun k d=>by
 have h:k∈(bU n).flatMap TC.refs:=by
  have b:k∈(bU n).flatMap TC.refs++oT (U1 M8 g (List.range n)):=d;rw[KE,C77]at b;exact b
 obtain⟨t,b,c⟩:=List.mem_flatMap.1 h;obtain⟨r,j,rfl⟩:=C71.1 b;rw[A7 B1]at c;have e:k=r+1000:=C42.1 c;subst e;rw[A8 B1,mG j];rfl
theorem XZ{P:Program}{nt:Nat}{fr:Fr}{n k:Nat}(p:k<=900000)(c:J2 (k+1000) fr=true) :
  Sees P nt fr ([(702,.growT 90 (k+1) 1 (bU k++[TC.mut 734])),(734,.arr Bool 1 M8 (List.replicate n false)),(735,.tarr 1 1 [.mut 734])]++U1 M8 (lH n) (List.range k)) fr (s7 (k+1) (lH n)):=by
 refine C33 (j:=734) (k:=k+1000) A0 b7y B1 c ?_;intro i o h;have b:=S4 (show 734≠k+1000 by omega);by_cases e:i=702
 ·subst e;have h:some (.growT 90 (k+1) 1 (bU (k+1)))=some o:=h;cases h;refine⟨by omega,.growT 90 (k+1) 1 (bU k++[TC.mut 734]),by rw[A7 B1];rfl,?_,?_⟩
  ·simp only[Ob.free,D10,SP,List.all_cons,List.all_nil,TC.free,b];rfl
  ·show _=Ob.growT _ _ _ _;rw[XY]
 have h:B5 ([(702,.growT 90 (k+1) 1 (bU (k+1)))]++U1 M8 (lH n) (List.range (k+1))) i=some o:=h;have d:B5 ([(702,.growT 90 (k+1) 1 (bU (k+1)))]:Obs) i=none:=by
  rw[A8 (Ne.symm e)];rfl
 rw[X4 d]at h;obtain⟨r,f,rfl,rfl⟩:=(kX _ _ _).1 h;have f:=C62.1 f;refine⟨by omega,.arr Bool 1 M8 (List.replicate n false),?_,rfl,rfl⟩;by_cases l:r=k
 ·subst l;rw[A6 rfl];rfl
 ·rw[A7 B1,X4 (oO rfl B1)];exact mG (C62.2 B1)
theorem tN(s:Str)(B:s.length<=899000):AL.Met prog 147 [(F6 s).s1,(E1 false).s1] [] [] [702] (fun rs ob'=>rs=[.one (.mut 702)]/\ob'=s7 (s.length+1) (lH (s.length+1))):=by
 obtain⟨n,y⟩:∃n,n=s.length+1:=⟨_,rfl⟩
 rw[<-y];refine AL.Met.intro Tryz.func147 F1 A0 A0 A0 (J0 ?_);refine C2 (CD 702 _ N1 A0) A0 (G5 ?_);refine C3 (C34 702 A0) (J0 ?_);refine B9 (X:=Nat) (fun i=>([(0,P6 s),(1,L6 false),(5,.s (.one (.mut 702))),(6,B6 i)],s7 i (lH n))) (fun i=>i<=n) (fun i=>n-i) 0 (C41 _) (C1) ?_;intro i v;dsimp only at v ⊢;refine zc 8 (fun l=>?_) fun l=>?_
 ·have x:i<n:=by have j:=A1 l;(try dsimp only at j);omega
  have c:=zU 734 i B1 B1 (lH n);have b:J9 735 ((734,.arr Bool 1 M8 (List.replicate n false))::s7 i (lH n))=true:=by
   have:=zU 735 i B1 B1 (lH n);rw[J9,this];rfl
  have d:(bU i++[TC.mut 734]).map (TC.forget 702)=bU i++[TC.mut 734]:=cJ (by rw[D10,EW B1];rfl);have f:(List.replicate n false).set i false=List.replicate n false:=by
   refine List.ext_getElem dV fun q j A=>?_;rw[List.getElem_set];split<;>simp
  refine R3 ?_;refine C2 (a8 734 Bool M8 false A0 A0 B1 B1 (fun _=>PE) (by simp only[J2,SV.free,S1.free,TC.free,c];rfl)) A0 (F5 ?_);rw[show ((s.length:Int)+1).toNat=n by omega];refine I2 ?_;refine B2 (D9 A0 A0 A0 B1 PF) A0 (U0 (G3 TySz.out A0 A0 PF A0 A0) (G5 ?_));rw[C37,f];refine H3 ?_;refine C2 (B39 735 A0 A0 A0 A0 A0 (by first | exact b | (simp only[J2,SV.free,S1.free,TC.free,b];rfl))) A0 ?_;refine C2 (MA A0 A0 A0 A0 B1 A0) A0 (F5 ?_);refine aN [(0,P6 s),(1,L6 false),(5,.s (.one (.mut 702))),(6,B6 i)] ([(702,.growT 90 (i+1) 1 (bU i++[TC.mut 734])),(734,.arr Bool 1 M8 (List.replicate n false)),(735,.tarr 1 1 [.mut 734])]++U1 M8 (lH n) (List.range i)) (C11 lf (D3 (L:=[(702,_),(734,_),(735,_)]) ⟨congrArg (fun z=>some (Ob.growT 90 (i+1) 1 z)) d,rfl,rfl,trivial⟩ (by repeat (first | exact B72 | refine U3 rfl ?_)))) ?_;refine C3 (XZ B1 A0) ?_;skip;refine I2 ?_;refine⟨i+1,by omega,by omega,?_⟩;exact C11 lf (fun _ _ h=>h)
 have k:i=n:=by have j:=A3 l;(try dsimp only at j);omega
 rw[k];refine I3 ?_;exact D1 V9 iV (fun _ _ h=>h) ⟨rfl,rfl⟩
end Go.Proofs.YtabbdaafimcjhaaGreatDoor
