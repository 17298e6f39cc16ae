
/- Walks of the program's functions. -/
import Derived.Test.YtmbpmaofnddkoaaGreatDoorTy
import Derived.Test.YtmbpmaofnddkoaaGreatDoorFs
import Derived.Test.YtmbpmaofnddkoaaGreatDoorSh
import Derived.Lib.AppendIntMem
import Derived.RangeFuncBound
import Derived.RangeFuncOwn
import Derived.OwnWalkIn
import Derived.TacticsInMore
import Derived.LoopNIn
import Derived.LoopIn
set_option linter.all false
namespace Go.Proofs.YtmbpmaofnddkoaaGreatDoor
open Go Go.AL
open Go.Proofs.Tryz (prog)
set_option maxRecDepth 100000
set_option maxHeartbeats 4000000
theorem SG(p:Int):0<=IntKind.u64.wrap p:=by simp[IntKind.wrap,IntKind.signed,IntKind.bits];omega
theorem M3{p:Prop}(h:p:=by exact ret1 rfl rfl rfl):p:=h
theorem SH{p:Prop}(h:p:=by simp;omega):p:=h
theorem F5{p:Prop}(h:p:=by decide):p:=h
theorem B3{p:Prop}(h:p:=by omega):p:=h
theorem eR{p:Prop}(h:p:=by simp):p:=h
theorem A45(b:Str)(hb:b.length<=536870912):FnOk prog 65 [G5 b] (fun I=>I=[aI (D5 b)]):=by
 refine FnOk.intro Tryz.func65 F5 A0 A0 A0 A0 (N0 ?_);refine B6 (U2 3 _ K6 A0) A0 (o9 ?_);refine C1 (X:=Nat×Nat×List Str) (fun x=>([(0,T0 b),(3,.s (.one (.buf 3 Str 1 K6 x.2.2))),(4,B1 x.2.1),(5,B1 x.1)],[(3,.spare x.2.2.length 1 9)]))
  (fun x=>x.1<=b.length/\x.2.1<=x.1/\x.2.2.length<=x.1/\(x.1=b.length->x.2.1=x.1)/\x.2.2++G4 ((b.drop x.2.1).take (x.1-x.2.1)) (b.drop x.1)=D5 b) (fun x=>b.length-x.1) (0,0,[]) (by simp[D5]) ?_ ?_
 ·exact Sees.of ⟨⟨_,rfl,.same _⟩,⟨_,rfl,.same _⟩,⟨_,rfl,.same _⟩,⟨_,rfl,.same _⟩,trivial⟩ ⟨rfl,trivial⟩
 ·rintro⟨i,d,A⟩ ⟨E,w,F,B,q⟩;dsimp only at E w F B q ⊢;refine zc 8 (fun z=>?_) fun z=>?_
  ·have g:i<b.length:=by simpa using z
   have H:b[i]?=some b[i]:=by simp[g]
   refine J5 ?_;refine A9 (P9 A0 A0 B3 H) A0 (H8 ?_);refine E3 A0 A0 A0 A0 (fun C=>by have G:=C;(try simp at G);rw[C];exact X6 A0 A0 B3) ?_;refine zc 5 (fun j=>?_) fun j=>?_
   ·refine J5 ?_;refine A9 (A37 A0 A0 A0 B3 B3 B3) A0 (A9 (B8 (c:=K6) (ys:=[_]) (C5 A0 A0 A0 A0 E5) A0 A0 A0) A0 (B6 (R7 A0 A0 A0 (.pure _ _ _ _) SH A0) A0 (eI ?_)));refine⟨(i+1,i+1,_),⟨?_,?_,?_,?_,?_⟩,?_,Sees.of ⟨⟨_,rfl,.same _⟩,⟨_,rfl,.same _⟩,⟨_,rfl,.same _⟩,⟨_,rfl,.same _⟩,trivial⟩ ⟨rfl,trivial⟩⟩
    all_goals dsimp only
    ·omega
    ·omega
    ·simp;omega
    ·omega
    ·have v:b[i]=10\/i+1=b.length:=by
      simp only[u8_lf]at j;by_cases h:b[i]=10
      ·exact .inl h
      ·simp[h]at j;exact .inr B3
     rw[UV,B26,B98,B68,<-HR b d i w g,B51,<-q,B40 g,dE];rcases v with h | h
     ·rw[A5 h];rfl
     ·have D:b.drop (i+1)=[]:=B53 B3;rw[D];split
      ·rfl
      ·rw[show G4 ([]:Str) []=[] from rfl,KX _ eR];simp
    ·omega
   ·refine N0 ?_;refine⟨(i+1,d,A),⟨?_,?_,?_,?_,?_⟩,?_,Sees.of ⟨⟨_,rfl,.same _⟩,⟨_,rfl,.same _⟩,⟨_,rfl,.same _⟩,⟨_,rfl,.same _⟩,trivial⟩ ⟨rfl,trivial⟩⟩
    all_goals dsimp only
    ·omega
    ·omega
    ·omega
    ·intro h;simp[show (i:Int)+1=(b.length:Int) by omega]at j
    ·have v:b[i]≠10:=fun h=>by simp[h]at j
     rw[<-HR b d i w g,<-q,B40 g,dE,A6 v]
    ·omega
  ·refine J5 ?_;refine A8 M3 ?_;have y:i=b.length:=by simp at z;omega
   subst y;have:=B rfl;subst this;rw[B98,B68,B53 (B29 _)]at q;rw[<-q];simp[G4]
theorem JO(f:FuncId)(m:File->Bool)(l:List File)(s:l.length<=1073741824)(p:∀x∈l,FnOk prog f [XB x] (fun rs=>rs=[F6 (m x)])) :
  FnOk prog 157 [b9 l,.one (.v (.func (.func f) #[] #[]))] (fun rs=>∃i:Int,rs=[E2 i]/\decide (0<=i)=l.any m):=by
 refine FnOk.intro Tryz.func157 F5 A0 A0 A0 A0 (eI ?_);refine C1 (X:=Nat) (fun i=>([(0,B9 File 2 Z7 l),(1,H6 (.func (.func f) #[] #[])),(7,B1 l.length),(8,B1 i)],[])) (fun i=>i<=l.length/\(l.take i).any m=false) (fun i=>l.length-i) 0 ⟨B37 _,rfl⟩ (C6) ?_;rintro i ⟨q,h⟩;dsimp only at q h ⊢;refine zc 5 (fun d=>?_) fun d=>?_;rotate_left
 ·have g:i=l.length:=by have g:=A2 d;(try dsimp only at g);omega
  rw[g,B38]at h;refine N0 ?_;exact A8 (rs:=[E2 (-1)]) M3 ⟨-1,rfl,by rw[h];rfl⟩
 have b:i<l.length:=by have g:=A1 d;(try dsimp only at g);omega
 obtain⟨x,k⟩:∃x,x=l[i]:=⟨_,rfl⟩
 have r:l[i]?=some x:=by rw[k];simp[b]
 have j:=p x (by rw[k];exact B32 b);refine zz 15 ?_;refine A9 (JL (j) A0 A0 A0) A0 ?_;refine zc 1 (fun d=>?_) fun d=>?_
 ·refine N0 ?_;refine A8 (rs:=[E2 i]) M3 ⟨i,rfl,?_⟩;rw[List.any_eq_true.2 ⟨x,by rw[k];exact B32 b,d⟩];exact A3 B3
 ·refine I0 ?_;refine⟨i+1,⟨b,?_⟩,by omega,(C6)⟩;rw[B48,r,B54,List.any_append,h,B83,List.any_cons,List.any_nil,Bool.or_false];exact d
theorem mM(f:FuncId)(a:File->Bool)(l:List File)(g:l.length<=1073741824)(b:∀x∈l,FnOk prog f [XB x] (fun rs=>rs=[F6 (a x)])) :
  FnOk prog 121 [b9 l,.one (.v (.func (.func f) #[] #[]))] (fun rs=>rs=[F6 (l.any a)]):=by
 refine FnOk.intro Tryz.func121 F5 A0 A0 A0 A0 (X0 ?_);refine y5 (JO f a l g b) A0 A0 A0 ?_;rintro _ ⟨i,rfl,d⟩;refine H8 ?_;refine F8 ?_;exact A8 M3 (by rw[<-d])
theorem BE(f:FuncId)(m:Commit->Bool)(l:List Commit)(s:l.length<=1073741824)(p:∀x∈l,FnOk prog f [uA x] (fun rs=>rs=[F6 (m x)])) :
  FnOk prog 120 [N2 l,.one (.v (.func (.func f) #[] #[]))] (fun rs=>∃i:Int,rs=[E2 i]/\decide (0<=i)=l.any m):=by
 refine FnOk.intro Tryz.func120 F5 A0 A0 A0 A0 (eI ?_);refine C1 (X:=Nat) (fun i=>([(0,B9 Commit 3 H0 l),(1,H6 (.func (.func f) #[] #[])),(7,B1 l.length),(8,B1 i)],[])) (fun i=>i<=l.length/\(l.take i).any m=false) (fun i=>l.length-i) 0 ⟨B37 _,rfl⟩ (C6) ?_;rintro i ⟨q,h⟩;dsimp only at q h ⊢;refine zc 5 (fun d=>?_) fun d=>?_;rotate_left
 ·have g:i=l.length:=by have g:=A2 d;(try dsimp only at g);omega
  rw[g,B38]at h;refine N0 ?_;exact A8 (rs:=[E2 (-1)]) M3 ⟨-1,rfl,by rw[h];rfl⟩
 have b:i<l.length:=by have g:=A1 d;(try dsimp only at g);omega
 obtain⟨x,k⟩:∃x,x=l[i]:=⟨_,rfl⟩
 have r:l[i]?=some x:=by rw[k];simp[b]
 have j:=p x (by rw[k];exact B32 b);refine zz 15 ?_;refine A9 (JL (j) A0 A0 A0) A0 ?_;refine zc 1 (fun d=>?_) fun d=>?_
 ·refine N0 ?_;refine A8 (rs:=[E2 i]) M3 ⟨i,rfl,?_⟩;rw[List.any_eq_true.2 ⟨x,by rw[k];exact B32 b,d⟩];exact A3 B3
 ·refine I0 ?_;refine⟨i+1,⟨b,?_⟩,by omega,(C6)⟩;rw[B48,r,B54,List.any_append,h,B83,List.any_cons,List.any_nil,Bool.or_false];exact d
theorem gW(f:FuncId)(a:Commit->Bool)(l:List Commit)(g:l.length<=1073741824)(b:∀x∈l,FnOk prog f [uA x] (fun rs=>rs=[F6 (a x)])) :
  FnOk prog 77 [N2 l,.one (.v (.func (.func f) #[] #[]))] (fun rs=>rs=[F6 (l.any a)]):=by
 refine FnOk.intro Tryz.func77 F5 A0 A0 A0 A0 (X0 ?_);refine y5 (BE f a l g b) A0 A0 A0 ?_;rintro _ ⟨i,rfl,d⟩;refine H8 ?_;refine F8 ?_;exact A8 M3 (by rw[<-d])
structure FewG (g:Graph):Prop where
 len:g.length<=1000
 pars:∀c∈g,c.Parents.length<=1048576
theorem YJ(l:List Int)(n:Int)(f:l.length<=1073741824):FnOk prog 156 [L5 l,E2 n] (fun rs=>∃i:Int,rs=[E2 i]/\decide (0<=i)=decide (n∈l)):=by
 refine FnOk.intro Tryz.func156 F5 A0 A0 A0 A0 (eI ?_);refine C1 (X:=Nat) (fun i=>([(0,B9 Int 1 E0 l),(1,B1 n),(7,B1 l.length),(8,B1 i)],[])) (fun i=>i<=l.length/\n∉l.take i) (fun i=>l.length-i) 0 ⟨B37 _,by simp⟩ (C6) ?_;rintro i ⟨e,d⟩;dsimp only at e d ⊢;refine zc 5 (fun c=>?_) fun c=>?_;rotate_left
 ·have a:i=l.length:=by have a:=A2 c;(try dsimp only at a);omega
  rw[a,B38]at d;refine N0 ?_;exact A8 (rs:=[E2 (-1)]) M3 ⟨-1,rfl,by rw[A4 d];rfl⟩
 have b:i<l.length:=by have a:=A1 c;(try dsimp only at a);omega
 have g:l[i]?=some l[i]:=by simp[b]
 refine zc 17 (fun c=>?_) fun c=>?_
 ·have a:n=l[i]:=A1 c;refine N0 ?_;refine A8 (rs:=[E2 i]) M3 ⟨i,rfl,?_⟩;rw[A3 (show n∈l from a ▸ B32 b)];exact A3 B3
 ·have a:¬n=l[i]:=A2 c;refine I0 ?_;refine⟨i+1,⟨b,?_⟩,by omega,(C6)⟩;rw[B48,B23 b,B54,B36,B33];rintro (h | h)
  ·exact d h
  ·exact a h
theorem JP(l:List Int)(n:Int)(b:l.length<=1073741824):FnOk prog 119 [L5 l,E2 n] (fun rs=>rs=[F6 (decide (n∈l))]):=by
 refine FnOk.intro Tryz.func119 F5 A0 A0 A0 A0 (X0 ?_);refine y5 (YJ l n b) A0 A0 A0 ?_;rintro _ ⟨i,rfl,a⟩;refine H8 ?_;refine F8 ?_;exact A8 M3 (by rw[<-a])
theorem JQ(c:Commit)(d:c.Parents.length<=1073741824):FnOk prog 118 [uA c] (fun a=>a=[F6 (decide (c.Parents.length>32))]):=by
 refine FnOk.intro Tryz.func118 F5 A0 A0 A0 A0 (H2 ?_);refine B6 (V5 1 A0 A0 A0) A0 (o9 ?_);exact A8 M3 (congrArg (fun b=>[F6 b]) (decide_eq_decide.2 ⟨fun h=>by omega,fun h=>by omega⟩))
theorem ND(g:Graph)(e:FewG g)(a:g.length<=1073741824):FnOk prog 74 [N2 g] (fun rs=>rs=[F6 (bR g)]):=by
 refine FnOk.intro Tryz.func74 F5 A0 A0 A0 A0 (o9 ?_);refine E3 A0 A0 A0 A0 (fun b=>by have f:=b;(try simp at f);rw[b];exact I2 (gW 118 (fun c=>decide (c.Parents.length>32)) g a (fun c d=>JQ c (by have:=e.pars c d;omega))) A0 A0) ?_;refine I0 ?_;refine A8 M3 ?_;unfold bR;rw[xP,show decide ((g.length:Int)<=300)=decide (g.length<=300) from decide_eq_decide.2 B3]
theorem SI(c:Commit):FnOk prog 78 [uA c] (fun rs=>rs=[F6 (decide (c.Date<0\/c.Date>2147483647))]):=by
 refine FnOk.intro Tryz.func78 F5 A0 A0 A0 A0 (H2 ?_);refine B6 (V5 1 A0 A0 A0) A0 (zz 15 ?_);refine A8 M3 ?_;rw[or_pick]
theorem dis_ok(g:Graph)(c:Int):FnOk prog 39 [N2 g,E2 c] (fun rs=>rs=[F6 (decide (w9 g c))]):=by
 refine FnOk.intro Tryz.func39 F5 A0 A0 A0 A0 (zz 17 ?_);refine A8 M3 ?_;rw[and_pick];rfl
theorem b5y{p:Prop}(h:p:=by rw[B42];omega):p:=h
theorem NE(g:Graph)(D:FewG g)(w:g.length<=1073741824):FnOk prog 75 [N2 g] (fun rs=>rs=[F6 (related g)]):=by
 refine FnOk.intro Tryz.func75 F5 A0 A0 A0 A0 (eI ?_);refine C1 (X:=Nat) (fun i=>([(0,B9 Commit 3 H0 g),(7,B9 Commit 3 H0 g),(8,B1 g.length),(9,B1 i)],[])) (fun i=>i<=g.length/\((g.take i).all fun c=>oB g.length [] c.Parents)=true) (fun i=>g.length-i) 0 ⟨B37 _,rfl⟩ (C6) ?_;rintro i ⟨E,ha⟩;dsimp only at E ha ⊢;refine zc 5 (fun j=>?_) fun j=>?_;rotate_left
 ·have d:i=g.length:=by have d:=A2 j;(try dsimp only at d);omega
  rw[d,B38]at ha;refine N0 ?_;exact A8 (rs:=[F6 true]) M3 (by unfold related;rw[ha])
 have v:i<g.length:=by have d:=A1 j;(try dsimp only at d);omega
 obtain⟨c,A⟩:∃c,c=g[i]:=⟨_,rfl⟩
 have I:g[i]?=some c:=by rw[A];simp[v]
 have H:=D.pars c (by rw[A];exact B32 v);have y:oB g.length [] c.Parents=false->[F6 false]=[F6 (related g)]:=fun h=>by
  have:related g=false:=by
   unfold related;rw[List.all_eq_false];exact⟨c,by rw[A];exact B32 v,by rw[h];decide⟩
  rw[this]
 refine J5 ?_;refine B6 (E6 4 A0) A0 (R9 ?_);refine C1 (X:=Nat) (fun k=>([(0,B9 Commit 3 H0 g),(4,.s (.one (.ref 4 0))),(7,B9 Commit 3 H0 g),(8,B1 g.length),(9,B1 i),(14,B9 Int 1 E0 c.Parents),(15,B1 c.Parents.length),(16,B1 k)],[(4,.box (uA c).s1.cells)])) (fun k=>k<=c.Parents.length/\oB g.length [] c.Parents=oB g.length (c.Parents.take k) (c.Parents.drop k)) (fun k=>c.Parents.length-k) 0 ⟨B37 _,rfl⟩ (C6) ?_;rintro k ⟨F,q⟩;dsimp only at F q ⊢;refine zc 5 (fun j=>?_) fun j=>?_;rotate_left
 ·have d:k=c.Parents.length:=by have d:=A2 j;(try dsimp only at d);omega
  rw[d,List.drop_length]at q;refine I0 ?_;refine⟨i+1,⟨v,?_⟩,by omega,(C6)⟩;rw[B48,I,B54,C06,ha,B79,List.all_cons,List.all_nil,Bool.and_true,q];rfl
 have m:k<c.Parents.length:=by have d:=A1 j;(try dsimp only at d);omega
 have z:c.Parents[k]?=some c.Parents[k]:=by simp[m]
 rw[B40 m]at q;obtain⟨p,G⟩:∃p,p=c.Parents[k]:=⟨_,rfl⟩
 rw[<-G]at z q;have C:c.Parents.take (k+1)=c.Parents.take k++[p]:=by rw[B48,z,B54]
 rw[oB,<-C]at q;refine zz 25 ?_;refine E3 A0 A0 A0 A0 (fun w=>by have B:=w;(try simp at B);rw[w];exact XY A0 (.pure _ _ _ _) A0 B3 B3) ?_;refine F8 ?_;refine E3 A0 A0 A0 A0 (fun w=>by have B:=w;(try simp at B);rw[w];exact I2 (JP (c.Parents.take ((k:Nat):Int).toNat) p b5y) A0 A0) ?_;refine H2 ?_;rw[B26,PK,PK];refine zc 0 (fun j=>?_) fun j=>?_
 ·rw[B63,B63,decide_eq_true_eq,decide_eq_true_eq,decide_eq_true_eq]at j;have d:decide (0<=p/\p<(g.length:Int)/\p∉c.Parents.take k)=false:=by
   rw[decide_eq_false_iff_not];rintro⟨J,a2,a3⟩;rcases j with (h | h) | h
   ·omega
   ·omega
   ·exact a3 h
  rw[d,Bool.false_and]at q;refine I0 ?_;exact A8 (rs:=[F6 false]) M3 (y q)
 ·rw[B89,B89,decide_eq_false_iff_not,decide_eq_false_iff_not,decide_eq_false_iff_not]at j;have d:decide (0<=p/\p<(g.length:Int)/\p∉c.Parents.take k)=true:=A3 ⟨by omega,by omega,j.2⟩;rw[d,B79]at q;refine I0 ?_;exact⟨k+1,⟨m,q⟩,by omega,(C6)⟩
theorem JR(ps l:List Int)(k:Nat)(h:k<ps.length):c7 (ps.take (k+1)) l=bump (c7 (ps.take k) l) ps[k]:=by
 unfold c7;rw[B48,B23 h,B54,C02];rfl
theorem rV{l:List Int}{p:Int}(h:0<=p/\p<l.length):l[p.toNat]?=some (I6 l p.toNat):=by
 unfold I6;rw[B23 B3];rfl
theorem SJ{ps:List Int}{l:List Int}{p:Nat}(b:∀p∈ps,0<=p/\p<l.length)(a:ps.Nodup):I6 l p<=I6 (c7 ps l) p/\I6 (c7 ps l) p<=I6 l p+1:=by
 rw[sH (n:=0) b a];split<;>omega
theorem NF{g:Graph}(d:related g=true){i p:Nat}(a:i<=g.length)(b:p<g.length):0<=I6 (O5 g i) p/\I6 (O5 g i) p<=i:=by
 rw[oE d p b i a];have:=List.countP_le_length (p:=fun c=>decide ((p:Int)∈D8 g c)) (l:=List.range i);rw[B93]at this;omega
theorem b1w{p:Prop}(h:p:=by first | exact⟨⟨rfl,rfl⟩,trivial⟩ | exact⟨X9 _ _ _,trivial⟩ | exact⟨X9 _ _ _,⟨rfl,rfl⟩,X9 _ _ _,trivial⟩):p:=h
theorem b3x{p:Prop}(h:p:=by first | rfl | (simp[H7,J2,Ob.free,SV.free,S1.free,TC.free]<;>rfl)):p:=h
theorem SK(g:Graph)(hf:FewG g)(W:related g=true):FnOk prog 76 [N2 g] (fun rs=>∃ch w,rs=[L5 w]/\KInv g w.length 0 ch w):=by
 have hg:=hf.len;refine FnOk.intro Tryz.func76 F5 A0 A0 A0 A0 (X0 ?_);refine B6 (eW 753 Int E0 0 A0 A0 B3 B3 (fun _=>b1w) b3x) A0 (R9 ?_);rw[B26];refine C1 (X:=Nat) (fun i=>([(0,B9 Commit 3 H0 g),(3,.s (.one (.mut 753))),(17,B9 Commit 3 H0 g),(18,B1 g.length),(19,B1 i)],[(753,.arr Int 1 E0 (O5 g i))])) (fun i=>i<=g.length) (fun i=>g.length-i) 0 (B37 _) (C6) ?_;intro i V;dsimp only at V ⊢;refine zc 5 (fun j=>?_) fun j=>?_
 ·have G:i<g.length:=by have d:=A1 j;(try dsimp only at d);omega
  obtain⟨c,O⟩:∃c,c=g[i]:=⟨_,rfl⟩
  have hv:g[i]?=some c:=by rw[O];simp[G]
  have H:D8 g i=c.Parents:=by rw[bQ G,O]
  have hpr:=K9 W i;have ah:=hf.pars c (by rw[O];exact B32 G);have hs:=rG G;rw[H]at hpr hs;have C:=eY g i;have U:=fun p (T:p<g.length)=>NF W (i:=i) (p:=p) B3 T;obtain⟨z,hz⟩:∃z,z=O5 g i:=⟨_,rfl⟩
  rw[<-hz]at hs C U ⊢;refine J5 ?_;refine B6 (E6 5 A0) A0 (R9 ?_);refine C1 (X:=Nat) (fun k=>([(0,B9 Commit 3 H0 g),(3,.s (.one (.mut 753))),(17,B9 Commit 3 H0 g),(18,B1 g.length),(19,B1 i),(24,B9 Int 1 E0 c.Parents),(25,B1 c.Parents.length),(26,B1 k)],[(753,.arr Int 1 E0 (c7 (c.Parents.take k) z))])) (fun k=>k<=c.Parents.length) (fun k=>c.Parents.length-k) 0 (B37 _) (C6) ?_;intro k hk;dsimp only at hk ⊢;have K:=oD (c.Parents.take k) z;refine zc 5 (fun j=>?_) fun j=>?_;rotate_left
  ·have d:k=c.Parents.length:=by have d:=A2 j;(try dsimp only at d);omega
   rw[d,B38,<-hs];refine I0 ?_;exact⟨i+1,G,by omega,(C6)⟩
  have y:k<c.Parents.length:=by have d:=A1 j;(try dsimp only at d);omega
  have R:c.Parents[k]?=some c.Parents[k]:=by simp[y]
  have Q:=hpr.1 _ (B32 y);have Z:=JR c.Parents z k y;obtain⟨p,T⟩:∃p,p=c.Parents[k]:=⟨_,rfl⟩
  rw[<-T]at R Q Z;have hb:=SJ (ps:=c.Parents.take k) (l:=z) (p:=p.toNat) (fun q hq=>by rw[C];exact hpr.1 q (B90 hq)) (hpr.2.sublist (List.take_sublist _ _));have hh:=U p.toNat B3;have I:=rV (l:=c7 (c.Parents.take k) z) (p:=p) (by rw[K,C];exact Q);refine eI ?_;refine A9 (I5 A0 A0 A0 B3 (by (rw[K];omega))) A0 ?_;refine A9 (N6 A0 A0 I A0) A0 (F8 ?_);refine A9 (I5 A0 A0 A0 B3 (by (rw[K];omega))) A0 ?_;refine V2 (L4 TySz.out A0 A0 (by (rw[K];omega)) A0 A0) ?_;refine I0 ?_;refine⟨k+1,by omega,by omega,?_⟩;rw[Z];exact (C6)
 have P:i=g.length:=by have d:=A2 j;(try dsimp only at d);omega
 rw[P];have ab:=KInv.start W;obtain⟨z,hz⟩:∃z,z=O5 g g.length:=⟨_,rfl⟩
 have ae:z.length=g.length:=by rw[hz];exact eY g _
 rw[<-hz]at ab ⊢;refine H8 ?_;refine B6 (U2 8 _ E0 A0) A0 (I0 ?_);refine A9 (vO A0 A0) A0 (H8 ?_);refine C1 (X:=Nat) (fun i=>([(0,B9 Commit 3 H0 g),(3,.s (.one (.mut 753))),(8,.s (.one (.buf 8 Int 1 E0 (W5 z i)))),(38,.s (.one (.mut 753))),(39,B1 g.length),(40,B1 i)],[(8,.spare (W5 z i).length 1 3),(753,.arr Int 1 E0 z)])) (fun i=>i<=g.length) (fun i=>g.length-i) 0 (B37 _) (by rw[<-ae];exact (C6)) ?_;intro i V;dsimp only at V ⊢;have am:=PS z i;have L:=LC z i;refine zc 5 (fun j=>?_) fun j=>?_
 ·have G:i<g.length:=by have d:=A1 j;(try dsimp only at d);omega
  have I:=rV (l:=z) (p:=(i:Int)) B3;rw[B26]at I;refine N0 ?_;refine A9 (I5 A0 A0 A0 B3 (by (rw[ae];omega))) A0 ?_;refine A9 (N6 A0 A0 I A0) A0 ?_;refine zc 8 (fun j=>?_) fun j=>?_
  ·have d:I6 z i=0:=A1 j;rw[A5 d]at L;skip;refine H8 ?_;refine A9 (B8 (c:=E0) (ys:=[(i:Int)]) (C5 A0 A0 A0 A0 E5) A0 A0 A0) A0 (J5 ?_);refine⟨i+1,by omega,by omega,?_⟩;rw[L];exact (C6)
  ·have d:¬I6 z i=0:=A2 j;rw[A6 d]at L;refine I0 ?_;refine⟨i+1,by omega,by omega,?_⟩;rw[L];exact (C6)
 have P:i=g.length:=by have d:=A2 j;(try dsimp only at d);omega
 rw[P];refine J5 ?_;refine C1 (X:=Nat×List Int×List Int) (fun x=>([(0,B9 Commit 3 H0 g),(3,.s (.one (.mut 753))),(8,.s (.one (.buf 8 Int 1 E0 x.2.2))),(11,B1 x.1)],[(8,.spare x.2.2.length 1 3),(753,.arr Int 1 E0 x.2.1)])) (fun x=>x.1<=x.2.2.length/\KInv g x.1 0 x.2.1 x.2.2) (fun x=>g.length-x.1) (0,z,W5 z g.length) ⟨B37 _,ab⟩ (C6) ?_;rintro⟨k,ch,w⟩ ⟨hk,S⟩;dsimp only at hk S ⊢;have ak:=S.le;refine zc 8 (fun j=>?_) fun j=>?_;rotate_left
 ·have d:k=w.length:=by have d:=A2 j;(try dsimp only at d);omega
  rw[d]at S;refine J5 ?_;exact A8 (rs:=[L5 w]) M3 ⟨ch,w,rfl,S⟩
 have y:k<w.length:=by have d:=A1 j;(try dsimp only at d);omega
 have aj:=S.rng _ (B32 y);obtain⟨J,af⟩:∃J:Nat,w[k]=(J:Int):=⟨w[k].toNat,by omega⟩
 have ad:w[k]?=some (J:Int):=by rw[B23 y,af]
 have C:J<g.length:=by omega
 obtain⟨c,O⟩:∃c,c=g[J]:=⟨_,rfl⟩
 have al:g[((J:Nat):Int).toNat]?=some c:=by rw[O];simp[C]
 have H:D8 g J=c.Parents:=by rw[bQ C,O]
 have ah:=hf.pars c (by rw[O];exact B32 C);refine X0 ?_;refine A9 (F1 A0 (.buf _ _ _ _ _) A0 B3 ad) A0 (X0 ?_);refine C1 (X:=Nat×List Int×List Int) (fun x=>([(0,B9 Commit 3 H0 g),(3,.s (.one (.mut 753))),(8,.s (.one (.buf 8 Int 1 E0 x.2.2))),(11,B1 k),(65,B9 Int 1 E0 c.Parents),(66,B1 c.Parents.length),(67,B1 x.1)],[(8,.spare x.2.2.length 1 3),(753,.arr Int 1 E0 x.2.1)])) (fun x=>x.1<=c.Parents.length/\k<x.2.2.length/\x.2.2[k]?=some (J:Int)/\KInv g k x.1 x.2.1 x.2.2) (fun x=>c.Parents.length-x.1) (0,ch,w) ⟨B37 _,y,ad,S⟩ (C6) ?_;rintro⟨i,v,E⟩ ⟨V,hkl,B,F⟩;dsimp only at V hkl B F ⊢;have ai:=F.le;have D:=F.len;have M:E[k]=(J:Int):=by rw[B23 hkl]at B;exact B81 B
 refine zc 5 (fun j=>?_) fun j=>?_;rotate_left
 ·have d:i=c.Parents.length:=by have d:=A2 j;(try dsimp only at d);omega
  rw[d,<-H]at F;have hN:=F.next hkl M;refine N0 ?_;exact⟨(k+1,v,E),⟨by dsimp only;omega,hN⟩,by dsimp only;omega,(C6)⟩
 have A:i<c.Parents.length:=by have d:=A1 j;(try dsimp only at d);omega
 have R:c.Parents[i]?=some c.Parents[i]:=by simp[A]
 have Q:=(K9 W J).1 c.Parents[i] (by rw[H];exact B32 A);obtain⟨p,T⟩:∃p:Nat,c.Parents[i]=(p:Int):=⟨c.Parents[i].toNat,by omega⟩
 rw[T]at R;obtain⟨s1,s2,s3,s4⟩:=F.step W hkl M (i:=i) (p:=p) (by rw[H];exact A) (by simp only[H];exact T);have I:=rV (l:=v) (p:=(p:Int)) B3;have ac:(Z8 v p)[((p:Nat):Int).toNat]?=some (I6 v p-1):=by
  unfold Z8;rw[B26,C05 B3]
 have ag:(Z8 v p).length=g.length:=by unfold Z8;rw[B76,D]
 have Y:v.set ((p:Nat):Int).toNat (I6 v ((p:Nat):Int).toNat-1)=Z8 v p:=rfl;refine zz 13 ?_;refine A9 (I5 A0 A0 A0 B3 (by (rw[D];omega))) A0 ?_;refine A9 (N6 A0 A0 I A0) A0 (A9 (S7 A0 A0 (by (rw[B26];omega))) A0 ?_);refine A9 (I5 A0 A0 A0 B3 (by (rw[D];omega))) A0 ?_;refine V2 (L4 TySz.out A0 A0 (by (rw[D];omega)) A0 A0) ?_;refine F8 ?_;rw[Y];refine R6 ?_;refine A9 (I5 A0 A0 A0 B3 (by (rw[ag];omega))) A0 ?_;refine A9 (N6 A0 A0 ac A0) A0 ?_;refine zc 2 (fun j=>?_) fun j=>?_
 ·have d:I6 v p-1=0:=A1 j;rw[A5 d]at s4;skip;refine H8 ?_;refine A9 (B8 (c:=E0) (ys:=[(p:Int)]) (C5 A0 A0 A0 A0 E5) A0 A0 A0) A0 (J5 ?_);exact⟨(i+1,Z8 v p,E++[(p:Int)]),⟨A,by dsimp only;rw[B25];omega,by dsimp only;rw[B59 hkl];exact B,s4⟩,by dsimp only;omega,(C6)⟩
 ·have d:¬I6 v p-1=0:=A2 j;rw[A6 d]at s4;refine I0 ?_;exact⟨(i+1,Z8 v p,E),⟨A,hkl,B,s4⟩,by dsimp only;omega,(C6)⟩
abbrev EU(s:Str):Cell:=.v (.string ⟨s.toArray⟩)
def V9(l:List File):List (Str×Cell):=l.foldl (fun m f=>j8 m f.Path (EU f.Blob)) []
theorem WN(a b:Str)(c:Cell):∀d:List (Str×Cell),M5 (j8 d a c) b=if a=b then some c else M5 d b
 | []=>by
  unfold j8 M5;split
  ·rfl
  ·rfl
 | (k,x)::r=>by
  unfold j8;split
  ·rename_i e;subst e;unfold M5;split
   ·rfl
   ·rfl
  ·rename_i e;rw[M5,WN a b c r];by_cases g:k=b
   ·subst g;rw[A5 rfl,A6 (fun h=>e h.symm)];simp[M5]
   ·rw[A6 g];by_cases f:a=b
    ·rw[A5 f,A5 f]
    ·rw[A6 f,A6 f,M5,A6 g]
theorem tL(l:List File)(i:Nat)(h:i<l.length):V9 (l.take (i+1))=j8 (V9 (l.take i)) l[i].Path (EU l[i].Blob):=by
 unfold V9;rw[B48,B23 h,B54,C02];rfl
theorem BF(p:Str):∀(l:List File) (m:List (Str×Cell)),M5 (l.foldl (fun m f=>j8 m f.Path (EU f.Blob)) m) p=((K0 l.reverse p).map EU).or (M5 m p)
 | [],m=>by simp[K0]
 | f::r,m=>by
  rw[B82,BF p r,WN,List.reverse_cons];have key:∀(l:List File),K0 (l++[f]) p=(K0 l p).or (if f.Path=p then some f.Blob else none):=by
   intro l;induction l with
   | nil=>simp[K0]
   | cons g l b =>
    rw[B66,K0,K0];split
    ·rfl
    ·exact b
  rw[key];cases K0 r.reverse p with
  | some x=>rfl
  | none=>by_cases h:f.Path=p<;>simp[h]
theorem JS(l:List File)(p:Str):(M5 (V9 l) p).isSome=decide (p∈l.map (·.Path)):=by
 unfold V9;rw[BF];have:M5 ([]:List (Str×Cell)) p=none:=rfl;rw[this,Option.or_none,Option.isSome_map];cases h:K0 l.reverse p with
 | none =>
  have:=CQ.1 h;rw[List.map_reverse,List.mem_reverse]at this;simp only[Option.isSome_none,this,decide_false]
 | some x =>
  obtain⟨f,c,b,_⟩:=dY h;have:p∈l.map (·.Path):=by rw[<-b];exact List.mem_map_of_mem (List.mem_reverse.1 c)
  simp only[Option.isSome_some,this,decide_true]
theorem YK{l m:List File}{p:Str}(i:ascend l=true)(b:∀f,f∈m↔f∈l)(_hu:∀f∈l,∀g∈l,f.Path=g.Path->f=g):K0 m p=K0 l p:=by
 cases h:K0 m p with
 | none =>
  symm
  rw[CQ]at h ⊢;intro j;obtain⟨f,a,e⟩:=B62.1 j;exact h (B62.2 ⟨f,(b f).2 a,e⟩)
 | some x =>
  obtain⟨f,a,c,d⟩:=dY h;rw[<-c,dZ i f ((b f).1 a),d]
theorem tM{l:List File}(b:ascend l=true)(p:Str):M5 (V9 l) p=(K0 l p).map EU:=by
 unfold V9;rw[BF];have:M5 ([]:List (Str×Cell)) p=none:=rfl;rw[this,Option.or_none]
 congr 1
 refine YK b (fun f=>List.mem_reverse) fun f h g i e=>?_;have c:=dZ b f h;have d:=dZ b g i;rw[e,d]at c;cases f;cases g;simp only[File.mk.injEq];exact⟨e,(B81 c).symm⟩
theorem bZ{p:Prop}(h:p:=by repeat (first | exact R0 | refine P0 rfl ?_ | refine aK _ ?_)):p:=h
theorem Y5{p:Prop}(h:p:=by exact rets1 rfl rfl):p:=h
theorem BG(l:List File)(r:l.length<=1073741824):AL.Met prog 160 [.one (.p (.list File 2 Z7 l))] [] [] [] (fun rs ob'=>rs=[.one (.mut 800)]/\ob'=[(800,.map Str bI (V9 l))]):=by
 refine AL.Met.intro Tryz.func160 F5 A0 A0 A0 (N0 ?_);refine B6 (vV 800 Str bI A0) A0 (R9 ?_);refine C1 (X:=Nat) (fun i=>([(3,.s (.one (.mut 800))),(7,B9 File 2 Z7 l),(8,B1 l.length),(9,B1 i)],[(800,.map Str bI (V9 (l.take i)))])) (fun i=>i<=l.length) (fun i=>l.length-i) 0 (B37 _) (C6) ?_;intro i q;dsimp only at q ⊢;refine zc 5 (fun g=>?_) fun g=>?_
 ·have b:i<l.length:=by have c:=A1 g;(try dsimp only at c);omega
  have k:=tL l i b;obtain⟨f,j⟩:∃f,f=l[i]:=⟨_,rfl⟩
  have v:l[i]?=some f:=by rw[j];simp[b]
  rw[<-j]at k;refine J5 ?_;refine B6 (E6 5 A0) A0 (X0 ?_);refine V2 (MZ (f.Path) A0 A0 A0 A0 A0 dT dU) (I0 ?_);refine⟨i+1,by omega,by omega,?_⟩;rw[k];exact (C6)
 ·have d:i=l.length:=by have c:=A2 g;(try dsimp only at c);omega
  rw[d,B38];refine J5 ?_;exact D7 Y5 bZ (fun _ _ h=>h) ⟨rfl,rfl⟩
theorem NG(l:List File)(r:l.length<=1073741824):AL.Met prog 160 [.one (.p (.list File 2 Z7 l))] [] [] [] (fun rs ob'=>rs=[.one (.mut 801)]/\ob'=[(801,.map Str bI (V9 l))]):=by
 refine AL.Met.intro Tryz.func160 F5 A0 A0 A0 (N0 ?_);refine B6 (vV 801 Str bI A0) A0 (R9 ?_);refine C1 (X:=Nat) (fun i=>([(3,.s (.one (.mut 801))),(7,B9 File 2 Z7 l),(8,B1 l.length),(9,B1 i)],[(801,.map Str bI (V9 (l.take i)))])) (fun i=>i<=l.length) (fun i=>l.length-i) 0 (B37 _) (C6) ?_;intro i q;dsimp only at q ⊢;refine zc 5 (fun g=>?_) fun g=>?_
 ·have b:i<l.length:=by have c:=A1 g;(try dsimp only at c);omega
  have k:=tL l i b;obtain⟨f,j⟩:∃f,f=l[i]:=⟨_,rfl⟩
  have v:l[i]?=some f:=by rw[j];simp[b]
  rw[<-j]at k;refine J5 ?_;refine B6 (E6 5 A0) A0 (X0 ?_);refine V2 (MZ (f.Path) A0 A0 A0 A0 A0 dT dU) (I0 ?_);refine⟨i+1,by omega,by omega,?_⟩;rw[k];exact (C6)
 ·have d:i=l.length:=by have c:=A2 g;(try dsimp only at c);omega
  rw[d,B38];refine J5 ?_;exact D7 Y5 bZ (fun _ _ h=>h) ⟨rfl,rfl⟩
theorem L6{p:Prop}(h:p:=by repeat (first | exact R0 | refine P0 rfl ?_)):p:=h
theorem NH{gf:Fr}{ob:Obs}(p:Str)(k:List (Str×Cell))(P:p.length<=1073741824)(K:B0 ob 800=some (.map Str bI k))(_hc:∀O∈k,∃v,O.2=.v v)(ps:List Str)(E:∀q,(M5 k q).isSome=decide (q∈ps)) :
  AL.Met prog 161 [.one (.p (.v (.string ⟨p.toArray⟩))),.one (.mut 800)] gf ob [] (fun rs ob'=>rs=[.one (.p (.v (.bool (S0 p ps))))]/\ob'=ob):=by
 have w:∀c:UInt8,((c.toNat:Int)=47)↔c=47:=fun c=>by
  constructor
  ·intro h;exact B88.1 (by simpa using (show c.toNat=47 by omega))
  ·rintro rfl;rfl
 refine AL.Met.introH Tryz.func161 F5 rfl rfl rfl (fun G=>?_);refine eI ?_;refine C1 (X:=Nat) (fun i=>([(0,T0 p),(1,.s (.one (.mut 800))),(9,B1 p.length),(10,B1 i)]++gf,ob)) (fun i=>i<=p.length/\∀j,j<i->(decide (p.take j∈ps)&&decide (p[j]?=some 47))=false) (fun i=>p.length-i) 0 ⟨B37 _,fun j h=>by omega⟩ (A91 lf G L6 (fun _ _ h=>h)) ?_;rintro i ⟨L,C⟩;dsimp only at L C ⊢;refine zc 5 (fun d=>?_) fun d=>?_;rotate_left
 ·have B:i=p.length:=by have A:=A2 d;(try dsimp only at A);omega
  have D:S0 p ps=false:=by
   unfold S0;rw[List.any_eq_false];intro j I;rw[C j (by rw[B];exact B44.1 I)];simp
  refine N0 ?_;exact D7 Y5 bZ (fun _ _ h=>h) ⟨by rw[D],rfl⟩
 have f:i<p.length:=by have A:=A1 d;(try dsimp only at A);omega
 have M:p[((i:Nat):Int).toNat]?=some p[i]:=by simp[f]
 have x:p[i]?=some p[i]:=by simp[f]
 have y:=E (p.take ((i:Nat):Int).toNat);obtain⟨r,J⟩:∃r,r=M5 k (p.take ((i:Nat):Int).toNat):=⟨_,rfl⟩
 rw[<-J,B26]at y;refine zz 13 ?_;refine A9 (sY A0 A0 B3 B3) A0 (A9 (nL ((p.take ((i:Nat):Int).toNat)) (r:=r) A0 K A0 dT dU (J.symm)) A0 (eI ?_));refine E3 A0 A0 A0 A0 (fun H=>by have y:=H;(try simp at y);rw[H];exact P9 A0 A0 B3 M) ?_;refine zc 3 (fun d=>?_) fun d=>?_
 ·rw[xP,B24,decide_eq_true_eq]at d;have z:S0 p ps=true:=by
   unfold S0;rw[List.any_eq_true];exact⟨i,B44.2 f,by rw[<-y,d.1,x,(w _).1 d.2];rfl⟩
  refine I0 ?_;exact D7 Y5 bZ (fun _ _ h=>h) ⟨by rw[z],rfl⟩
 ·rw[xP]at d;refine I0 ?_;refine⟨i+1,⟨f,fun j I=>?_⟩,by omega,A91 lf G L6 (fun _ _ h=>h)⟩;by_cases e:j=i
  ·subst e;rw[<-y,x];cases F:r.isSome
   ·rfl
   ·rw[F,B79,decide_eq_false_iff_not]at d;have:¬p[j]=47:=fun h=>d ((w _).2 h);simp[this]
  ·exact C j B3
theorem YL(l:List File):∀b∈V9 l,∃v,b.2=.v v:=by
 have key:∀(l:List File) (m:List (Str×Cell)),(∀b∈m,∃v,b.2=.v v)->∀b∈l.foldl (fun m f=>j8 m f.Path (EU f.Blob)) m,∃v,b.2=.v v:=by
  intro l;induction l with
  | nil=>exact fun m h=>h
  | cons f r e =>
   intro m h;refine e _ ?_;clear e;induction m with
   | nil=>intro b a;change b∈j8 [] f.Path (EU f.Blob) at a;rw[j8,B33]at a;rw[a];exact⟨_,rfl⟩
   | cons x m d =>
    obtain⟨k,c⟩:=x;intro b a;change b∈j8 ((k,c)::m) f.Path (EU f.Blob) at a;rw[j8]at a;split at a
    ·rcases B34.1 a with rfl | a
     ·exact⟨_,rfl⟩
     ·exact h b (by simp[a])
    ·rcases B34.1 a with rfl | a
     ·exact h _ eR
     ·exact d (fun b g=>h b (by simp[g])) b a
 exact key l [] fun _ h=>by cases h
theorem xF:∀(l:List File) (i:Nat),i+1<l.length->(ascend (l.take (i+2))=(ascend (l.take (i+1))&&jO (l.getD i ⟨[],[]⟩).Path (l.getD (i+1) ⟨[],[]⟩).Path))
 | [],i,h=>by simp at h
 | [_],i,h=>by simp at h
 | f::g::r,0,_=>by simp[ascend]
 | f::g::r,i+1,h=>by
  have b:ascend (g::r.take (i+1))=(ascend (g::r.take i)&&jO ((g::r).getD i ⟨[],[]⟩).Path ((g::r).getD (i+1) ⟨[],[]⟩).Path):=xF (g::r) i (by simpa using h);show ascend (f::g::r.take (i+1))=(ascend (f::g::r.take i)&&jO ((g::r).getD i ⟨[],[]⟩).Path ((g::r).getD (i+1) ⟨[],[]⟩).Path)
  rw[ascend,ascend,b,Bool.and_assoc]
theorem JT(l:List File):ascend (l.take 1)=true:=by
 cases l with
 | nil=>rfl
 | cons f r=>rfl
theorem E7{p:Prop}(h:p:=by kernel_rfl):p:=h
theorem NJ(l:List File)(R:l.length<=1073741824)(S:∀f∈l,f.Path.length<=1073741824):FnOk prog 124 [b9 l] (fun rs=>rs=[F6 (p5 l)]):=by
 rw[<-UW];have H:=YL l;have G:=JS l;refine FnOk.intro Tryz.func124 F5 A0 A0 A0 A0 (J5 ?_);refine mK (BG l R) A0 A0 A0 A0 ?_;rintro _ _ ⟨rfl,rfl⟩;refine⟨rfl,?_⟩;refine H2 ?_;refine X0 ?_;refine C1 (X:=Nat) (fun i=>([(0,B9 File 2 Z7 l),(3,.s (.one (.mut 800))),(8,B9 File 2 Z7 l),(9,B1 l.length),(10,B1 i)],[(800,.map Str bI (V9 l))])) (fun i=>i<=l.length/\ascend (l.take i)=true/\((l.take i).all fun f=>!S0 f.Path (l.map (·.Path)))=true) (fun i=>l.length-i) 0 ⟨B37 _,rfl,rfl⟩ (C6) ?_;rintro i ⟨Q,ha,E⟩;dsimp only at Q ha E ⊢;refine zc 5 (fun q=>?_) fun q=>?_;rotate_left
 ·have K:i=l.length:=by have v:=A2 q;(try dsimp only at v);omega
  rw[K,B38]at ha E;refine N0 ?_;exact A8 (rs:=[F6 true]) M3 (by unfold dX;rw[ha,E];rfl)
 have j:i<l.length:=by have v:=A1 q;(try dsimp only at v);omega
 obtain⟨f,I⟩:∃f,f=l[i]:=⟨_,rfl⟩
 have M:l[i]?=some f:=by rw[I];simp[j]
 have J:=S f (by rw[I];exact B32 j);obtain⟨g,b⟩:∃g,g=l.getD (i-1) ⟨[],[]⟩:=⟨_,rfl⟩
 have D:0<i->l[((i:Int)-1).toNat]?=some g:=fun w=>by
  rw[b,show ((i:Int)-1).toNat=i-1 by omega,B30,B23 B3];rfl
 have c:ascend (l.take (i+1))=if 0<i then jO g.Path f.Path else true:=by
  cases i with
  | zero=>rw[A6 B3];exact JT l
  | succ i =>
   rw[A5 B3,xF l i j,ha,B79,b];rw[show l.getD (i+1) ⟨[],[]⟩=f by rw[B30,M];rfl];rfl
 have z:((0 < i/\jO g.Path f.Path=false)\/S0 f.Path (l.map (·.Path))=true)->[F6 false]=[F6 (dX l)]:=by
  rintro (⟨w,h⟩ | h)
  ·have : ascend l=false:=by
    cases A:ascend l
    ·rfl
    ·exfalso;rw[A5 w,h]at c;have key:∀(l:List File) (k:Nat),ascend l=true->ascend (l.take k)=true:=by
      intro l;induction l with
      | nil=>intro k h;simpa using h
      | cons x r T =>
       intro k h;cases k with
       | zero=>rfl
       | succ k =>
        have F:=T k (iA h);rw[List.take_succ_cons];cases L:r.take k with
        | nil=>rfl
        | cons y t =>
         unfold ascend;rw[B24];refine⟨aN h y (B90 (by rw[L];simp)),by rw[<-L];exact F⟩
     rw[key l (i+1) A]at c;cases c
   unfold dX;rw[this];rfl
  ·have:(l.all fun f=>!S0 f.Path (l.map (·.Path)))=false:=by
    rw[List.all_eq_false];exact⟨f,by rw[I];exact B32 j,by rw[h];simp⟩
   unfold dX;rw[this,Bool.and_false]
 have B:(0<i->jO g.Path f.Path=true)->S0 f.Path (l.map (·.Path))=false->ascend (l.take (i+1))=true/\((l.take (i+1)).all fun f=>!S0 f.Path (l.map (·.Path)))=true:=by
  intro v A;refine⟨?_,?_⟩
  ·rw[c];split
   ·rename_i w;exact v w
   ·rfl
  ·rw[B48,M,B54,C06,E,B79,List.all_cons,List.all_nil,A];rfl
 refine X0 ?_;refine B6 (E6 5 A0) A0 (R6 ?_);cases d:(if decide ((0:Int)<(i:Int))=true then !Op.bytesLess g.Path f.Path else false)
 ·have v:0<i->jO g.Path f.Path=true:=fun w=>by
   rw[A5 (A3 B3),Bool.not_eq_false']at d;exact d
  refine BA 17 E7 E7 A0 (I0 ?_);refine G6 A0 A0 (fun b=>by have C:=b;(try simp at C);rw[b];exact S7 A0 A0 B3) A0 A0 ?_;refine G6 A0 A0 (fun b=>by have C:=b;(try simp at C);rw[b];exact F1 A0 (.pure _ _ _ _) A0 B3 (D B3)) A0 A0 ?_;refine G6 A0 A0 (fun b=>by rw[b];exact N3 A0) A0 A0 ?_;refine H8 ?_;refine G6 A0 A0 (fun b=>by rw[b];exact WJ A0 A0) A0 A0 ?_;refine H2 ?_;refine d_go A0 A0 d A0 (F8 ?_);refine d_go A0 A0 d A0 (F8 ?_);refine d_go A0 A0 d A0 (H2 ?_);refine YE A0 A0 d (fL (NH f.Path (V9 l) J A0 H (l.map (·.Path)) G) A0 A0 A0 ?_);rintro _ _ ⟨rfl,rfl⟩;refine⟨_,rfl,?_⟩;refine H2 ?_;refine GO ?_;rw[d];refine zc 0 (fun q=>?_) fun q=>?_
  ·have A:S0 f.Path (l.map (·.Path))=true:=by simpa using q
   refine I0 ?_;exact A8 (rs:=[F6 false]) M3 (z (.inr A))
  ·have A:S0 f.Path (l.map (·.Path))=false:=by simpa using q
   obtain⟨F,O⟩:=B v A;refine I0 ?_;exact⟨i+1,⟨j,F,O⟩,by omega,(C6)⟩
 ·have w:0<i:=by
   apply B55;intro w;rw[A6 (by rw[decide_eq_true_eq];omega)]at d;cases d
  have v:jO g.Path f.Path=false:=by
   rw[A5 (A3 B3),B60]at d;exact d
  refine N0 ?_;refine G6 A0 A0 (fun b=>by have C:=b;(try simp at C);rw[b];exact S7 A0 A0 B3) A0 A0 ?_;refine G6 A0 A0 (fun b=>by have C:=b;(try simp at C);rw[b];exact F1 A0 (.pure _ _ _ _) A0 B3 (D B3)) A0 A0 ?_;refine G6 A0 A0 (fun b=>by rw[b];exact N3 A0) A0 A0 ?_;refine H8 ?_;refine G6 A0 A0 (fun b=>by rw[b];exact WJ A0 A0) A0 A0 ?_;refine H2 ?_;refine AD A0 A0 (by rw[d];decide) A0 A0 ?_;refine AD A0 A0 (by rw[d];decide) A0 A0 ?_;refine AD A0 A0 (by rw[d];decide) A0 A0 ?_;refine AD A0 A0 (by rw[d];decide) A0 A0 ?_;refine D2 (Y2 A0 (d) A0) A0 A0 ?_;refine zc 1 (fun q=>?_) fun q=>?_
  ·refine I0 ?_;exact A8 (rs:=[F6 false]) M3 (z (.inl ⟨w,v⟩))
  ·cases q
theorem u64_in{n:Int}(h:0<=n/\n<18446744073709551616):IntKind.u64.wrap n=n:=by simp[IntKind.wrap,IntKind.signed,IntKind.bits];omega
def X8(a n:Int):Int:=IntKind.u64.wrap a % n
theorem Y6(a:Int){n:Int}(h:1<=n):0<=X8 a n/\X8 a n<n:=⟨Int.emod_nonneg _ B3,Int.emod_lt_of_pos _ B3⟩
theorem kV(a n:Int)(f:1<=n)(g:n<=9223372036854775807):FnOk prog 6 [E2 a,E2 n] (fun rs=>rs=[E2 (X8 a n)]):=by
 refine FnOk.intro Tryz.func6 F5 A0 A0 A0 A0 (I0 ?_);have b:IntKind.u64.wrap n=n:=u64_in B3;refine I0 ?_;refine A9 (FT A0 A0 (by (rw[b];omega))) A0 ?_;refine R6 ?_;refine A8 M3 ?_;have c:=SG a;have e:(IntKind.u64.wrap a).tmod n=IntKind.u64.wrap a % n:=Int.tmod_eq_emod_of_nonneg c;have h:=Y6 a f;unfold X8 at *;rw[b,e,nB ⟨by omega,by omega⟩]
def xor64(a b:Int):Int:=IntKind.u64.wrap ((BitVec.ofInt IntKind.u64.bits a ^^^ BitVec.ofInt IntKind.u64.bits b).toNat:Int)
def shr64(a n:Int):Int:=a.fdiv (2 ^ (min n.toNat IntKind.u64.bits))
def at0(k:Int):Int:=IntKind.u64.wrap (IntKind.u64.wrap (k+1)*11400714819323198485)
def at1(b:List Int)(k:Int):Int:=if 0<b.length then xor64 (at0 k) (IntKind.u64.wrap (b.getD (k.tmod b.length).toNat 0)) else at0 k
def at2(x:Int):Int:=IntKind.u64.wrap (xor64 x (shr64 x 31)*13787848793156543929)
def u7(a:List Int)(k:Int):Int:=IntKind.i64.wrap (shr64 (xor64 (at2 (at1 a k)) (shr64 (at2 (at1 a k)) 29)) 1)
theorem gX(b:List Int)(k:Int)(g:0<=k)(l:k<=1099511627776):FnOk prog 10 [L5 b,E2 k] (fun rs=>rs=[E2 (u7 b k)]):=by
 refine FnOk.intro Tryz.func10 F5 A0 A0 A0 A0 ?_;refine WA (t:=0) rfl (.pure _ _ _ _) fun f=>?_;refine U7 ?_;refine A9 (IW A0 A0) A0 (H2 ?_);refine kO [(0,B9 Int 1 E0 b),(1,B1 k),(5,H6 (.int .u64 (at1 b k)))] [] ?_ ?_
 ·refine zc 6 (fun d=>?_) fun d=>?_
  ·have c:0<b.length:=by have:=A1 d;omega
   have h:0<=k.tmod b.length:=Int.tmod_nonneg _ g;have j:k.tmod b.length<b.length:=Int.tmod_lt_of_pos _ B3;have m:b[(k.tmod b.length).toNat]?=some (b.getD (k.tmod b.length).toNat 0):=by
    rw[B30,B23 B3];rfl
   skip;refine zz 13 ?_;rw[at1,A5 c];exact C6
  ·have c:¬0<b.length:=by have:=A2 d;omega
   refine F8 ?_;rw[at1,A6 c];exact C6
 ·refine N0 ?_;refine A9 (IW A0 A0) A0 (zz 13 ?_);exact A8 M3 rfl
def lineTab:List Str:=[[97],[98],[99],[97,98],[98,97],[],[97,97],[98,32,97],[120,43,121],[92]]
def y8(k:Int):Str:=lineTab.getD (X8 k 10).toNat []
theorem NK:∀s∈lineTab,s.length<=3:=by decide
theorem kW(k:Int):(y8 k).length<=3:=by
 unfold y8;rw[B30];cases h:lineTab[(X8 k 10).toNat]? with
 | none=>simp
 | some s=>exact NK s (B43 h)
theorem NL(k:Int):FnOk prog 64 [E2 k] (fun b=>b=[G5 (y8 k)]):=by
 refine FnOk.intro Tryz.func64 F5 A0 A0 A0 A0 (I0 ?_);have d:=Y6 k (n:=10) F5;have e:lineTab[(X8 k 10).toNat]?=some (y8 k):=by
  unfold y8;rw[B30,B23 (show (X8 k 10).toNat<lineTab.length by simp[lineTab];omega)];rfl
 refine F8 ?_;refine A9 (B8 (c:=K6) (ys:=lineTab) (C5 A0 A0 A0 A0 (C5 A0 A0 A0 A0 (C5 A0 A0 A0 A0 (C5 A0 A0 A0 A0 (C5 A0 A0 A0 A0 (C5 A0 A0 A0 A0 (C5 A0 A0 A0 A0 (C5 A0 A0 A0 A0 (C5 A0 A0 A0 A0 (C5 A0 A0 A0 A0 E5)))))))))) A0 A0 A0) A0 (F8 ?_);refine F0 (kV k 10 F5 F5) (I0 ?_);exact A8 M3 rfl
def j4(d:List Int)(b:Int)(c:Int)(m:Nat):Str:=((List.range m).map fun (i:Nat)=>y8 (X8 (u7 d (b+1+(i:Int))) c)++[10]).flatten
def kX(e:List Int)(b n c:Int):Str :=
 let s:=j4 e b c (X8 (u7 e b) (n+1)).toNat
 if ((u7 e (b+90)).tmod 4=0/\(1:Int)<s.length)/\((s.getD (s.length-2) 0).toNat:Int)≠10 then s.take (s.length-1) else s
theorem fN(c:List Int)(a b:Int)(m:Nat):j4 c a b (m+1)=j4 c a b m++y8 (X8 (u7 c (a+1+(m:Int))) b)++[10]:=by
 unfold j4;rw[C07,B65,B64];simp
theorem qR(c:List Int)(a b:Int)(m:Nat):(j4 c a b m).length<=4*m:=by
 induction m with
 | zero=>simp[j4]
 | succ m d=>have:=kW (X8 (u7 c (a+1+(m:Int))) b);rw[fN];simp only[B25,B31,List.length_nil];omega
theorem b5x{p:Prop}(h:p:=by (simp only[B25,B31,List.length_nil];omega)):p:=h
theorem blob_ok(e:List Int)(b n c:Int)(A:0<=b/\b<=1073741824)(B:0<=n/\n<=1048576)(C:1<=c/\c<=1048576) :
  FnOk prog 32 [L5 e,E2 b,E2 n,E2 c] (fun rs=>rs=[G5 (kX e b n c)]):=by
 obtain⟨m,r⟩:∃m:Nat,X8 (u7 e b) (n+1)=m:=⟨(X8 (u7 e b) (n+1)).toNat,by have:=Y6 (u7 e b) (n:=n+1) B3;omega⟩
 have x:=Y6 (u7 e b) (n:=n+1) B3;have y:m<=1048576:=by omega
 refine FnOk.intro Tryz.func32 F5 A0 A0 A0 A0 (X0 ?_);refine F0 (gX e b B3 B3) (H2 ?_);refine ET (kV _ (n+1) B3 B3) A0 A0 A0 (H8 ?_);rw[r];refine U7 ?_;refine C1 (X:=Nat) (fun i=>([(0,B9 Int 1 E0 e),(1,B1 b),(2,B1 m),(3,B1 c),(9,T0 (j4 e b c i)),(10,B1 i)],[])) (fun i=>i<=m) (fun i=>m-i) 0 (B37 _) (C6) ?_;intro i u;dsimp only at u ⊢;have k:=qR e b c i;refine zc 7 (fun f=>?_) fun f=>?_
 ·have w:i<m:=by have:=A1 f;omega
  have v:=kW (X8 (u7 e (b+1+(i:Int))) c);refine R9 ?_;refine ET (gX e _ B3 B3) A0 A0 A0 (F8 ?_);refine ET (kV _ c B3 B3) A0 A0 A0 (ET (NL _) A0 A0 A0 (A9 (l5 A0 A0 B3) A0 (A9 (l5 A0 A0 b5x) A0 (J5 ?_))));refine⟨i+1,by omega,by omega,?_⟩;rw[fN];exact C6
 ·have l:i=m:=by have:=A2 f;omega
  subst l;obtain⟨s,q⟩:∃s,s=j4 e b c i:=⟨_,rfl⟩
  have z:(1:Int)<s.length->s[((s.length:Int)-2).toNat]?=some (s.getD (s.length-2) 0):=fun h=>by
   rw[show ((s.length:Int)-2).toNat=s.length-2 by omega,B30,B23 B3];rfl
  have g:kX e b n c=if ((u7 e (b+90)).tmod 4=0/\(1:Int)<s.length)/\((s.getD (s.length-2) 0).toNat:Int)≠10 then s.take (s.length-1) else s:=by
   simp only[kX,r,B26,<-q]
  rw[<-q]at k;refine H8 ?_;rw[<-q];refine R6 ?_;refine ET (gX e _ B3 B3) A0 A0 A0 (o9 ?_);refine E3 A0 A0 A0 A0 (fun j=>by have p:=j;(try simp at p);rw[j];exact S7 A0 A0 B3) ?_;refine E3 A0 A0 A0 A0 (fun j=>by have p:=j;(try simp at p);rw[j];exact P9 A0 A0 B3 (z B3)) ?_;refine zc 3 (fun f=>?_) fun f=>?_
  ·simp only[and_pick]at f;have h:=A1 f;skip;refine I0 ?_;refine A9 (sY A0 A0 B3 B3) A0 (X0 ?_);exact A8 M3 (by rw[g,A5 h,show ((s.length:Int)-1).toNat=s.length-1 by omega])
  ·simp only[and_pick]at f;have h:=A2 f;refine J5 ?_;exact A8 M3 (by rw[g,A6 h])
theorem SL(d:List Int)(b n c:Int)(f:0<=n):((kX d b n c).length:Int)<=4*n:=by
 have h:=Y6 (u7 d b) (n:=n+1) B3;have i:=qR d b c (X8 (u7 d b) (n+1)).toNat
 unfold kX;simp only;split
 ·simp only[B42];omega
 ·omega
def s6(b:List Int)(a:Int)(i:Nat)(s:Str):List Str->Str
 | []=>s
 | x::r=>if (u7 b (a+(i:Int))).tmod 6=0 then s6 b a (i+1) s r
  else if (u7 b (a+(i:Int))).tmod 6=1 then s6 b a (i+1) (s++y8 (u7 b (a+40+(i:Int)))++[10]++x) r
  else s6 b a (i+1) (s++x) r
def iT(b:Str)(c:List Int)(a:Int):Str:=s6 c a 0 [] (D5 b)
theorem kY(b:List Int)(a:Int):∀(l:List Str) (i:Nat) (s:Str),(s6 b a i s l).length<=s.length+l.flatten.length+4*l.length
 | [],i,s=>by simp[s6]
 | x::r,i,s=>by
  have c:=kY b a r (i+1) s;have d:=kY b a r (i+1) (s++y8 (u7 b (a+40+(i:Int)))++[10]++x);have f:=kY b a r (i+1) (s++x);have j:=kW (u7 b (a+40+(i:Int)));simp only[B25,B31,List.length_nil,B69]at *;unfold s6;split
  ·omega
  ·split<;>omega
theorem vZ(s b:Str):(G4 b s).flatten=b++s:=by
 induction s generalizing b with
 | nil=>unfold G4;split<;>simp[*]
 | cons c r d=>unfold G4;split<;>simp[d]
theorem d8(s:Str):(D5 s).flatten=s:=vZ s []
theorem near_ok(c:Str)(d:List Int)(b:Int)(hb:c.length<=16777216)(C:0<=b/\b<=1073741824) :
  FnOk prog 33 [G5 c,L5 d,E2 b] (fun rs=>rs=[G5 (iT c d b)]):=by
 have v:=fS c;have u:=d8 c;have q:(D5 c).flatten.length=c.length:=by rw[u]
 refine FnOk.intro Tryz.func33 F5 A0 A0 A0 A0 (J5 ?_);refine F0 (A45 c B3) (H8 ?_);obtain⟨l,y⟩:∃l,l=D5 c:=⟨_,rfl⟩
 have w:iT c d b=s6 d b 0 [] l:=by rw[iT,y]
 rw[<-y]at v q ⊢;refine U7 ?_;refine C1 (X:=Nat×Str) (fun x=>([(1,B9 Int 1 E0 d),(2,B1 b),(7,B9 Str 1 K6 l),(8,T0 x.2),(9,B1 x.1)],[])) (fun x=>x.1<=l.length/\x.2.length<=(l.take x.1).flatten.length+4*x.1/\s6 d b x.1 x.2 (l.drop x.1)=s6 d b 0 [] l) (fun x=>l.length-x.1) (0,[]) eR (C6) ?_;rintro⟨i,s⟩ ⟨z,B,j⟩;dsimp only at z B j ⊢;have A:=x8 l i;refine zc 8 (fun k=>?_) fun k=>?_
 ·have o:i<l.length:=by have:=A1 k;omega
  have E:l[i]?=some l[i]:=by simp[o]
  have p:=x8 l (i+1);have m:=bM l i o;rw[m,B25]at p;rw[B40 o,s6]at j;refine R9 ?_;refine ET (gX d _ B3 B3) A0 A0 A0 ?_;refine zc 8 (fun k=>?_) fun k=>?_
  ·rw[A5 (A1 k)]at j;refine N0 ?_;exact⟨(i+1,s),⟨by dsimp only;omega,by dsimp only;rw[m,B25];omega,j⟩,by dsimp only;omega,C6⟩
  ·rw[A6 (A2 k)]at j;refine zc 5 (fun k=>?_) fun k=>?_
   ·rw[A5 (A1 k)]at j;have D:=kW (u7 d (b+40+(i:Int)));skip;refine J5 ?_;refine ET (gX d _ B3 B3) A0 A0 A0 (ET (NL _) A0 A0 A0 (A9 (l5 A0 A0 B3) A0 (A9 (l5 A0 A0 b5x) A0 (X0 ?_))));refine A9 (l5 A0 A0 b5x) A0 (J5 ?_);exact⟨(i+1,s++y8 (u7 d (b+40+(i:Int)))++[10]++l[i]),⟨by dsimp only;omega,by dsimp only;rw[m];simp only[B25,B31,List.length_nil];omega,j⟩,by dsimp only;omega,C6⟩
   ·rw[A6 (A2 k)]at j;refine J5 ?_;refine A9 (l5 A0 A0 B3) A0 (J5 ?_);exact⟨(i+1,s++l[i]),⟨by dsimp only;omega,by dsimp only;rw[m,B25,B25];omega,j⟩,by dsimp only;omega,C6⟩
 ·have r:i=l.length:=by have:=A2 k;omega
  rw[r,B53 (B29 _)]at j;refine J5 ?_;exact A8 M3 (by rw[w,<-j];rfl)
theorem GP(s:Str):(ByteArray.mk s.toArray).size=s.length:=by simp[ByteArray.size]
theorem JU(s p:Str)(b:s.length<=1099511627776):FnOk prog 101 [G5 s,G5 p] (fun a=>a=[F6 (Lib.hasSuffix s p)]) :=
 A95 (xs:=[.string ⟨s.toArray⟩,.string ⟨p.toArray⟩]) ⟨_,rfl,rfl,rfl⟩ rfl fun w=>by simpa using Tryz.strings_HasSuffix ⟨s.toArray⟩ ⟨p.toArray⟩ w (by rw[GP];omega)
theorem EV(s p:Str)(b:s.length<=1099511627776):FnOk prog 117 [G5 s,G5 p] (fun a=>a=[G5 (Lib.trimSuffix s p)]) :=
 A95 (xs:=[.string ⟨s.toArray⟩,.string ⟨p.toArray⟩]) ⟨_,rfl,rfl,rfl⟩ rfl fun w=>by simpa using Tryz.strings_TrimSuffix ⟨s.toArray⟩ ⟨p.toArray⟩ w (by rw[GP];omega)
theorem tN(s:Str)(c:UInt8):FnOk prog 62 [G5 s,.one (.v (.int .u8 c.toNat))] (fun a=>a=[E2 (Lib.indexByte s c)]) :=
 A95 (xs:=[.string ⟨s.toArray⟩,.int .u8 c.toNat]) ⟨_,rfl,rfl,rfl⟩ rfl fun w=>by simpa using Tryz.strings_IndexByte ⟨s.toArray⟩ c.toNat w
theorem JV(s:Str)(c:UInt8):FnOk prog 158 [G5 s,G5 [c]] (fun a=>a=[F6 (decide (0<=Lib.indexByte s c))]) :=
 A95 (xs:=[.string ⟨s.toArray⟩,.string ⟨#[c]⟩]) ⟨_,rfl,rfl,rfl⟩ rfl fun w=>by simpa using Tryz.strings_Contains_one ⟨s.toArray⟩ c w
theorem A46(l:List Str)(v:l.length<=536870912)(u:l.flatten.length<=536870912):FnOk prog 63 [aI l,G5 []] (fun r=>r=[G5 l.flatten]):=by
 have f:(l.map fun s=>(⟨s.toArray⟩:ByteArray)).map (·.data.toList)=l:=by rw[B94];simp[Function.comp_def]
 refine B15 ⟨_,rfl,rfl,rfl⟩ (fun h a c w=>?_) (fun b o c w q k hb j=>?_)
 ·subst h;exact Tryz.strings_Join_none a c _ w
 ·have:=Tryz.strings_Join b o c (l.map fun s=>(⟨s.toArray⟩:ByteArray)) ⟨#[]⟩ w k hb (by rw[B75];omega) (by rw[B75];exact j) (by rw[f];show (Lib.join l []).length<=_;rw[PY];omega);rw[B75,f]at this;have e:Lib.join l (⟨#[]⟩:ByteArray).data.toList=l.flatten:=PY l;rw[e]at this;exact this
theorem pJ(s:Str)(a:s.length<=1099511627776):FnOk prog 59 [G5 s] (fun b=>b=[F6 (ended s)]):=by
 refine FnOk.intro Tryz.func59 F5 A0 A0 A0 A0 (J5 ?_);refine F0 (JU s [10] a) (H2 ?_);rw[uI];refine F8 ?_;exact A8 M3 rfl
theorem NM(s:Str)(a:s.length<=1099511627776):FnOk prog 73 [G5 s] (fun rs=>rs=[G5 (s8 s)]):=by
 refine FnOk.intro Tryz.func73 F5 A0 A0 A0 A0 (J5 ?_);refine F0 (EV s [10] a) (H2 ?_);rw[FJ];refine F8 ?_;exact A8 M3 rfl
theorem nP{p:Prop}(h:p:=by exact ret2 rfl rfl rfl rfl rfl):p:=h
theorem A47(l:List Str)(M:l.flatten.length<=536870911)(K:l.length<=536870911):FnOk prog 31 [aI l] (fun L=>L=[G5 (y9 l).1,E2 (y9 l).2]):=by
 refine FnOk.intro Tryz.func31 F5 A0 A0 A0 A0 (zz 17 ?_);refine C1 (X:=Nat) (fun i=>([(0,B9 Str 1 K6 l),(4,B1 (l.take i).flatten.length),(8,B9 Str 1 K6 l),(9,B1 l.length),(10,B1 i)],[])) (fun i=>i<=l.length/\cP l=cP (l.drop i)) (fun i=>l.length-i) 0 ⟨B37 _,by simp⟩ (C6) ?_;rintro i ⟨J,w⟩;dsimp only at J w ⊢;have C:=x8 l i;refine zc 5 (fun k=>?_) fun k=>?_
 ·have x:i<l.length:=by have:=A1 k;omega
  have N:l[i]?=some l[i]:=by simp[x]
  have H:=x8 l (i+1);have F:(l.take (i+1)).flatten.length=(l.take i).flatten.length+l[i].length:=by rw[bM l i x,B25]
  have j:=PU l[i] (l.drop (i+1));rw[B40 x,PW]at w;have o:(l.drop (i+1)).isEmpty=decide (l.length<=i+1):=by rw[Bool.eq_iff_iff];simp
  rw[o]at j;unfold LI at j;refine zz 14 ?_;refine F0 (tN l[i] 10) (zz 13 ?_);refine M4 A0 A0 A0 (.gd (.val _)) A0 (fun q=>by obtain⟨b,c⟩:=bE q;(try rw[b]);(try rw[c]);exact pA A0) ?_;refine M4 A0 A0 A0 (.gd (.val _)) A0 (fun q=>by have D:=q;(try simp at D);obtain⟨b,c⟩:=bE q;(try rw[b]);(try rw[c]);exact S7 A0 A0 B3) ?_;refine U7 ?_;refine M4 A0 A0 A0 (.gd (.val _)) A0 (fun q=>by obtain⟨b,c⟩:=bE q;(try rw[b]);(try rw[c]);exact gO A0 (.pure _ _ _ _)) ?_;refine M4 A0 A0 A0 (.gd (.val _)) A0 (fun q=>by have D:=q;(try simp at D);obtain⟨b,c⟩:=bE q;(try rw[b]);(try rw[c]);exact S7 A0 A0 B3) ?_;refine zc 4 (fun k=>?_) fun k=>?_
  ·simp only[and_pick,or_pick]at k;have z:=A1 k
   have B:=j.1 (by
    rcases z with (h | h) | h
    ·exact .inl h
    ·exact .inr (.inl h)
    ·exact .inr (.inr ⟨h.1,by simp only[decide_eq_false_iff_not];omega⟩))
   rw[o,B,Bool.false_and]at w;refine N0 ?_;exact A8 nP (by rw[y9,A5 w])
  ·simp only[and_pick,or_pick]at k;have z:=A2 k;have B:(N1 l[i]&&(decide (l.length<=i+1)||ended l[i]))=true:=by
    cases I:(N1 l[i]&&(decide (l.length<=i+1)||ended l[i]))
    ·have G:=j.2 I;simp only[decide_eq_false_iff_not]at G;refine absurd ?_ z;rcases G with h | h | h
     ·exact .inl (.inl h)
     ·exact .inl (.inr h)
     ·exact .inr ⟨h.1,by omega⟩
    ·rfl
   rw[o,B,B79]at w;refine eI ?_;refine⟨i+1,⟨by omega,w⟩,by omega,?_⟩;rw[F];exact C6
 ·have A:i=l.length:=by have:=A2 k;omega
  rw[A,B38]at C ⊢;rw[A,B53 (B29 _)]at w;refine zc 12 (fun k=>?_) fun k=>?_
  ·have z:=A1 (or_pick.symm.trans k);refine N0 ?_;exact A8 nP (by rw[y9,A6 (by rw[w];simp[cP]),A5 B3])
  ·have z:=A2 (or_pick.symm.trans k);refine R6 ?_;refine F0 (A46 l B3 B3) (R6 ?_);exact A8 nP (by rw[y9,A6 (by rw[w];simp[cP]),A6 B3])
def isBld(ob:Obs)(c:Str):Prop:=(∃a,(a=.p (.v (.pointer none))\/a=.ref 700 0)/\B0 ob 700=some (.tbx 184 [a,.buf 701 UInt8 1 RN c]))/\B0 ob 701=some (.spare c.length 1 5)
abbrev bldObs(ob:Obs)(ys c:Str):Obs:=(700,.tbx 184 [.ref 700 0,.buf 701 UInt8 1 RN c])::(701,.spare c.length 1 5)::Obs.forget 701 ((700,.tbx 184 [.ref 700 0,.buf 701 UInt8 1 RN ys])::ob)
def WO:Go.Shelf.Ren:=⟨fun | 240=>132 | 276=>165 | n=>n,fun | 72=>184 | 70=>181 | 164=>265 | 37=>182 | n=>n,fun n=>n⟩
theorem ccLays:Go.Proofs.Lays.n240 prog WO:={
 mixed:=by kernel_rfl
 f240:=Tryz.func132.trans (congrArg some E7)
 f276:=Tryz.func165.trans (congrArg some E7)
 t0:=Tryz.underlying0
 a0:=Tryz.isAgg0
 z0:=Tryz.sizeOf0
 v0:=Tryz.zeroValue0
 t4:=Tryz.underlying4
 a4:=Tryz.isAgg4
 z4:=Tryz.sizeOf4
 v4:=Tryz.zeroValue4
 t9:=Tryz.underlying9
 a9:=Tryz.isAgg9
 z9:=Tryz.sizeOf9
 v9:=Tryz.zeroValue9
 t20:=Tryz.underlying20
 a20:=Tryz.isAgg20
 z20:=Tryz.sizeOf20
 v20:=Tryz.zeroValue20
 t70:=Tryz.underlying181
 a70:=Tryz.isAgg181
 z70:=Tryz.sizeOf181
 v70:=Tryz.zeroValue181
 t72:=Tryz.underlying184
 a72:=Tryz.isAgg184
 z72:=Tryz.sizeOf184
 v72:=Tryz.zeroValue184
 t164:=Tryz.underlying265
 a164:=Tryz.isAgg265
 z164:=Tryz.sizeOf265
 v164:=Tryz.zeroValue265 }
theorem ccX:Builder.X72 prog WO:={
 sizeBuilder:=by kernel_rfl
 liesBuilder:=by kernel_rfl }
theorem qS{gf:Fr}{ob:Obs}{a t:TC}(j:B0 ob 700=some (.tbx 184 [a,t]))(ha:a=.p (.v (.pointer none))\/a=.ref 700 0) :
  AL.Met prog 132 [.one (.ref 700 0)] gf ob [] (fun k ob'=>k=[]/\ob'=(700,.tbx 184 [.ref 700 0,t])::ob) :=
 AL.Met.copyCheck ⟨_,rfl,rfl,rfl⟩ (fun b w c d g=>Any.Builder_copyCheck_fresh (ρ:=WO) ccLays ccX b w c d g) (fun b w h=>Any.Builder_copyCheck_used (ρ:=WO) ccLays ccX b w h) j ha
theorem b4y{p:Prop}(h:p:=by exact rets2 rfl rfl rfl):p:=h
theorem d9{gf:Fr}{ob:Obs}{xs s:Str}(hb:isBld ob xs)(d:xs.length+s.length<=1073741824) :
  AL.Met prog 95 [.one (.ref 700 0),.one (.p (.v (.string ⟨s.toArray⟩)))] gf ob [701] (fun k ob'=>k=[.one (.p (.v (.int .i64 s.length))),.one (.p (.v .nilIface))]/\ob'=bldObs ob xs (xs++s)):=by
 obtain⟨⟨a,ha,j⟩,b⟩:=hb;refine AL.Met.intro Tryz.func95 F5 A0 A0 A0 (X0 ?_);refine M9 (qS j ha) A0 A0 A0 (J5 ?_);refine A9 (xA A0 A0 A0) A0 (F8 ?_);refine B6 (RO TyStr.out A0 b A0 (by first | omega | (simp;omega)) A0) A0 (H2 ?_);refine V2 (tD TySz.out A0 A0 A0 A0 A0 A0) (U7 ?_);exact D7 b4y bZ (fun _ _ h=>h) ⟨rfl,rfl⟩
theorem b6y{p:Prop}(h:p:=by (simp;omega)):p:=h
theorem iU{gf:Fr}{ob:Obs}{xs:Str}{c:UInt8}(hb:isBld ob xs)(d:xs.length+1<=1073741824) :
  AL.Met prog 97 [.one (.ref 700 0),.one (.p (.v (.int .u8 c.toNat)))] gf ob [701] (fun j ob'=>j=[.one (.p (.v .nilIface))]/\ob'=bldObs ob xs (xs++[c])):=by
 obtain⟨⟨a,ha,g⟩,b⟩:=hb;refine AL.Met.intro Tryz.func97 F5 A0 A0 A0 (J5 ?_);refine M9 (qS g ha) A0 A0 A0 (J5 ?_);refine A9 (xA A0 A0 A0) A0 (F8 ?_);refine A9 (B8 (c:=RN) (ys:=[c]) (C5 A0 A0 A0 A0 E5) A0 A0 A0) A0 (B6 (R7 A0 b A0 (.pure _ _ _ _) b6y A0) A0 (H2 ?_));refine V2 (tD TySz.out A0 A0 A0 A0 A0 A0) (N0 ?_);exact D7 Y5 bZ (fun _ _ h=>h) ⟨rfl,rfl⟩
theorem YM(c:UInt8):FnOk prog 133 [pByte c] (fun a=>a=[F6 (wJ c)]):=by
 refine FnOk.intro Tryz.func133 F5 A0 A0 A0 A0 (zz 23 ?_);refine A8 M3 ?_;simp only[and_pick]
 congr 4
 unfold wJ
 congr 1
 simp;omega
open Go.RowKit
theorem u8dig(q:Nat)(h:q<8):IntKind.u8.wrap (48+(q:Int))=((UInt8.ofNat (48+q)).toNat:Int):=by
 rw[IntWalk.u8_in _ B3];have:(UInt8.ofNat (48+q)).toNat=48+q:=by rw[UInt8.toNat_ofNat'];omega
 rw[this];simp
theorem WP(x:Nat)(h:x<256):IntKind.u8.wrap ((BitVec.ofInt IntKind.u8.bits (x:Int) &&& BitVec.ofInt IntKind.u8.bits 7).toNat:Int)=((x % 8:Nat):Int):=by
 have d:(BitVec.ofInt IntKind.u8.bits (x:Int) &&& BitVec.ofInt IntKind.u8.bits 7).toNat=x % 8:=by
  rw[BitVec.toNat_and,BitVec.toNat_ofInt,BitVec.toNat_ofInt];have b:((x:Int) % ((2 ^ IntKind.u8.bits:Nat):Int)).toNat=x:=by
   rw[show ((2 ^ IntKind.u8.bits:Nat):Int)=256 by rfl];omega
  have c:((7:Int) % ((2 ^ IntKind.u8.bits:Nat):Int)).toNat=2 ^ 3-1:=by rfl
  rw[b,c,Nat.and_two_pow_sub_one_eq_mod]
 rw[d,IntWalk.u8_in _ B3]
theorem shr_u8(x:Nat)(c:Nat)(h:c<=8):(x:Int).fdiv (2 ^ min (Int.toNat (c:Int)) IntKind.u8.bits)=((x / 2 ^ c:Nat):Int):=by
 rw[shr_eq _ _ IntKind.u8.bits ⟨by omega,by show (c:Int)<=8;omega⟩];simp
theorem SM(c:UInt8):FnOk prog 134 [pByte c] (fun s=>s=[G5 (kC c)]):=by
 have t:=c.toNat_lt;refine FnOk.intro Tryz.func134 F5 A0 A0 A0 A0 ?_;refine zc 16 (fun a=>?_) fun a=>?_
 ·have h:=A1 (or_pick.symm.trans a);refine H8 ?_;refine A9 (qM A0 B3) A0 (A9 (l5 A0 A0 eR) A0 (H8 ?_));exact A8 M3 (by rw[kC,A5 B3];rfl)
 ·have h:=A2 (or_pick.symm.trans a);refine zc 6 (fun a=>?_) fun a=>?_
  ·have n:=A1 a;refine I0 ?_;exact A8 M3 (by rw[kC,A6 B3,A5 B3])
  ·have n:=A2 a;refine zc 6 (fun a=>?_) fun a=>?_
   ·have o:=A1 a;refine I0 ?_;exact A8 M3 (by rw[kC,A6 B3,A6 B3,A5 B3])
   ·have o:=A2 a;refine zc 10 (fun a=>?_) fun a=>?_
    ·have q:=A1 (or_pick.symm.trans a);refine k2 ?_;have m:(c.toNat:Int).fdiv (2 ^ min (Int.toNat 6) IntKind.u8.bits)=((c.toNat / 64:Nat):Int):=shr_u8 c.toNat 6 B3;have l:(c.toNat:Int).fdiv (2 ^ min (Int.toNat 3) IntKind.u8.bits)=((c.toNat / 8:Nat):Int):=shr_u8 c.toNat 3 B3;have g:=u8dig (c.toNat / 64) B3;have j:=u8dig (c.toNat / 8 % 8) B3;have k:=u8dig (c.toNat % 8) B3;have b:=QA c;refine H8 ?_;refine A9 (sV A0 A0) A0 (H8 ?_);refine A9 (sV A0 A0) A0 (H2 ?_);refine A9 (sV A0 A0) A0 ?_;           rw[m,l,WP (c.toNat / 8) B3,WP c.toNat B3,g,j,k];refine A9 (B8 (c:=RN) (ys:=[UInt8.ofNat (48+c.toNat / 64),UInt8.ofNat (48+c.toNat / 8 % 8),UInt8.ofNat (48+c.toNat % 8)]) (C5 A0 A0 A0 A0 (C5 A0 A0 A0 A0 (C5 A0 A0 A0 A0 E5))) A0 A0 A0) A0 (A9 (zV TyStr.out A0 (.pure _ _ _ _)) A0 (A9 (l5 A0 A0 eR) A0 (H2 ?_)));refine F8 ?_;exact A8 M3 (by rw[kC,A6 B3,A6 B3,A6 B3,A5 B3,b];rfl)
    ·have q:=A2 (or_pick.symm.trans a);refine R6 ?_;refine A9 (qM A0 B3) A0 (H8 ?_);exact A8 M3 (by rw[kC,A6 B3,A6 B3,A6 B3,A6 B3])
theorem itoa_ok(n:Int)(h:0<=n/\n<=2147483647):FnOk prog 166 [E2 n] (fun f=>f=[G5 (Lib.itoa n)]) :=
 B02 (xs:=[.int .i64 n]) (r:=.string ⟨(Lib.itoa n).toArray⟩) ⟨_,rfl,rfl,rfl⟩ rfl fun w d =>
  (Tryz.strconv_Itoa n B3 B3 w (d.pow10 rfl)).mono fun e w' ⟨c,k,os,b⟩=>⟨c,by subst b;exact Lib.below_grow _ _ (B29 _) _ _⟩
theorem kZ(n:Int):FnOk prog 135 [E2 n] (fun b=>b=[G5 (uK n)]):=by
 refine FnOk.intro Tryz.func135 F5 A0 A0 A0 A0 ?_;refine zc 14 (fun a=>?_) fun a=>?_
 ·have h:=A1 (or_pick.symm.trans a);refine I0 ?_;exact A8 M3 (by rw[uK,A5 B3])
 ·have h:=A2 (or_pick.symm.trans a);refine R6 ?_;refine F0 (itoa_ok n B3) (H8 ?_);exact A8 M3 (by rw[uK,A6 B3])
theorem GQ(a n:Int)(ha:-4611686018427387904<=a/\a<=4611686018427387904)(g:-4611686018427387904<=n/\n<=4611686018427387904):FnOk prog 100 [E2 a,E2 n] (fun f=>f=[G5 (dJ a n)]):=by
 refine FnOk.intro Tryz.func100 F5 A0 A0 A0 A0 (zz 20 ?_);refine E3 A0 A0 A0 A0 (fun e=>by rw[e];exact S7 A0 A0 (by (first | omega | (simp at hq;omega)))) ?_;refine H8 ?_;have i:=fG a;have j:=fG (a+1);have k:=fG n;refine zc 0 (fun b=>?_) fun b=>?_
 ·have h:=A1 ((by simp only[or_pick]at b;exact b):decide _=true);refine I0 ?_;exact A8 M3 (by rw[dJ,A5 B3])
 ·have h:=A2 ((by simp only[or_pick]at b;exact b):decide _=false);refine zc 12 (fun b=>?_) fun b=>?_
  ·have c:=A1 b;refine H8 ?_;refine F0 (kZ a) (A9 (l5 A0 A0 SH) A0 (H8 ?_));exact A8 M3 (by rw[dJ,A6 B3,A5 c])
  ·have c:=A2 b;refine zc 5 (fun b=>?_) fun b=>?_
   ·have d:=A1 b;refine R6 ?_;refine F0 (kZ (a+1)) (H8 ?_);exact A8 M3 (by rw[dJ,A6 B3,A6 c,A5 d])
   ·have d:=A2 b;refine I0 ?_;refine F0 (kZ (a+1)) (A9 (l5 A0 A0 SH) A0 (F8 ?_));refine F0 (kZ n) (A9 (l5 A0 A0 SH) A0 (H8 ?_));exact A8 M3 (by rw[dJ,A6 B3,A6 c,A6 d])
theorem qT(B b:Nat)(l:List UInt8)(w:World)(h:Lib.IsBuilder 184 5 B b (Lib.byteCells l) w)(a:B<=w.heap.size) :
  Calls prog 98 #[.pointer (some ⟨b,0,none⟩)] w fun e w'=>e=.returned (.string ⟨l.toArray⟩)/\Below B w w':=Tryz.Builder_String_any B b l w h a
theorem b9y{p:Prop}(h:p:=by simp only[B31];omega):p:=h
theorem GR(s:Str)(E:s.length<=16777216):FnOk prog 96 [G5 s] (fun D=>D=[G5 (dI s)]):=by
 refine FnOk.intro Tryz.func96 F5 A0 A0 A0 A0 (zz 18 ?_);refine C1 (X:=Nat) (fun i=>([(0,T0 s),(3,H6 (.bool (plains s i))),(10,B1 s.length),(11,B1 i)],[])) (fun i=>i<=s.length) (fun i=>s.length-i) 0 (B37 _) ?_ ?_
 ·rw[QB];exact C6
 intro i y;dsimp only at y ⊢;refine zc 5 (fun j=>?_) fun j=>?_
 ·have d:i<s.length:=by have:=A1 j;omega
  have w:s[i]?=some s[i]:=by simp[d]
  obtain⟨c,A⟩:∃c,c=s[i]:=⟨_,rfl⟩
  have z:=QC s i d;rw[<-A]at w z;refine zz 13 ?_;refine E3 A0 A0 A0 A0 (fun q=>by have v:=q;(try simp at v);rw[q];exact P9 A0 A0 B3 w) ?_;refine E3 A0 A0 A0 A0 (fun q=>by have v:=q;(try simp at v);rw[q];exact I2 (YM c) A0 A0) ?_;refine J5 ?_;refine⟨i+1,d,by omega,?_⟩;rw[show (if plains s i=true then wJ c else false)=plains s (i+1) from by rw[z];cases plains s i<;>rfl];exact C6
 have m:i=s.length:=by have:=A2 j;omega
 subst m;refine zc 6 (fun j=>?_) fun j=>?_
 ·have h:plains s s.length=true:=j;refine N0 ?_;exact A8 M3 (by rw[CU,A5 h])
 have h:plains s s.length=false:=j;have v:dI s=(34::escs s s.length)++[34]:=by rw[CU,h];rfl
 refine H8 ?_;refine B6 (MI 700 A0) A0 (H2 ?_);refine C3 (B06 701 UInt8 1 RN 5 (kb:=700) (o:=1) A0 A0 A0) (F8 ?_);refine M9 (iU (xs:=[]) (c:=34) ⟨⟨_,.inl rfl,rfl⟩,rfl⟩ eR) A0 A0 A0 (U7 ?_);refine C1 (X:=Nat) (fun i=>([(0,T0 s),(5,.s (.one (.ref 700 0))),(26,B1 s.length),(27,B1 i)],[(700,.tbx 184 [.ref 700 0,.buf 701 UInt8 1 RN (34::escs s i)]),(701,.spare (34::escs s i).length 1 5)])) (fun i=>i<=s.length) (fun i=>s.length-i) 0 (B37 _) (C6) ?_;intro i y;dsimp only at y ⊢;have C:=A78 s i y;refine zc 5 (fun j=>?_) fun j=>?_
 ·have d:i<s.length:=by have:=A1 j;omega
  have w:s[i]?=some s[i]:=by simp[d]
  obtain⟨c,A⟩:∃c,c=s[i]:=⟨_,rfl⟩
  have B:=A15 s i d;have z:=IB c;rw[<-A]at w B;refine o9 ?_;refine A9 (P9 A0 A0 B3 w) A0 (F0 (SM c) (M9 (d9 (xs:=34::escs s i) (s:=kC c) ⟨⟨_,.inr rfl,rfl⟩,rfl⟩ b9y) A0 A0 A0 (I0 ?_)));refine⟨i+1,d,by omega,?_⟩;rw[B];exact C6
 have m:i=s.length:=by have:=A2 j;omega
 subst m;refine H8 ?_;refine M9 (iU (xs:=34::escs s s.length) (c:=34) ⟨⟨_,.inr rfl,rfl⟩,rfl⟩ b9y) A0 A0 A0 (H8 ?_);refine FX (k:=700) (k':=701) ⟨_,rfl,rfl,rfl⟩ qT A0 A0 A0 A0 A0 (.inr A0) A0 (H8 ?_);exact A8 M3 (by rw[v])
theorem GS(s:Str)(c:UInt8):FnOk prog 83 [G5 s,G5 [c]] (fun a=>a=[E2 (s.count c)]) :=
 A95 (xs:=[.string ⟨s.toArray⟩,.string ⟨#[c]⟩]) ⟨_,rfl,rfl,rfl⟩ rfl fun w=>by simpa[Lib.countByte] using Tryz.strings_Count_one ⟨s.toArray⟩ c w
theorem YN(s:Str)(c:UInt8):FnOk prog 128 [G5 s,G5 [c]] (fun a=>a=[E2 (Lib.indexByte s c)]) :=
 A95 (xs:=[.string ⟨s.toArray⟩,.string ⟨#[c]⟩]) ⟨_,rfl,rfl,rfl⟩ rfl fun w=>by simpa using Tryz.strings_Index_one ⟨s.toArray⟩ c w
abbrev tO(l:List Str):Ob:=.grow 9 Str 1 K6 l
theorem JW(s:Str)(M:s.length<=536870912):AL.Met prog 84 [(G5 s).s1,(G5 [10]).s1,(E2 1).s1,(E2 (-1)).s1] [] [] [] (fun J ob'=>J=[.one (.mut 9)]/\ob'=[(9,tO (S2 s))]):=by
 have E:=n9 s [];have K:s.count 10<=s.length:=List.count_le_length;have v:([10]:Str).length=1:=rfl;obtain⟨P,k⟩:∃P,P=S2 s:=⟨_,rfl⟩
 have F:P.length=s.count 10+1:=by rw[k];exact E
 refine AL.Met.intro Tryz.func84 F5 A0 A0 A0 ?_;refine zc 10 (fun c=>?_) fun c=>?_
 ·exact absurd (A1 c) B3
 refine zc 7 (fun c=>?_) fun c=>?_
 ·exact absurd (A1 c) eR
 refine zc 7 (fun c=>?_) fun c=>?_;rotate_left
 ·exact absurd (A2 c) B3
 skip;refine H8 ?_;refine F0 (GS s 10) (zz 13 ?_);rw[show (if (s.length:Int)+1<(s.count 10:Int)+1 then (s.length:Int)+1 else (s.count 10:Int)+1)=(P.length:Int) from by split<;>omega];refine H2 ?_;refine B6 (f_makeG 9 Str K6 [] A0 A0 B3 B3 (fun _=>b1w) b3x) A0 (zz 14 ?_);refine C1 (X:=Nat×Str) (fun x=>([(0,T0 x.2),(1,T0 [10]),(2,B1 1),(3,B1 ((P.length:Int)-1)),(9,.s (.one (.mut 9))),(10,B1 x.1)],[(9,tO (P.take x.1++List.replicate (P.length-x.1) []))])) (fun x=>x.1+1<=P.length/\P.drop x.1=S2 x.2/\x.2.length<=s.length) (fun x=>P.length-x.1) (0,s) ⟨by dsimp only;omega,k,B29 _⟩ (C6) ?_;rintro⟨i,r⟩ ⟨G,q,I⟩;dsimp only at G q I ⊢;refine zc 7 (fun c=>?_) fun c=>?_
 ·have H:i+1<P.length:=by have:=A1 c;omega
  have A:(10:UInt8)∈r:=by
   have d:=n9 r [];have f:(P.drop i).length=r.count 10+1:=by rw[q];exact d
   rw[B47]at f;exact List.count_pos_iff.1 B3
  rcases i8 10 r with ⟨d,_⟩ | ⟨a,b,d,f,w⟩
  ·exact absurd A d
  obtain⟨y,D⟩:=UZ q d f;have L:r.length=a.length+1+b.length:=by rw[d];simp;omega
  refine N0 ?_;refine F0 (YN r 10) (X0 ?_);rw[w];refine zc 0 (fun c=>?_) fun c=>?_
  ·exact absurd (A1 c) B3
  refine H2 ?_;have p:(P.take i++List.replicate (P.length-i) ([]:Str))[((i:Nat):Int).toNat]?=some []:=by
   rw[B26,B61 b5y,List.getElem?_replicate,A5 b5y]
  refine J5 ?_;refine A9 (sY A0 A0 B3 B3) A0 (A9 (G3 A0 A0 A0 B3 b6y) A0 (V2 (o8 ((r.take ((a.length:Int)+1).toNat)) TySz.out A0 A0 p A0 A0 A0 A0 (fun _ _ _ h=>m8 h) (by intro j d f;rcases j with _ | _ | _ | _ | _ | _ | _ | j<;>first | rfl | omega)) ?_));refine X0 ?_;refine A9 (pB A0 A0 B3 B3) A0 (J5 ?_);have B:r.take (((a.length:Int)+1).toNat)=a++[10]:=by rw[d,show ((a.length:Int)+1).toNat=a.length+1 by omega,show a++10::b=(a++[10])++b by simp,List.take_left' eR]
  have C:r.drop (((a.length:Int)+(([10]:Str).length:Int)).toNat)=b:=by rw[d,v,show ((a.length:Int)+((1:Nat):Int)).toNat=a.length+1 by omega,show a++10::b=(a++[10])++b by simp,List.drop_left' eR]
  refine⟨(i+1,b),⟨by dsimp only;omega,D,by dsimp only;omega⟩,by dsimp only;omega,?_⟩;rw[B,C];dsimp only;rw[<-IC P [] _ i y];exact C6
 ·have z:i+1=P.length:=by have:=A2 c;omega
  have d:=n9 r [];have f:(P.drop i).length=r.count 10+1:=by rw[q];exact d
  rw[B47]at f;have w:(10:UInt8)∉r:=List.count_eq_zero.1 B3;have y:P[i]?=some r:=by rw[<-List.head?_drop,q];unfold S2;rw[FK _ _ w];rfl
  refine H2 ?_;have p:(P.take i++List.replicate (P.length-i) ([]:Str))[((i:Nat):Int).toNat]?=some []:=by
   rw[B26,B61 b5y,List.getElem?_replicate,A5 b5y]
  refine R6 ?_;refine A9 (G3 A0 A0 A0 B3 b6y) A0 (V2 (o8 (r) TySz.out A0 A0 p A0 A0 A0 A0 (fun _ _ _ h=>m8 h) (by intro j d f;rcases j with _ | _ | _ | _ | _ | _ | _ | j<;>first | rfl | omega)) ?_);refine H2 ?_;have e:(P.take i++List.replicate (P.length-i) ([]:Str)).set (i:Int).toNat r=P:=by rw[B26,IC P [] r i y,z];simp
  rw[e];refine X0 ?_;rw[show ((i:Int)+1).toNat=P.length by omega,B38,k];exact D7 Y5 bZ (ObIn.spec (ob':=[(9,_)]) ⟨rfl,trivial⟩) ⟨rfl,rfl⟩
theorem BH(s:Str)(a:s.length<=536870912):AL.Met prog 46 [(G5 s).s1,(G5 [10]).s1] [] [] [] (fun b ob'=>b=[.one (.mut 9)]/\ob'=[(9,tO (S2 s))]):=by
 refine AL.Met.intro Tryz.func46 F5 A0 A0 A0 (R9 ?_);refine mK (JW s a) A0 A0 A0 A0 ?_;rintro _ _ ⟨rfl,rfl⟩;refine⟨rfl,?_⟩;refine H2 ?_;refine F8 ?_;exact D7 Y5 bZ (ObIn.spec (ob':=[(9,_)]) ⟨rfl,trivial⟩) ⟨rfl,rfl⟩
theorem GW(s:Str)(m:s.length<=536870912):FnOk prog 45 [G5 s] (fun j=>j=[E2 (P5 s)]):=by
 have c:=jF s;have k:s.count 10<=s.length:=List.count_le_length;refine FnOk.intro Tryz.func45 F5 A0 A0 A0 A0 (J5 ?_);refine F0 (GS s 10) (H2 ?_);refine kO [(0,T0 s),(3,B1 (D5 s).length)] [] ?_ ?_
 ·refine N0 ?_;refine E3 A0 A0 A0 A0 (fun d=>by have i:=d;(try simp at i);rw[d];exact I2 (pJ s B3) A0 A0) ?_;refine zc 3 (fun a=>?_) fun a=>?_
  ·have h:s≠[]/\ended s=false:=by
    by_cases b:s=[]
    ·simp[b]at a
    ·refine⟨b,?_⟩;simpa[b] using a
   rw[A5 h]at c;skip;refine I0 ?_;rw[c,Int.natCast_add];exact C6
  ·have h:¬(s≠[]/\ended s=false):=by
    rintro⟨b,f⟩;simp[b,f]at a
   rw[A6 h]at c;refine F8 ?_;rw[c];exact C6
 ·refine zc 11 (fun a=>?_) fun a=>?_
  ·have h:=A1 (or_pick.symm.trans a);refine I0 ?_;exact A8 M3 (by rw[P5,A5 B3])
  ·have h:=A2 (or_pick.symm.trans a);refine N0 ?_;exact A8 M3 (by rw[P5,A6 B3])
theorem SN(s:Str)(q:s.length<=536870912):AL.Met prog 21 [(G5 s).s1] [] [] [] (fun x ob'=>x=[.one (.mut 9),(E2 (P6 s).2).s1]/\ob'=[(9,tO (P6 s).1)]):=by
 have k:D5 s=if (S2 s).getLastD []=[] then (S2 s).dropLast else S2 s:=QD s []
 have f:(S2 s).length=s.count 10+1:=n9 s [];have v:s.count 10<=s.length:=List.count_le_length;refine AL.Met.intro Tryz.func21 F5 A0 A0 A0 (U7 ?_);refine F0 (GW s q) ?_;refine zc 7 (fun c=>?_) fun c=>?_
 ·have h:P5 s≠0:=by simpa using c
  have b:s.length>1048576\/(D5 s).length>4096:=by
   by_cases b:s.length>1048576\/(D5 s).length>4096
   ·exact b
   ·exact absurd (by rw[P5,A6 b]) h
  refine H8 ?_;refine B6 (MK 9 _ K6 A0) A0 (H8 ?_);refine D7 b4y bZ (ObIn.spec (ob':=[(9,_)]) ⟨rfl,trivial⟩) ?_;rw[P6,A5 b,P5,A5 b];exact⟨rfl,rfl⟩
 ·have h:P5 s=0:=by simpa using c
  have b:¬(s.length>1048576\/(D5 s).length>4096):=fun b=>by rw[P5,A5 b]at h;omega
  have w:(S2 s)[(S2 s).length-1]?=some ((S2 s).getLastD []):=by
   rw[<-List.getLast?_eq_getElem?,List.getLast?_eq_some_getLast (fun e=>by rw[e]at f;simp at f)];rw[List.getLastD_eq_getLast?,List.getLast?_eq_some_getLast (fun e=>by rw[e]at f;simp at f)];rfl
  have j:(((S2 s).length:Int)-1).toNat=(S2 s).length-1:=by omega
  refine R6 ?_;refine mK (BH s q) A0 A0 A0 A0 ?_;rintro _ _ ⟨rfl,rfl⟩;refine⟨rfl,?_⟩;refine H2 ?_;refine GO ?_;refine kO [(5,.s (.one (.mut 9)))] [(9,tO (D5 s))] ?_ ?_
  ·refine J5 ?_;refine A9 (V8 A0 A0 (by rw[j];exact w) A0) A0 ?_;refine zc 2 (fun c=>?_) fun c=>?_
   ·have i:=A1 c;skip;refine X0 ?_;rw[k,A5 i,List.dropLast_eq_take,<-j];exact C6
   ·have i:=A2 c;refine F8 ?_;rw[k,A6 i];exact C6
  ·refine J5 ?_;refine D7 b4y bZ (ObIn.spec (ob':=[(9,_)]) ⟨rfl,trivial⟩) ?_;rw[P6,A6 b];exact⟨rfl,rfl⟩
theorem jV(s:Str)(b:s.length<=536870912):FnOk prog 21 [G5 s] (fun rs=>rs=[aI (P6 s).1,E2 (P6 s).2]) :=
 FnOk.ofMet (SN s b) fun rs ob' a=>by
  obtain⟨rfl,rfl⟩:=a;exact⟨9,Str,1,K6,(P6 s).1,_,[aI (P6 s).1,E2 (P6 s).2],rfl,rfl,rfl,rfl⟩
attribute [local go_sem] Oper.semAt_some
theorem qU:∀(a r b:Str),47∉a->J6 b (a++47::r)=(b++a)::J6 [] r
 | [],r,b,_=>by simp[J6]
 | x::a,r,b,h=>by
  have c:x≠47:=fun e=>h (by simp[e]);rw[B66,J6,A6 c,qU a r _ (fun e=>h (by simp[e])),B51];rfl
theorem qV:∀(a b:Str),47∉a->J6 b a=[b++a]
 | [],b,_=>by simp[J6]
 | x::a,b,h=>by
  have c:x≠47:=fun e=>h (by simp[e]);rw[J6,A6 c,qV a _ (fun e=>h (by simp[e])),B51];rfl
theorem m9{W:World}{B:Nat}{v:Value}{t:TypeId}(h:W.heap[B]?=some (.cells #[v] t (0,0))):W.cell? ⟨B,0,none⟩=some v/\W.frozen? ⟨B,0,none⟩=false:=by
 constructor<;>simp[World.cell?,World.frozen?,h]
structure RInv (rec:LoopState->Option Code->Loop) (n0:Nat) (w0:World) (l D b2 bs bp bv:Nat) (rest:Str) (W:World):Prop where
 s:W.heap[bs]?=some (.cells #[.string ⟨rest.toArray⟩] 9 (0,0))
 p:W.heap[bp]?=some (.cells #[.string ⟨#[47]⟩] 9 (0,0))
 v:W.heap[bv]?=some (.cells #[.int .i64 0] 3 (0,0))
 r:W.heap[b2]?=some (.cells #[.int .i64 0] 29 (0,0))
 l:W.heap[l]?=some (.loop (rec .ready none))
 d:W.heap[D]?=some (.deferred (some []))
 b:Below n0 w0 W
structure RFin (rec:LoopState->Option Code->Loop) (n0:Nat) (w0:World) (l D b2:Nat) (W:World):Prop where
 r:W.heap[b2]?=some (.cells #[.int .i64 210] 29 (0,0))
 l:W.heap[l]?=some (.loop (rec .done (some .ret)))
 d:W.heap[D]?=some (.deferred (some []))
 b:Below n0 w0 W
def leftIn(a:Nat)(W:World):Nat:=match W.cell? ⟨a,0,none⟩ with | some (.string s)=>s.size | _=>0
theorem cN{W:World}{B:Nat}{v f:Value}{t:TypeId}(h:W.heap[B]?=some (.cells #[v] t (0,0))):(W.setCell ⟨B,0,none⟩ f).heap[B]?=some (.cells #[f] t (0,0)):=by
 obtain⟨d,b⟩:=B39.1 h;show (W.heap.modify B _)[B]?=_;rw[Array.getElem?_eq_getElem (by rw[Array.size_modify];exact d),Array.getElem_modify_self,b];rfl
theorem RInv.step{rec:LoopState->Option Code->Loop}{m:Nat}{o:World}{l D e c f j:Nat}{rest:Str}{W:World}(h:RInv rec m o l D e c f j rest W)(k:c≠f/\c≠j/\c≠e/\c≠l/\c≠D/\m<=c)(r:Str) :
  RInv rec m o l D e c f j r (W.setCell ⟨c,0,none⟩ (.string ⟨r.toArray⟩)):=by
 obtain⟨q,u,w,x,y,z⟩:=k;exact⟨cN h.s,(Below.heap_setCell W _ _ _ (Ne.symm q)).trans h.p,(Below.heap_setCell W _ _ _ (Ne.symm u)).trans h.v,(Below.heap_setCell W _ _ _ (Ne.symm w)).trans h.r,(Below.heap_setCell W _ _ _ (Ne.symm x)).trans h.l,(Below.heap_setCell W _ _ _ (Ne.symm y)).trans h.d,h.b.setCell (p:=⟨c,0,none⟩) z _⟩
theorem NN{rec:LoopState->Option Code->Loop}{n0:Nat}{w0:World}{l D b2 bs bp bv:Nat}(hne:bs≠bp/\bs≠bv/\bs≠b2/\bs≠l/\bs≠D/\n0<=bs)
  (hIdx:∀(s:Str) (w:World),Calls prog 128 #[.string ⟨s.toArray⟩,.string ⟨#[47]⟩] w (fun e w'=>e=.returned (.int .i64 (Lib.indexByte s 47))/\w'=w))
  (hY:∀rest x W,RInv rec n0 w0 l D b2 bs bp bv rest W->YieldAt Fence.wide 3 prog l #[.string ⟨x.toArray⟩] W (fun e W'=>(U8 x=true/\e=.returned (.bool true)/\RInv rec n0 w0 l D b2 bs bp bv rest W')\/(U8 x=false/\e=.returned (.bool false)/\RFin rec n0 w0 l D b2 W')))
  (p:Str)(hp:p.length<=1073741824)(W:World)(hI:RInv rec n0 w0 l D b2 bs bp bv p W) :
  CallsIn Fence.wide 4 prog 192 #[.func (.yield l) #[] #[],.pointer (some ⟨bp,0,none⟩),.pointer (some ⟨bs,0,none⟩),.pointer (some ⟨bv,0,none⟩)] W (fun e W'=>(∃v,e=.returned v) /\
   (((J6 [] p).all U8=true/\∃rest,RInv rec n0 w0 l D b2 bs bp bv rest W')\/((J6 [] p).all U8=false/\RFin rec n0 w0 l D b2 W'))):=by
 refine callsIn_of_wp Tryz.func192 rfl trivial ?_ rfl;simp only[Tryz.ntmps192,List.size_toArray,B31,List.length_nil,Nat.reduceAdd,Nat.reduceSub,Array.replicate_succ,Array.replicate_zero,List.push_toArray,List.append_toArray,B74,B66];have hcp:=m9 hI.p
 gi_wp2
 gi_loopw [7] (fun v wr=>∃rest:Str,rest.length<=p.length/\(J6 [] p).all U8=(J6 [] rest).all U8/\RInv rec n0 w0 l D b2 bs bp bv rest wr) (fun v wr=>leftIn bs wr)
 case atStart=>exact⟨p,B29 _,rfl,hI⟩
 case round =>
  obtain⟨rest,hl,hall,hR⟩:=hrel;obtain⟨hs1,hs2⟩:=m9 hR.s;obtain⟨hp1,hp2⟩:=m9 hR.p;obtain⟨hv1,hv2⟩:=m9 hR.v;rcases i8 47 rest with ⟨h1,h2⟩ | ⟨x,r,h1,h2,h3⟩
  ·rw[qV _ _ h1]at hall;obtain⟨fn,tmps,assign,body,hy,hRd⟩:=hY rest rest wr hR
   gi_wp2_with (refine⟨trivial,?_⟩;gi_at_call 128;refine (callsIn_wide.2 (hIdx rest _)).mono ?_;rintro e w' ⟨rfl,rfl⟩;rw[h2])
   refine hRd.mono ?_;rintro e W' (⟨h5,rfl,h6⟩ | ⟨h5,rfl,h6⟩)
   ·gi_wp2
    go_end0
    exact⟨⟨_,rfl⟩,.inl ⟨by simp[hall,h5],rest,h6⟩⟩
   ·gi_wp2
    go_end0
    exact⟨⟨_,rfl⟩,.inr ⟨by simp[hall,h5],h6⟩⟩
  ·subst h1;rw[qU _ _ _ h2,List.all_cons]at hall;have hxl:x.length<(x++47::r).length:=by simp
   have hex:(⟨(x++47::r).toArray⟩:ByteArray).extract 0 x.length=⟨x.toArray⟩:=by
    apply ByteArray.ext;rw[ByteArray.data_extract];simp
   have hex2:(⟨(x++47::r).toArray⟩:ByteArray).extract (x.length+1) (x.length+(r.length+1))=⟨r.toArray⟩:=by
    apply ByteArray.ext;rw[ByteArray.data_extract];simp;exact B77 B3
   obtain⟨fn,tmps,assign,body,hy,hRd⟩:=hY _ x wr hR
   gi_wp2_with (refine⟨trivial,?_⟩;gi_at_call 128;refine (callsIn_wide.2 (hIdx _ _)).mono ?_;rintro e w' ⟨rfl,rfl⟩;rw[h3])
   refine hRd.mono ?_;rintro e W' (⟨h5,rfl,h6⟩ | ⟨h5,rfl,h6⟩)
   ·obtain⟨hs3,hs4⟩:=m9 h6.s;obtain⟨hp3,hp4⟩:=m9 h6.p
    gi_wp2
    try rw[hex2]
    have h7:=h6.step hne r;refine⟨⟨r,by simp at hl;omega,by simp[hall,h5],h7⟩,?_⟩;unfold leftIn;rw[(m9 h7.s).1,hs1];show r.toArray.size<(x++47::r).toArray.size;simp;omega
   ·gi_wp2
    refine bodyPost_ret (results_none A0 _ _ _) A0 ?_;exact⟨⟨_,rfl⟩,.inr ⟨by simp[hall,h5],h6⟩⟩
def chkPost(b:Nat)(x:Str)(W:World):Exit->Act->World->Prop
 | .normal,_,W'=>U8 x=true/\W'=W
 | .ret,_,W'=>U8 x=false/\W'=W.setCell ⟨b,0,none⟩ (.int .i64 210)
 | _,_,_=>False
theorem NO{ps:Array Tmp}{assign body:Code}{Q:Exit->Act->World->Prop}{a:Act}{w:World}{g:Operand}{b2 bs bp bv:Nat}{n0:Nat}{w0:World}{p:Str}(hp:p.length<=1073741824)
  (hne:bs≠bp/\bs≠bv/\bs≠b2/\n0<=bs/\n0<=b2)(hlt:bs<w.heap.size/\b2<w.heap.size/\n0<=w.heap.size)(hps:ps.size=1)
  (hIdx:∀(s:Str) (w:World),Calls prog 128 #[.string ⟨s.toArray⟩,.string ⟨#[47]⟩] w (fun e w'=>e=.returned (.int .i64 (Lib.indexByte s 47))/\w'=w))
  (hg:a.eval g=.func (.func 192) #[] #[.pointer (some ⟨bp,0,none⟩),.pointer (some ⟨bs,0,none⟩),.pointer (some ⟨bv,0,none⟩)])
  (hs:w.heap[bs]?=some (.cells #[.string ⟨p.toArray⟩] 9 (0,0)))(hsp:w.heap[bp]?=some (.cells #[.string ⟨#[47]⟩] 9 (0,0)))(hsv:w.heap[bv]?=some (.cells #[.int .i64 0] 3 (0,0)))(hr:w.heap[b2]?=some (.cells #[.int .i64 0] 29 (0,0)))(hb:Below n0 w0 w)
  (a₁:Str->Act)
  (hassign:∀(l:Nat) (x:Str) (W:World) (K:Act->World->Prop),K (a₁ x) W ->
   assign.wpIn (Fence.wide.inRound l) 3 prog (Exit.then K (fun _ _ _=>False)) { tmps:=(ps.zip #[Value.string ⟨x.toArray⟩]).foldl (fun t (p,v)=>t.setIfInBounds p v) a.tmps,defers:=[] } W)
  (hbody:∀(l:Nat) (x:Str) (W:World),W.heap[b2]?=some (.cells #[.int .i64 0] 29 (0,0))->body.wpIn (Fence.wide.inRound l) 3 prog (chkPost b2 x W) (a₁ x) W)
  (hdone:∀(D:Nat) (W:World),w.heap.size<=D->(J6 [] p).all U8=true->W.heap[b2]?=some (.cells #[.int .i64 0] 29 (0,0))->W.heap[D]?=some (.deferred (some []))->Below n0 w0 W->Q .normal { a with defers:={ target:=.collected D,args:=#[] }::a.defers } W)
  (hstop:∀(D:Nat) (W:World),w.heap.size<=D->(J6 [] p).all U8=false->W.heap[b2]?=some (.cells #[.int .i64 210] 29 (0,0))->W.heap[D]?=some (.deferred (some []))->Below n0 w0 W->Code.ret.wpIn Fence.wide 5 prog Q { a with defers:={ target:=.collected D,args:=#[] }::a.defers } W) :
  (Code.rangeFunc g ps assign body).wpIn Fence.wide 5 prog Q a w:=by
 refine wpIn_rangeFunc ?_;intro fn hfn;obtain⟨rec,hrec⟩:∃rec:LoopState->Option Code->Loop,rec=fun st pe=>{ state:=st,pending:=pe,fn,tmps:=a.tmps,params:=ps,assign,body,defers:=w.heap.size }:=⟨_,rfl⟩
 obtain⟨W1,hW1⟩:∃W1,(w.alloc (.deferred (some []))).alloc (.loop (rec .ready none))=W1:=⟨_,rfl⟩
 have old:∀k o,w.heap[k]?=some o->W1.heap[k]?=some o:=fun k o h=>by
  have hlt:=(B39.1 h).1;rw[<-hW1];exact (Below.heap_alloc _ _ _ (by rw[World.size_alloc];omega)).trans ((Below.heap_alloc _ _ _ hlt).trans h)
 have hL1:W1.heap[w.heap.size+1]?=some (.loop (rec .ready none)):=by
  rw[<-hW1];have:=World.alloc_heap_new (w.alloc (.deferred (some []))) (.loop (rec .ready none));rwa[World.size_alloc]at this
 have hK1:W1.heap[w.heap.size]?=some (.deferred (some [])):=by
  rw[<-hW1];exact (Below.heap_alloc _ _ _ eR).trans (World.alloc_heap_new w _)
 have hb1:Below n0 w0 W1:=by
  rw[<-hW1];exact hb.trans (((Below.refl n0 w).alloc hlt.2.2 _).alloc SH _)
 refine⟨w.heap.size+1,[{ target:=.collected w.heap.size,args:=#[] }],W1,{ target:=.fn (.func 192) #[.pointer (some ⟨bp,0,none⟩),.pointer (some ⟨bs,0,none⟩),.pointer (some ⟨bv,0,none⟩)],args:=#[.func (.yield (w.heap.size+1)) #[] #[]] },W1,192,
  #[.func (.yield (w.heap.size+1)) #[] #[],.pointer (some ⟨bp,0,none⟩),.pointer (some ⟨bs,0,none⟩),.pointer (some ⟨bv,0,none⟩)],W1,?_,?_,?_,?_,fun _=>by omega,?_⟩
 ·rw[<-hW1,hrec];exact run_enterLoop_outer _ _ _ _ _
 ·simp only[resolve,hg];simp[go_sem]
 ·intro f' hf';trivial
 ·simp[invoke,go_sem]
 ·have hY:∀rest x W,RInv rec n0 w0 (w.heap.size+1) w.heap.size b2 bs bp bv rest W->YieldAt Fence.wide 3 prog (w.heap.size+1) #[.string ⟨x.toArray⟩] W (fun e W'=>(U8 x=true/\e=.returned (.bool true)/\RInv rec n0 w0 (w.heap.size+1) w.heap.size b2 bs bp bv rest W')\/(U8 x=false/\e=.returned (.bool false)/\RFin rec n0 w0 (w.heap.size+1) w.heap.size b2 W')):=by
   intro rest x W hI;have hy:=run_yield (P:=prog) (args:=#[Value.string ⟨x.toArray⟩]) hI.l (by rw[hrec];exact hps.symm);rw[hrec]at hy;refine⟨fn,_,assign,body,hy,roundIn_of_wpIn hfn (hassign _ x W _ ⟨_,run_beginRound hI.l (by rw[hrec]),?_⟩)⟩;have hltl:w.heap.size+1<W.heap.size:=(B39.1 hI.l).1;obtain⟨W2,hW2⟩:∃W2,W.putObj (w.heap.size+1) (.loop { rec .ready none with state:=.busy })=W2:=⟨_,rfl⟩
   rw[hW2];have oth:∀k,k≠w.heap.size+1->W2.heap[k]?=W.heap[k]?:=fun k hk=>by rw[<-hW2];exact World.putObj_heap_other hk
   have hl2:W2.heap[w.heap.size+1]?=some (.loop { rec .ready none with state:=.busy }):=by rw[<-hW2];exact World.putObj_heap_same hltl
   have hbB:∀(o:Obj) (X:World),Below n0 w0 X->w.heap.size+1<X.heap.size->Below n0 w0 (X.putObj (w.heap.size+1) o):=fun o X hX hXs=>hX.grown (grownBy_putObj' X _ o) (by have:=hX.size;omega) (fun k e=>by cases e;omega);have hb2:Below n0 w0 W2:=by rw[<-hW2];exact hbB _ _ hI.b hltl
   refine wpIn_mono (hbody _ x W2 ((oth _ B3).trans hI.r)) ?_;rintro e a3 W3 hp;cases e with
   | normal =>
    obtain⟨hok,rfl⟩:=hp;refine⟨_,_,run_endRound none hl2,.inl ⟨hok,rfl,?_⟩⟩;have fin:∀k,k≠w.heap.size+1->(W3.putObj (w.heap.size+1) (.loop { rec .ready none with state:=.ready,pending:=none })).heap[k]?=W.heap[k]?:=fun k hk=>(World.putObj_heap_other hk).trans (oth k hk);have hsz:w.heap.size+1<W3.heap.size:=(B39.1 hl2).1;have hbs:=(B39.1 hs).1;have hbp:=(B39.1 hsp).1;have hbv:=(B39.1 hsv).1;refine⟨(fin _ B3).trans hI.s,(fin _ B3).trans hI.p,(fin _ B3).trans hI.v,(fin _ B3).trans hI.r,?_,(fin _ B3).trans hI.d,hbB _ _ hb2 hsz⟩;refine (World.putObj_heap_same hsz).trans ?_;rw[hrec];rfl
   | ret =>
    obtain⟨hok,rfl⟩:=hp;have hl3:(W2.setCell ⟨b2,0,none⟩ (.int .i64 210)).heap[w.heap.size+1]?=some (.loop { rec .ready none with state:=.busy }):=(Below.heap_setCell W2 _ _ _ (by show w.heap.size+1≠b2;omega)).trans hl2;have hsz:w.heap.size+1<(W2.setCell ⟨b2,0,none⟩ (.int .i64 210)).heap.size:=(B39.1 hl3).1;refine⟨_,_,run_endRound (some .ret) hl3,.inr ⟨hok,rfl,?_⟩⟩;refine⟨(World.putObj_heap_other B3).trans (cN ((oth _ B3).trans hI.r)),?_,?_,hbB _ _ (hb2.setCell (p:=⟨b2,0,none⟩) hne.2.2.2.2 _) hsz⟩
    ·refine (World.putObj_heap_same hsz).trans ?_;rw[hrec];rfl
    ·exact (World.putObj_heap_other B3).trans ((Below.heap_setCell W2 _ _ _ (by show w.heap.size≠b2;omega)).trans ((oth _ B3).trans hI.d))
   | _=>exact hp.elim
  refine (NN ⟨hne.1,hne.2.1,hne.2.2.1,by omega,by omega,hne.2.2.2.1⟩ hIdx hY p hp W1 ⟨old _ _ hs,old _ _ hsp,old _ _ hsv,old _ _ hr,hL1,hK1,hb1⟩).mono ?_;have hbE:∀(o:Obj) (X:World),Below n0 w0 X->w.heap.size+1<X.heap.size->Below n0 w0 (X.putObj (w.heap.size+1) o):=fun o X hX hXs=>hX.grown (grownBy_putObj' X _ o) (by have:=hX.size;omega) (fun k e=>by cases e;omega);rintro e W2 ⟨⟨v,rfl⟩,(⟨hall,rest,hI⟩ | ⟨hall,hI⟩)⟩
  ·have hsz:w.heap.size+1<W2.heap.size:=(B39.1 hI.l).1;refine⟨none,_,by have:=run_endLoop (P:=prog) hI.l (by rw[hrec];simp);rw[hrec]at this;exact this,?_⟩;exact hdone _ _ (B29 _) hall ((World.putObj_heap_other B3).trans hI.r) ((World.putObj_heap_other B3).trans hI.d) (hbE _ _ hI.b hsz)
  ·have hsz:w.heap.size+1<W2.heap.size:=(B39.1 hI.l).1;refine⟨some .ret,_,by have:=run_endLoop (P:=prog) hI.l (by rw[hrec];simp);rw[hrec]at this;exact this,?_⟩;exact hstop _ _ (B29 _) hall ((World.putObj_heap_other B3).trans hI.r) ((World.putObj_heap_other B3).trans hI.d) (hbE _ _ hI.b hsz)
theorem NP(w:World)(s p:ByteArray):CallsIn Fence.wide 3 prog 179 #[.string s,.string p,.int .i64 0] w fun e w' =>
  e=.returned (.func (.func 192) #[] #[.pointer (some ⟨w.heap.size+1,0,none⟩),.pointer (some ⟨w.heap.size,0,none⟩),.pointer (some ⟨w.heap.size+1+1,0,none⟩)]) /\
  w'=((w.alloc (.cells #[.string s] 9)).alloc (.cells #[.string p] 9)).alloc (.cells #[.int .i64 0] 3):=by
 have hmf:∀(fn:Fn) (first cap:Array Value) (w:World),(Instr.makeFunc fn first cap).run prog w=.ok (.func fn first cap) w:=fun _ _ _ _=>rfl;refine callsIn_of_wp Tryz.func179 rfl trivial ?_ rfl;simp only[Tryz.ntmps179,List.size_toArray,B31,List.length_nil,Nat.reduceAdd,Nat.reduceSub,Array.replicate_succ,Array.replicate_zero,List.push_toArray,List.append_toArray,B74,B66]
 gi_wp2
 go_ret
 exact⟨rfl,rfl⟩
theorem NQ(w:World)(s p:ByteArray):CallsIn Fence.wide 4 prog 159 #[.string s,.string p] w fun e w' =>
  e=.returned (.func (.func 192) #[] #[.pointer (some ⟨w.heap.size+1,0,none⟩),.pointer (some ⟨w.heap.size,0,none⟩),.pointer (some ⟨w.heap.size+1+1,0,none⟩)]) /\
  w'=((w.alloc (.cells #[.string s] 9)).alloc (.cells #[.string p] 9)).alloc (.cells #[.int .i64 0] 3):=by
 refine callsIn_of_wp Tryz.func159 rfl trivial ?_ rfl;simp only[Tryz.ntmps159,List.size_toArray,B31,List.length_nil,Nat.reduceAdd,Nat.reduceSub,Array.replicate_succ,Array.replicate_zero,List.push_toArray,List.append_toArray,B74,B66]
 gi_wp2_with (refine⟨trivial,?_⟩;gi_at_call 179;refine (NP _ _ _).mono ?_;rintro e w' ⟨rfl,rfl⟩)
 go_ret
 exact⟨rfl,rfl⟩
theorem tP{tmps:Array Value}{b:Nat}{v:Value}{W:World}(ht:tmps[2]?.getD undef=.pointer (some ⟨b,0,none⟩))(hc:W.heap[b]?=some (.cells #[v] 29 (0,0))):(results Tryz.f123 tmps).run prog W=.ok v W:=by
 have h1:=(m9 hc).1;simp[results,Tryz.results123,go_sem,h1,ht]
theorem JX(p:Str)(hp:p.length<=1073741824)
  (hIdx:∀(s:Str) (w:World),Calls prog 128 #[.string ⟨s.toArray⟩,.string ⟨#[47]⟩] w (fun e w'=>e=.returned (.int .i64 (Lib.indexByte s 47))/\w'=w))
  (hCon:∀(s:Str) (w:World),Calls prog 158 #[.string ⟨s.toArray⟩,.string ⟨#[0]⟩] w (fun e w'=>e=.returned (.bool (decide (0<=Lib.indexByte s 0)))/\w'=w))(w:World) :
  CallsIn Fence.wide 5 prog 123 #[.string ⟨p.toArray⟩] w (fun e w'=>e=.returned (.int .i64 (if p.length>200\/0<=Lib.indexByte p 0 then 210 else if (J6 [] p).all U8=true then 0 else 210))/\Below w.heap.size w w'):=by
 refine callsIn_of_wp_marks Tryz.func123 rfl trivial ?_ rfl;simp only[Tryz.ntmps123,List.size_toArray,B31,List.length_nil,Nat.reduceAdd,Nat.reduceSub,Array.replicate_succ,Array.replicate_zero,List.push_toArray,List.append_toArray,B74,B66];have hnew:=m9 (World.alloc_heap_new w (.cells #[.int .i64 0] 29));have hB:Below w.heap.size w (w.alloc (.cells #[.int .i64 0] 29)):=(Below.refl _ w).alloc (B29 _) _;by_cases h1:200<p.length
 ·rw[A5 (.inl h1)]
  gi_wp2_with (refine⟨trivial,?_⟩)
  exact⟨_,tP rfl (World.alloc_heap_new w _),rfl,(Below.refl _ w).alloc (B29 _) _⟩
 by_cases h2:0<=Lib.indexByte p 0
 ·rw[A5 (.inr h2)]
  gi_wp2_with (refine⟨trivial,?_⟩;gi_at_call 158;refine (callsIn_wide.2 (hCon p _)).mono ?_;rintro e w' ⟨rfl,rfl⟩)
  exact⟨_,tP rfl (World.alloc_heap_new w _),rfl,(Below.refl _ w).alloc (B29 _) _⟩
 ·rw[A6 B3];obtain⟨r,hr0⟩:∃r:Int,(if (J6 [] p).all U8=true then 0 else 210:Int)=r:=⟨_,rfl⟩
  rw[hr0]
  gi_wp2_with (first | (refine⟨trivial,?_⟩;gi_at_call 158;refine (callsIn_wide.2 (hCon p _)).mono ?_;rintro e w' ⟨rfl,rfl⟩) | (refine⟨trivial,?_⟩;gi_at_call 159;refine (NQ _ _ _).mono ?_;rintro e w' ⟨rfl,rfl⟩))
  obtain⟨W0,hW0⟩:∃W0,(((w.alloc (.cells #[.int .i64 0] 29)).alloc (.cells #[.string ⟨p.toArray⟩] 9)).alloc (.cells #[.string ⟨#[47]⟩] 9)).alloc (.cells #[.int .i64 0] 3)=W0:=⟨_,rfl⟩
  have hsz:W0.heap.size=w.heap.size+4:=by rw[<-hW0];simp
  have g0:W0.heap[w.heap.size]?=some (.cells #[.int .i64 0] 29 (0,0)):=by
   rw[<-hW0];refine (Below.heap_alloc _ _ _ SH).trans ((Below.heap_alloc _ _ _ SH).trans ((Below.heap_alloc _ _ _ eR).trans (World.alloc_heap_new w _)))
  have g1:W0.heap[w.heap.size+1]?=some (.cells #[.string ⟨p.toArray⟩] 9 (0,0)):=by
   rw[<-hW0];refine (Below.heap_alloc _ _ _ eR).trans ((Below.heap_alloc _ _ _ eR).trans ?_);have:=World.alloc_heap_new (w.alloc (.cells #[.int .i64 0] 29)) (.cells #[.string ⟨p.toArray⟩] 9)
   rwa[World.size_alloc]at this
  have g2:W0.heap[w.heap.size+1+1]?=some (.cells #[.string ⟨#[47]⟩] 9 (0,0)):=by
   rw[<-hW0];refine (Below.heap_alloc _ _ _ eR).trans ?_;have:=World.alloc_heap_new ((w.alloc (.cells #[.int .i64 0] 29)).alloc (.cells #[.string ⟨p.toArray⟩] 9)) (.cells #[.string ⟨#[47]⟩] 9);simp only[World.size_alloc]at this;exact this
  have g3:W0.heap[w.heap.size+1+1+1]?=some (.cells #[.int .i64 0] 3 (0,0)):=by
   rw[<-hW0];have:=World.alloc_heap_new (((w.alloc (.cells #[.int .i64 0] 29)).alloc (.cells #[.string ⟨p.toArray⟩] 9)).alloc (.cells #[.string ⟨#[47]⟩] 9)) (.cells #[.int .i64 0] 3);simp only[World.size_alloc]at this;exact this
  have hb0:Below w.heap.size w W0:=by
   rw[<-hW0];exact (((hB.alloc eR _).alloc SH _).alloc SH _)
  rw[hW0];refine NO (b2:=w.heap.size) (bs:=w.heap.size+1) (bp:=w.heap.size+1+1) (bv:=w.heap.size+1+1+1) (n0:=w.heap.size) (w0:=w) (p:=p) hp B3 B3 rfl hIdx rfl g1 g2 g3 g0 hb0 (fun x=>{ tmps:=#[.string ⟨p.toArray⟩,undef,.pointer (some ⟨w.heap.size,0,none⟩),.string ⟨x.toArray⟩,.string ⟨p.toArray⟩,.int .i64 p.length,.bool (decide (200<(p.length:Int))),.bool (decide (200<(p.length:Int))),.string ⟨p.toArray⟩,.bool (decide (0<=Lib.indexByte p 0)),.bool (decide (200<(p.length:Int))||decide (0<=Lib.indexByte p 0)),.string ⟨p.toArray⟩,.func (.func 192) #[] #[.pointer (some ⟨w.heap.size+1+1,0,none⟩),.pointer (some ⟨w.heap.size+1,0,none⟩),.pointer (some ⟨w.heap.size+1+1+1,0,none⟩)],.string ⟨x.toArray⟩,undef,undef,undef,undef,undef,undef,undef,undef,undef,undef],defers:=[] }) ?assign ?body ?done ?stop
  case assign =>
   intro l x W K hK
   gi_wp2
   exact hK
  case body =>
   intro l x W hr;obtain⟨hc1,hc2⟩:=m9 hr;by_cases e1:x=[]
   ·subst e1
    gi_wp2
    exact⟨rfl,rfl⟩
   by_cases e2:x=[46]
   ·subst e2
    gi_wp2
    exact⟨rfl,rfl⟩
   by_cases e3:x=[46,46]
   ·subst e3
    gi_wp2
    exact⟨rfl,rfl⟩
   have f1:x.isEmpty=false:=by cases x with | nil=>exact absurd rfl e1 | cons _ _=>rfl
   have f2:(x == [46])=false:=by simpa using e2
   have f3:(x == [46,46])=false:=by simpa using e3
   have hok:U8 x=true:=A3 ⟨e1,e2,e3⟩;clear e1 e2 e3
   gi_wp2
   all_goals exact⟨hok,rfl⟩
  case done =>
   intro D W hD hall hr hK hb;obtain⟨hc1,hc2⟩:=m9 hr;rw[A5 hall]at hr0;subst hr0;clear hall
   gi_wp2
   have hK2:(W.setCell ⟨w.heap.size,0,none⟩ (.int .i64 0)).heap[D]?=some (.deferred (some [])):=(Below.heap_setCell W _ _ _ (by show D≠w.heap.size;omega)).trans hK;refine⟨by simp,.inl ⟨_,_,rfl,run_takeDeferred hK2,?_⟩⟩;refine⟨_,tP rfl ((World.putObj_heap_other B3).trans (cN hr)),rfl,?_⟩;have hb3:=hb.setCell (p:=⟨w.heap.size,0,none⟩) (B29 _) (.int .i64 0);exact hb3.grown (grownBy_putObj' _ _ _) (by have:=hb3.size;omega) (fun k e=>by cases e;omega)
  case stop =>
   intro D W hD hall hr hK hb;rw[hall,A6 F5]at hr0;subst hr0;clear hall
   gi_wp2
   refine⟨by simp,.inl ⟨_,_,rfl,run_takeDeferred hK,?_⟩⟩;refine⟨_,tP rfl ((World.putObj_heap_other B3).trans hr),rfl,?_⟩;exact hb.grown (grownBy_putObj' W _ _) (by have:=hb.size;omega) (fun k e=>by cases e;omega)
theorem EW(p:Str)(b:p.length<=1073741824):FnOk prog 123 [G5 p] (fun c=>c=[E2 (aM p)]) :=
 B02 (xs:=[.string ⟨p.toArray⟩]) ⟨_,rfl,rfl,rfl⟩ rfl fun w d=>by
  have h:=callsIn_wide.1 (JX p b (fun s w=>by simpa using Tryz.strings_Index_one ⟨s.toArray⟩ 47 w) (fun s w=>by simpa using Tryz.strings_Contains_one ⟨s.toArray⟩ 0 w) w);refine h.mono ?_;rintro e w' ⟨rfl,hb⟩;refine⟨?_,hb⟩;rw[LA];have a:p.contains 0=true↔0<=Lib.indexByte p 0:=by rw[v6,List.contains_iff_mem]
  simp only[a]
structure FewF (l:List File):Prop where
 len:l.length<=1073741824
 path:∀f∈l,f.Path.length<=1073741824
 blob:∀f∈l,f.Blob.length<=16777216
theorem SO(f:File)(a:f.Path.length<=1073741824):FnOk prog 122 [XB f] (fun rs=>rs=[F6 (decide (aM f.Path≠0))]):=by
 refine FnOk.intro Tryz.func122 F5 A0 A0 A0 A0 (H2 ?_);refine B6 (V5 1 A0 A0 A0) A0 (N0 ?_);refine F0 (EW f.Path a) (R6 ?_);exact A8 M3 rfl
theorem SP(f:File)(a:f.Blob.length<=16777216):FnOk prog 125 [XB f] (fun rs=>rs=[F6 (decide (P5 f.Blob≠0))]):=by
 refine FnOk.intro Tryz.func125 F5 A0 A0 A0 A0 (H2 ?_);refine B6 (V5 1 A0 A0 A0) A0 (N0 ?_);refine F0 (GW f.Blob B3) (R6 ?_);exact A8 M3 rfl
theorem rW(l:List File)(h:FewF l):FnOk prog 79 [b9 l] (fun rs=>rs=[E2 (F3 l)]):=by
 have d:=h.len;refine FnOk.intro Tryz.func79 F5 A0 A0 A0 A0 ?_;refine zc 13 (fun a=>?_) fun a=>?_
 ·have g:(200:Int)<l.length:=A1 a;refine I0 ?_;exact A8 (rs:=[E2 1]) M3 (by unfold F3;rw[A5 B3])
 have g:¬(200:Int)<l.length:=A2 a;refine H8 ?_;refine F0 (mM 122 (fun f=>decide (aM f.Path≠0)) l d (fun f c=>SO f (h.path f c))) ?_;refine zc 2 (fun a=>?_) fun a=>?_
 ·refine I0 ?_;exact A8 (rs:=[E2 210]) M3 (by unfold F3;rw[A6 B3,A5 a])
 have b:=a;refine H8 ?_;refine F0 (NJ l d h.path) ?_;refine zc 3 (fun a=>?_) fun a=>?_
 ·refine I0 ?_;exact A8 (rs:=[E2 211]) M3 (by unfold F3;rw[A6 B3,A6 (by rw[b];decide),A5 (by simpa using a)])
 have e:p5 l=true:=by simpa using a
 refine H8 ?_;refine F0 (mM 125 (fun f=>decide (P5 f.Blob≠0)) l d (fun f c=>SP f (h.blob f c))) ?_;refine zc 2 (fun a=>?_) fun a=>?_
 ·refine I0 ?_;exact A8 (rs:=[E2 1]) M3 (by unfold F3;rw[A6 B3,A6 (by rw[b];decide),A6 (by rw[e];decide),A5 a])
 ·refine N0 ?_;exact A8 (rs:=[E2 0]) M3 (by unfold F3;rw[A6 B3,A6 (by rw[b];decide),A6 (by rw[e];decide),A6 (by rw[a];decide)])
theorem A48(a b:List File)(ha:FewF a)(hb:FewF b):FnOk prog 174 [b9 a,b9 b] (fun rs=>rs=[E2 (if F3 a≠0 then F3 a else F3 b)]):=by
 refine FnOk.intro Tryz.func174 F5 A0 A0 A0 A0 (X0 ?_);refine F0 (rW a ha) ?_;refine zc 7 (fun d=>?_) fun d=>?_
 ·have c:F3 a≠0:=A1 d;refine N0 ?_;exact A8 (rs:=[E2 (F3 a)]) M3 (by rw[A5 c])
 ·have c:¬F3 a≠0:=A2 d;refine R6 ?_;refine F0 (rW b hb) (H8 ?_);exact A8 (rs:=[E2 (F3 b)]) M3 (by rw[A6 c])
theorem tQ(l:List File)(p:Str)(n:l.length<=1073741824):FnOk prog 19 [b9 l,G5 p] (fun rs=>rs=[G5 ((K0 l p).getD []),F6 (K0 l p).isSome]):=by
 refine FnOk.intro Tryz.func19 F5 A0 A0 A0 A0 (zz 13 ?_);refine C1 (X:=Nat) (fun i=>([(1,T0 p),(8,B9 File 2 Z7 l),(9,B1 l.length),(10,B1 i)],[])) (fun i=>i<=l.length/\K0 l p=K0 (l.drop i) p) (fun i=>l.length-i) 0 ⟨B37 _,rfl⟩ (C6) ?_;rintro i ⟨k,a⟩;dsimp only at k a ⊢;refine zc 5 (fun d=>?_) fun d=>?_;rotate_left
 ·have b:i=l.length:=by have b:=A2 d;(try dsimp only at b);omega
  rw[B53 B3]at a;rw[a];refine J5 ?_;exact A8 (rs:=[G5 [],F6 false]) nP rfl
 have c:i<l.length:=by have b:=A1 d;(try dsimp only at b);omega
 obtain⟨f,h⟩:∃f,f=l[i]:=⟨_,rfl⟩
 have q:l[i]?=some f:=by rw[h];simp[c]
 rw[B40 c,<-h]at a;have j:K0 (f::l.drop (i+1)) p=if f.Path=p then some f.Blob else K0 (l.drop (i+1)) p:=rfl
 rw[j]at a;refine J5 ?_;refine B6 (E6 7 A0) A0 ?_;refine zc 9 (fun d=>?_) fun d=>?_
 ·have b:f.Path=p:=A1 d;rw[A5 b]at a;rw[a];refine X0 ?_;exact A8 (rs:=[G5 f.Blob,F6 true]) nP rfl
 ·have b:¬f.Path=p:=A2 d;rw[A6 b]at a;refine I0 ?_;exact⟨i+1,⟨c,a⟩,by omega,(C6)⟩
structure FewT (g:Graph):Prop where
 few:FewG g
 tree:∀c∈g,FewF c.Files
theorem FewT.files{g:Graph}(h:FewT g)(c:Nat):FewF (J0 g c):=by
 unfold J0;by_cases a:c<g.length
 ·rw[B23 a];exact h.tree _ (B32 a)
 ·rw[B58 B3];exact⟨by simp,(fun _ h=>by cases h),(fun _ h=>by cases h)⟩
theorem qW:∀{g:List Commit} {i:Nat},(∀k,k<i->∀h:k<g.length,F3 g[k].Files=0)->n7 g=n7 (g.drop i)
 | g,0,_=>rfl
 | [],i+1,_=>by simp
 | c::r,i+1,h=>by
  have a:=h 0 B3 eR;rw[n7,A6 (by simpa using a),List.drop_succ_cons];exact qW fun k d b=>h (k+1) B3 (by simpa using b)
theorem WQ(g:Graph)(h:FewT g):FnOk prog 38 [N2 g] (fun rs=>rs=[E2 (O6 g)]):=by
 have A:=h.few.len;refine FnOk.intro Tryz.func38 F5 A0 A0 A0 A0 (U7 ?_);refine F0 (ND g h.few B3) ?_;refine zc 3 (fun a=>?_) fun a=>?_
 ·have f:bR g=false:=by simpa using a
  refine I0 ?_;exact A8 (rs:=[E2 1]) M3 (by unfold O6;rw[A5 f])
 have m:bR g=true:=by simpa using a
 refine H8 ?_;refine F0 (NE g h.few B3) ?_;refine zc 3 (fun a=>?_) fun a=>?_
 ·have f:related g=false:=by simpa using a
  refine I0 ?_;exact A8 (rs:=[E2 230]) M3 (by unfold O6;rw[A6 (by rw[m];decide),A5 f])
 have d:related g=true:=by simpa using a
 have o:O6 g=if cyclic g=true then 231 else if uF g=true then 3 else n7 g:=by unfold O6;rw[A6 (by rw[m];decide),A6 (by rw[d];decide)]
 rw[o];refine H8 ?_;refine y5 (SK g h.few d) A0 A0 A0 ?_;rintro _ ⟨z,v,rfl,w⟩;refine N0 ?_;have n:=w.done d;have n:decide ((v.length:Int)<g.length)=cyclic g:=by rw[<-n,decide_eq_decide];omega
 refine GO ?_;rw[n];refine zc 0 (fun a=>?_) fun a=>?_
 ·rw[A5 a];refine I0 ?_;exact A8 (rs:=[E2 231]) M3 rfl
 rw[a,A6 F5];refine H8 ?_;refine ET (gW 78 (fun c=>decide (c.Date<0\/c.Date>2147483647)) g B3 (fun c _=>SI c)) A0 A0 A0 ?_;refine zc 2 (fun a=>?_) fun a=>?_
 ·have f:uF g=true:=a;rw[A5 f];refine I0 ?_;exact A8 (rs:=[E2 3]) M3 rfl
 have r:uF g=false:=a;rw[r,A6 F5];refine U7 ?_;refine C1 (X:=Nat) (fun i=>([(24,B9 Commit 3 H0 g),(25,B1 g.length),(26,B1 i)],[])) (fun i=>i<=g.length/\∀k,k<i->∀h:k<g.length,F3 g[k].Files=0) (fun i=>g.length-i) 0 ⟨B37 _,fun c h=>by omega⟩ (C6) ?_;rintro i ⟨x,u⟩;dsimp only at x u ⊢;have b:=qW u;refine zc 5 (fun a=>?_) fun a=>?_
 ·have j:i<g.length:=by have f:=A1 a;(try dsimp only at f);omega
  obtain⟨c,p⟩:∃c,c=g[i]:=⟨_,rfl⟩
  have C:g[i]?=some c:=by rw[p];simp[j]
  have y:c∈g:=by rw[p];exact B32 j
  rw[B40 j,<-p,n7]at b;refine J5 ?_;refine B6 (E6 4 A0) A0 (N0 ?_);refine F0 (rW c.Files (h.tree c y)) ?_;refine zc 7 (fun a=>?_) fun a=>?_
  ·have q:F3 c.Files≠0:=A1 a;rw[A5 q]at b;rw[b];refine N0 ?_;exact A8 (rs:=[E2 (F3 c.Files)]) M3 rfl
  ·have q:¬F3 c.Files≠0:=A2 a;refine I0 ?_;refine⟨i+1,⟨j,fun k B hkl=>?_⟩,by omega,(C6)⟩;by_cases e:k=i
   ·subst e;rw[<-p];exact B84.1 q
   ·exact u k B3 hkl
 have t:i=g.length:=by have f:=A2 a;(try dsimp only at f);omega
 rw[t,List.drop_length]at b;rw[b];refine N0 ?_;exact A8 (rs:=[E2 0]) M3 rfl
theorem NR{w:World}(h:Grd prog (fun _=>False) w):∃m,w.cell? ⟨0,0,none⟩=some (.int .i64 m):=by
 obtain⟨b,⟨d,_⟩,g,f⟩:=h;obtain⟨m,e⟩:=Tryz.laysM143.s1_3 b d;refine⟨m,?_⟩;have c:0<b.heap.size:=World.block_lt_of_cell? b _ e;rw[World.cell?_of_block (w:=b) (a:=⟨0,0,none⟩) (f _ c).1];exact e
theorem pK{g:Graph}{c:Nat}{a:Commit}(h:g[c]?=some a):J0 g c=a.Files:=by unfold J0;rw[h];rfl
def dB(g:Graph)(ps:List Int)(i:Nat):List (List File):=(ps.take i).map fun p=>J0 g p.toNat
theorem JY{g:Graph}{ps:List Int}{i:Nat}(h:i<ps.length):dB g ps (i+1)=dB g ps i++[J0 g ps[i].toNat]:=by
 unfold dB;rw[B48,B23 h,B54,B65];rfl
theorem NS(g:Graph)(ps:List Int)(i:Nat):(dB g ps i).length<=i:=by
 unfold dB;rw[B75,B42];omega
theorem YO(d c:List Str):(fT d c).length<=d.length+c.length:=by
 have key:∀(d:List Str),∀c,(fT d c).length<=d.length+c.length:=by
  intro d;induction d with
  | nil=>intro c;simp[fT]
  | cons a d f =>
   intro c;rw[fT];induction c with
   | nil=>rw[dF];have:=f [];simp only[List.length_nil,B31]at this ⊢;omega
   | cons b c i =>
    rw[dF];split
    ·have:=f (b::c);simp only[B31]at this ⊢;omega
    ·split
     ·simp only[B31]at i ⊢;omega
     ·have:=f c;simp only[B31]at this ⊢;omega
 exact key d c
theorem BI(a b:List File):(i6 a b).length<=a.length+b.length:=by
 unfold i6;have d:=List.length_filterMap_le (lL a b) (fT (a.map (·.Path)) (b.map (·.Path)));have c:=YO (a.map (·.Path)) (b.map (·.Path));rw[B75,B75]at c;omega
theorem Valid.files{g:Graph}(h:Valid g)(c:Nat):(J0 g c).length<=200:=by
 unfold J0;by_cases a:c<g.length
 ·rw[B23 a];exact (dH (h.tree _ (B32 a))).2.1
 ·rw[B58 B3];simp
theorem Valid.trees{g:Graph}(h:Valid g)(c:Nat):∀t∈N4 g c,t.length<=200:=by
 intro t a;unfold N4 at a;split at a
 ·rw[B33.1 a];simp
 ·obtain⟨p,_,rfl⟩:=B62.1 a;exact Valid.files h _
theorem nQ{g:Graph}(h:Valid g)(c:Nat):(N4 g c).length<=33:=by
 unfold N4;split
 ·simp
 ·rw[B75];by_cases a:c<g.length
  ·rw[bQ a];have:=h.pars _ (B32 a);omega
  ·rw[oC a];simp
theorem NT{l:List File}(h:FewF l)(p:Str):(Q7 l p).length<=16777216:=by
 unfold Q7;cases a:K0 l p with
 | none=>simp
 | some x =>
  obtain⟨f,b,_,rfl⟩:=dY a;exact h.blob f b
structure FewB (B:List (List (Str×Str))):Prop where
 len:B.length<=33
 lens:∀l∈B,l.length<=400
 strs:∀l∈B,∀x∈l,x.1.length<=16777216/\x.2.length<=16777216
theorem YP{g:Graph}(h:FewT g)(e:Valid g)(c:Nat):FewB (U0 g c) where
 len:=by unfold U0;rw[B75];exact nQ e c
 lens:=fun l b=>by
  unfold U0 at b;obtain⟨t,a,rfl⟩:=B62.1 b;unfold mB;rw[B75];have i:=BI t (J0 g c);have j:=Valid.trees e c t a;have k:=Valid.files e c;omega
 strs:=fun l b x f=>by
  unfold U0 at b;obtain⟨t,a,rfl⟩:=B62.1 b;unfold mB at f;obtain⟨d,_,rfl⟩:=B62.1 f;refine⟨NT ?_ _,NT (h.files c) _⟩;unfold N4 at a;split at a
  ·rw[B33.1 a];exact⟨by simp,(fun _ h=>by cases h),(fun _ h=>by cases h)⟩
  ·obtain⟨p,_,rfl⟩:=B62.1 a;exact h.files _
def x6(b:List (List File))(u:List File)(i:Nat):List (List (Str×Str)):=(b.take i).map fun t=>mB t u
theorem JZ{a:List (List File)}{u:List File}{i:Nat}(h:i<a.length):x6 a u (i+1)=x6 a u i++[mB a[i] u]:=by
 unfold x6;rw[B48,B23 h,B54,B65];rfl
theorem NU(a:List (List File))(u:List File)(i:Nat):(x6 a u i).length<=a.length:=by
 unfold x6;rw[B75,B42];omega
def dC(t u:List File)(b:List Delta)(i:Nat):List (Str×Str):=(b.take i).map (VK t u)
theorem KA{t u:List File}{a:List Delta}{i:Nat}(h:i<a.length):dC t u a (i+1)=dC t u a i++[VK t u a[i]]:=by
 unfold dC;rw[B48,B23 h,B54,B65];rfl
theorem xG(t u:List File)(a:List Delta)(i:Nat):(dC t u a i).length<=a.length:=by
 unfold dC;rw[B75,B42];omega
end Go.Proofs.YtmbpmaofnddkoaaGreatDoor
