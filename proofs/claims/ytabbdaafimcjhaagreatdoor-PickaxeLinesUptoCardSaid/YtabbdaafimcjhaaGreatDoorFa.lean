
/- Walks of the program's functions. -/
import Derived.Test.YtabbdaafimcjhaaGreatDoorTy
import Derived.Test.YtabbdaafimcjhaaGreatDoorFs
import Derived.Test.YtabbdaafimcjhaaGreatDoorSh
import Derived.Lib.AppendIntMem
set_option linter.all false
namespace Go.Proofs.YtabbdaafimcjhaaGreatDoor
open Go Go.AL
set_option maxRecDepth 100000
set_option maxHeartbeats 4000000
theorem SO(p:Int):0<=IntKind.u64.wrap p:=by simp[IntKind.wrap,IntKind.signed,IntKind.bits];omega
theorem F2{p:Prop}(h:p:=by decide):p:=h
theorem B3{p:Prop}(h:p:=by omega):p:=h
theorem A54(s:Str)(g:s.length<=1099511627776):FnOk Tryz.prog 61 [F3 s] (fun rs=>rs=[E1 (ended s)]):=by
 refine FnOk.intro Tryz.func61 F2 A0 A0 A0 A0 (zz 5 ?_);have f:s≠[]->s[((s.length:Int)-1).toNat]?=some (s.getLastD 0):=by
  intro h;have d:0<s.length:=List.length_pos_iff.2 h;have e:((s.length:Int)-1).toNat=s.length-1:=by omega
  rw[e,<-List.getLast?_eq_getElem?,List.getLast?_eq_some_getLast h,List.getLastD_eq_getLast?,List.getLast?_eq_some_getLast h];rfl
 refine zz 2 ?_;refine B0 (zF A0 A0) A0 (zz 4 ?_);refine F7 A0 A0 A0 A0 (fun b=>by have c:=b;(try simp at c);rw[b];exact aL A0 A0 B3) ?_;refine F7 A0 A0 A0 A0 (fun b=>by have c:=b;(try simp at c);have d:=List.length_pos_iff.2 c;rw[b];exact G9 A0 A0 B3 (f c)) ?_;refine zz 5 ?_;refine B2 (G6 A0 A0 A0) ?_;rw[A83]
theorem dV{p:Prop}(h:p:=by simp):p:=h
theorem nG(b:Str)(hb:b.length<=536870912):FnOk Tryz.prog 31 [F3 b] (fun rs=>rs=[n7 (E2 b)]):=by
 refine FnOk.intro Tryz.func31 F2 A0 A0 A0 A0 (zz 6 ?_);refine C4 (O9 3 _ K7 A0) A0 (zz 11 ?_);refine C2 (X:=Nat×Nat×List Str) (fun x=>([(0,Q6 b),(3,.s (.one (.buf 3 Str 1 K7 x.2.2))),(4,B7 x.2.1),(5,B7 x.1)],[(3,.spare x.2.2.length 1 9)]))
  (fun x=>x.1<=b.length/\x.2.1<=x.1/\x.2.2.length<=x.1/\(x.1=b.length->x.2.1=x.1)/\x.2.2++I7 ((b.drop x.2.1).take (x.1-x.2.1)) (b.drop x.1)=E2 b) (fun x=>b.length-x.1) (0,0,[]) (by simp[E2]) ?_ ?_
 ·exact Sees.of ⟨⟨_,rfl,.same _⟩,⟨_,rfl,.same _⟩,⟨_,rfl,.same _⟩,⟨_,rfl,.same _⟩,trivial⟩ ⟨rfl,trivial⟩
 ·rintro⟨i,d,A⟩ ⟨E,w,F,B,q⟩;dsimp only at E w F B q ⊢;refine zc 8 (fun z=>?_) fun z=>?_
  ·have g:i<b.length:=by simpa using z
   have H:b[i]?=some b[i]:=by simp[g]
   refine zz 7 ?_;refine B0 (G9 A0 A0 B3 H) A0 (zz 3 ?_);refine F7 A0 A0 A0 A0 (fun C=>by have G:=C;(try simp at G);rw[C];exact Y6 A0 A0 B3) ?_;refine zc 5 (fun j=>?_) fun j=>?_
   ·refine zz 7 ?_;refine B0 (MZ A0 A0 A0 B3 B3 B3) A0 (B0 (C0 (c:=K7) (ys:=[_]) (C3 A0 A0 A0 A0 E6) A0 A0 A0) A0 (zz 13 ?_));refine⟨(i+1,i+1,_),⟨?_,?_,?_,?_,?_⟩,?_,Sees.of ⟨⟨_,rfl,.same _⟩,⟨_,rfl,.same _⟩,⟨_,rfl,.same _⟩,⟨_,rfl,.same _⟩,trivial⟩ ⟨rfl,trivial⟩⟩
    all_goals dsimp only
    ·omega
    ·omega
    ·simp;omega
    ·omega
    ·have v:b[i]=10\/i+1=b.length:=by
      simp only[u8_lf]at j;by_cases h:b[i]=10
      ·exact .inl h
      ·simp[h]at j;exact .inr B3
     rw[VF,B45,B92,List.take_zero,<-HS b d i w g,B57,<-q,B55 g,iX];rcases v with h | h
     ·rw[A6 h];rfl
     ·have D:b.drop (i+1)=[]:=B59 B3;rw[D];split
      ·rfl
      ·rw[show I7 ([]:Str) []=[] from rfl,KX _ dV];simp
    ·omega
   ·refine zz 6 ?_;refine⟨(i+1,d,A),⟨?_,?_,?_,?_,?_⟩,?_,Sees.of ⟨⟨_,rfl,.same _⟩,⟨_,rfl,.same _⟩,⟨_,rfl,.same _⟩,⟨_,rfl,.same _⟩,trivial⟩ ⟨rfl,trivial⟩⟩
    all_goals dsimp only
    ·omega
    ·omega
    ·omega
    ·intro h;simp[show (i:Int)+1=(b.length:Int) by omega]at j
    ·have v:b[i]≠10:=fun h=>by simp[h]at j
     rw[<-HS b d i w g,<-q,B55 g,iX,A7 v]
    ·omega
  ·refine zz 7 ?_;refine B2 (G6 A0 A0 A0) ?_;have y:i=b.length:=by simp at z;omega
   subst y;have:=B rfl;subst this;rw[B92,List.take_zero,B59 (Nat.le_refl _)]at q;rw[<-q];simp[I7]
theorem A55(b:Str)(hb:b.length<=1099511627776):FnOk Tryz.prog 100 [F3 b] (fun e=>e=[D3 (I0 b)]):=by
 refine FnOk.intro Tryz.func100 F2 A0 A0 A0 A0 (zz 12 ?_);refine F7 A0 A0 A0 A0 (fun c=>by have d:=c;(try simp at d);rw[c];exact K4 (nG b B3) A0 A0) ?_;refine zc 4 (fun a=>?_) fun a=>?_
 ·have h:=A1 (or_pick.symm.trans a);refine zz 5 ?_;exact B2 (G6 rfl rfl rfl) (by rw[I0,A6 B3])
 ·have h:=A3 (or_pick.symm.trans a);refine zz 6 ?_;exact B2 (G6 rfl rfl rfl) (by rw[I0,A7 B3])
theorem NR(l:List Str)(s:Str):FnOk Tryz.prog 144 [n7 l,F3 s] (fun h=>h=[D3 (L2 l s 0)]):=by
 refine FnOk.intro Tryz.func144 F2 A0 A0 A0 A0 ?_;refine JG (t:=0) rfl (.pure _ _ _ _) fun d=>?_;refine zz 10 ?_;refine C2 (X:=Nat) (fun i=>([(0,B8 Str 1 K7 l),(1,Q6 s),(5,B7 i)],[])) (fun i=>i<=l.length/\L2 l s 0=L2 (l.drop i) s i) (fun i=>l.length-i) 0 dV (Sees.of lf lo) ?_;rintro i ⟨f,a⟩;dsimp only at f a ⊢;refine zc 8 (fun b=>?_) fun b=>?_
 ·have c:i<l.length:=by simpa using b
  have g:l[i]?=some l[i]:=by simp[c]
  rw[KY l s i c]at a;refine zz 7 ?_;refine B0 (A9 A0 (.pure _ _ _ _) A0 B3 g) A0 ?_;refine zc 4 (fun b=>?_) fun b=>?_
  ·rw[A6 (by simpa using b)]at a;refine zz 6 ?_;exact B2 (G6 rfl rfl rfl) (by rw[a])
  ·rw[A7 (by simpa using b)]at a;refine zz 6 ?_;exact⟨i+1,⟨by omega,by simpa using a⟩,by omega,Sees.of lf lo⟩
 ·have:i=l.length:=by simp at b;omega
  subst this;refine zz 6 ?_;exact B2 (G6 rfl rfl rfl) (by rw[a];simp[L2])
theorem A56(j:List (List Str))(I:j.flatten.length<=536870912):FnOk Tryz.prog 143 [pStrss j] (fun L=>L=[n7 (D5 j)]):=by
 refine FnOk.intro Tryz.func143 F2 A0 A0 A0 A0 ?_;refine JG (t:=0) rfl (.pure _ _ _ _) fun G=>?_;refine zz 6 ?_;refine C4 (O9 3 _ K7 A0) A0 (zz 7 ?_);refine C2 (X:=Nat) (fun f=>([(0,B8 (List Str) 1 strsC j),(3,.s (.one (.buf 3 Str 1 K7 (D5 (j.take f))))),(4,B7 f)],[(3,.spare (D5 (j.take f)).length 1 9)])) (fun f=>f<=j.length) (fun f=>j.length-f) 0 dV (Sees.of lf lo) ?_;intro f H;dsimp only at H ⊢;refine zc 8 (fun m=>?_) fun m=>?_
 ·have w:f<j.length:=by have:=A1 m;omega
  have F:j[f]?=some j[f]:=by simp[w]
  have v:=l8 j f w;have D:=v8 j (f+1);rw[v,B48]at D;have K:=nU (j.take f);refine zz 8 ?_;refine C2 (X:=Nat) (fun i=>([(0,B8 (List Str) 1 strsC j),(3,.s (.one (.buf 3 Str 1 K7 ((j[f].take i).foldl J2 (D5 (j.take f)))))),(4,B7 f),(5,B7 i)],[(3,.spare ((j[f].take i).foldl J2 (D5 (j.take f))).length 1 9)])) (fun i=>i<=j[f].length) (fun i=>j[f].length-i) 0 dV (Sees.of lf lo) ?_;intro i J;dsimp only at J ⊢;have E:=fP (j[f].take i) (D5 (j.take f));rw[B54]at E;refine zz 6 ?_;refine B0 (A9 A0 (.pure _ _ _ _) A0 B3 F) A0 ?_;refine zc 4 (fun m=>?_) fun m=>?_
  ·have x:i<j[f].length:=by have:=A1 m;omega
   have q:j[f][i]?=some j[f][i]:=by simp[x]
   have A:(j[f].take (i+1)).foldl J2 (D5 (j.take f))=J2 ((j[f].take i).foldl J2 (D5 (j.take f))) j[f][i]:=by
    rw[List.take_add_one,q,Option.toList_some,B88];rfl
   refine zz 8 ?_;refine B0 (A9 A0 (.pure _ _ _ _) A0 B3 F) A0 (zz 2 ?_);refine B0 (A9 A0 (.pure _ _ _ _) A0 B3 q) A0 (zz 1 ?_);refine tF (NR _ _) A0 A0 A0 (zz 2 ?_);have z:=QH ((j[f].take i).foldl J2 (D5 (j.take f))) j[f][i] 0 (Int.le_refl _);refine zc 0 (fun m=>?_) fun m=>?_
   ·have y:=z.1 (A1 m);skip;refine zz 4 ?_;refine B0 (A9 A0 (.pure _ _ _ _) A0 B3 F) A0 (zz 2 ?_);refine B0 (A9 A0 (.pure _ _ _ _) A0 B3 q) A0 (zz 1 ?_);refine B0 (C0 (c:=K7) (ys:=[_]) (C3 A0 A0 A0 A0 E6) A0 A0 A0) A0 (zz 8 ?_);refine⟨i+1,by omega,by omega,?_⟩;rw[A,J2,A7 y];exact Sees.of lf lo
   ·have C:j[f][i]∈(j[f].take i).foldl J2 (D5 (j.take f)):=Classical.byContradiction fun h=>A3 m (z.2 h);refine zz 6 ?_;refine⟨i+1,by omega,by omega,?_⟩;rw[A,J2,A6 C];exact Sees.of lf lo
  ·have B:i=j[f].length:=by have:=A3 m;omega
   subst B;refine zz 1 ?_;have:D5 (j.take (f+1))=(j[f].take j[f].length).foldl J2 (D5 (j.take f)):=by
    rw[D5,v,B88,B51];rfl
   refine zz 5 ?_;refine⟨f+1,by omega,by omega,?_⟩;rw[this];exact Sees.of lf lo
 ·have:f=j.length:=by have:=A3 m;omega
  subst this;refine zz 7 ?_;exact B2 (G6 rfl rfl rfl) dV
theorem JP(f:FuncId)(m:File->Bool)(l:List File)(w:l.length<=1073741824)(s:∀x∈l,FnOk Tryz.prog f [XP x] (fun rs=>rs=[E1 (m x)])) :
  FnOk Tryz.prog 182 [bU l,.one (.v (.func (.func f) #[] #[]))] (fun rs=>∃i:Int,rs=[D3 i]/\decide (0<=i)=l.any m):=by
 refine FnOk.intro Tryz.func182 F2 A0 A0 A0 A0 (zz 12 ?_);refine C2 (X:=Nat) (fun i=>([(0,B8 File 2 eL l),(1,I1 (.func (.func f) #[] #[])),(7,B7 l.length),(8,B7 i)],[])) (fun i=>i<=l.length/\(l.take i).any m=false) (fun i=>l.length-i) 0 ⟨Nat.zero_le _,rfl⟩ (Sees.of lf lo) ?_;rintro i ⟨t,h⟩;dsimp only at t h ⊢;refine zc 5 (fun d=>?_) fun d=>?_;rotate_left
 ·have g:i=l.length:=by have g:=A3 d;(try dsimp only at g);omega
  rw[g,B51]at h;refine zz 6 ?_;exact B2 (rs:=[D3 (-1)]) (G6 rfl rfl rfl) ⟨-1,rfl,by rw[h];rfl⟩
 have b:i<l.length:=by have g:=A1 d;(try dsimp only at g);omega
 obtain⟨x,k⟩:∃x,x=l[i]:=⟨_,rfl⟩
 have q:l[i]?=some x:=by rw[k];simp[b]
 have j:=s x (by rw[k];exact B50 b);refine zz 13 ?_;refine B0 (A9 A0 (.pure _ _ _ _) A0 B3 q) A0 (zz 1 ?_);refine B0 (JN (j) A0 A0 A0) A0 ?_;refine zc 1 (fun d=>?_) fun d=>?_
 ·refine zz 6 ?_;refine B2 (rs:=[D3 i]) (G6 rfl rfl rfl) ⟨i,rfl,?_⟩;rw[List.any_eq_true.2 ⟨x,by rw[k];exact B50 b,d⟩];exact A4 B3
 ·refine zz 5 ?_;refine⟨i+1,⟨b,?_⟩,by omega,(Sees.of lf lo)⟩;rw[List.take_add_one,q,Option.toList_some,List.any_append,h,Bool.false_or,List.any_cons,List.any_nil,Bool.or_false];exact d
theorem mF(f:FuncId)(a:File->Bool)(l:List File)(g:l.length<=1073741824)(b:∀x∈l,FnOk Tryz.prog f [XP x] (fun rs=>rs=[E1 (a x)])) :
  FnOk Tryz.prog 158 [bU l,.one (.v (.func (.func f) #[] #[]))] (fun rs=>rs=[E1 (l.any a)]):=by
 refine FnOk.intro Tryz.func158 F2 A0 A0 A0 A0 (zz 8 ?_);refine bN (JP f a l g b) A0 A0 A0 ?_;rintro _ ⟨i,rfl,d⟩;refine zz 3 ?_;refine zz 1 ?_;exact B2 (G6 rfl rfl rfl) (by rw[<-d])
theorem BC(f:FuncId)(m:Commit->Bool)(l:List Commit)(w:l.length<=1073741824)(s:∀x∈l,FnOk Tryz.prog f [tZ x] (fun rs=>rs=[E1 (m x)])) :
  FnOk Tryz.prog 157 [S3 l,.one (.v (.func (.func f) #[] #[]))] (fun rs=>∃i:Int,rs=[D3 i]/\decide (0<=i)=l.any m):=by
 refine FnOk.intro Tryz.func157 F2 A0 A0 A0 A0 (zz 12 ?_);refine C2 (X:=Nat) (fun i=>([(0,B8 Commit 3 K5 l),(1,I1 (.func (.func f) #[] #[])),(7,B7 l.length),(8,B7 i)],[])) (fun i=>i<=l.length/\(l.take i).any m=false) (fun i=>l.length-i) 0 ⟨Nat.zero_le _,rfl⟩ (Sees.of lf lo) ?_;rintro i ⟨t,h⟩;dsimp only at t h ⊢;refine zc 5 (fun d=>?_) fun d=>?_;rotate_left
 ·have g:i=l.length:=by have g:=A3 d;(try dsimp only at g);omega
  rw[g,B51]at h;refine zz 6 ?_;exact B2 (rs:=[D3 (-1)]) (G6 rfl rfl rfl) ⟨-1,rfl,by rw[h];rfl⟩
 have b:i<l.length:=by have g:=A1 d;(try dsimp only at g);omega
 obtain⟨x,k⟩:∃x,x=l[i]:=⟨_,rfl⟩
 have q:l[i]?=some x:=by rw[k];simp[b]
 have j:=s x (by rw[k];exact B50 b);refine zz 13 ?_;refine B0 (A9 A0 (.pure _ _ _ _) A0 B3 q) A0 (zz 1 ?_);refine B0 (JN (j) A0 A0 A0) A0 ?_;refine zc 1 (fun d=>?_) fun d=>?_
 ·refine zz 6 ?_;refine B2 (rs:=[D3 i]) (G6 rfl rfl rfl) ⟨i,rfl,?_⟩;rw[List.any_eq_true.2 ⟨x,by rw[k];exact B50 b,d⟩];exact A4 B3
 ·refine zz 5 ?_;refine⟨i+1,⟨b,?_⟩,by omega,(Sees.of lf lo)⟩;rw[List.take_add_one,q,Option.toList_some,List.any_append,h,Bool.false_or,List.any_cons,List.any_nil,Bool.or_false];exact d
theorem gW(f:FuncId)(a:Commit->Bool)(l:List Commit)(g:l.length<=1073741824)(b:∀x∈l,FnOk Tryz.prog f [tZ x] (fun rs=>rs=[E1 (a x)])) :
  FnOk Tryz.prog 114 [S3 l,.one (.v (.func (.func f) #[] #[]))] (fun rs=>rs=[E1 (l.any a)]):=by
 refine FnOk.intro Tryz.func114 F2 A0 A0 A0 A0 (zz 8 ?_);refine bN (BC f a l g b) A0 A0 A0 ?_;rintro _ ⟨i,rfl,d⟩;refine zz 3 ?_;refine zz 1 ?_;exact B2 (G6 rfl rfl rfl) (by rw[<-d])
structure FewG (g:Graph):Prop where
 len:g.length<=1000
 pars:∀c∈g,c.Parents.length<=1048576
theorem ZA(l:List Int)(n:Int)(j:l.length<=1073741824):FnOk Tryz.prog 181 [K8 l,D3 n] (fun rs=>∃i:Int,rs=[D3 i]/\decide (0<=i)=decide (n∈l)):=by
 refine FnOk.intro Tryz.func181 F2 A0 A0 A0 A0 (zz 12 ?_);refine C2 (X:=Nat) (fun i=>([(0,B8 Int 1 D2 l),(1,B7 n),(7,B7 l.length),(8,B7 i)],[])) (fun i=>i<=l.length/\n∉l.take i) (fun i=>l.length-i) 0 ⟨Nat.zero_le _,by simp⟩ (Sees.of lf lo) ?_;rintro i ⟨f,d⟩;dsimp only at f d ⊢;refine zc 5 (fun c=>?_) fun c=>?_;rotate_left
 ·have a:i=l.length:=by have a:=A3 c;(try dsimp only at a);omega
  rw[a,B51]at d;refine zz 6 ?_;exact B2 (rs:=[D3 (-1)]) (G6 rfl rfl rfl) ⟨-1,rfl,by rw[A5 d];rfl⟩
 have b:i<l.length:=by have a:=A1 c;(try dsimp only at a);omega
 have g:l[i]?=some l[i]:=by simp[b]
 refine zz 13 ?_;refine B0 (A9 A0 (.pure _ _ _ _) A0 B3 g) A0 ?_;refine zc 3 (fun c=>?_) fun c=>?_
 ·have a:n=l[i]:=A1 c;refine zz 6 ?_;refine B2 (rs:=[D3 i]) (G6 rfl rfl rfl) ⟨i,rfl,?_⟩;rw[A4 (show n∈l from a ▸ B50 b)];exact A4 B3
 ·have a:¬n=l[i]:=A3 c;refine zz 5 ?_;refine⟨i+1,⟨b,?_⟩,by omega,(Sees.of lf lo)⟩;rw[List.take_add_one,B44 b,Option.toList_some,B73,List.mem_singleton];rintro (h | h)
  ·exact d h
  ·exact a h
theorem JQ(l:List Int)(n:Int)(b:l.length<=1073741824):FnOk Tryz.prog 156 [K8 l,D3 n] (fun rs=>rs=[E1 (decide (n∈l))]):=by
 refine FnOk.intro Tryz.func156 F2 A0 A0 A0 A0 (zz 8 ?_);refine bN (ZA l n b) A0 A0 A0 ?_;rintro _ ⟨i,rfl,a⟩;refine zz 3 ?_;refine zz 1 ?_;exact B2 (G6 rfl rfl rfl) (by rw[<-a])
theorem JR(c:Commit)(d:c.Parents.length<=1073741824):FnOk Tryz.prog 155 [tZ c] (fun a=>a=[E1 (decide (c.Parents.length>32))]):=by
 refine FnOk.intro Tryz.func155 F2 A0 A0 A0 A0 (zz 2 ?_);refine C4 (n8 1 A0 A0 A0) A0 (zz 11 ?_);exact B2 (G6 rfl rfl rfl) (congrArg (fun b=>[E1 b]) (decide_eq_decide.2 ⟨fun h=>by omega,fun h=>by omega⟩))
theorem NS(g:Graph)(e:FewG g)(a:g.length<=1073741824):FnOk Tryz.prog 111 [S3 g] (fun rs=>rs=[E1 (bB g)]):=by
 refine FnOk.intro Tryz.func111 F2 A0 A0 A0 A0 (zz 11 ?_);refine F7 A0 A0 A0 A0 (fun b=>by have f:=b;(try simp at f);rw[b];exact K4 (gW 155 (fun c=>decide (c.Parents.length>32)) g a (fun c d=>JR c (by have:=e.pars c d;omega))) A0 A0) ?_;refine zz 5 ?_;refine B2 (G6 A0 A0 A0) ?_;unfold bB;rw[W8,show decide ((g.length:Int)<=300)=decide (g.length<=300) from decide_eq_decide.2 B3]
theorem SP(c:Commit):FnOk Tryz.prog 115 [tZ c] (fun rs=>rs=[E1 (decide (c.Date<0\/c.Date>2147483647))]):=by
 refine FnOk.intro Tryz.func115 F2 A0 A0 A0 A0 (zz 2 ?_);refine C4 (n8 1 A0 A0 A0) A0 (zz 15 ?_);refine B2 (G6 A0 A0 A0) ?_;rw[or_pick]
theorem dis_ok(g:Graph)(c:Int):FnOk Tryz.prog 69 [S3 g,D3 c] (fun rs=>rs=[E1 (decide (bD g c))]):=by
 refine FnOk.intro Tryz.func69 F2 A0 A0 A0 A0 (zz 17 ?_);refine B2 (G6 A0 A0 A0) ?_;rw[N1];rfl
theorem b3y{p:Prop}(h:p:=by rw[B54];omega):p:=h
theorem NT(g:Graph)(E:FewG g)(y:g.length<=1073741824):FnOk Tryz.prog 112 [S3 g] (fun rs=>rs=[E1 (related g)]):=by
 refine FnOk.intro Tryz.func112 F2 A0 A0 A0 A0 (zz 12 ?_);refine C2 (X:=Nat) (fun i=>([(0,B8 Commit 3 K5 g),(7,B8 Commit 3 K5 g),(8,B7 g.length),(9,B7 i)],[])) (fun i=>i<=g.length/\((g.take i).all fun c=>nX g.length [] c.Parents)=true) (fun i=>g.length-i) 0 ⟨Nat.zero_le _,rfl⟩ (Sees.of lf lo) ?_;rintro i ⟨F,ha⟩;dsimp only at F ha ⊢;refine zc 5 (fun j=>?_) fun j=>?_;rotate_left
 ·have d:i=g.length:=by have d:=A3 j;(try dsimp only at d);omega
  rw[d,B51]at ha;refine zz 6 ?_;exact B2 (rs:=[E1 true]) (G6 rfl rfl rfl) (by unfold related;rw[ha])
 have v:i<g.length:=by have d:=A1 j;(try dsimp only at d);omega
 obtain⟨c,A⟩:∃c,c=g[i]:=⟨_,rfl⟩
 have D:g[i]?=some c:=by rw[A];simp[v]
 have I:=E.pars c (by rw[A];exact B50 v);have z:nX g.length [] c.Parents=false->[E1 false]=[E1 (related g)]:=fun h=>by
  have:related g=false:=by
   unfold related;rw[List.all_eq_false];exact⟨c,by rw[A];exact B50 v,by rw[h];decide⟩
  rw[this]
 refine zz 5 ?_;refine B0 (A9 A0 (.pure _ _ _ _) A0 B3 D) A0 (zz 1 ?_);refine C4 (H9 4 A0) A0 (zz 10 ?_);refine C2 (X:=Nat) (fun k=>([(0,B8 Commit 3 K5 g),(4,.s (.one (.ref 4 0))),(7,B8 Commit 3 K5 g),(8,B7 g.length),(9,B7 i),(14,B8 Int 1 D2 c.Parents),(15,B7 c.Parents.length),(16,B7 k)],[(4,.box (tZ c).s1.cells)])) (fun k=>k<=c.Parents.length/\nX g.length [] c.Parents=nX g.length (c.Parents.take k) (c.Parents.drop k)) (fun k=>c.Parents.length-k) 0 ⟨Nat.zero_le _,rfl⟩ (Sees.of lf lo) ?_;rintro k ⟨G,q⟩;dsimp only at G q ⊢;refine zc 5 (fun j=>?_) fun j=>?_;rotate_left
 ·have d:k=c.Parents.length:=by have d:=A3 j;(try dsimp only at d);omega
  rw[d,List.drop_length]at q;refine zz 5 ?_;refine⟨i+1,⟨v,?_⟩,by omega,(Sees.of lf lo)⟩;rw[List.take_add_one,D,Option.toList_some,B97,ha,Bool.true_and,List.all_cons,List.all_nil,Bool.and_true,q];rfl
 have m:k<c.Parents.length:=by have d:=A1 j;(try dsimp only at d);omega
 have w:c.Parents[k]?=some c.Parents[k]:=by simp[m]
 rw[B55 m]at q;obtain⟨p,H⟩:∃p,p=c.Parents[k]:=⟨_,rfl⟩
 rw[<-H]at w q;have C:c.Parents.take (k+1)=c.Parents.take k++[p]:=by rw[List.take_add_one,w,Option.toList_some]
 rw[nX,<-C]at q;refine zz 6 ?_;refine B0 (A9 A0 (.pure _ _ _ _) A0 B3 w) A0 (zz 18 ?_);refine F7 A0 A0 A0 A0 (fun y=>by have B:=y;(try simp at B);rw[y];exact YS A0 (.pure _ _ _ _) A0 B3 B3) ?_;refine zz 1 ?_;refine F7 A0 A0 A0 A0 (fun y=>by have B:=y;(try simp at B);rw[y];exact K4 (JQ (c.Parents.take ((k:Nat):Int).toNat) p b3y) A0 A0) ?_;refine zz 2 ?_;rw[B45,aI,aI];refine zc 0 (fun j=>?_) fun j=>?_
 ·rw[B63,B63,decide_eq_true_eq,decide_eq_true_eq,decide_eq_true_eq]at j;have d:decide (0<=p/\p<(g.length:Int)/\p∉c.Parents.take k)=false:=by
   rw[decide_eq_false_iff_not];rintro⟨J,K,a3⟩;rcases j with (h | h) | h
   ·omega
   ·omega
   ·exact a3 h
  rw[d,Bool.false_and]at q;refine zz 5 ?_;exact B2 (rs:=[E1 false]) (G6 rfl rfl rfl) (z q)
 ·rw[B72,B72,decide_eq_false_iff_not,decide_eq_false_iff_not,decide_eq_false_iff_not]at j;have d:decide (0<=p/\p<(g.length:Int)/\p∉c.Parents.take k)=true:=A4 ⟨by omega,by omega,j.2⟩;rw[d,Bool.true_and]at q;refine zz 5 ?_;exact⟨k+1,⟨m,q⟩,by omega,(Sees.of lf lo)⟩
theorem JS(ps l:List Int)(k:Nat)(h:k<ps.length):d7 (ps.take (k+1)) l=bump (d7 (ps.take k) l) ps[k]:=by
 unfold d7;rw[List.take_add_one,B44 h,Option.toList_some,B88];rfl
theorem rJ{l:List Int}{p:Int}(h:0<=p/\p<l.length):l[p.toNat]?=some (H4 l p.toNat):=by
 unfold H4;rw[B44 B3];rfl
theorem SQ{ps:List Int}{l:List Int}{p:Nat}(b:∀p∈ps,0<=p/\p<l.length)(a:ps.Nodup):H4 l p<=H4 (d7 ps l) p/\H4 (d7 ps l) p<=H4 l p+1:=by
 rw[sA (n:=0) b a];split<;>omega
theorem NU{g:Graph}(d:related g=true){i p:Nat}(a:i<=g.length)(b:p<g.length):0<=H4 (P1 g i) p/\H4 (P1 g i) p<=i:=by
 rw[oA d p b i a];have:=List.countP_le_length (p:=fun c=>decide ((p:Int)∈E9 g c)) (l:=List.range i);rw[B75]at this;omega
theorem b7w{p:Prop}(h:p:=by first | rfl | (simp[I3,J0,Ob.free,SV.free,S1.free,TC.free]<;>rfl)):p:=h
theorem SR(g:Graph)(hf:FewG g)(W:related g=true):FnOk Tryz.prog 113 [S3 g] (fun rs=>∃ch w,rs=[K8 w]/\KInv g w.length 0 ch w):=by
 have hg:=hf.len;refine FnOk.intro Tryz.func113 F2 A0 A0 A0 A0 (zz 8 ?_);refine C4 (l7 753 Int D2 0 A0 A0 B3 B3 (fun _=>by first | exact⟨⟨rfl,rfl⟩,trivial⟩ | exact⟨F6 _ _ _,trivial⟩ | exact⟨F6 _ _ _,⟨rfl,rfl⟩,F6 _ _ _,trivial⟩) b7w) A0 ?_;refine zz 10 ?_;rw[B45];refine C2 (X:=Nat) (fun i=>([(0,B8 Commit 3 K5 g),(3,.s (.one (.mut 753))),(17,B8 Commit 3 K5 g),(18,B7 g.length),(19,B7 i)],[(753,.arr Int 1 D2 (P1 g i))])) (fun i=>i<=g.length) (fun i=>g.length-i) 0 (Nat.zero_le _) (Sees.of lf lo) ?_;intro i V;dsimp only at V ⊢;refine zc 5 (fun j=>?_) fun j=>?_
 ·have G:i<g.length:=by have d:=A1 j;(try dsimp only at d);omega
  obtain⟨c,P⟩:∃c,c=g[i]:=⟨_,rfl⟩
  have hv:g[i]?=some c:=by rw[P];simp[G]
  have H:E9 g i=c.Parents:=by rw[dI G,P]
  have hpr:=L7 W i;have ah:=hf.pars c (by rw[P];exact B50 G);have hs:=qU G;rw[H]at hpr hs;have C:=eX g i;have U:=fun p (T:p<g.length)=>NU W (i:=i) (p:=p) B3 T;obtain⟨z,hz⟩:∃z,z=P1 g i:=⟨_,rfl⟩
  rw[<-hz]at hs C U ⊢;refine zz 5 ?_;refine B0 (A9 A0 (.pure _ _ _ _) A0 B3 hv) A0 (zz 1 ?_);refine C4 (H9 5 A0) A0 (zz 10 ?_);refine C2 (X:=Nat) (fun k=>([(0,B8 Commit 3 K5 g),(3,.s (.one (.mut 753))),(17,B8 Commit 3 K5 g),(18,B7 g.length),(19,B7 i),(24,B8 Int 1 D2 c.Parents),(25,B7 c.Parents.length),(26,B7 k)],[(753,.arr Int 1 D2 (d7 (c.Parents.take k) z))])) (fun k=>k<=c.Parents.length) (fun k=>c.Parents.length-k) 0 (Nat.zero_le _) (Sees.of lf lo) ?_;intro k hk;dsimp only at hk ⊢;have L:=nZ (c.Parents.take k) z;refine zc 5 (fun j=>?_) fun j=>?_;rotate_left
  ·have d:k=c.Parents.length:=by have d:=A3 j;(try dsimp only at d);omega
   rw[d,B51,<-hs];refine zz 5 ?_;exact⟨i+1,G,by omega,(Sees.of lf lo)⟩
  have y:k<c.Parents.length:=by have d:=A1 j;(try dsimp only at d);omega
  have J:c.Parents[k]?=some c.Parents[k]:=by simp[y]
  have R:=hpr.1 _ (B50 y);have Z:=JS c.Parents z k y;obtain⟨p,T⟩:∃p,p=c.Parents[k]:=⟨_,rfl⟩
  rw[<-T]at J R Z;have hb:=SQ (ps:=c.Parents.take k) (l:=z) (p:=p.toNat) (fun q hq=>by rw[C];exact hpr.1 q (List.mem_of_mem_take hq)) (hpr.2.sublist (List.take_sublist _ _));have hh:=U p.toNat B3;have I:=rJ (l:=d7 (c.Parents.take k) z) (p:=p) (by rw[L,C];exact R);refine zz 5 ?_;refine B0 (A9 A0 (.pure _ _ _ _) A0 B3 J) A0 (zz 6 ?_);refine B0 (E4 A0 A0 A0 B3 (by (rw[L];omega))) A0 ?_;refine B0 (M4 A0 A0 I A0) A0 (zz 1 ?_);refine B0 (E4 A0 A0 A0 B3 (by (rw[L];omega))) A0 ?_;refine V1 (G5 TySz.out A0 A0 (by (rw[L];omega)) A0 A0) ?_;refine zz 5 ?_;refine⟨k+1,by omega,by omega,?_⟩;rw[Z];exact (Sees.of lf lo)
 have Q:i=g.length:=by have d:=A3 j;(try dsimp only at d);omega
 rw[Q];have ab:=KInv.start W;obtain⟨z,hz⟩:∃z,z=P1 g g.length:=⟨_,rfl⟩
 have ae:z.length=g.length:=by rw[hz];exact eX g _
 rw[<-hz]at ab ⊢;refine zz 3 ?_;refine C4 (O9 8 _ D2 A0) A0 (zz 5 ?_);refine B0 (vI A0 A0) A0 (zz 3 ?_);refine C2 (X:=Nat) (fun i=>([(0,B8 Commit 3 K5 g),(3,.s (.one (.mut 753))),(8,.s (.one (.buf 8 Int 1 D2 (Y0 z i)))),(38,.s (.one (.mut 753))),(39,B7 g.length),(40,B7 i)],[(8,.spare (Y0 z i).length 1 3),(753,.arr Int 1 D2 z)])) (fun i=>i<=g.length) (fun i=>g.length-i) 0 (Nat.zero_le _) (by rw[<-ae];exact (Sees.of lf lo)) ?_;intro i V;dsimp only at V ⊢;have am:=QP z i;have M:=LD z i;refine zc 5 (fun j=>?_) fun j=>?_
 ·have G:i<g.length:=by have d:=A1 j;(try dsimp only at d);omega
  have I:=rJ (l:=z) (p:=(i:Int)) B3;rw[B45]at I;refine zz 6 ?_;refine B0 (E4 A0 A0 A0 B3 (by (rw[ae];omega))) A0 ?_;refine B0 (M4 A0 A0 I A0) A0 ?_;refine zc 8 (fun j=>?_) fun j=>?_
  ·have d:H4 z i=0:=A1 j;rw[A6 d]at M;skip;refine zz 3 ?_;refine B0 (C0 (c:=D2) (ys:=[(i:Int)]) (C3 A0 A0 A0 A0 E6) A0 A0 A0) A0 (zz 7 ?_);refine⟨i+1,by omega,by omega,?_⟩;rw[M];exact (Sees.of lf lo)
  ·have d:¬H4 z i=0:=A3 j;rw[A7 d]at M;refine zz 5 ?_;refine⟨i+1,by omega,by omega,?_⟩;rw[M];exact (Sees.of lf lo)
 have Q:i=g.length:=by have d:=A3 j;(try dsimp only at d);omega
 rw[Q];refine zz 7 ?_;refine C2 (X:=Nat×List Int×List Int) (fun x=>([(0,B8 Commit 3 K5 g),(3,.s (.one (.mut 753))),(8,.s (.one (.buf 8 Int 1 D2 x.2.2))),(11,B7 x.1)],[(8,.spare x.2.2.length 1 3),(753,.arr Int 1 D2 x.2.1)])) (fun x=>x.1<=x.2.2.length/\KInv g x.1 0 x.2.1 x.2.2) (fun x=>g.length-x.1) (0,z,Y0 z g.length) ⟨Nat.zero_le _,ab⟩ (Sees.of lf lo) ?_;rintro⟨k,ch,w⟩ ⟨hk,S⟩;dsimp only at hk S ⊢;have al:=S.le;refine zc 8 (fun j=>?_) fun j=>?_;rotate_left
 ·have d:k=w.length:=by have d:=A3 j;(try dsimp only at d);omega
  rw[d]at S;refine zz 7 ?_;exact B2 (rs:=[K8 w]) (G6 rfl rfl rfl) ⟨ch,w,rfl,S⟩
 have y:k<w.length:=by have d:=A1 j;(try dsimp only at d);omega
 have ak:=S.rng _ (B50 y);obtain⟨K,af⟩:∃K:Nat,w[k]=(K:Int):=⟨w[k].toNat,by omega⟩
 have ad:w[k]?=some (K:Int):=by rw[B44 y,af]
 have C:K<g.length:=by omega
 obtain⟨c,P⟩:∃c,c=g[K]:=⟨_,rfl⟩
 have ai:g[((K:Nat):Int).toNat]?=some c:=by rw[P];simp[C]
 have H:E9 g K=c.Parents:=by rw[dI C,P]
 have ah:=hf.pars c (by rw[P];exact B50 C);refine zz 8 ?_;refine B0 (A9 A0 (.buf _ _ _ _ _) A0 B3 ad) A0 (zz 1 ?_);refine B0 (A9 A0 (.pure _ _ _ _) A0 B3 ai) A0 (zz 6 ?_);refine C2 (X:=Nat×List Int×List Int) (fun x=>([(0,B8 Commit 3 K5 g),(3,.s (.one (.mut 753))),(8,.s (.one (.buf 8 Int 1 D2 x.2.2))),(11,B7 k),(65,B8 Int 1 D2 c.Parents),(66,B7 c.Parents.length),(67,B7 x.1)],[(8,.spare x.2.2.length 1 3),(753,.arr Int 1 D2 x.2.1)])) (fun x=>x.1<=c.Parents.length/\k<x.2.2.length/\x.2.2[k]?=some (K:Int)/\KInv g k x.1 x.2.1 x.2.2) (fun x=>c.Parents.length-x.1) (0,ch,w) ⟨Nat.zero_le _,y,ad,S⟩ (Sees.of lf lo) ?_;rintro⟨i,v,E⟩ ⟨V,hkl,B,F⟩;dsimp only at V hkl B F ⊢;have aj:=F.le;have D:=F.len;have O:E[k]=(K:Int):=by rw[B44 hkl]at B;exact Option.some.inj B
 refine zc 5 (fun j=>?_) fun j=>?_;rotate_left
 ·have d:i=c.Parents.length:=by have d:=A3 j;(try dsimp only at d);omega
  rw[d,<-H]at F;have hN:=F.next hkl O;refine zz 6 ?_;exact⟨(k+1,v,E),⟨by dsimp only;omega,hN⟩,by dsimp only;omega,(Sees.of lf lo)⟩
 have A:i<c.Parents.length:=by have d:=A1 j;(try dsimp only at d);omega
 have J:c.Parents[i]?=some c.Parents[i]:=by simp[A]
 have R:=(L7 W K).1 c.Parents[i] (by rw[H];exact B50 A);obtain⟨p,T⟩:∃p:Nat,c.Parents[i]=(p:Int):=⟨c.Parents[i].toNat,by omega⟩
 rw[T]at J;obtain⟨s1,s2,s3,s4⟩:=F.step W hkl O (i:=i) (p:=p) (by rw[H];exact A) (by simp only[H];exact T);have I:=rJ (l:=v) (p:=(p:Int)) B3;have ac:(b9 v p)[((p:Nat):Int).toNat]?=some (H4 v p-1):=by
  unfold b9;rw[B45,B89 B3]
 have ag:(b9 v p).length=g.length:=by unfold b9;rw[B65,D]
 have Y:v.set ((p:Nat):Int).toNat (H4 v ((p:Nat):Int).toNat-1)=b9 v p:=rfl;refine zz 5 ?_;refine B0 (A9 A0 (.pure _ _ _ _) A0 B3 J) A0 (zz 7 ?_);refine B0 (E4 A0 A0 A0 B3 (by (rw[D];omega))) A0 ?_;refine B0 (M4 A0 A0 I A0) A0 (B0 (aL A0 A0 (by (rw[B45];omega))) A0 ?_);refine B0 (E4 A0 A0 A0 B3 (by (rw[D];omega))) A0 ?_;refine V1 (G5 TySz.out A0 A0 (by (rw[D];omega)) A0 A0) ?_;refine zz 1 ?_;rw[Y];refine zz 4 ?_;refine B0 (E4 A0 A0 A0 B3 (by (rw[ag];omega))) A0 ?_;refine B0 (M4 A0 A0 ac A0) A0 ?_;refine zc 2 (fun j=>?_) fun j=>?_
 ·have d:H4 v p-1=0:=A1 j;rw[A6 d]at s4;skip;refine zz 3 ?_;refine B0 (C0 (c:=D2) (ys:=[(p:Int)]) (C3 A0 A0 A0 A0 E6) A0 A0 A0) A0 (zz 7 ?_);exact⟨(i+1,b9 v p,E++[(p:Int)]),⟨A,by dsimp only;rw[B48];omega,by dsimp only;rw[B61 hkl];exact B,s4⟩,by dsimp only;omega,(Sees.of lf lo)⟩
 ·have d:¬H4 v p-1=0:=A3 j;rw[A7 d]at s4;refine zz 5 ?_;exact⟨(i+1,b9 v p,E),⟨A,hkl,B,s4⟩,by dsimp only;omega,(Sees.of lf lo)⟩
abbrev EW(s:Str):Cell:=.v (.string ⟨s.toArray⟩)
def X8(l:List File):List (Str×Cell):=l.foldl (fun m f=>j6 m f.Path (EW f.Blob)) []
theorem XH(a b:Str)(c:Cell):∀d:List (Str×Cell),N3 (j6 d a c) b=if a=b then some c else N3 d b
 | []=>by
  unfold j6 N3;split
  ·rfl
  ·rfl
 | (k,x)::r=>by
  unfold j6;split
  ·rename_i e;subst e;unfold N3;split
   ·rfl
   ·rfl
  ·rename_i e;rw[N3,XH a b c r];by_cases g:k=b
   ·subst g;rw[A6 rfl,A7 (fun h=>e h.symm)];simp[N3]
   ·rw[A7 g];by_cases f:a=b
    ·rw[A6 f,A6 f]
    ·rw[A7 f,A7 f,N3,A7 g]
theorem tG(l:List File)(i:Nat)(h:i<l.length):X8 (l.take (i+1))=j6 (X8 (l.take i)) l[i].Path (EW l[i].Blob):=by
 unfold X8;rw[List.take_add_one,B44 h,Option.toList_some,B88];rfl
theorem BD(p:Str):∀(l:List File) (m:List (Str×Cell)),N3 (l.foldl (fun m f=>j6 m f.Path (EW f.Blob)) m) p=((L1 l.reverse p).map EW).or (N3 m p)
 | [],m=>by simp[L1]
 | f::r,m=>by
  rw[B79,BD p r,XH,List.reverse_cons];have key:∀(l:List File),L1 (l++[f]) p=(L1 l p).or (if f.Path=p then some f.Blob else none):=by
   intro l;induction l with
   | nil=>simp[L1]
   | cons g l b =>
    rw[B71,L1,L1];split
    ·rfl
    ·exact b
  rw[key];cases L1 r.reverse p with
  | some x=>rfl
  | none=>by_cases h:f.Path=p<;>simp[h]
theorem JT(l:List File)(p:Str):(N3 (X8 l) p).isSome=decide (p∈l.map (·.Path)):=by
 unfold X8;rw[BD];have:N3 ([]:List (Str×Cell)) p=none:=rfl;rw[this,Option.or_none,Option.isSome_map];cases h:L1 l.reverse p with
 | none =>
  have:=findF_none.1 h;rw[List.map_reverse,List.mem_reverse]at this;simp only[Option.isSome_none,this,decide_false]
 | some x =>
  obtain⟨f,c,b,_⟩:=fS h;have:p∈l.map (·.Path):=by rw[<-b];exact List.mem_map_of_mem (List.mem_reverse.1 c)
  simp only[Option.isSome_some,this,decide_true]
theorem ZB{l m:List File}{p:Str}(i:ascend l=true)(b:∀f,f∈m↔f∈l)(_hu:∀f∈l,∀g∈l,f.Path=g.Path->f=g):L1 m p=L1 l p:=by
 cases h:L1 m p with
 | none =>
  symm
  rw[findF_none]at h ⊢;intro j;obtain⟨f,a,e⟩:=List.mem_map.1 j;exact h (List.mem_map.2 ⟨f,(b f).2 a,e⟩)
 | some x =>
  obtain⟨f,a,c,d⟩:=fS h;rw[<-c,dH i f ((b f).1 a),d]
theorem tH{l:List File}(b:ascend l=true)(p:Str):N3 (X8 l) p=(L1 l p).map EW:=by
 unfold X8;rw[BD];have:N3 ([]:List (Str×Cell)) p=none:=rfl;rw[this,Option.or_none]
 congr 1
 refine ZB b (fun f=>List.mem_reverse) fun f h g i e=>?_;have c:=dH b f h;have d:=dH b g i;rw[e,d]at c;cases f;cases g;simp only[File.mk.injEq];exact⟨e,(Option.some.inj c).symm⟩
theorem gM{p:Prop}(h:p:=by repeat (first | exact X0 | refine X1 rfl ?_ | refine cV _ ?_)):p:=h
theorem BE(l:List File)(w:l.length<=1073741824):AL.Met Tryz.prog 164 [.one (.p (.list File 2 eL l))] [] [] [] (fun rs ob'=>rs=[.one (.mut 800)]/\ob'=[(800,.map Str aT (X8 l))]):=by
 refine AL.Met.intro Tryz.func164 F2 A0 A0 A0 (zz 6 ?_);refine C4 (vL 800 Str aT A0) A0 (zz 10 ?_);refine C2 (X:=Nat) (fun i=>([(3,.s (.one (.mut 800))),(7,B8 File 2 eL l),(8,B7 l.length),(9,B7 i)],[(800,.map Str aT (X8 (l.take i)))])) (fun i=>i<=l.length) (fun i=>l.length-i) 0 (Nat.zero_le _) (Sees.of lf lo) ?_;intro i q;dsimp only at q ⊢;refine zc 5 (fun g=>?_) fun g=>?_
 ·have b:i<l.length:=by have c:=A1 g;(try dsimp only at c);omega
  have k:=tG l i b;obtain⟨f,j⟩:∃f,f=l[i]:=⟨_,rfl⟩
  have v:l[i]?=some f:=by rw[j];simp[b]
  rw[<-j]at k;refine zz 5 ?_;refine B0 (A9 A0 (.pure _ _ _ _) A0 B3 v) A0 (zz 1 ?_);refine C4 (H9 5 A0) A0 (zz 8 ?_);refine V1 (NO (f.Path) A0 A0 A0 A0 A0 cZ dA) (zz 5 ?_);refine⟨i+1,by omega,by omega,?_⟩;rw[k];exact (Sees.of lf lo)
 ·have d:i=l.length:=by have c:=A3 g;(try dsimp only at c);omega
  rw[d,B51];refine zz 7 ?_;exact C7 (F1 rfl rfl) gM (fun _ _ h=>h) ⟨rfl,rfl⟩
theorem NV(l:List File)(w:l.length<=1073741824):AL.Met Tryz.prog 164 [.one (.p (.list File 2 eL l))] [] [] [] (fun rs ob'=>rs=[.one (.mut 801)]/\ob'=[(801,.map Str aT (X8 l))]):=by
 refine AL.Met.intro Tryz.func164 F2 A0 A0 A0 (zz 6 ?_);refine C4 (vL 801 Str aT A0) A0 (zz 10 ?_);refine C2 (X:=Nat) (fun i=>([(3,.s (.one (.mut 801))),(7,B8 File 2 eL l),(8,B7 l.length),(9,B7 i)],[(801,.map Str aT (X8 (l.take i)))])) (fun i=>i<=l.length) (fun i=>l.length-i) 0 (Nat.zero_le _) (Sees.of lf lo) ?_;intro i q;dsimp only at q ⊢;refine zc 5 (fun g=>?_) fun g=>?_
 ·have b:i<l.length:=by have c:=A1 g;(try dsimp only at c);omega
  have k:=tG l i b;obtain⟨f,j⟩:∃f,f=l[i]:=⟨_,rfl⟩
  have v:l[i]?=some f:=by rw[j];simp[b]
  rw[<-j]at k;refine zz 5 ?_;refine B0 (A9 A0 (.pure _ _ _ _) A0 B3 v) A0 (zz 1 ?_);refine C4 (H9 5 A0) A0 (zz 8 ?_);refine V1 (NO (f.Path) A0 A0 A0 A0 A0 cZ dA) (zz 5 ?_);refine⟨i+1,by omega,by omega,?_⟩;rw[k];exact (Sees.of lf lo)
 ·have d:i=l.length:=by have c:=A3 g;(try dsimp only at c);omega
  rw[d,B51];refine zz 7 ?_;exact C7 (F1 rfl rfl) gM (fun _ _ h=>h) ⟨rfl,rfl⟩
theorem I8{p:Prop}(h:p:=by repeat (first | exact X0 | refine X1 rfl ?_)):p:=h
theorem NW{gf:Fr}{ob:Obs}(p:Str)(k:List (Str×Cell))(P:p.length<=1073741824)(K:B6 ob 800=some (.map Str aT k))(_hc:∀O∈k,∃v,O.2=.v v)(ps:List Str)(E:∀q,(N3 k q).isSome=decide (q∈ps)) :
  AL.Met Tryz.prog 185 [.one (.p (.v (.string ⟨p.toArray⟩))),.one (.mut 800)] gf ob [] (fun rs ob'=>rs=[.one (.p (.v (.bool (T8 p ps))))]/\ob'=ob):=by
 have w:∀c:UInt8,((c.toNat:Int)=47)↔c=47:=fun c=>by
  constructor
  ·intro h; exact UInt8.toNat_inj.1 (by have:c.toNat=47:=by omega
                                        simpa using this)
  ·rintro rfl;rfl
 refine AL.Met.introH Tryz.func185 F2 rfl rfl rfl (fun G=>?_);refine zz 12 ?_;refine C2 (X:=Nat) (fun i=>([(0,Q6 p),(1,.s (.one (.mut 800))),(9,B7 p.length),(10,B7 i)]++gf,ob)) (fun i=>i<=p.length/\∀j,j<i->(decide (p.take j∈ps)&&decide (p[j]?=some 47))=false) (fun i=>p.length-i) 0 ⟨Nat.zero_le _,fun j h=>by omega⟩ (B13 lf G I8 (fun _ _ h=>h)) ?_;rintro i ⟨L,C⟩;dsimp only at L C ⊢;refine zc 5 (fun d=>?_) fun d=>?_;rotate_left
 ·have B:i=p.length:=by have A:=A3 d;(try dsimp only at A);omega
  have D:T8 p ps=false:=by
   unfold T8;rw[List.any_eq_false];intro j I;rw[C j (by rw[B];exact List.mem_range.1 I)];simp
  refine zz 6 ?_;exact C7 (F1 rfl rfl) gM (fun _ _ h=>h) ⟨by rw[D],rfl⟩
 have f:i<p.length:=by have A:=A1 d;(try dsimp only at A);omega
 have M:p[((i:Nat):Int).toNat]?=some p[i]:=by simp[f]
 have x:p[i]?=some p[i]:=by simp[f]
 have y:=E (p.take ((i:Nat):Int).toNat);obtain⟨r,J⟩:∃r,r=N3 k (p.take ((i:Nat):Int).toNat):=⟨_,rfl⟩
 rw[<-J,B45]at y;refine zz 14 ?_;refine B0 (nC ((p.take ((i:Nat):Int).toNat)) (r:=r) A0 K A0 cZ dA (J.symm)) A0 (zz 12 ?_);refine F7 A0 A0 A0 A0 (fun H=>by have y:=H;(try simp at y);rw[H];exact G9 A0 A0 B3 M) ?_;refine zc 3 (fun d=>?_) fun d=>?_
 ·rw[W8,B47,decide_eq_true_eq]at d;have z:T8 p ps=true:=by
   unfold T8;rw[List.any_eq_true];exact⟨i,List.mem_range.2 f,by rw[<-y,d.1,x,(w _).1 d.2];rfl⟩
  refine zz 5 ?_;exact C7 (F1 rfl rfl) gM (fun _ _ h=>h) ⟨by rw[z],rfl⟩
 ·rw[W8]at d;refine zz 5 ?_;refine⟨i+1,⟨f,fun j I=>?_⟩,by omega,B13 lf G I8 (fun _ _ h=>h)⟩;by_cases e:j=i
  ·subst e;rw[<-y,x];cases F:r.isSome
   ·rfl
   ·rw[F,Bool.true_and,decide_eq_false_iff_not]at d;have:¬p[j]=47:=fun h=>d ((w _).2 h);simp[this]
  ·exact C j B3
theorem ZC(l:List File):∀b∈X8 l,∃v,b.2=.v v:=by
 have key:∀(l:List File) (m:List (Str×Cell)),(∀b∈m,∃v,b.2=.v v)->∀b∈l.foldl (fun m f=>j6 m f.Path (EW f.Blob)) m,∃v,b.2=.v v:=by
  intro l;induction l with
  | nil=>exact fun m h=>h
  | cons f r e =>
   intro m h;refine e _ ?_;clear e;induction m with
   | nil=>intro b a;change b∈j6 [] f.Path (EW f.Blob) at a;rw[j6,List.mem_singleton]at a;rw[a];exact⟨_,rfl⟩
   | cons x m d =>
    obtain⟨k,c⟩:=x;intro b a;change b∈j6 ((k,c)::m) f.Path (EW f.Blob) at a;rw[j6]at a;split at a
    ·rcases List.mem_cons.1 a with rfl | a
     ·exact⟨_,rfl⟩
     ·exact h b (by simp[a])
    ·rcases List.mem_cons.1 a with rfl | a
     ·exact h _ dV
     ·exact d (fun b g=>h b (by simp[g])) b a
 exact key l [] fun _ h=>by cases h
theorem xF:∀(l:List File) (i:Nat),i+1<l.length->(ascend (l.take (i+2))=(ascend (l.take (i+1))&&jK (l.getD i ⟨[],[]⟩).Path (l.getD (i+1) ⟨[],[]⟩).Path))
 | [],i,h=>by simp at h
 | [_],i,h=>by simp at h
 | f::g::r,0,_=>by simp[ascend]
 | f::g::r,i+1,h=>by
  have b:ascend (g::r.take (i+1))=(ascend (g::r.take i)&&jK ((g::r).getD i ⟨[],[]⟩).Path ((g::r).getD (i+1) ⟨[],[]⟩).Path):=xF (g::r) i (by simpa using h);show ascend (f::g::r.take (i+1))=(ascend (f::g::r.take i)&&jK ((g::r).getD i ⟨[],[]⟩).Path ((g::r).getD (i+1) ⟨[],[]⟩).Path)
  rw[ascend,ascend,b,Bool.and_assoc]
theorem JU(l:List File):ascend (l.take 1)=true:=by
 cases l with
 | nil=>rfl
 | cons f r=>rfl
theorem D6{p:Prop}(h:p:=by kernel_rfl):p:=h
theorem NX(l:List File)(R:l.length<=1073741824)(S:∀f∈l,f.Path.length<=1073741824):FnOk Tryz.prog 161 [bU l] (fun rs=>rs=[E1 (q9 l)]):=by
 rw[<-VG];have H:=ZC l;have G:=JT l;refine FnOk.intro Tryz.func161 F2 A0 A0 A0 A0 (zz 7 ?_);refine eK (BE l R) A0 A0 A0 A0 ?_;rintro _ _ ⟨rfl,rfl⟩;refine⟨rfl,?_⟩;refine zz 2 ?_;refine zz 8 ?_;refine C2 (X:=Nat) (fun i=>([(0,B8 File 2 eL l),(3,.s (.one (.mut 800))),(8,B8 File 2 eL l),(9,B7 l.length),(10,B7 i)],[(800,.map Str aT (X8 l))])) (fun i=>i<=l.length/\ascend (l.take i)=true/\((l.take i).all fun f=>!T8 f.Path (l.map (·.Path)))=true) (fun i=>l.length-i) 0 ⟨Nat.zero_le _,rfl,rfl⟩ (Sees.of lf lo) ?_;rintro i ⟨Q,ha,E⟩;dsimp only at Q ha E ⊢;refine zc 5 (fun q=>?_) fun q=>?_;rotate_left
 ·have K:i=l.length:=by have v:=A3 q;(try dsimp only at v);omega
  rw[K,B51]at ha E;refine zz 6 ?_;exact B2 (rs:=[E1 true]) (G6 rfl rfl rfl) (by unfold dG;rw[ha,E];rfl)
 have j:i<l.length:=by have v:=A1 q;(try dsimp only at v);omega
 obtain⟨f,I⟩:∃f,f=l[i]:=⟨_,rfl⟩
 have L:l[i]?=some f:=by rw[I];simp[j]
 have J:=S f (by rw[I];exact B50 j);obtain⟨g,b⟩:∃g,g=l.getD (i-1) ⟨[],[]⟩:=⟨_,rfl⟩
 have D:0<i->l[((i:Int)-1).toNat]?=some g:=fun w=>by
  rw[b,show ((i:Int)-1).toNat=i-1 by omega,B46,B44 B3];rfl
 have c:ascend (l.take (i+1))=if 0<i then jK g.Path f.Path else true:=by
  cases i with
  | zero=>rw[A7 B3];exact JU l
  | succ i =>
   rw[A6 B3,xF l i j,ha,Bool.true_and,b];rw[show l.getD (i+1) ⟨[],[]⟩=f by rw[B46,L];rfl];rfl
 have z:((0 < i/\jK g.Path f.Path=false)\/T8 f.Path (l.map (·.Path))=true)->[E1 false]=[E1 (dG l)]:=by
  rintro (⟨w,h⟩ | h)
  ·have : ascend l=false:=by
    cases A:ascend l
    ·rfl
    ·exfalso;rw[A6 w,h]at c;have key:∀(l:List File) (k:Nat),ascend l=true->ascend (l.take k)=true:=by
      intro l;induction l with
      | nil=>intro k h;simpa using h
      | cons x r T =>
       intro k h;cases k with
       | zero=>rfl
       | succ k =>
        have F:=T k (iB h);rw[List.take_succ_cons];cases M:r.take k with
        | nil=>rfl
        | cons y t =>
         unfold ascend;rw[B47];refine⟨aE h y (List.mem_of_mem_take (by rw[M];simp)),by rw[<-M];exact F⟩
     rw[key l (i+1) A]at c;cases c
   unfold dG;rw[this];rfl
  ·have:(l.all fun f=>!T8 f.Path (l.map (·.Path)))=false:=by
    rw[List.all_eq_false];exact⟨f,by rw[I];exact B50 j,by rw[h];simp⟩
   unfold dG;rw[this,Bool.and_false]
 have B:(0<i->jK g.Path f.Path=true)->T8 f.Path (l.map (·.Path))=false->ascend (l.take (i+1))=true/\((l.take (i+1)).all fun f=>!T8 f.Path (l.map (·.Path)))=true:=by
  intro v A;refine⟨?_,?_⟩
  ·rw[c];split
   ·rename_i w;exact v w
   ·rfl
  ·rw[List.take_add_one,L,Option.toList_some,B97,E,Bool.true_and,List.all_cons,List.all_nil,A];rfl
 refine zz 6 ?_;refine B0 (A9 A0 (.pure _ _ _ _) A0 B3 L) A0 (zz 1 ?_);refine C4 (H9 5 A0) A0 (zz 4 ?_);cases d:(if decide ((0:Int)<(i:Int))=true then !Op.bytesLess g.Path f.Path else false)
 ·have v:0<i->jK g.Path f.Path=true:=fun w=>by
   rw[A6 (A4 B3),Bool.not_eq_false']at d;exact d
  refine AY 17 D6 D6 A0 (zz 5 ?_);refine G3 A0 A0 (fun b=>by have C:=b;(try simp at C);rw[b];exact aL A0 A0 B3) A0 A0 ?_;refine G3 A0 A0 (fun b=>by have C:=b;(try simp at C);rw[b];exact A9 A0 (.pure _ _ _ _) A0 B3 (D B3)) A0 A0 ?_;refine G3 A0 A0 (fun b=>by rw[b];exact G7 A0) A0 A0 ?_;refine zz 3 ?_;refine G3 A0 A0 (fun b=>by rw[b];exact XD A0 A0) A0 A0 ?_;refine zz 2 ?_;refine vN A0 A0 d A0 (zz 1 ?_);refine vN A0 A0 d A0 (zz 1 ?_);refine vN A0 A0 d A0 (zz 2 ?_);refine YW A0 A0 d (AF (NW f.Path (X8 l) J A0 H (l.map (·.Path)) G) A0 A0 A0 ?_);rintro _ _ ⟨rfl,rfl⟩;refine⟨_,rfl,?_⟩;refine zz 2 ?_;refine zz 0 ?_;rw[d];refine zc 0 (fun q=>?_) fun q=>?_
  ·have A:T8 f.Path (l.map (·.Path))=true:=by simpa using q
   refine zz 5 ?_;exact B2 (rs:=[E1 false]) (G6 rfl rfl rfl) (z (.inr A))
  ·have A:T8 f.Path (l.map (·.Path))=false:=by simpa using q
   obtain⟨F,O⟩:=B v A;refine zz 5 ?_;exact⟨i+1,⟨j,F,O⟩,by omega,(Sees.of lf lo)⟩
 ·have w:0<i:=by
   apply Classical.byContradiction;intro w;rw[A7 (by rw[decide_eq_true_eq];omega)]at d;cases d
  have v:jK g.Path f.Path=false:=by
   rw[A6 (A4 B3),Bool.not_eq_true']at d;exact d
  refine zz 6 ?_;refine G3 A0 A0 (fun b=>by have C:=b;(try simp at C);rw[b];exact aL A0 A0 B3) A0 A0 ?_;refine G3 A0 A0 (fun b=>by have C:=b;(try simp at C);rw[b];exact A9 A0 (.pure _ _ _ _) A0 B3 (D B3)) A0 A0 ?_;refine G3 A0 A0 (fun b=>by rw[b];exact G7 A0) A0 A0 ?_;refine zz 3 ?_;refine G3 A0 A0 (fun b=>by rw[b];exact XD A0 A0) A0 A0 ?_;refine zz 2 ?_;refine x7 A0 A0 (by rw[d];decide) A0 A0 ?_;refine x7 A0 A0 (by rw[d];decide) A0 A0 ?_;refine x7 A0 A0 (by rw[d];decide) A0 A0 ?_;refine x7 A0 A0 (by rw[d];decide) A0 A0 ?_;refine D1 (L6 A0 (d) A0) A0 A0 ?_;refine zc 1 (fun q=>?_) fun q=>?_
  ·refine zz 5 ?_;exact B2 (rs:=[E1 false]) (G6 rfl rfl rfl) (z (.inl ⟨w,v⟩))
  ·cases q
theorem made_ok(p:List Span)(m n:Int)(N:p.length<=536870912)(hb:∀s∈p,-1099511627776<=s.From/\s.From<=1099511627776 /\ -1099511627776<=s.To/\s.To<=1099511627776)
  (J:-1099511627776<=m/\m<=1099511627776 /\ -1099511627776<=n/\n<=1099511627776) :
  FnOk Tryz.prog 146 [pSpans p,D3 m,D3 n] (fun M=>M=[pChanges (lM p m n)]):=by
 refine FnOk.intro Tryz.func146 F2 A0 A0 A0 A0 (zz 6 ?_);refine C4 (O9 7 _ changeC A0) A0 (zz 12 ?_);refine C2 (X:=Nat×Int×Int×List Change) (fun x=>([(0,B8 Span 2 spanC p),(1,B7 m),(2,B7 n),(7,.s (.one (.buf 7 Change 4 changeC x.2.2.2))),(8,B7 x.2.1),(9,B7 x.2.2.1),(10,B7 x.1)],[(7,.spare x.2.2.2.length 4 72)]))
  (fun x=>x.1<=p.length+1/\x.2.2.2.length<=x.1/\(-1099511627776<=x.2.1/\x.2.1<=1099511627777 /\ -1099511627776<=x.2.2.1/\x.2.2.1<=1099511627777)/\(x.1<=p.length->x.2.2.2++y5 x.2.1 x.2.2.1 (p.drop x.1) m n=lM p m n)/\(x.1=p.length+1->x.2.2.2=lM p m n))
  (fun x=>p.length+1-x.1) (0,0,0,[]) (by simp[lM]) (Sees.of lf lo) ?_
 rintro⟨k,i,j,z⟩ ⟨I,K,D,F,G⟩;dsimp only at I K D F G ⊢;refine zc 8 (fun q=>?_) fun q=>?_
 ·have w:k<=p.length:=by have:=A1 q;omega
  have B:=F w;refine zz 8 ?_;refine C4 (H9 11 A0) A0 (zz 2 ?_);obtain⟨x,C⟩:∃x,x=p.getD k ⟨m,n⟩:=⟨_,rfl⟩
  have L:-1099511627776<=x.From/\x.From<=1099511627776 /\ -1099511627776<=x.To/\x.To<=1099511627776:=by
   rw[C,B46];by_cases h:k<p.length
   ·rw[B44 h];exact hb _ (B50 h)
   ·rw[B56 B3];exact J
  have l:y5 i j (p.drop k) m n=(if x.From>i\/x.To>j then [⟨i,x.From-i,j,x.To-j⟩] else [])++(if k<p.length then y5 (x.From+1) (x.To+1) (p.drop (k+1)) m n else []):=by
   by_cases h:k<p.length
   ·rw[B55 h,A6 h,C,B46,B44 h];rfl
   ·rw[B59 B3,A7 h,C,B46,B56 B3];simp[y5]
  refine mV [(0,B8 Span 2 spanC p),(1,B7 m),(2,B7 n),(7,.s (.one (.buf 7 Change 4 changeC z))),(8,B7 i),(9,B7 j),(10,B7 k),(11,.s (.one (.ref 11 0)))] [(11,.box [.p (.v (.int .i64 x.From)),.p (.v (.int .i64 x.To))]),(7,.spare z.length 4 72)] ?_ ?_
  ·refine zc 7 (fun q=>?_) fun q=>?_
   ·have A:k<p.length:=by have:=A1 q;omega
    have H:p[k]?=some p[k]:=by simp[A]
    have:x=p[k]:=by rw[C,B46,H];rfl
    subst this;skip;refine zz 3 ?_;refine B0 (A9 A0 (.pure _ _ _ _) A0 B3 H) A0 (zz 3 ?_);exact Sees.of lf lo
   ·have A:¬k<p.length:=by have:=A3 q;omega
    have:x=⟨m,n⟩:=by rw[C,B46,B56 B3];rfl
    subst this;refine zz 1 ?_;exact Sees.of lf lo
  ·obtain⟨g,d⟩:∃o,o=z++(if x.From>i\/x.To>j then [⟨i,x.From-i,j,x.To-j⟩] else []):=⟨_,rfl⟩
   have E:g.length<=k+1:=by rw[d,B48];split<;>simp<;>omega
   refine mV [(0,B8 Span 2 spanC p),(1,B7 m),(2,B7 n),(7,.s (.one (.buf 7 Change 4 changeC g))),(10,B7 k),(11,.s (.one (.ref 11 0)))] [(11,.box [.p (.v (.int .i64 x.From)),.p (.v (.int .i64 x.To))]),(7,.spare g.length 4 72)] ?_ ?_
   ·refine zc 13 (fun q=>?_) fun q=>?_
    ·have h:=A1 (or_pick.symm.trans q);rw[A6 h]at d;subst d;skip;refine zz 13 ?_;refine B0 (C0 (c:=changeC) (ys:=[⟨_,_,_,_⟩]) (C3 A0 A0 A0 A0 E6) A0 A0 A0) A0 (zz 3 ?_);exact Sees.of lf lo
    ·have h:=A3 (or_pick.symm.trans q);rw[A7 h,B67]at d;subst d;refine zz 1 ?_;exact Sees.of lf lo
   ·skip;refine zz 15 ?_;refine⟨(k+1,x.From+1,x.To+1,g),⟨by dsimp only;omega,E,by dsimp only;omega,?_,?_⟩,by dsimp only;omega,Sees.of lf lo⟩
    ·intro y;dsimp only at y ⊢;rw[<-B,l,A6 (show k<p.length by omega),d];simp
    ·intro y;dsimp only at y ⊢;rw[<-B,l,A7 (show ¬k<p.length by omega),d];simp
 ·have w:k=p.length+1:=by have:=A3 q;omega
  refine zz 7 ?_;exact B2 (G6 rfl rfl rfl) (by rw[G w])
theorem A57(a b:List Int)(ha:a.length<=536870912)(hb:b.length<=536870912):FnOk Tryz.prog 145 [K8 a,K8 b] (fun R=>R=[pIntss (pH a b)]):=by
 refine FnOk.intro Tryz.func145 F2 A0 A0 A0 A0 (zz 9 ?_);refine C4 (l7 5 (List Int) intsC [] A0 A0 B3 B3 (fun _=>by first | exact⟨⟨rfl,rfl⟩,trivial⟩ | exact⟨F6 _ _ _,trivial⟩ | exact⟨F6 _ _ _,⟨rfl,rfl⟩,F6 _ _ _,trivial⟩) b7w) A0 ?_;refine zz 10 ?_;refine C2 (X:=Nat) (fun i=>([(0,B8 Int 1 D2 a),(1,B8 Int 1 D2 b),(5,.s (.one (.mut 5))),(6,B7 ((i:Int)-1))],[(5,.arr (List Int) 1 intsC (P3 a b i))])) (fun i=>i<=a.length+1) (fun i=>i) (a.length+1) (Nat.le_refl _) ?_ ?_
 ·refine Sees.of ⟨⟨_,rfl,.same _⟩,⟨_,rfl,.same _⟩,⟨_,rfl,.same _⟩,⟨_,rfl,.eq dV⟩,trivial⟩ ⟨?_,trivial⟩;rw[<-FO];rfl
 intro i P;dsimp only at P ⊢;refine zc 6 (fun c=>?_) fun c=>?_
 ·obtain⟨i,rfl⟩:∃r,i=r+1:=⟨i-1,by have:=A1 c;omega⟩
  refine t8 [(0,B8 Int 1 D2 a),(1,B8 Int 1 D2 b),(5,.s (.one (.mut 5))),(6,B7 i)] [(5,.arr (List Int) 1 intsC (P3 a b (i+1)))] (Sees.of ⟨Y7 rfl,Y7 rfl,Y7 rfl,leE A0 (by first | (simp;done) | (simp;omega)),trivial⟩ ⟨rfl,trivial⟩) (C1 (B36 5 A0) ?_);have C:((P3 a b (i+1)).map fun x=>TC.p (intsC x 0)).length=a.length+1:=by simp[dY]
  have N:=dY a b (i+1);refine zz 10 ?_;refine C4 (l7 23 Int D2 0 A0 A0 B3 B3 (fun _=>by first | exact⟨⟨rfl,rfl⟩,trivial⟩ | exact⟨F6 _ _ _,trivial⟩ | exact⟨F6 _ _ _,⟨rfl,rfl⟩,F6 _ _ _,trivial⟩) b7w) A0 ?_;refine B0 (L3 A0 A0 A0 B3 B3) A0 (V1 (fI TySz.out A0 A0 (by (rw[C];simp;omega)) A0 A0) ?_);refine zz 8 ?_;obtain⟨T,E⟩:∃T,T=((P3 a b (i+1)).map fun x=>TC.p (intsC x 0)).set i (.mut 23):=⟨_,rfl⟩
  have f:T[i]?=some (.mut 23):=by rw[E,B89 (by rw[C];omega)]
  have F:i+1<=a.length->T[i+1]?=some (.p (intsC (S8 a b (i+1) 0) 0)):=fun h=>by
   rw[E,List.getElem?_set_ne B3,B78,lN a b (i+1) (i+1) (Nat.le_refl _) h];rfl
  refine C2 (X:=Nat) (fun j=>([(0,B8 Int 1 D2 a),(1,B8 Int 1 D2 b),(5,.s (.one (.mut 5))),(6,B7 i),(7,B7 ((j:Int)-1))],[(5,.tarr (P3 a b (i+1)).length 1 T),(23,.arr Int 1 D2 (S8 a b i j))])) (fun j=>j<=b.length+1) (fun j=>j) (b.length+1) (Nat.le_refl _) ?_ ?_
  ·refine Sees.of ⟨⟨_,rfl,.same _⟩,⟨_,rfl,.same _⟩,⟨_,rfl,.same _⟩,⟨_,rfl,.same _⟩,⟨_,rfl,.eq dV⟩,trivial⟩ ⟨by rw[E];rfl,?_,trivial⟩;rw[<-LG];rfl
  intro j Q;dsimp only at Q ⊢;refine zc 6 (fun c=>?_) fun c=>?_
  ·obtain⟨j,rfl⟩:∃r,j=r+1:=⟨j-1,by have:=A1 c;omega⟩
   refine t8 [(0,B8 Int 1 D2 a),(1,B8 Int 1 D2 b),(5,.s (.one (.mut 5))),(6,B7 i),(7,B7 j)] [(5,.tarr (P3 a b (i+1)).length 1 T),(23,.arr Int 1 D2 (S8 a b i (j+1)))] (Sees.of ⟨Y7 rfl,Y7 rfl,Y7 rfl,Y7 rfl,leE A0 (by first | (simp;done) | (simp;omega)),trivial⟩ ⟨rfl,rfl,trivial⟩) ?_;have z:=CZ a b i (j+1);have d:=QR a b i j;refine IZ (zz 0 ?_);refine mV [(0,B8 Int 1 D2 a),(1,B8 Int 1 D2 b),(5,.s (.one (.mut 5))),(6,B7 i),(7,B7 j)] [(5,.tarr (P3 a b (i+1)).length 1 T),(23,.arr Int 1 D2 (S8 a b i j))] ?_ ?_
   ·refine zc 10 (fun c=>?_) fun c=>?_
    ·have v:i=a.length:=by have:=A1 c;omega
     have G:(dist (a.drop i) (b.drop j):Int)=b.length-j:=by rw[v,B59 (Nat.le_refl _),dist,B53];omega
     rw[G]at d;skip;refine zz 3 ?_;refine B0 (L3 A0 A0 A0 B3 B3) A0 (B0 (N5 A0 A0 f) A0 (zz 6 ?_));refine V1 (G5 TySz.out A0 A0 (by (rw[z];simp;omega)) A0 A0) ?_;refine zz 1 ?_;rw[<-d];exact Sees.of lf lo
    ·have v:i<a.length:=by have:=A3 c;omega
     refine zc 8 (fun c=>?_) fun c=>?_
     ·have w:j=b.length:=by have:=A1 c;omega
      have G:(dist (a.drop i) (b.drop j):Int)=a.length-i:=by rw[w,B59 (Nat.le_refl b.length),fU,B53];omega
      rw[G]at d;skip;refine zz 3 ?_;refine B0 (L3 A0 A0 A0 B3 B3) A0 (B0 (N5 A0 A0 f) A0 (zz 6 ?_));refine V1 (G5 TySz.out A0 A0 (by (rw[z];simp;omega)) A0 A0) ?_;refine zz 1 ?_;rw[<-d];exact Sees.of lf lo
     ·have w:j<b.length:=by have:=A3 c;omega
      have L:a[i]?=some a[i]:=by simp[v]
      have M:b[j]?=some b[j]:=by simp[w]
      have A:=IB a b i j v w;have B:=F v;refine zz 4 ?_;refine D1 (A9 A0 (.pure _ _ _ _) A0 B3 L) A0 A0 (zz 3 ?_);refine D1 (A9 A0 (.pure _ _ _ _) A0 B3 M) A0 A0 ?_;refine zc 4 (fun c=>?_) fun c=>?_
      ·rw[A6 (A1 c)]at A;have O:=dM a b (i+1) 0 (j+1) (Nat.zero_le _) w;rw[A]at d;skip;refine zz 4 ?_;refine D1 (N5 A0 A0 f) A0 A0 (zz 5 ?_);refine D1 (N5 A0 A0 B) A0 A0 (zz 2 ?_);refine D1 (A9 A0 (.pure _ _ _ _) A0 B3 O) A0 A0 (zz 1 ?_);refine D1 (E4 A0 A0 A0 B3 B3) A0 A0 (FY (G5 TySz.out A0 A0 (by (rw[z];simp;omega)) A0 A0) A0 ?_);refine zz 1 ?_;rw[<-d];exact Sees.of lf lo
      ·rw[A7 (A3 c)]at A;have H:=dM a b (i+1) 0 j (Nat.zero_le _) B3;have I:=dM a b i (j+1) (j+1) (Nat.le_refl _) B3;have J:=pF (a.drop (i+1)) (b.drop j);have K:=pF (a.drop i) (b.drop (j+1));simp only[B53]at J K;have D:(1:Int)+(if (dist (a.drop i) (b.drop (j+1)):Int)<(dist (a.drop (i+1)) (b.drop j):Int) then (dist (a.drop i) (b.drop (j+1)):Int) else (dist (a.drop (i+1)) (b.drop j):Int))=(dist (a.drop i) (b.drop j):Int):=by
        rw[A];split<;>omega
       rw[<-D]at d;skip;refine zz 4 ?_;refine D1 (N5 A0 A0 f) A0 A0 (zz 5 ?_);refine D1 (N5 A0 A0 B) A0 A0 (zz 1 ?_);refine D1 (A9 A0 (.pure _ _ _ _) A0 B3 H) A0 A0 (zz 4 ?_);refine D1 (N5 A0 A0 f) A0 A0 (zz 2 ?_);refine D1 (E4 A0 A0 A0 B3 B3) A0 A0 (D1 (M4 A0 A0 I A0) A0 A0 (D1 (n_min A0 A0) A0 A0 (D1 (Y6 A0 A0 (by (constructor<;>split<;>omega))) A0 A0 ?_)));refine D1 (E4 A0 A0 A0 B3 B3) A0 A0 (FY (G5 TySz.out A0 A0 (by (rw[z];simp;omega)) A0 A0) A0 ?_);refine zz 1 ?_;rw[<-d];exact Sees.of lf lo
   ·skip;refine zz 5 ?_;exact⟨j,by omega,by omega,Sees.of lf lo⟩
  ·obtain rfl:j=0:=by have:=A3 c;omega
   refine C1 (Sees.freeze (k:=23) A0) (C1 (B37 5 (P3 a b i) A0 (by simp[dY]) (by rw[E,SH (y:=S8 a b i 0) rfl,LH])) ?_);refine zz 6 ?_;exact⟨i,by omega,by omega,Sees.of lf lo⟩
 ·obtain rfl:i=0:=by have:=A3 c;omega
  refine C1 (Sees.freeze (k:=5) A0) (zz 7 ?_);exact B2 (G6 rfl rfl rfl) rfl
theorem JV(a b:List Int):∀(p q:Int),∀s∈J1 p q a b,p<=s.From/\s.From<p+a.length/\q<=s.To/\s.To<q+b.length:=by
 induction a generalizing b with
 | nil=>intro p q s c;simp[J1]at c
 | cons x a d =>
  induction b with
  | nil=>intro p q s c;simp[J1]at c
  | cons y b e =>
   intro p q s c;rw[J1]at c;simp only[B49];split at c
   ·rcases List.mem_cons.1 c with rfl | c
    ·simp only;omega
    ·have:=d b (p+1) (q+1) s c;omega
   ·split at c
    ·have:=d (y::b) (p+1) q s c;simp only[B49]at this;omega
    ·have:=e p (q+1) s c;simp only[B49]at this;omega
theorem walk_ok(a b:List Int)(ha:a.length<=536870911)(hb:b.length<=536870911):FnOk Tryz.prog 102 [K8 a,K8 b] (fun S=>S=[pChanges (sB a b)]):=by
 refine FnOk.intro Tryz.func102 F2 A0 A0 A0 A0 (zz 8 ?_);refine E3 (A57 a b B3 B3) (zz 4 ?_);refine C4 (O9 6 _ spanC A0) A0 (zz 8 ?_);refine C2 (X:=Nat×Nat×List Span) (fun x=>([(0,B8 Int 1 D2 a),(1,B8 Int 1 D2 b),(5,B8 (List Int) 1 intsC (pH a b)),(6,.s (.one (.buf 6 Span 2 spanC x.2.2))),(7,B7 x.1),(8,B7 x.2.1)],[(6,.spare x.2.2.length 2 144)]))
  (fun x=>x.1<=a.length/\x.2.1<=b.length/\x.2.2.length<=x.1/\x.2.2++J1 x.1 x.2.1 (a.drop x.1) (b.drop x.2.1)=J1 0 0 a b) (fun x=>a.length+b.length-x.1-x.2.1) (0,0,[]) dV (Sees.of lf lo) ?_
 rintro⟨i,j,q⟩ ⟨O,J,Q,t⟩;dsimp only at O J Q t ⊢;refine zc 14 (fun m=>?_) fun m=>?_
 ·have K:=A1 (or_pick.symm.trans m);refine IZ (zz 3 ?_);have F:i<a.length->(pH a b)[i]?=some (S8 a b i 0):=fun h=>lN a b 0 i (Nat.zero_le _) B3;have G:i<a.length->(pH a b)[i+1]?=some (S8 a b (i+1) 0):=fun h=>lN a b 0 (i+1) (Nat.zero_le _) B3;have L:i<a.length->a[i]?=some (a.getD i 0):=fun h=>by simp[B46,h]
  have M:j<b.length->b[j]?=some (b.getD j 0):=fun h=>by simp[B46,h]
  have B:∀h:i<a.length,a.getD i 0=a[i]:=fun h=>by simp[B46,h]
  have C:∀h:j<b.length,b.getD j 0=b[j]:=fun h=>by simp[B46,h]
  refine zz 8 ?_;refine G3 A0 A0 (fun d=>by rw[d];exact qA A0 (.pure _ _ _ _)) A0 A0 ?_;refine zz 5 ?_;refine G3 A0 A0 (fun d=>by have l:=d;(try simp at l);rw[d];exact A9 A0 (.pure _ _ _ _) A0 B3 (L B3)) A0 A0 ?_;refine zz 3 ?_;refine G3 A0 A0 (fun d=>by have l:=d;(try simp at l);rw[d];exact A9 A0 (.pure _ _ _ _) A0 B3 (M B3)) A0 A0 ?_;refine zc 5 (fun m=>?_) fun m=>?_
  ·simp only[N1]at m;obtain⟨⟨v,k⟩,A⟩:=A1 m;have g:i<a.length:=by omega
   have w:j<b.length:=by omega
   rw[B g,C w]at A;rw[dL a b i j g w,A6 A]at t;refine zz 6 ?_;refine B0 (C0 (c:=spanC) (ys:=[⟨_,_⟩]) (C3 A0 A0 A0 A0 E6) A0 A0 A0) A0 (zz 11 ?_);exact⟨(i+1,j+1,q++[⟨i,j⟩]),⟨by dsimp only;omega,by dsimp only;omega,by dsimp only;simp;omega,by dsimp only;rw[B57];exact t⟩,by dsimp only;omega,Sees.of lf lo⟩
  ·have D:∀(E:i<a.length) (N:j<b.length),a[i]≠b[j]:=fun E N h=>by
    simp only[N1]at m;exact A3 m ⟨⟨by omega,by omega⟩,by rw[B E,C N];exact h⟩
   refine zz 9 ?_;refine G3 A0 A0 (fun d=>by have l:=d;(try simp at l);rw[d];exact Y6 A0 A0 B3) A0 A0 ?_;refine G3 A0 A0 (fun d=>by have l:=d;(try simp at l);rw[d];exact A9 A0 (.pure _ _ _ _) A0 B3 (G B3)) A0 A0 ?_;refine zz 2 ?_;refine G3 A0 A0 (fun d=>by have l:=d;(try simp at l);rw[d];exact A9 A0 (.pure _ _ _ _) A0 B3 (dM a b (i+1) 0 j (Nat.zero_le _) J)) A0 A0 ?_;refine zz 1 ?_;refine G3 A0 A0 (fun d=>by have l:=d;(try simp at l);have E:=pF (a.drop (i+1)) (b.drop j);simp only[B53]at E;rw[d];exact Y6 A0 A0 B3) A0 A0 ?_;refine zz 2 ?_;refine G3 A0 A0 (fun d=>by have l:=d;(try simp at l);rw[d];exact A9 A0 (.pure _ _ _ _) A0 B3 (F B3)) A0 A0 ?_;refine zz 2 ?_;refine G3 A0 A0 (fun d=>by have l:=d;(try simp at l);rw[d];exact A9 A0 (.pure _ _ _ _) A0 B3 (dM a b i 0 j (Nat.zero_le _) J)) A0 A0 ?_;refine zc 5 (fun m=>?_) fun m=>?_
   ·rw[N1]at m;obtain⟨v,H⟩:=A1 m;have g:i<a.length:=by omega
    have z:q++J1 (i+1:Nat) j (a.drop (i+1)) (b.drop j)=J1 0 0 a b:=by
     by_cases k:j<b.length
     ·rw[dL a b i j g k,A7 (D g k),A6 B3]at t;exact t
     ·rw[B59 (show b.length<=j by omega),r5]at t ⊢;exact t
    skip;refine zz 5 ?_;exact⟨(i+1,j,q),⟨by dsimp only;omega,by dsimp only;omega,by dsimp only;omega,z⟩,by dsimp only;omega,Sees.of lf lo⟩
   ·rw[N1]at m;have H:=A3 m;have k:j<b.length:=by
     refine Classical.byContradiction fun h=>?_;have k:j=b.length:=by omega
     have v:i<a.length:=by omega
     apply H;refine⟨by omega,?_⟩;rw[B59 (show b.length<=j by omega),fU,fU,B53,B53];omega
    have z:q++J1 i (j+1:Nat) (a.drop i) (b.drop (j+1))=J1 0 0 a b:=by
     by_cases v:i<a.length
     ·rw[dL a b i j v k,A7 (D v k),A7 (fun h=>H ⟨by omega,by omega⟩)]at t;exact t
     ·rw[B59 (show a.length<=i by omega),X3]at t ⊢;exact t
    skip;refine zz 5 ?_;exact⟨(i,j+1,q),⟨by dsimp only;omega,by dsimp only;omega,by dsimp only;omega,z⟩,by dsimp only;omega,Sees.of lf lo⟩
 ·have K:=A3 (or_pick.symm.trans m);have I:i=a.length:=by omega
  have P:j=b.length:=by omega
  rw[I,B59 (Nat.le_refl a.length)]at t;have y:q=J1 0 0 a b:=by rw[<-t];simp[J1]
  refine zz 8 ?_;refine bN (made_ok q a.length b.length B3 (fun s R=>by have:=JV a b 0 0 s (y ▸ R);omega) B3) A0 A0 A0 ?_;rintro _ rfl;refine zz 3 ?_;exact B2 (G6 rfl rfl rfl) (by rw[y];rfl)
theorem u64_in{n:Int}(h:0<=n/\n<18446744073709551616):IntKind.u64.wrap n=n:=by simp[IntKind.wrap,IntKind.signed,IntKind.bits];omega
def W6(a n:Int):Int:=IntKind.u64.wrap a % n
theorem n9(a:Int){n:Int}(h:1<=n):0<=W6 a n/\W6 a n<n:=⟨Int.emod_nonneg _ B3,Int.emod_lt_of_pos _ B3⟩
theorem rK(a n:Int)(f:1<=n)(g:n<=9223372036854775807):FnOk Tryz.prog 6 [D3 a,D3 n] (fun rs=>rs=[D3 (W6 a n)]):=by
 refine FnOk.intro Tryz.func6 F2 A0 A0 A0 A0 (zz 5 ?_);have b:IntKind.u64.wrap n=n:=u64_in B3;refine zz 5 ?_;refine B0 (n_rem A0 A0 (by (rw[b];omega))) A0 ?_;refine zz 4 ?_;refine B2 (G6 A0 A0 A0) ?_;have c:=SO a;have e:(IntKind.u64.wrap a).tmod n=IntKind.u64.wrap a % n:=Int.tmod_eq_emod_of_nonneg c;have h:=n9 a f;unfold W6 at *;rw[b,e,cU ⟨by omega,by omega⟩]
def xor64(a b:Int):Int:=IntKind.u64.wrap ((BitVec.ofInt IntKind.u64.bits a ^^^ BitVec.ofInt IntKind.u64.bits b).toNat:Int)
def shr64(a n:Int):Int:=a.fdiv (2 ^ (min n.toNat IntKind.u64.bits))
def at0(k:Int):Int:=IntKind.u64.wrap (IntKind.u64.wrap (k+1)*11400714819323198485)
def at1(b:List Int)(k:Int):Int:=if 0<b.length then xor64 (at0 k) (IntKind.u64.wrap (b.getD (k.tmod b.length).toNat 0)) else at0 k
def at2(x:Int):Int:=IntKind.u64.wrap (xor64 x (shr64 x 31)*13787848793156543929)
def d5(a:List Int)(k:Int):Int:=IntKind.i64.wrap (shr64 (xor64 (at2 (at1 a k)) (shr64 (at2 (at1 a k)) 29)) 1)
theorem qH(b:List Int)(k:Int)(g:0<=k)(m:k<=1099511627776):FnOk Tryz.prog 17 [K8 b,D3 k] (fun rs=>rs=[D3 (d5 b k)]):=by
 refine FnOk.intro Tryz.func17 F2 A0 A0 A0 A0 ?_;refine JG (t:=0) rfl (.pure _ _ _ _) fun f=>?_;refine zz 9 ?_;refine B0 (JB A0 A0) A0 (zz 2 ?_);refine mV [(0,B8 Int 1 D2 b),(1,B7 k),(5,I1 (.int .u64 (at1 b k)))] [] ?_ ?_
 ·refine zc 6 (fun d=>?_) fun d=>?_
  ·have c:0<b.length:=by have:=A1 d;omega
   have h:0<=k.tmod b.length:=Int.tmod_nonneg _ g;have j:k.tmod b.length<b.length:=Int.tmod_lt_of_pos _ B3;have l:b[(k.tmod b.length).toNat]?=some (b.getD (k.tmod b.length).toNat 0):=by
    rw[B46,B44 B3];rfl
   skip;refine zz 7 ?_;refine B0 (A9 A0 (.pure _ _ _ _) A0 B3 l) A0 (zz 5 ?_);rw[at1,A6 c];exact Sees.of lf lo
  ·have c:¬0<b.length:=by have:=A3 d;omega
   refine zz 1 ?_;rw[at1,A7 c];exact Sees.of lf lo
 ·refine zz 4 ?_;refine B0 (MU A0 A0 B3) A0 (zz 1 ?_);refine B0 (JB A0 A0) A0 (zz 6 ?_);refine B0 (MU A0 A0 B3) A0 (zz 1 ?_);refine B0 (MU A0 A0 B3) A0 (zz 4 ?_);exact B2 (G6 rfl rfl rfl) rfl
def lineTab:List Str:=[[97],[98],[99],[97,98],[98,97],[],[97,97],[98,32,97],[120,43,121],[92]]
def iR(k:Int):Str:=lineTab.getD (W6 k 10).toNat []
theorem NY:∀s∈lineTab,s.length<=3:=by decide
theorem kX(k:Int):(iR k).length<=3:=by
 unfold iR;rw[B46];cases h:lineTab[(W6 k 10).toNat]? with
 | none=>simp
 | some s=>exact NY s (B52 h)
theorem NZ(k:Int):FnOk Tryz.prog 30 [D3 k] (fun d=>d=[F3 (iR k)]):=by
 refine FnOk.intro Tryz.func30 F2 A0 A0 A0 A0 (zz 5 ?_);have f:=n9 k (n:=10) F2;have b:lineTab[(W6 k 10).toNat]?=some (iR k):=by
  unfold iR;rw[B46,B44 (show (W6 k 10).toNat<lineTab.length by simp[lineTab];omega)];rfl
 refine zz 1 ?_;refine B0 (C0 (c:=K7) (ys:=lineTab) (C3 A0 A0 A0 A0 (C3 A0 A0 A0 A0 (C3 A0 A0 A0 A0 (C3 A0 A0 A0 A0 (C3 A0 A0 A0 A0 (C3 A0 A0 A0 A0 (C3 A0 A0 A0 A0 (C3 A0 A0 A0 A0 (C3 A0 A0 A0 A0 (C3 A0 A0 A0 A0 E6)))))))))) A0 A0 A0) A0 (zz 1 ?_);refine E3 (rK k 10 F2 F2) (B0 (A9 A0 (.pure _ _ _ _) A0 B3 b) A0 (zz 4 ?_));exact B2 (G6 rfl rfl rfl) rfl
theorem ids_ok(d:List (List Str))(y:d.flatten.length<=536870912)(E:d.length<=536870912):FnOk Tryz.prog 101 [pStrss d] (fun I=>I=[pIntss (d.map (J8 (D5 d)))]):=by
 refine FnOk.intro Tryz.func101 F2 A0 A0 A0 A0 (zz 7 ?_);refine E3 (A56 d y) (zz 4 ?_);refine C4 (O9 4 _ intsC A0) A0 (zz 7 ?_);refine C2 (X:=Nat) (fun f=>([(0,B8 (List Str) 1 strsC d),(3,B8 Str 1 K7 (D5 d)),(4,.s (.one (.buf 4 (List Int) 1 intsC ((d.take f).map (J8 (D5 d)))))),(5,B7 f)],[(4,.spare ((d.take f).map (J8 (D5 d))).length 1 22)])) (fun f=>f<=d.length) (fun f=>d.length-f) 0 dV (Sees.of lf lo) ?_;intro f D;dsimp only at D ⊢;refine zz 8 ?_;have F:((d.take f).map (J8 (D5 d))).length=f:=by simp;omega
 refine zc 0 (fun q=>?_) fun q=>?_
 ·have v:f<d.length:=by have:=A1 q;omega
  have C:d[f]?=some d[f]:=by simp[v]
  have B:=v8 d (f+1);rw[l8 d f v,B48]at B;refine zz 5 ?_;refine C4 (AB 16 (c:=D2) (ys:=[]) E6 A0 A0 A0 b7w) A0 (zz 8 ?_);refine C2 (X:=Nat) (fun i=>([(0,B8 (List Str) 1 strsC d),(3,B8 Str 1 K7 (D5 d)),(4,.s (.one (.buf 4 (List Int) 1 intsC ((d.take f).map (J8 (D5 d)))))),(5,B7 f),(6,.s (.one (.buf 16 Int 1 D2 (J8 (D5 d) (d[f].take i))))),(7,B7 i)],[(4,.spare ((d.take f).map (J8 (D5 d))).length 1 22),(16,.spare (J8 (D5 d) (d[f].take i)).length 1 3)])) (fun i=>i<=d[f].length) (fun i=>d[f].length-i) 0 dV (Sees.of lf lo) ?_;intro i G;dsimp only at G ⊢;have H:(J8 (D5 d) (d[f].take i)).length=i:=by simp[J8];omega
  refine zz 6 ?_;refine B0 (A9 A0 (.pure _ _ _ _) A0 B3 C) A0 ?_;refine zc 4 (fun q=>?_) fun q=>?_
  ·have w:i<d[f].length:=by have:=A1 q;omega
   have x:d[f][i]?=some d[f][i]:=by simp[w]
   have j:J8 (D5 d) (d[f].take (i+1))=J8 (D5 d) (d[f].take i)++[L2 (D5 d) d[f][i] 0]:=by
    unfold J8;rw[List.take_add_one,x,Option.toList_some,B77];rfl
   refine zz 8 ?_;refine B0 (A9 A0 (.pure _ _ _ _) A0 B3 C) A0 (zz 2 ?_);refine B0 (A9 A0 (.pure _ _ _ _) A0 B3 x) A0 (zz 1 ?_);refine tF (NR _ _) A0 A0 A0 (B0 (C0 (c:=D2) (ys:=[_]) (C3 A0 A0 A0 A0 E6) A0 A0 A0) A0 (zz 8 ?_));refine⟨i+1,by omega,by omega,?_⟩;rw[j];exact Sees.of lf lo
  ·have z:i=d[f].length:=by have:=A3 q;omega
   have j:(d.take (f+1)).map (J8 (D5 d))=(d.take f).map (J8 (D5 d))++[J8 (D5 d) (d[f].take i)]:=by
    rw[List.take_add_one,C,Option.toList_some,B77,z,B51];rfl
   refine zz 4 ?_;refine B0 (C0 (c:=intsC) (ys:=[_]) (C3 A0 A0 A0 A0 E6) A0 A0 A0) A0 (zz 8 ?_);refine⟨f+1,by omega,by omega,?_⟩;rw[j];exact Sees.of lf lo
 ·have A:f=d.length:=by have:=A3 q;omega
  subst A;refine zz 7 ?_;exact B2 (G6 rfl rfl rfl) (by rw[B51])
def aB(d:List Int)(b:Int)(c:Int)(m:Nat):Str:=((List.range m).map fun (i:Nat)=>iR (W6 (d5 d (b+1+(i:Int))) c)++[10]).flatten
def vP(e:List Int)(b n c:Int):Str :=
 let s:=aB e b c (W6 (d5 e b) (n+1)).toNat
 if ((d5 e (b+90)).tmod 4=0/\(1:Int)<s.length)/\((s.getD (s.length-2) 0).toNat:Int)≠10 then s.take (s.length-1) else s
theorem nH(c:List Int)(a b:Int)(m:Nat):aB c a b (m+1)=aB c a b m++iR (W6 (d5 c (a+1+(m:Int))) b)++[10]:=by
 unfold aB;rw[B96,B77,B87];simp
theorem qI(c:List Int)(a b:Int)(m:Nat):(aB c a b m).length<=4*m:=by
 induction m with
 | zero=>simp[aB]
 | succ m d=>have:=kX (W6 (d5 c (a+1+(m:Int))) b);rw[nH];simp only[B48,B49,List.length_nil];omega
theorem blob_ok(e:List Int)(b n c:Int)(A:0<=b/\b<=1073741824)(B:0<=n/\n<=1048576)(C:1<=c/\c<=1048576) :
  FnOk Tryz.prog 12 [K8 e,D3 b,D3 n,D3 c] (fun rs=>rs=[F3 (vP e b n c)]):=by
 obtain⟨m,r⟩:∃m:Nat,W6 (d5 e b) (n+1)=m:=⟨(W6 (d5 e b) (n+1)).toNat,by have:=n9 (d5 e b) (n:=n+1) B3;omega⟩
 have x:=n9 (d5 e b) (n:=n+1) B3;have y:m<=1048576:=by omega
 refine FnOk.intro Tryz.func12 F2 A0 A0 A0 A0 (zz 8 ?_);refine E3 (qH e b B3 B3) (zz 2 ?_);refine tF (rK _ (n+1) B3 B3) A0 A0 A0 (zz 3 ?_);rw[r];refine zz 9 ?_;refine C2 (X:=Nat) (fun i=>([(0,B8 Int 1 D2 e),(1,B7 b),(2,B7 m),(3,B7 c),(9,Q6 (aB e b c i)),(10,B7 i)],[])) (fun i=>i<=m) (fun i=>m-i) 0 (Nat.zero_le _) (Sees.of lf lo) ?_;intro i u;dsimp only at u ⊢;have k:=qI e b c i;refine zc 7 (fun f=>?_) fun f=>?_
 ·have w:i<m:=by have:=A1 f;omega
  have v:=kX (W6 (d5 e (b+1+(i:Int))) c);refine zz 10 ?_;refine tF (qH e _ B3 B3) A0 A0 A0 (zz 1 ?_);refine tF (rK _ c B3 B3) A0 A0 A0 (tF (NZ _) A0 A0 A0 (B0 (gN A0 A0 B3) A0 (zz 8 ?_)));refine⟨i+1,by omega,by omega,?_⟩;rw[nH];exact Sees.of lf lo
 ·have l:i=m:=by have:=A3 f;omega
  subst l;obtain⟨s,q⟩:∃s,s=aB e b c i:=⟨_,rfl⟩
  have z:(1:Int)<s.length->s[((s.length:Int)-2).toNat]?=some (s.getD (s.length-2) 0):=fun h=>by
   rw[show ((s.length:Int)-2).toNat=s.length-2 by omega,B46,B44 B3];rfl
  have g:vP e b n c=if ((d5 e (b+90)).tmod 4=0/\(1:Int)<s.length)/\((s.getD (s.length-2) 0).toNat:Int)≠10 then s.take (s.length-1) else s:=by
   simp only[vP,r,B45,<-q]
  rw[<-q]at k;refine zz 3 ?_;rw[<-q];refine zz 4 ?_;refine tF (qH e _ B3 B3) A0 A0 A0 (zz 11 ?_);refine F7 A0 A0 A0 A0 (fun j=>by have p:=j;(try simp at p);rw[j];exact aL A0 A0 B3) ?_;refine F7 A0 A0 A0 A0 (fun j=>by have p:=j;(try simp at p);rw[j];exact G9 A0 A0 B3 (z B3)) ?_;refine zc 3 (fun f=>?_) fun f=>?_
  ·simp only[N1]at f;have h:=A1 f;skip;refine zz 14 ?_;exact B2 (G6 rfl rfl rfl) (by rw[g,A6 h,show ((s.length:Int)-1).toNat=s.length-1 by omega])
  ·simp only[N1]at f;have h:=A3 f;refine zz 7 ?_;exact B2 (G6 rfl rfl rfl) (by rw[g,A7 h])
theorem SS(d:List Int)(b n c:Int)(f:0<=n):((vP d b n c).length:Int)<=4*n:=by
 have h:=n9 (d5 d b) (n:=n+1) B3;have i:=qI d b c (W6 (d5 d b) (n+1)).toNat
 unfold vP;simp only;split
 ·simp only[B54];omega
 ·omega
def fL(b:List Int)(a:Int)(i:Nat)(s:Str):List Str->Str
 | []=>s
 | x::r=>if (d5 b (a+(i:Int))).tmod 6=0 then fL b a (i+1) s r
  else if (d5 b (a+(i:Int))).tmod 6=1 then fL b a (i+1) (s++iR (d5 b (a+40+(i:Int)))++[10]++x) r
  else fL b a (i+1) (s++x) r
def BF(b:Str)(c:List Int)(a:Int):Str:=fL c a 0 [] (E2 b)
theorem kY(b:List Int)(a:Int):∀(l:List Str) (i:Nat) (s:Str),(fL b a i s l).length<=s.length+l.flatten.length+4*l.length
 | [],i,s=>by simp[fL]
 | x::r,i,s=>by
  have c:=kY b a r (i+1) s;have d:=kY b a r (i+1) (s++iR (d5 b (a+40+(i:Int)))++[10]++x);have f:=kY b a r (i+1) (s++x);have j:=kX (d5 b (a+40+(i:Int)));simp only[B48,B49,List.length_nil,B82]at *;unfold fL;split
  ·omega
  ·split<;>omega
theorem vQ(s b:Str):(I7 b s).flatten=b++s:=by
 induction s generalizing b with
 | nil=>unfold I7;split<;>simp[*]
 | cons c r d=>unfold I7;split<;>simp[d]
theorem zA(s:Str):(E2 s).flatten=s:=vQ s []
theorem near_ok(c:Str)(d:List Int)(b:Int)(hb:c.length<=16777216)(G:0<=b/\b<=1073741824) :
  FnOk Tryz.prog 13 [F3 c,K8 d,D3 b] (fun rs=>rs=[F3 (BF c d b)]):=by
 have z:=o4 c;have y:=zA c;have v:(E2 c).flatten.length=c.length:=by rw[y]
 refine FnOk.intro Tryz.func13 F2 A0 A0 A0 A0 (zz 7 ?_);refine E3 (nG c B3) (zz 3 ?_);obtain⟨l,B⟩:∃l,l=E2 c:=⟨_,rfl⟩
 have A:BF c d b=fL d b 0 [] l:=by rw[BF,B]
 rw[<-B]at z v ⊢;refine zz 9 ?_;refine C2 (X:=Nat×Str) (fun x=>([(1,B8 Int 1 D2 d),(2,B7 b),(7,B8 Str 1 K7 l),(8,Q6 x.2),(9,B7 x.1)],[])) (fun x=>x.1<=l.length/\x.2.length<=(l.take x.1).flatten.length+4*x.1/\fL d b x.1 x.2 (l.drop x.1)=fL d b 0 [] l) (fun x=>l.length-x.1) (0,[]) dV (Sees.of lf lo) ?_;rintro⟨i,s⟩ ⟨D,F,j⟩;dsimp only at D F j ⊢;have E:=v8 l i;refine zc 8 (fun k=>?_) fun k=>?_
 ·have o:i<l.length:=by have:=A1 k;omega
  have C:l[i]?=some l[i]:=by simp[o]
  have q:=v8 l (i+1);have m:=l8 l i o;rw[m,B48]at q;rw[B55 o,fL]at j;refine zz 10 ?_;refine tF (qH d _ B3 B3) A0 A0 A0 ?_;refine zc 8 (fun k=>?_) fun k=>?_
  ·rw[A6 (A1 k)]at j;refine zz 6 ?_;exact⟨(i+1,s),⟨by dsimp only;omega,by dsimp only;rw[m,B48];omega,j⟩,by dsimp only;omega,Sees.of lf lo⟩
  ·rw[A7 (A3 k)]at j;refine zc 5 (fun k=>?_) fun k=>?_
   ·rw[A6 (A1 k)]at j;have H:=kX (d5 d (b+40+(i:Int)));skip;refine zz 7 ?_;refine tF (qH d _ B3 B3) A0 A0 A0 (tF (NZ _) A0 A0 A0 (B0 (gN A0 A0 B3) A0 (zz 7 ?_)));refine B0 (A9 A0 (.pure _ _ _ _) A0 B3 C) A0 (zz 9 ?_);exact⟨(i+1,s++iR (d5 d (b+40+(i:Int)))++[10]++l[i]),⟨by dsimp only;omega,by dsimp only;rw[m];simp only[B48,B49,List.length_nil];omega,j⟩,by dsimp only;omega,Sees.of lf lo⟩
   ·rw[A7 (A3 k)]at j;refine zz 5 ?_;refine B0 (A9 A0 (.pure _ _ _ _) A0 B3 C) A0 (zz 1 ?_);refine B0 (gN A0 A0 B3) A0 (zz 7 ?_);exact⟨(i+1,s++l[i]),⟨by dsimp only;omega,by dsimp only;rw[m,B48,B48];omega,j⟩,by dsimp only;omega,Sees.of lf lo⟩
 ·have w:i=l.length:=by have:=A3 k;omega
  rw[w,B59 (Nat.le_refl _)]at j;refine zz 7 ?_;exact B2 (G6 rfl rfl rfl) (by rw[A,<-j];rfl)
theorem GM(s:Str):(ByteArray.mk s.toArray).size=s.length:=by simp[ByteArray.size]
theorem JW(s p:Str)(b:s.length<=1099511627776):FnOk Tryz.prog 171 [F3 s,F3 p] (fun a=>a=[E1 (Lib.hasSuffix s p)]) :=
 B18 (xs:=[.string ⟨s.toArray⟩,.string ⟨p.toArray⟩]) ⟨_,rfl,rfl,rfl⟩ rfl fun w=>by simpa using Tryz.strings_HasSuffix ⟨s.toArray⟩ ⟨p.toArray⟩ w (by rw[GM];omega)
theorem EX(s p:Str)(b:s.length<=1099511627776):FnOk Tryz.prog 89 [F3 s,F3 p] (fun a=>a=[F3 (Lib.trimSuffix s p)]) :=
 B18 (xs:=[.string ⟨s.toArray⟩,.string ⟨p.toArray⟩]) ⟨_,rfl,rfl,rfl⟩ rfl fun w=>by simpa using Tryz.strings_TrimSuffix ⟨s.toArray⟩ ⟨p.toArray⟩ w (by rw[GM];omega)
theorem JX(s:Str)(c:UInt8):FnOk Tryz.prog 193 [F3 s,.one (.v (.int .u8 c.toNat))] (fun a=>a=[D3 (Lib.indexByte s c)]) :=
 B18 (xs:=[.string ⟨s.toArray⟩,.int .u8 c.toNat]) ⟨_,rfl,rfl,rfl⟩ rfl fun w=>by simpa using Tryz.strings_IndexByte ⟨s.toArray⟩ c.toNat w
theorem ZD(s:Str)(a:s.length<=1099511627776):FnOk Tryz.prog 122 [F3 s] (fun b=>b=[E1 (ended s)]):=by
 refine FnOk.intro Tryz.func122 F2 A0 A0 A0 A0 (zz 7 ?_);refine E3 (JW s [10] a) (zz 2 ?_);rw[uF];refine zz 1 ?_;exact B2 (G6 rfl rfl rfl) rfl
theorem A58(s:Str)(a:s.length<=1099511627776):FnOk Tryz.prog 46 [F3 s] (fun rs=>rs=[F3 (V4 s)]):=by
 refine FnOk.intro Tryz.func46 F2 A0 A0 A0 A0 (zz 7 ?_);refine E3 (EX s [10] a) (zz 2 ?_);rw[FP];refine zz 1 ?_;exact B2 (G6 rfl rfl rfl) rfl
open Go.RowKit
theorem GO(s:Str)(c:UInt8):FnOk Tryz.prog 121 [F3 s,F3 [c]] (fun a=>a=[D3 (s.count c)]) :=
 B18 (xs:=[.string ⟨s.toArray⟩,.string ⟨#[c]⟩]) ⟨_,rfl,rfl,rfl⟩ rfl fun w=>by simpa[Lib.countByte] using Tryz.strings_Count_one ⟨s.toArray⟩ c w
theorem ZE(s:Str)(c:UInt8):FnOk Tryz.prog 170 [F3 s,F3 [c]] (fun a=>a=[D3 (Lib.indexByte s c)]) :=
 B18 (xs:=[.string ⟨s.toArray⟩,.string ⟨#[c]⟩]) ⟨_,rfl,rfl,rfl⟩ rfl fun w=>by simpa using Tryz.strings_Index_one ⟨s.toArray⟩ c w
abbrev tI(l:List Str):Ob:=.grow 9 Str 1 K7 l
theorem MR{p:Prop}(h:p:=by (simp;omega)):p:=h
theorem JY(s:Str)(M:s.length<=536870912):AL.Met Tryz.prog 123 [(F3 s).s1,(F3 [10]).s1,(D3 1).s1,(D3 (-1)).s1] [] [] [] (fun J ob'=>J=[.one (.mut 9)]/\ob'=[(9,tI (U1 s))]):=by
 have E:=o7 s [];have K:s.count 10<=s.length:=List.count_le_length;have v:([10]:Str).length=1:=rfl;obtain⟨P,k⟩:∃P,P=U1 s:=⟨_,rfl⟩
 have F:P.length=s.count 10+1:=by rw[k];exact E
 refine AL.Met.intro Tryz.func123 F2 A0 A0 A0 ?_;refine zc 10 (fun c=>?_) fun c=>?_
 ·exact absurd (A1 c) B3
 refine zc 7 (fun c=>?_) fun c=>?_
 ·exact absurd (A1 c) dV
 refine zc 7 (fun c=>?_) fun c=>?_;rotate_left
 ·exact absurd (A3 c) B3
 skip;refine zz 3 ?_;refine E3 (GO s 10) (zz 13 ?_);rw[show (if (s.length:Int)+1<(s.count 10:Int)+1 then (s.length:Int)+1 else (s.count 10:Int)+1)=(P.length:Int) from by split<;>omega];refine zz 2 ?_;refine C4 (f_makeG 9 Str K7 [] A0 A0 B3 B3 (fun _=>by first | exact⟨⟨rfl,rfl⟩,trivial⟩ | exact⟨F6 _ _ _,trivial⟩ | exact⟨F6 _ _ _,⟨rfl,rfl⟩,F6 _ _ _,trivial⟩) b7w) A0 ?_;refine zz 14 ?_;refine C2 (X:=Nat×Str) (fun x=>([(0,Q6 x.2),(1,Q6 [10]),(2,B7 1),(3,B7 ((P.length:Int)-1)),(9,.s (.one (.mut 9))),(10,B7 x.1)],[(9,tI (P.take x.1++List.replicate (P.length-x.1) []))])) (fun x=>x.1+1<=P.length/\P.drop x.1=U1 x.2/\x.2.length<=s.length) (fun x=>P.length-x.1) (0,s) ⟨by dsimp only;omega,k,Nat.le_refl _⟩ (Sees.of lf lo) ?_;rintro⟨i,r⟩ ⟨G,q,I⟩;dsimp only at G q I ⊢;refine zc 7 (fun c=>?_) fun c=>?_
 ·have H:i+1<P.length:=by have:=A1 c;omega
  have A:(10:UInt8)∈r:=by
   have d:=o7 r [];have f:(P.drop i).length=r.count 10+1:=by rw[q];exact d
   rw[B53]at f;exact List.count_pos_iff.1 B3
  rcases w7 10 r with ⟨d,_⟩ | ⟨a,b,d,f,w⟩
  ·exact absurd A d
  obtain⟨y,D⟩:=VK q d f;have L:r.length=a.length+1+b.length:=by rw[d];simp;omega
  refine zz 6 ?_;refine E3 (ZE r 10) (zz 8 ?_);rw[w];refine zc 0 (fun c=>?_) fun c=>?_
  ·exact absurd (A1 c) B3
  refine zz 2 ?_;have p:(P.take i++List.replicate (P.length-i) ([]:Str))[((i:Nat):Int).toNat]?=some []:=by
   rw[B45,B64 b3y,List.getElem?_replicate,A6 b3y]
  refine zz 8 ?_;refine B0 (J7 A0 A0 A0 B3 MR) A0 (V1 (bQ ((r.take ((a.length:Int)+1).toNat)) TySz.out A0 A0 p A0 A0 A0 A0 (fun _ _ _ h=>cW h) (by intro j d f;rcases j with _ | _ | _ | _ | _ | _ | _ | j<;>first | rfl | omega)) ?_);refine zz 8 ?_;refine B0 (kL A0 A0 B3 B3) A0 (zz 7 ?_);have B:r.take (((a.length:Int)+1).toNat)=a++[10]:=by rw[d,show ((a.length:Int)+1).toNat=a.length+1 by omega,show a++10::b=(a++[10])++b by simp,List.take_left' dV]
  have C:r.drop (((a.length:Int)+(([10]:Str).length:Int)).toNat)=b:=by rw[d,v,show ((a.length:Int)+((1:Nat):Int)).toNat=a.length+1 by omega,show a++10::b=(a++[10])++b by simp,List.drop_left' dV]
  refine⟨(i+1,b),⟨by dsimp only;omega,D,by dsimp only;omega⟩,by dsimp only;omega,?_⟩;rw[B,C];dsimp only;rw[<-IC P [] _ i y];exact Sees.of lf lo
 ·have z:i+1=P.length:=by have:=A3 c;omega
  have d:=o7 r [];have f:(P.drop i).length=r.count 10+1:=by rw[q];exact d
  rw[B53]at f;have w:(10:UInt8)∉r:=List.count_eq_zero.1 B3;have y:P[i]?=some r:=by rw[<-List.head?_drop,q];unfold U1;rw[FQ _ _ w];rfl
  refine zz 2 ?_;have p:(P.take i++List.replicate (P.length-i) ([]:Str))[((i:Nat):Int).toNat]?=some []:=by
   rw[B45,B64 b3y,List.getElem?_replicate,A6 b3y]
  refine zz 4 ?_;refine B0 (J7 A0 A0 A0 B3 MR) A0 (V1 (bQ (r) TySz.out A0 A0 p A0 A0 A0 A0 (fun _ _ _ h=>cW h) (by intro j d f;rcases j with _ | _ | _ | _ | _ | _ | _ | j<;>first | rfl | omega)) ?_);refine zz 2 ?_;have e:(P.take i++List.replicate (P.length-i) ([]:Str)).set (i:Int).toNat r=P:=by rw[B45,IC P [] r i y,z];simp
  rw[e];refine zz 8 ?_;rw[show ((i:Int)+1).toNat=P.length by omega,B51,k];exact C7 (F1 rfl rfl) gM (ObIn.spec (ob':=[(9,_)]) ⟨rfl,trivial⟩) ⟨rfl,rfl⟩
theorem BG(s:Str)(a:s.length<=536870912):AL.Met Tryz.prog 81 [(F3 s).s1,(F3 [10]).s1] [] [] [] (fun b ob'=>b=[.one (.mut 9)]/\ob'=[(9,tI (U1 s))]):=by
 refine AL.Met.intro Tryz.func81 F2 A0 A0 A0 (zz 10 ?_);refine eK (JY s a) A0 A0 A0 A0 ?_;rintro _ _ ⟨rfl,rfl⟩;refine⟨rfl,?_⟩;refine zz 2 ?_;refine zz 1 ?_;exact C7 (F1 rfl rfl) gM (ObIn.spec (ob':=[(9,_)]) ⟨rfl,trivial⟩) ⟨rfl,rfl⟩
theorem GP(s:Str)(m:s.length<=536870912):FnOk Tryz.prog 80 [F3 s] (fun j=>j=[D3 (I0 s)]):=by
 have c:=qY s;have k:s.count 10<=s.length:=List.count_le_length;refine FnOk.intro Tryz.func80 F2 A0 A0 A0 A0 (zz 7 ?_);refine E3 (GO s 10) (zz 2 ?_);refine mV [(0,Q6 s),(3,B7 (E2 s).length)] [] ?_ ?_
 ·refine zz 3 ?_;refine B0 (zF A0 A0) A0 (zz 2 ?_);refine F7 A0 A0 A0 A0 (fun d=>by have i:=d;(try simp at i);rw[d];exact K4 (ZD s B3) A0 A0) ?_;refine zc 3 (fun a=>?_) fun a=>?_
  ·have h:s≠[]/\ended s=false:=by
    by_cases b:s=[]
    ·simp[b]at a
    ·refine⟨b,?_⟩;simpa[b] using a
   rw[A6 h]at c;skip;refine zz 5 ?_;rw[c,Int.natCast_add];exact Sees.of lf lo
  ·have h:¬(s≠[]/\ended s=false):=by
    rintro⟨b,f⟩;simp[b,f]at a
   rw[A7 h]at c;refine zz 1 ?_;rw[c];exact Sees.of lf lo
 ·refine zc 11 (fun a=>?_) fun a=>?_
  ·have h:=A1 (or_pick.symm.trans a);refine zz 5 ?_;exact B2 (G6 rfl rfl rfl) (by rw[I0,A6 B3])
  ·have h:=A3 (or_pick.symm.trans a);refine zz 6 ?_;exact B2 (G6 rfl rfl rfl) (by rw[I0,A7 B3])
theorem ST(s:Str)(q:s.length<=536870912):AL.Met Tryz.prog 41 [(F3 s).s1] [] [] [] (fun x ob'=>x=[.one (.mut 9),(D3 (R1 s).2).s1]/\ob'=[(9,tI (R1 s).1)]):=by
 have k:E2 s=if (U1 s).getLastD []=[] then (U1 s).dropLast else U1 s:=QS s []
 have f:(U1 s).length=s.count 10+1:=o7 s [];have v:s.count 10<=s.length:=List.count_le_length;refine AL.Met.intro Tryz.func41 F2 A0 A0 A0 (zz 9 ?_);refine E3 (GP s q) ?_;refine zc 7 (fun c=>?_) fun c=>?_
 ·have h:I0 s≠0:=by simpa using c
  have b:s.length>1048576\/(E2 s).length>4096:=by
   by_cases b:s.length>1048576\/(E2 s).length>4096
   ·exact b
   ·exact absurd (by rw[I0,A7 b]) h
  refine zz 3 ?_;refine C4 (AE 9 _ K7 A0) A0 (zz 3 ?_);refine C7 (sY A0 A0 A0) gM (ObIn.spec (ob':=[(9,_)]) ⟨rfl,trivial⟩) ?_;rw[R1,A6 b,I0,A6 b];exact⟨rfl,rfl⟩
 ·have h:I0 s=0:=by simpa using c
  have b:¬(s.length>1048576\/(E2 s).length>4096):=fun b=>by rw[I0,A6 b]at h;omega
  have w:(U1 s)[(U1 s).length-1]?=some ((U1 s).getLastD []):=by
   rw[<-List.getLast?_eq_getElem?,List.getLast?_eq_some_getLast (fun e=>by rw[e]at f;simp at f)];rw[List.getLastD_eq_getLast?,List.getLast?_eq_some_getLast (fun e=>by rw[e]at f;simp at f)];rfl
  have j:(((U1 s).length:Int)-1).toNat=(U1 s).length-1:=by omega
  refine zz 4 ?_;refine eK (BG s q) A0 A0 A0 A0 ?_;rintro _ _ ⟨rfl,rfl⟩;refine⟨rfl,?_⟩;refine zz 2 ?_;refine zz 0 ?_;refine mV [(5,.s (.one (.mut 9)))] [(9,tI (E2 s))] ?_ ?_
  ·refine zz 7 ?_;refine B0 (dC A0 A0 (by rw[j];exact w) A0) A0 ?_;refine zc 2 (fun c=>?_) fun c=>?_
   ·have i:=A1 c;skip;refine zz 8 ?_;rw[k,A6 i,List.dropLast_eq_take,<-j];exact Sees.of lf lo
   ·have i:=A3 c;refine zz 1 ?_;rw[k,A7 i];exact Sees.of lf lo
  ·refine zz 7 ?_;refine C7 (sY A0 A0 A0) gM (ObIn.spec (ob':=[(9,_)]) ⟨rfl,trivial⟩) ?_;rw[R1,A7 b];exact⟨rfl,rfl⟩
theorem GQ(s:Str)(b:s.length<=536870912):FnOk Tryz.prog 41 [F3 s] (fun rs=>rs=[n7 (R1 s).1,D3 (R1 s).2]) :=
 FnOk.ofMet (ST s b) fun rs ob' a=>by
  obtain⟨rfl,rfl⟩:=a;exact⟨9,Str,1,K7,(R1 s).1,_,[n7 (R1 s).1,D3 (R1 s).2],rfl,rfl,rfl,rfl⟩
theorem GR(s:Str)(d:s.length<=536870912):FnOk Tryz.prog 58 [F3 s] (fun c=>c=[n7 (R1 s).1,D3 (R1 s).2]):=by
 refine FnOk.intro Tryz.func58 F2 A0 A0 A0 A0 (zz 9 ?_);refine E3 (A55 s B3) ?_;refine zc 2 (fun b=>?_) fun b=>?_
 ·have h:I0 s≠0:=by simpa using b
  have a:s.length>1048576\/(E2 s).length>4096:=by
   by_cases a:s.length>1048576\/(E2 s).length>4096
   ·exact a
   ·exact absurd (by rw[I0,A7 a]) h
  refine zz 2 ?_;refine B0 (E8 _ 1 K7) A0 (zz 3 ?_);exact B2 (S6 rfl rfl rfl rfl rfl) (by rw[R1,A6 a])
 ·have h:I0 s=0:=by simpa using b
  have a:¬(s.length>1048576\/(E2 s).length>4096):=fun a=>by rw[I0,A6 a]at h;omega
  refine zz 4 ?_;refine E3 (nG s B3) (zz 4 ?_);exact B2 (S6 rfl rfl rfl rfl rfl) (by rw[R1,A7 a])
end Go.Proofs.YtabbdaafimcjhaaGreatDoor
