
/- Walks of the program's functions. -/
import Derived.Test.YtabbdaafimcjhaaGreatDoorTy
import Derived.Test.YtabbdaafimcjhaaGreatDoorFs
import Derived.Test.YtabbdaafimcjhaaGreatDoorSh
import Derived.Lib.AppendIntMem
set_option linter.all false
namespace Go.Proofs.YtabbdaafimcjhaaGreatDoor
open Go Go.AL
open Tryz (prog)
set_option maxRecDepth 100000
set_option maxHeartbeats 4000000
theorem VF(p:Int):0<=IntKind.u64.wrap p:=by simp[IntKind.wrap,IntKind.signed,IntKind.bits];omega
theorem M1{p:Prop}(h:p:=by exact ret1 rfl rfl rfl):p:=h
theorem F1{p:Prop}(h:p:=by decide):p:=h
theorem B1{p:Prop}(h:p:=by omega):p:=h
theorem B43(s:Str)(g:s.length<=1099511627776):FnOk prog 61 [F6 s] (fun rs=>rs=[E1 (ended s)]):=by
 refine FnOk.intro Tryz.func61 F1 A0 A0 A0 A0 (I2 ?_);have f:s≠[]->s[((s.length:Int)-1).toNat]?=some (s.getLastD 0):=by
  intro h;have d:0<s.length:=List.length_pos_iff.2 h;have e:((s.length:Int)-1).toNat=s.length-1:=by omega
  rw[e,<-List.getLast?_eq_getElem?,List.getLast?_eq_some_getLast h,List.getLastD_eq_getLast?,List.getLast?_eq_some_getLast h];rfl
 refine I3 ?_;refine D7 A0 A0 A0 A0 (fun b=>by have c:=b;(try simp at c);rw[b];exact aM A0 A0 B1) ?_;refine D7 A0 A0 A0 A0 (fun b=>by have c:=b;(try simp at c);have d:=List.length_pos_iff.2 c;rw[b];exact G9 A0 A0 B1 (f c)) ?_;refine I2 ?_;refine A9 M1 ?_;rw[B74]
theorem dV{p:Prop}(h:p:=by simp):p:=h
theorem oW(b:Str)(hb:b.length<=536870912):FnOk prog 31 [F6 b] (fun rs=>rs=[cG (F8 b)]):=by
 refine FnOk.intro Tryz.func31 F1 A0 A0 A0 A0 (J0 ?_);refine C2 (L2 3 _ L8 A0) A0 (V7 ?_);refine B9 (X:=Nat×Nat×List Str) (fun x=>([(0,P6 b),(3,.s (.one (.buf 3 Str 1 L8 x.2.2))),(4,B6 x.2.1),(5,B6 x.1)],[(3,.spare x.2.2.length 1 9)]))
  (fun x=>x.1<=b.length/\x.2.1<=x.1/\x.2.2.length<=x.1/\(x.1=b.length->x.2.1=x.1)/\x.2.2++K1 ((b.drop x.2.1).take (x.1-x.2.1)) (b.drop x.1)=F8 b) (fun x=>b.length-x.1) (0,0,[]) (by simp[F8]) ?_ ?_
 ·exact Sees.of ⟨⟨_,rfl,.same _⟩,⟨_,rfl,.same _⟩,⟨_,rfl,.same _⟩,⟨_,rfl,.same _⟩,trivial⟩ ⟨rfl,trivial⟩
 ·rintro⟨i,d,A⟩ ⟨E,w,F,B,q⟩;dsimp only at E w F B q ⊢;refine zc 8 (fun z=>?_) fun z=>?_
  ·have g:i<b.length:=by simpa using z
   have H:b[i]?=some b[i]:=by simp[g]
   refine I3 ?_;refine B2 (G9 A0 A0 B1 H) A0 (H3 ?_);refine D7 A0 A0 A0 A0 (fun C=>by have G:=C;(try simp at G);rw[C];exact Z3 A0 A0 B1) ?_;refine zc 5 (fun j=>?_) fun j=>?_
   ·refine I3 ?_;refine B2 (BT A0 A0 A0 B1 B1 B1) A0 (B2 (B7 (c:=L8) (ys:=[_]) (C0 A0 A0 A0 A0 D2) A0 A0 A0) A0 (zz 13 ?_));refine⟨(i+1,i+1,_),⟨?_,?_,?_,?_,?_⟩,?_,Sees.of ⟨⟨_,rfl,.same _⟩,⟨_,rfl,.same _⟩,⟨_,rfl,.same _⟩,⟨_,rfl,.same _⟩,trivial⟩ ⟨rfl,trivial⟩⟩
    all_goals dsimp only
    ·omega
    ·omega
    ·simp;omega
    ·omega
    ·have v:b[i]=10\/i+1=b.length:=by
      simp only[u8_lf]at j;by_cases h:b[i]=10
      ·exact .inl h
      ·simp[h]at j;exact .inr B1
     rw[YH,C37,D18,C79,<-KH b d i w g,C65,<-q,C57 g,sM];rcases v with h | h
     ·rw[A6 h];rfl
     ·have D:b.drop (i+1)=[]:=C64 B1;rw[D];split
      ·rfl
      ·rw[show K1 ([]:Str) []=[] from rfl,NP _ dV];simp
    ·omega
   ·refine J0 ?_;refine⟨(i+1,d,A),⟨?_,?_,?_,?_,?_⟩,?_,Sees.of ⟨⟨_,rfl,.same _⟩,⟨_,rfl,.same _⟩,⟨_,rfl,.same _⟩,⟨_,rfl,.same _⟩,trivial⟩ ⟨rfl,trivial⟩⟩
    all_goals dsimp only
    ·omega
    ·omega
    ·omega
    ·intro h;simp[show (i:Int)+1=(b.length:Int) by omega]at j
    ·have v:b[i]≠10:=fun h=>by simp[h]at j
     rw[<-KH b d i w g,<-q,C57 g,sM,A7 v]
    ·omega
  ·refine I3 ?_;refine A9 M1 ?_;have y:i=b.length:=by simp at z;omega
   subst y;have:=B rfl;subst this;rw[D18,C79,C64 (C45 _)]at q;rw[<-q];simp[K1]
theorem QG(b:Str)(hb:b.length<=1099511627776):FnOk prog 100 [F6 b] (fun rs=>rs=[C8 (I6 b)]):=by
 refine FnOk.intro Tryz.func100 F1 A0 A0 A0 A0 (x5 ?_);refine D7 A0 A0 A0 A0 (fun c=>by have d:=c;(try simp at d);rw[c];exact I5 (oW b B1) A0 A0) ?_;refine zc 4 (fun a=>?_) fun a=>?_
 ·have h:=A1 (or_pick.symm.trans a);refine I2 ?_;exact A9 M1 (by rw[I6,A6 B1])
 ·have h:=A3 (or_pick.symm.trans a);refine J0 ?_;exact A9 M1 (by rw[I6,A7 B1])
theorem QH(l:List Str)(s:Str):FnOk prog 144 [cG l,F6 s] (fun g=>g=[C8 (M5 l s 0)]):=by
 refine FnOk.intro Tryz.func144 F1 A0 A0 A0 A0 ?_;refine LU (t:=0) rfl (.pure _ _ _ _) fun d=>?_;refine O6 ?_;refine B9 (X:=Nat) (fun i=>([(0,B8 Str 1 L8 l),(1,P6 s),(5,B6 i)],[])) (fun i=>i<=l.length/\M5 l s 0=M5 (l.drop i) s i) (fun i=>l.length-i) 0 dV (C1) ?_;rintro i ⟨f,a⟩;dsimp only at f a ⊢;refine zc 8 (fun b=>?_) fun b=>?_
 ·have c:i<l.length:=by simpa using b
  have h:l[i]?=some l[i]:=by simp[c]
  rw[NQ l s i c]at a;refine zc 12 (fun b=>?_) fun b=>?_
  ·rw[A6 (by simpa using b)]at a;refine J0 ?_;exact A9 M1 (by rw[a])
  ·rw[A7 (by simpa using b)]at a;refine J0 ?_;exact⟨i+1,⟨by omega,by simpa using a⟩,by omega,C1⟩
 ·have:i=l.length:=by simp at b;omega
  subst this;refine J0 ?_;exact A9 M1 (by rw[a];simp[M5])
theorem B44(j:List (List Str))(H:j.flatten.length<=536870912):FnOk prog 143 [pStrss j] (fun K=>K=[cG (E0 j)]):=by
 refine FnOk.intro Tryz.func143 F1 A0 A0 A0 A0 ?_;refine LU (t:=0) rfl (.pure _ _ _ _) fun F=>?_;refine J0 ?_;refine C2 (L2 3 _ L8 A0) A0 (I3 ?_);refine B9 (X:=Nat) (fun f=>([(0,B8 (List Str) 1 strsC j),(3,.s (.one (.buf 3 Str 1 L8 (E0 (j.take f))))),(4,B6 f)],[(3,.spare (E0 (j.take f)).length 1 9)])) (fun f=>f<=j.length) (fun f=>j.length-f) 0 dV (C1) ?_;intro f G;dsimp only at G ⊢;refine zc 8 (fun m=>?_) fun m=>?_
 ·have v:f<j.length:=by have:=A1 m;omega
  have L:j[f]?=some j[f]:=by simp[v]
  have q:=t8 j f v;have C:=aZ j (f+1);rw[q,C40]at C;have J:=pK (j.take f);refine R3 ?_;refine B9 (X:=Nat) (fun i=>([(0,B8 (List Str) 1 strsC j),(3,.s (.one (.buf 3 Str 1 L8 ((j[f].take i).foldl K2 (E0 (j.take f)))))),(4,B6 f),(5,B6 i)],[(3,.spare ((j[f].take i).foldl K2 (E0 (j.take f))).length 1 9)])) (fun i=>i<=j[f].length) (fun i=>j[f].length-i) 0 dV (C1) ?_;intro i I;dsimp only at I ⊢;have D:=iE (j[f].take i) (E0 (j.take f));rw[C59]at D;refine zc 11 (fun m=>?_) fun m=>?_
  ·have w:i<j[f].length:=by have:=A1 m;omega
   have E:j[f][i]?=some j[f][i]:=by simp[w]
   have z:(j[f].take (i+1)).foldl K2 (E0 (j.take f))=K2 ((j[f].take i).foldl K2 (E0 (j.take f))) j[f][i]:=by
    rw[C52,E,C53,D09];rfl
   refine zz 13 ?_;refine uZ (QH _ _) A0 A0 A0 (F5 ?_);have y:=SY ((j[f].take i).foldl K2 (E0 (j.take f))) j[f][i] 0 (Int.le_refl _);refine zc 0 (fun m=>?_) fun m=>?_
   ·have x:=y.1 (A1 m);skip;refine Z2 ?_;refine B2 (B7 (c:=L8) (ys:=[_]) (C0 A0 A0 A0 A0 D2) A0 A0 A0) A0 (R3 ?_);refine⟨i+1,by omega,by omega,?_⟩;rw[z,K2,A7 x];exact C1
   ·have B:j[f][i]∈(j[f].take i).foldl K2 (E0 (j.take f)):=C69 fun h=>A3 m (y.2 h);refine J0 ?_;refine⟨i+1,by omega,by omega,?_⟩;rw[z,K2,A6 B];exact C1
  ·have A:i=j[f].length:=by have:=A3 m;omega
   subst A;refine G5 ?_;have:E0 (j.take (f+1))=(j[f].take j[f].length).foldl K2 (E0 (j.take f)):=by
    rw[E0,q,D09,C48];rfl
   refine I2 ?_;refine⟨f+1,by omega,by omega,?_⟩;rw[this];exact C1
 ·have:f=j.length:=by have:=A3 m;omega
  subst this;refine I3 ?_;exact A9 M1 dV
theorem xP{p a:Str}{i:Nat}(h:i<p.length):kH a (p.drop i)=if p[i]=0 then false else if p[i]=47 then S5 a&&kH [] (p.drop (i+1)) else kH (a++[p[i]]) (p.drop (i+1)):=by
 rw[C57 h];rfl
theorem sub_one{p:Str}{i:Nat}(h:i<p.length):(p.drop i).take (i+1-i)=[p[i]]:=by
 rw[C57 h,show i+1-i=1 by omega];rfl
theorem b7y{p:Prop}(h:p:=by simp;omega):p:=h
theorem HL(p:Str)(J:p.length<=1073741824):FnOk prog 140 [F6 p] (fun rs=>rs=[C8 (N8 p)]):=by
 refine FnOk.intro Tryz.func140 F1 A0 A0 A0 A0 ?_;refine zc 16 (fun f=>?_) fun f=>?_
 ·have h:=A1 (or_pick.symm.trans f);refine I2 ?_;exact A9 (rs:=[C8 210]) M1 (by unfold N8;rw[A6 B1])
 have h:=A3 (or_pick.symm.trans f);have hb:[C8 210]=[C8 (N8 p)]\/kH [] p=true:=by
  cases w:kH [] p
  ·left;unfold N8;rw[A6 (.inr (.inr w))]
  ·exact .inr rfl
 have v:kH [] p=true->[C8 0]=[C8 (N8 p)]:=fun w=>by unfold N8;rw[A7 (by rw[w];rintro (d | d | d)<;>first | omega | cases d)]
 have u:kH [] p=false->[C8 210]=[C8 (N8 p)]:=fun w=>by unfold N8;rw[A6 (.inr (.inr w))]
 refine V7 ?_;refine B9 (X:=Nat×Str) (fun x=>([(0,P6 p),(3,P6 x.2),(4,B6 x.1)],[])) (fun x=>x.2.length<=x.1/\((x.1<=p.length/\kH x.2 (p.drop x.1)=kH [] p)\/(x.1=p.length+1/\kH [] p=true))) (fun x=>p.length+1-x.1) (0,[]) ⟨C41 _,.inl ⟨C41 _,rfl⟩⟩ (C1) ?_;rintro⟨i,k⟩ ⟨B,q⟩;dsimp only at B q ⊢;refine zc 8 (fun f=>?_) fun f=>?_;rotate_left
 ·have d:¬(i:Int)<=p.length:=A3 f;refine J0 ?_;exact A9 (rs:=[C8 0]) M1 (v (by rcases q with q | q<;>first | exact absurd q.1 B1 | exact q.2))
 have I:i<=p.length:=by have d:(i:Int)<=p.length:=A1 f;omega
 obtain⟨_,s⟩:i<=p.length/\kH k (p.drop i)=kH [] p:=by rcases q with q | q<;>first | exact q | exact absurd q.1 B1
 have H:(i:Int)<p.length->p[((i:Nat):Int).toNat]?=some (p.getD i 0):=fun d=>by
  rw[C37,C38,C36 B1];rfl
 have m:∀d:i<p.length,p.getD i 0=p[i]:=fun d=>by rw[C38,C36 d];rfl
 have F:∀c:UInt8,((c.toNat:Int)=0)↔c=0:=fun c=>by
  constructor
  ·intro h;exact C89.1 (by simpa using (show c.toNat=0 by omega))
  ·rintro rfl;rfl
 have G:∀c:UInt8,((c.toNat:Int)=47)↔c=47:=fun c=>by
  constructor
  ·intro h;exact C89.1 (by simpa using (show c.toNat=47 by omega))
  ·rintro rfl;rfl
 refine zz 13 ?_;refine D7 A0 A0 A0 A0 (fun v=>by have E:=v;(try simp at E);rw[v];exact G9 A0 A0 B1 (H B1)) ?_;refine zc 3 (fun f=>?_) fun f=>?_
 ·have d:=A1 (and_pick.symm.trans f);refine I2 ?_;refine A9 (rs:=[C8 210]) M1 (u ?_);have g:i<p.length:=by omega
  rw[<-s,xP g,A6 (by rw[<-m g,<-F];exact d.2)]
 have y:=A3 (and_pick.symm.trans f);refine V7 ?_;refine D7 A0 A0 A0 A0 (fun v=>by have E:=v;(try simp at E);rw[v];exact G9 A0 A0 B1 (H B1)) ?_;refine zc 3 (fun f=>?_) fun f=>?_
 ·have d:=A1 (and_pick.symm.trans f);have g:i<p.length:=by omega
  have z:p[i]≠0:=fun e=>y ⟨d.1,by rw[F,m g];exact e⟩;have A:p[i]≠47:=fun e=>d.2 (by rw[G,m g];exact e);rw[xP g,A7 z,A7 A]at s;refine I3 ?_;refine B2 (BT A0 A0 A0 B1 B1 B1) A0 (B2 (fX A0 A0 b7y) A0 (R3 ?_));refine⟨(i+1,k++[p[i]]),⟨by simp;omega,.inl ⟨g,s⟩⟩,by dsimp only;omega,?_⟩;rw[<-sub_one g];exact (C1)
 have C:=A3 (and_pick.symm.trans f);have j:kH [] p=(S5 k&&(decide (i=p.length)||kH [] (p.drop (i+1)))):=by
  rw[<-s];by_cases g:i<p.length
  ·have z:p[i]≠0:=fun e=>y ⟨by omega,by rw[F,m g];exact e⟩;have A:p[i]=47:=C69 fun e=>C ⟨by omega,fun h=>e (by rw[<-m g];exact (G _).1 h)⟩;rw[xP g,A7 z,A6 A];have:¬i=p.length:=by omega
   simp[this]
  ·have:i=p.length:=by omega
   rw[C64 B1];simp[kH,this]
 refine zc 15 (fun f=>?_) fun f=>?_
 ·simp only[or_pick]at f;have d:=A1 f;refine I2 ?_;refine A9 (rs:=[C8 210]) M1 (u ?_);rw[j];have:S5 k=false:=by unfold S5;rw[decide_eq_false_iff_not];rintro⟨a,b,c⟩;rcases d with (d | d) | d<;>contradiction
  rw[this];rfl
 simp only[or_pick]at f;have d:=A3 f;have D:S5 k=true:=by unfold S5;rw[decide_eq_true_eq];exact⟨fun e=>d (.inl (.inl e)),fun e=>d (.inl (.inr e)),fun e=>d (.inr e)⟩
 rw[D,C84]at j;refine Z2 ?_;refine⟨(i+1,[]),⟨by simp,?_⟩,by dsimp only;omega,(C1)⟩;dsimp only;by_cases g:i=p.length
 ·exact .inr ⟨by omega,by rw[j];simp[g]⟩
 ·left;refine⟨by omega,?_⟩;rw[j];simp[g]
theorem A56(a b:Str)(ha:a.length<=1073741824)(_hb:b.length<=1073741824):FnOk prog 141 [F6 a,F6 b] (fun rs=>rs=[E1 (above a b)]):=by
 have f:(a.length:Int)<b.length->b[((a.length:Nat):Int).toNat]?=some (b.getD a.length 0):=fun g=>by
  rw[C37,C38,C36 B1];rfl
 refine FnOk.intro Tryz.func141 F1 A0 A0 A0 A0 (zz 15 ?_);refine D7 A0 A0 A0 A0 (fun c=>by have e:=c;(try simp at e);rw[c];exact BE A0 A0 B1 B1) ?_;refine I3 ?_;refine D7 A0 A0 A0 A0 (fun c=>by have e:=c;(try simp at e);rw[c];exact G9 A0 A0 B1 (f B1)) ?_;refine I2 ?_;refine A9 M1 (congrArg (fun x=>[E1 x]) ?_);rw[P4,P4,C37];unfold above;by_cases h:a.length<b.length
 ·have c:b[a.length]?=some (b.getD a.length 0):=by rw[C38,C36 h];rfl
  rw[c,A4 (show (a.length:Int)<b.length by omega),C84]
  have d:(((b.getD a.length 0).toNat:Int)=47)↔b.getD a.length 0=47:=⟨fun h=>C89.1 (by
   have:(b.getD a.length 0).toNat=47:=by omega
   simpa using this),fun h=>by rw[h];rfl⟩
  rw[<-Bool.decide_and,decide_eq_decide,d];simp only[gt_iff_lt,h,true_and,Option.some.injEq]
 ·rw[A5 (show ¬(a.length:Int)<b.length by omega)];simp[h]
theorem cN{p:Prop}(h:p:=by exact ret2 rfl rfl rfl rfl rfl):p:=h
theorem vA(l:List File)(p:Str)(n:l.length<=1073741824):FnOk prog 54 [R5 l,F6 p] (fun rs=>rs=[F6 ((J7 l p).getD []),E1 (J7 l p).isSome]):=by
 refine FnOk.intro Tryz.func54 F1 A0 A0 A0 A0 (V7 ?_);refine B9 (X:=Nat) (fun i=>([(0,B8 File 2 U6 l),(1,P6 p),(6,B6 i)],[])) (fun i=>i<=l.length/\J7 l p=J7 (l.drop i) p) (fun i=>l.length-i) 0 ⟨C41 _,rfl⟩ (C1) ?_;rintro i ⟨k,a⟩;dsimp only at k a ⊢;refine zc 8 (fun d=>?_) fun d=>?_;rotate_left
 ·have b:i=l.length:=by have b:=A3 d;(try dsimp only at b);omega
  rw[C64 B1]at a;rw[a];refine I3 ?_;exact A9 (rs:=[F6 [],E1 false]) cN rfl
 have c:i<l.length:=by have b:=A1 d;(try dsimp only at b);omega
 obtain⟨f,h⟩:∃f,f=l[i]:=⟨_,rfl⟩
 have q:l[i]?=some f:=by rw[h];simp[c]
 rw[C57 c,<-h]at a;have j:J7 (f::l.drop (i+1)) p=if f.Path=p then some f.Blob else J7 (l.drop (i+1)) p:=rfl
 rw[j]at a;refine zc 13 (fun d=>?_) fun d=>?_
 ·have b:f.Path=p:=A1 d;rw[A6 b]at a;rw[a];refine V7 ?_;exact A9 (rs:=[F6 f.Blob,E1 true]) cN rfl
 ·have b:¬f.Path=p:=A3 d;rw[A7 b]at a;refine J0 ?_;exact⟨i+1,⟨c,a⟩,by omega,(C1)⟩
theorem ME(f:FuncId)(m:File->Bool)(l:List File)(s:l.length<=1073741824)(p:∀x∈l,FnOk prog f [A18 x] (fun rs=>rs=[E1 (m x)])) :
  FnOk prog 182 [R5 l,.one (.v (.func (.func f) #[] #[]))] (fun rs=>∃i:Int,rs=[C8 i]/\decide (0<=i)=l.any m):=by
 refine FnOk.intro Tryz.func182 F1 A0 A0 A0 A0 (x5 ?_);refine B9 (X:=Nat) (fun i=>([(0,B8 File 2 U6 l),(1,I7 (.func (.func f) #[] #[])),(7,B6 l.length),(8,B6 i)],[])) (fun i=>i<=l.length/\(l.take i).any m=false) (fun i=>l.length-i) 0 ⟨C41 _,rfl⟩ (C1) ?_;rintro i ⟨q,h⟩;dsimp only at q h ⊢;refine zc 5 (fun d=>?_) fun d=>?_;rotate_left
 ·have g:i=l.length:=by have g:=A3 d;(try dsimp only at g);omega
  rw[g,C48]at h;refine J0 ?_;exact A9 (rs:=[C8 (-1)]) M1 ⟨-1,rfl,by rw[h];rfl⟩
 have b:i<l.length:=by have g:=A1 d;(try dsimp only at g);omega
 obtain⟨x,k⟩:∃x,x=l[i]:=⟨_,rfl⟩
 have r:l[i]?=some x:=by rw[k];simp[b]
 have j:=p x (by rw[k];exact C43 b);refine zz 15 ?_;refine B2 (MC (j) A0 A0 A0) A0 ?_;refine zc 1 (fun d=>?_) fun d=>?_
 ·refine J0 ?_;refine A9 (rs:=[C8 i]) M1 ⟨i,rfl,?_⟩;rw[List.any_eq_true.2 ⟨x,by rw[k];exact C43 b,d⟩];exact A4 B1
 ·refine I2 ?_;refine⟨i+1,⟨b,?_⟩,by omega,(C1)⟩;rw[C52,r,C53,D12,h,C98,List.any_cons,List.any_nil,Bool.or_false];exact d
theorem nZ(f:FuncId)(a:File->Bool)(l:List File)(g:l.length<=1073741824)(b:∀x∈l,FnOk prog f [A18 x] (fun rs=>rs=[E1 (a x)])) :
  FnOk prog 158 [R5 l,.one (.v (.func (.func f) #[] #[]))] (fun rs=>rs=[E1 (l.any a)]):=by
 refine FnOk.intro Tryz.func158 F1 A0 A0 A0 A0 (R3 ?_);refine r8 (ME f a l g b) A0 A0 A0 ?_;rintro _ ⟨i,rfl,d⟩;refine H3 ?_;refine G5 ?_;exact A9 M1 (by rw[<-d])
theorem DB(f:FuncId)(m:Commit->Bool)(l:List Commit)(s:l.length<=1073741824)(p:∀x∈l,FnOk prog f [vX x] (fun rs=>rs=[E1 (m x)])) :
  FnOk prog 157 [I9 l,.one (.v (.func (.func f) #[] #[]))] (fun rs=>∃i:Int,rs=[C8 i]/\decide (0<=i)=l.any m):=by
 refine FnOk.intro Tryz.func157 F1 A0 A0 A0 A0 (x5 ?_);refine B9 (X:=Nat) (fun i=>([(0,B8 Commit 3 F2 l),(1,I7 (.func (.func f) #[] #[])),(7,B6 l.length),(8,B6 i)],[])) (fun i=>i<=l.length/\(l.take i).any m=false) (fun i=>l.length-i) 0 ⟨C41 _,rfl⟩ (C1) ?_;rintro i ⟨q,h⟩;dsimp only at q h ⊢;refine zc 5 (fun d=>?_) fun d=>?_;rotate_left
 ·have g:i=l.length:=by have g:=A3 d;(try dsimp only at g);omega
  rw[g,C48]at h;refine J0 ?_;exact A9 (rs:=[C8 (-1)]) M1 ⟨-1,rfl,by rw[h];rfl⟩
 have b:i<l.length:=by have g:=A1 d;(try dsimp only at g);omega
 obtain⟨x,k⟩:∃x,x=l[i]:=⟨_,rfl⟩
 have r:l[i]?=some x:=by rw[k];simp[b]
 have j:=p x (by rw[k];exact C43 b);refine zz 15 ?_;refine B2 (MC (j) A0 A0 A0) A0 ?_;refine zc 1 (fun d=>?_) fun d=>?_
 ·refine J0 ?_;refine A9 (rs:=[C8 i]) M1 ⟨i,rfl,?_⟩;rw[List.any_eq_true.2 ⟨x,by rw[k];exact C43 b,d⟩];exact A4 B1
 ·refine I2 ?_;refine⟨i+1,⟨b,?_⟩,by omega,(C1)⟩;rw[C52,r,C53,D12,h,C98,List.any_cons,List.any_nil,Bool.or_false];exact d
theorem jF(f:FuncId)(a:Commit->Bool)(l:List Commit)(g:l.length<=1073741824)(b:∀x∈l,FnOk prog f [vX x] (fun rs=>rs=[E1 (a x)])) :
  FnOk prog 114 [I9 l,.one (.v (.func (.func f) #[] #[]))] (fun rs=>rs=[E1 (l.any a)]):=by
 refine FnOk.intro Tryz.func114 F1 A0 A0 A0 A0 (R3 ?_);refine r8 (DB f a l g b) A0 A0 A0 ?_;rintro _ ⟨i,rfl,d⟩;refine H3 ?_;refine G5 ?_;exact A9 M1 (by rw[<-d])
structure FewG (g:Graph):Prop where
 len:g.length<=1000
 pars:∀c∈g,c.Parents.length<=1048576
theorem A09(l:List Int)(n:Int)(f:l.length<=1073741824):FnOk prog 94 [I4 l,C8 n] (fun rs=>rs=[E1 (decide (n∈l))]):=by
 refine FnOk.intro Tryz.func94 F1 A0 A0 A0 A0 (O6 ?_);refine B9 (X:=Nat) (fun i=>([(0,B8 Int 1 C7 l),(1,B6 n),(5,B6 i)],[])) (fun i=>i<=l.length/\n∉l.take i) (fun i=>l.length-i) 0 ⟨C41 _,by simp⟩ (C1) ?_;rintro i ⟨e,d⟩;dsimp only at e d ⊢;refine zc 8 (fun c=>?_) fun c=>?_;rotate_left
 ·have a:i=l.length:=by have a:=A3 c;(try dsimp only at a);omega
  rw[a,C48]at d;refine J0 ?_;exact A9 (rs:=[E1 false]) M1 (by rw[A5 d])
 have b:i<l.length:=by have a:=A1 c;(try dsimp only at a);omega
 have g:l[i]?=some l[i]:=by simp[b]
 refine zc 12 (fun c=>?_) fun c=>?_
 ·have a:l[i]=n:=A1 c;refine I2 ?_;exact A9 (rs:=[E1 true]) M1 (by rw[A4 (a ▸ C43 b)])
 ·have a:¬l[i]=n:=A3 c;refine J0 ?_;refine⟨i+1,⟨b,?_⟩,by omega,(C1)⟩;rw[C52,C36 b,C53,C49,C42];rintro (h | h)
  ·exact d h
  ·exact a h.symm
theorem zC(ps:List Int)(l:List Bool)(i:Nat)(h:i<ps.length):f0 (ps.take (i+1)) l=(f0 (ps.take i) l).set ps[i].toNat true:=by
 unfold f0;rw[C52,C36 h,C53,D09];rfl
theorem lC{l:List Bool}{c:Nat}(h:c<l.length):l[c]?=some (J3 l c):=by
 unfold J3;rw[C36 h];rfl
theorem DC{ps:List Int}{l:List Bool}{c i:Nat}(h:J3 l c=true):J3 (f0 (ps.take i) l) c=true:=(yI _ _).2 c h
def tF(g:Graph)(l:List Bool)(c:Nat):List Bool:=(List.range c).foldl (aC g) l
theorem QI(g:Graph)(l:List Bool)(c:Nat):tF g l (c+1)=aC g (tF g l c) c:=by unfold tF;rw[D15,D09];rfl
theorem VG(g:Graph)(l:List Bool)(c:Nat):(tF g l c).length=l.length:=yH g _ l
theorem DD(g:Graph):∀(k:Nat) (l:List Bool),m8 g (k+1) l=pM g (m8 g k l)
 | 0,_=>rfl
 | k+1,l=>by rw[m8,DD g k];rfl
theorem PE{p:Prop}(h:p:=by first | exact⟨⟨rfl,rfl⟩,trivial⟩ | exact⟨t7 _ _ _,trivial⟩ | exact⟨t7 _ _ _,⟨rfl,rfl⟩,t7 _ _ _,trivial⟩):p:=h
theorem VH{p:Prop}(h:p:=by first | rfl | (simp[J2,J9,Ob.free,SV.free,S1.free,TC.free]<;>rfl)):p:=h
theorem JD(g:Graph)(b:List Int)(K:g.length<=1000)(hp:∀c∈g,c.Parents.length<=1048576)(hr:related g=true)(hf:∀f∈b,0<=f/\f<g.length)(am:b.length<=1048576) :
  FnOk prog 50 [I9 g,I4 b] (fun rs=>rs=[OJ (P2 g b)]):=by
 have ae:∀c,(D8 g c).length<=1048576:=fun c=>by
  by_cases I:c<g.length
  ·rw[c9 I];exact hp _ (C43 I)
  ·rw[lJ I];exact C41 _
 refine FnOk.intro Tryz.func50 F1 A0 A0 A0 A0 (R3 ?_);refine C2 (a8 753 Bool M8 false A0 A0 B1 B1 (fun _=>PE) VH) A0 (R3 ?_);rw[C37];obtain⟨z,hz⟩:∃z,z=List.replicate g.length false:=⟨_,rfl⟩
 have ak:z.length=g.length:=by rw[hz];simp
 rw[<-hz];refine B9 (X:=Nat) (fun i=>([(0,B8 Commit 3 F2 g),(1,B8 Int 1 C7 b),(5,.s (.one (.mut 753))),(6,B6 i)],[(753,.arr Bool 1 M8 (f0 (b.take i) z))])) (fun i=>i<=b.length) (fun i=>b.length-i) 0 (C41 _) (C1) ?_;intro i hi;dsimp only at hi ⊢;have P:=g9 (b.take i) z;refine zc 8 (fun d=>?_) fun d=>?_
 ·have F:i<b.length:=by have j:=A1 d;(try dsimp only at j);omega
  have hv:b[i]?=some b[i]:=by simp[F]
  have V:=hf _ (C43 F);have O:=zC b z i F;obtain⟨f,U⟩:∃f,f=b[i]:=⟨_,rfl⟩
  rw[<-U]at hv V O;refine Z2 ?_;refine B2 (D9 A0 A0 A0 B1 (by (rw[P];omega))) A0 ?_;refine U0 (G3 TySz.out A0 A0 (by (rw[P];omega)) A0 A0) ?_;refine J0 ?_;refine⟨i+1,by omega,by omega,?_⟩;rw[O];exact (C1)
 have W:i=b.length:=by have j:=A3 d;(try dsimp only at j);omega
 rw[W,C48];obtain⟨B,G⟩:∃B,B=f0 b z:=⟨_,rfl⟩
 have R:B.length=g.length:=by rw[G,g9,ak]
 have M:P2 g b=m8 g g.length B:=by rw[G,hz];rfl
 rw[<-G,M];refine I3 ?_;refine B9 (X:=Nat) (fun k=>([(0,B8 Commit 3 F2 g),(5,.s (.one (.mut 753))),(7,B6 k)],[(753,.arr Bool 1 M8 (m8 g k B))])) (fun k=>k<=g.length) (fun k=>g.length-k) 0 (C41 _) (C1) ?_;intro k hk;dsimp only at hk ⊢;refine zc 8 (fun d=>?_) fun d=>?_;rotate_left
 ·have Y:k=g.length:=by have j:=A3 d;(try dsimp only at j);omega
  rw[Y];refine C3 (Sees.freeze (k:=753) A0) (I3 ?_);exact A9 (rs:=[OJ (m8 g g.length B)]) M1 rfl
 have al:k<g.length:=by have j:=A1 d;(try dsimp only at j);omega
 have w:m8 g (k+1) B=tF g (m8 g k B) g.length:=DD g k B;obtain⟨y,hy⟩:∃y,y=m8 g k B:=⟨_,rfl⟩
 have aj:y.length=g.length:=by rw[hy,qY,R]
 rw[<-hy]at w ⊢;refine R3 ?_;refine B9 (X:=Nat) (fun c=>([(0,B8 Commit 3 F2 g),(5,.s (.one (.mut 753))),(7,B6 k),(8,B6 c)],[(753,.arr Bool 1 M8 (tF g y c))])) (fun c=>c<=g.length) (fun c=>g.length-c) 0 (C41 _) (C1) ?_;intro c I;dsimp only at I ⊢;refine zc 8 (fun d=>?_) fun d=>?_;rotate_left
 ·have T:c=g.length:=by have j:=A3 d;(try dsimp only at j);omega
  rw[T,<-w];refine J0 ?_;exact⟨k+1,by omega,by omega,(C1)⟩
 have D:c<g.length:=by have j:=A1 d;(try dsimp only at j);omega
 have E:=QI g y c;obtain⟨x,hx⟩:∃x,x=tF g y c:=⟨_,rfl⟩
 have Q:x.length=g.length:=by rw[hx,VG,aj]
 rw[<-hx]at E ⊢;obtain⟨v,J⟩:∃v,v=g[c]:=⟨_,rfl⟩
 have an:g[c]?=some v:=by rw[J];simp[D]
 have L:D8 g c=v.Parents:=by rw[c9 D,J]
 have hpr:=(K6 hr c).1;have ad:=ae c;rw[L]at hpr ad;refine R3 ?_;refine B9 (X:=Nat) (fun p=>([(0,B8 Commit 3 F2 g),(5,.s (.one (.mut 753))),(7,B6 k),(8,B6 c),(9,B6 p)],[(753,.arr Bool 1 M8 (if J3 x c=true then f0 (v.Parents.take p) x else x))])) (fun p=>p<=v.Parents.length/\(J3 x c=false->p=0)) (fun p=>v.Parents.length-p) 0 ⟨C41 _,fun _=>rfl⟩ (by split<;>exact (C1)) ?_;rintro p ⟨Z,ab⟩;dsimp only at Z ab ⊢;obtain⟨u,H⟩:∃u,u=(if J3 x c=true then f0 (v.Parents.take p) x else x):=⟨_,rfl⟩
 have C:u.length=g.length:=by rw[H];split;rw[g9,Q];exact Q
 have ag:J3 u c=J3 x c:=by
  rw[H];cases S:J3 x c
  ·simp[S]
  ·simp only[if_true];exact DC S
 have ah:u[((c:Nat):Int).toNat]?=some (J3 x c):=by rw[C37,lC B1,ag]
 rw[<-H];refine zz 14 ?_;refine D7 A0 A0 A0 A0 (fun K=>by have hq:=K;(try simp at hq);rw[K];exact D9 A0 A0 A0 B1 (by (rw[C];omega))) ?_;refine D7 A0 A0 A0 A0 (fun K=>by rw[K];exact M7 A0 A0 ah A0) ?_;refine zc 2 (fun d=>?_) fun d=>?_
 ·rw[P4,C39,decide_eq_true_eq]at d;have A:p<v.Parents.length:=by omega
  have ai:v.Parents[p]?=some v.Parents[p]:=by simp[A]
  have ac:=hpr _ (C43 A);have O:=zC v.Parents x p A;rw[H,A6 d.2]at C;rw[H,A6 d.2];obtain⟨q,hq⟩:∃q,q=v.Parents[p]:=⟨_,rfl⟩
  rw[<-hq]at ai ac O;refine zz 13 ?_;refine B2 (D9 A0 A0 A0 B1 (by (rw[C];omega))) A0 ?_;refine U0 (G3 TySz.out A0 A0 (by (rw[C];omega)) A0 A0) ?_;refine J0 ?_;refine⟨p+1,⟨by omega,fun e=>by rw[d.2]at e;cases e⟩,by omega,?_⟩;rw[A6 d.2,O];exact (C1)
 ·rw[P4,D05,decide_eq_false_iff_not]at d;have af:u=aC g x c:=by
   rw[H];unfold aC;rw[L];cases S:J3 x c
   ·rfl
   ·have:p=v.Parents.length:=by
     rcases d with j | j
     ·omega
     ·rw[S]at j;cases j
    rw[this,C48]
  rw[af,<-E];refine J0 ?_;exact⟨c+1,by omega,by omega,(C1)⟩
def cO(g:Graph)(c:Int)(k:Nat):List Int:=((List.range k).filter fun i=>decide (c∈D8 g i)).map fun i:Nat=>(i:Int)
theorem QJ(g:Graph)(c:Int)(k:Nat):cO g c (k+1)=if c∈D8 g k then cO g c k++[(k:Int)] else cO g c k:=by
 unfold cO;rw[D15,D20,C90];by_cases h:c∈D8 g k<;>simp[h]
theorem DE(g:Graph)(c:Int)(k:Nat):(cO g c k).length<=k:=by
 unfold cO;rw[C74];have:=List.length_filter_le (fun i=>decide (c∈D8 g i)) (List.range k)
 rwa[C94]at this
theorem B45(g:Graph)(c:Int)(B:g.length<=1000)(z:∀c∈g,c.Parents.length<=1048576) :
  FnOk prog 96 [I9 g,C8 c] (fun rs=>rs=[I4 (cO g c g.length)]):=by
 refine FnOk.intro Tryz.func96 F1 A0 A0 A0 A0 (J0 ?_);refine C2 (L2 5 _ C7 A0) A0 (I3 ?_);refine B9 (X:=Nat) (fun k=>([(0,B8 Commit 3 F2 g),(1,B6 c),(5,.s (.one (.buf 5 Int 1 C7 (cO g c k)))),(6,B6 k)],[(5,.spare (cO g c k).length 1 3)])) (fun k=>k<=g.length) (fun k=>g.length-k) 0 (C41 _) (C1) ?_;intro k y;dsimp only at y ⊢;have hkl:=DE g c k;refine zc 8 (fun m=>?_) fun m=>?_;rotate_left
 ·have w:k=g.length:=by have d:=A3 m;(try dsimp only at d);omega
  rw[w];refine I3 ?_;exact A9 (rs:=[I4 (cO g c g.length)]) M1 rfl
 have j:k<g.length:=by have d:=A1 m;(try dsimp only at d);omega
 obtain⟨q,i⟩:∃q,q=g[k]:=⟨_,rfl⟩
 have C:g[k]?=some q:=by rw[i];simp[j]
 have x:D8 g k=q.Parents:=by rw[c9 j,i]
 have A:=z q (by rw[i];exact C43 j);have v:=QJ g c k;rw[x]at v;refine V7 ?_;refine E2 (A09 q.Parents c B1) ?_;refine zc 1 (fun m=>?_) fun m=>?_
 ·have d:=A1 m;rw[A6 d]at v;skip;refine H3 ?_;refine B2 (B7 (c:=C7) (ys:=[(k:Int)]) (C0 A0 A0 A0 A0 D2) A0 A0 A0) A0 (R3 ?_);refine⟨k+1,by omega,by omega,?_⟩;rw[v];exact (C1)
 ·have d:=A3 m;rw[A7 d]at v;refine J0 ?_;refine⟨k+1,by omega,by omega,?_⟩;rw[v];exact (C1)
theorem A57(l:List Int)(n:Int)(f:l.length<=1073741824):FnOk prog 181 [I4 l,C8 n] (fun rs=>∃i:Int,rs=[C8 i]/\decide (0<=i)=decide (n∈l)):=by
 refine FnOk.intro Tryz.func181 F1 A0 A0 A0 A0 (x5 ?_);refine B9 (X:=Nat) (fun i=>([(0,B8 Int 1 C7 l),(1,B6 n),(7,B6 l.length),(8,B6 i)],[])) (fun i=>i<=l.length/\n∉l.take i) (fun i=>l.length-i) 0 ⟨C41 _,by simp⟩ (C1) ?_;rintro i ⟨e,d⟩;dsimp only at e d ⊢;refine zc 5 (fun c=>?_) fun c=>?_;rotate_left
 ·have a:i=l.length:=by have a:=A3 c;(try dsimp only at a);omega
  rw[a,C48]at d;refine J0 ?_;exact A9 (rs:=[C8 (-1)]) M1 ⟨-1,rfl,by rw[A5 d];rfl⟩
 have b:i<l.length:=by have a:=A1 c;(try dsimp only at a);omega
 have g:l[i]?=some l[i]:=by simp[b]
 refine zc 17 (fun c=>?_) fun c=>?_
 ·have a:n=l[i]:=A1 c;refine J0 ?_;refine A9 (rs:=[C8 i]) M1 ⟨i,rfl,?_⟩;rw[A4 (show n∈l from a ▸ C43 b)];exact A4 B1
 ·have a:¬n=l[i]:=A3 c;refine I2 ?_;refine⟨i+1,⟨b,?_⟩,by omega,(C1)⟩;rw[C52,C36 b,C53,C49,C42];rintro (h | h)
  ·exact d h
  ·exact a h
theorem MF(l:List Int)(n:Int)(b:l.length<=1073741824):FnOk prog 156 [I4 l,C8 n] (fun rs=>rs=[E1 (decide (n∈l))]):=by
 refine FnOk.intro Tryz.func156 F1 A0 A0 A0 A0 (R3 ?_);refine r8 (A57 l n b) A0 A0 A0 ?_;rintro _ ⟨i,rfl,a⟩;refine H3 ?_;refine G5 ?_;exact A9 M1 (by rw[<-a])
theorem MH(c:Commit)(d:c.Parents.length<=1073741824):FnOk prog 155 [vX c] (fun a=>a=[E1 (decide (c.Parents.length>32))]):=by
 refine FnOk.intro Tryz.func155 F1 A0 A0 A0 A0 (F5 ?_);refine C2 (w9 1 A0 A0 A0) A0 (V7 ?_);exact A9 M1 (congrArg (fun b=>[E1 b]) (decide_eq_decide.2 ⟨fun h=>by omega,fun h=>by omega⟩))
theorem QK(g:Graph)(e:FewG g)(a:g.length<=1073741824):FnOk prog 111 [I9 g] (fun rs=>rs=[E1 (j6 g)]):=by
 refine FnOk.intro Tryz.func111 F1 A0 A0 A0 A0 (V7 ?_);refine D7 A0 A0 A0 A0 (fun b=>by have f:=b;(try simp at f);rw[b];exact I5 (jF 155 (fun c=>decide (c.Parents.length>32)) g a (fun c d=>MH c (by have:=e.pars c d;omega))) A0 A0) ?_;refine I2 ?_;refine A9 M1 ?_;unfold j6;rw[P4,show decide ((g.length:Int)<=300)=decide (g.length<=300) from decide_eq_decide.2 B1]
theorem VI(c:Commit):FnOk prog 115 [vX c] (fun rs=>rs=[E1 (decide (c.Date<0\/c.Date>2147483647))]):=by
 refine FnOk.intro Tryz.func115 F1 A0 A0 A0 A0 (F5 ?_);refine C2 (w9 1 A0 A0 A0) A0 (zz 15 ?_);refine A9 M1 ?_;rw[or_pick]
theorem dis_ok(g:Graph)(c:Int):FnOk prog 69 [I9 g,C8 c] (fun rs=>rs=[E1 (decide (p6 g c))]):=by
 refine FnOk.intro Tryz.func69 F1 A0 A0 A0 A0 (zz 17 ?_);refine A9 M1 ?_;rw[and_pick];rfl
theorem b5y{p:Prop}(h:p:=by rw[C59];omega):p:=h
theorem QL(g:Graph)(D:FewG g)(w:g.length<=1073741824):FnOk prog 112 [I9 g] (fun rs=>rs=[E1 (related g)]):=by
 refine FnOk.intro Tryz.func112 F1 A0 A0 A0 A0 (x5 ?_);refine B9 (X:=Nat) (fun i=>([(0,B8 Commit 3 F2 g),(7,B8 Commit 3 F2 g),(8,B6 g.length),(9,B6 i)],[])) (fun i=>i<=g.length/\((g.take i).all fun c=>fT g.length [] c.Parents)=true) (fun i=>g.length-i) 0 ⟨C41 _,rfl⟩ (C1) ?_;rintro i ⟨E,ha⟩;dsimp only at E ha ⊢;refine zc 5 (fun j=>?_) fun j=>?_;rotate_left
 ·have d:i=g.length:=by have d:=A3 j;(try dsimp only at d);omega
  rw[d,C48]at ha;refine J0 ?_;exact A9 (rs:=[E1 true]) M1 (by unfold related;rw[ha])
 have v:i<g.length:=by have d:=A1 j;(try dsimp only at d);omega
 obtain⟨c,A⟩:∃c,c=g[i]:=⟨_,rfl⟩
 have I:g[i]?=some c:=by rw[A];simp[v]
 have H:=D.pars c (by rw[A];exact C43 v);have y:fT g.length [] c.Parents=false->[E1 false]=[E1 (related g)]:=fun h=>by
  have:related g=false:=by
   unfold related;rw[List.all_eq_false];exact⟨c,by rw[A];exact C43 v,by rw[h];decide⟩
  rw[this]
 refine I3 ?_;refine C2 (H9 4 A0) A0 (O6 ?_);refine B9 (X:=Nat) (fun k=>([(0,B8 Commit 3 F2 g),(4,.s (.one (.ref 4 0))),(7,B8 Commit 3 F2 g),(8,B6 g.length),(9,B6 i),(14,B8 Int 1 C7 c.Parents),(15,B6 c.Parents.length),(16,B6 k)],[(4,.box (vX c).s1.cells)])) (fun k=>k<=c.Parents.length/\fT g.length [] c.Parents=fT g.length (c.Parents.take k) (c.Parents.drop k)) (fun k=>c.Parents.length-k) 0 ⟨C41 _,rfl⟩ (C1) ?_;rintro k ⟨F,q⟩;dsimp only at F q ⊢;refine zc 5 (fun j=>?_) fun j=>?_;rotate_left
 ·have d:k=c.Parents.length:=by have d:=A3 j;(try dsimp only at d);omega
  rw[d,List.drop_length]at q;refine I2 ?_;refine⟨i+1,⟨v,?_⟩,by omega,(C1)⟩;rw[C52,I,C53,D10,ha,C84,List.all_cons,List.all_nil,Bool.and_true,q];rfl
 have m:k<c.Parents.length:=by have d:=A1 j;(try dsimp only at d);omega
 have z:c.Parents[k]?=some c.Parents[k]:=by simp[m]
 rw[C57 m]at q;obtain⟨p,G⟩:∃p,p=c.Parents[k]:=⟨_,rfl⟩
 rw[<-G]at z q;have C:c.Parents.take (k+1)=c.Parents.take k++[p]:=by rw[C52,z,C53]
 rw[fT,<-C]at q;refine zz 25 ?_;refine D7 A0 A0 A0 A0 (fun w=>by have B:=w;(try simp at B);rw[w];exact IQ A0 (.pure _ _ _ _) A0 B1 B1) ?_;refine G5 ?_;refine D7 A0 A0 A0 A0 (fun w=>by have B:=w;(try simp at B);rw[w];exact I5 (MF (c.Parents.take ((k:Nat):Int).toNat) p b5y) A0 A0) ?_;refine F5 ?_;rw[C37,x7,x7];refine zc 0 (fun j=>?_) fun j=>?_
 ·rw[C67,C67,decide_eq_true_eq,decide_eq_true_eq,decide_eq_true_eq]at j;have d:decide (0<=p/\p<(g.length:Int)/\p∉c.Parents.take k)=false:=by
   rw[decide_eq_false_iff_not];rintro⟨J,K,a3⟩;rcases j with (h | h) | h
   ·omega
   ·omega
   ·exact a3 h
  rw[d,Bool.false_and]at q;refine I2 ?_;exact A9 (rs:=[E1 false]) M1 (y q)
 ·rw[C86,C86,decide_eq_false_iff_not,decide_eq_false_iff_not,decide_eq_false_iff_not]at j;have d:decide (0<=p/\p<(g.length:Int)/\p∉c.Parents.take k)=true:=A4 ⟨by omega,by omega,j.2⟩;rw[d,C84]at q;refine I2 ?_;exact⟨k+1,⟨m,q⟩,by omega,(C1)⟩
theorem MI(ps l:List Int)(k:Nat)(h:k<ps.length):o4 (ps.take (k+1)) l=bump (o4 (ps.take k) l) ps[k]:=by
 unfold o4;rw[C52,C36 h,C53,D09];rfl
theorem tG{l:List Int}{p:Int}(h:0<=p/\p<l.length):l[p.toNat]?=some (I0 l p.toNat):=by
 unfold I0;rw[C36 B1];rfl
theorem VJ{ps:List Int}{l:List Int}{p:Nat}(b:∀p∈ps,0<=p/\p<l.length)(a:ps.Nodup):I0 l p<=I0 (o4 ps l) p/\I0 (o4 ps l) p<=I0 l p+1:=by
 rw[tU (n:=0) b a];split<;>omega
theorem QM{g:Graph}(d:related g=true){i p:Nat}(a:i<=g.length)(b:p<g.length):0<=I0 (R7 g i) p/\I0 (R7 g i) p<=i:=by
 rw[pQ d p b i a];have:=List.countP_le_length (p:=fun c=>decide ((p:Int)∈D8 g c)) (l:=List.range i);rw[C94]at this;omega
theorem VK(g:Graph)(hf:FewG g)(W:related g=true):FnOk prog 113 [I9 g] (fun rs=>∃ch w,rs=[I4 w]/\KInv g w.length 0 ch w):=by
 have hg:=hf.len;refine FnOk.intro Tryz.func113 F1 A0 A0 A0 A0 (R3 ?_);refine C2 (a8 753 Int C7 0 A0 A0 B1 B1 (fun _=>PE) VH) A0 (O6 ?_);rw[C37];refine B9 (X:=Nat) (fun i=>([(0,B8 Commit 3 F2 g),(3,.s (.one (.mut 753))),(17,B8 Commit 3 F2 g),(18,B6 g.length),(19,B6 i)],[(753,.arr Int 1 C7 (R7 g i))])) (fun i=>i<=g.length) (fun i=>g.length-i) 0 (C41 _) (C1) ?_;intro i V;dsimp only at V ⊢;refine zc 5 (fun j=>?_) fun j=>?_
 ·have G:i<g.length:=by have d:=A1 j;(try dsimp only at d);omega
  obtain⟨c,O⟩:∃c,c=g[i]:=⟨_,rfl⟩
  have hv:g[i]?=some c:=by rw[O];simp[G]
  have H:D8 g i=c.Parents:=by rw[c9 G,O]
  have hpr:=K6 W i;have ah:=hf.pars c (by rw[O];exact C43 G);have hs:=sQ G;rw[H]at hpr hs;have C:=gH g i;have U:=fun p (T:p<g.length)=>QM W (i:=i) (p:=p) B1 T;obtain⟨z,hz⟩:∃z,z=R7 g i:=⟨_,rfl⟩
  rw[<-hz]at hs C U ⊢;refine I3 ?_;refine C2 (H9 5 A0) A0 (O6 ?_);refine B9 (X:=Nat) (fun k=>([(0,B8 Commit 3 F2 g),(3,.s (.one (.mut 753))),(17,B8 Commit 3 F2 g),(18,B6 g.length),(19,B6 i),(24,B8 Int 1 C7 c.Parents),(25,B6 c.Parents.length),(26,B6 k)],[(753,.arr Int 1 C7 (o4 (c.Parents.take k) z))])) (fun k=>k<=c.Parents.length) (fun k=>c.Parents.length-k) 0 (C41 _) (C1) ?_;intro k hk;dsimp only at hk ⊢;have K:=pP (c.Parents.take k) z;refine zc 5 (fun j=>?_) fun j=>?_;rotate_left
  ·have d:k=c.Parents.length:=by have d:=A3 j;(try dsimp only at d);omega
   rw[d,C48,<-hs];refine I2 ?_;exact⟨i+1,G,by omega,(C1)⟩
  have y:k<c.Parents.length:=by have d:=A1 j;(try dsimp only at d);omega
  have R:c.Parents[k]?=some c.Parents[k]:=by simp[y]
  have Q:=hpr.1 _ (C43 y);have Z:=MI c.Parents z k y;obtain⟨p,T⟩:∃p,p=c.Parents[k]:=⟨_,rfl⟩
  rw[<-T]at R Q Z;have hb:=VJ (ps:=c.Parents.take k) (l:=z) (p:=p.toNat) (fun q hq=>by rw[C];exact hpr.1 q (C97 hq)) (hpr.2.sublist (List.take_sublist _ _));have hh:=U p.toNat B1;have I:=tG (l:=o4 (c.Parents.take k) z) (p:=p) (by rw[K,C];exact Q);refine x5 ?_;refine B2 (D9 A0 A0 A0 B1 (by (rw[K];omega))) A0 ?_;refine B2 (M7 A0 A0 I A0) A0 (G5 ?_);refine B2 (D9 A0 A0 A0 B1 (by (rw[K];omega))) A0 ?_;refine U0 (G3 TySz.out A0 A0 (by (rw[K];omega)) A0 A0) ?_;refine I2 ?_;refine⟨k+1,by omega,by omega,?_⟩;rw[Z];exact (C1)
 have P:i=g.length:=by have d:=A3 j;(try dsimp only at d);omega
 rw[P];have ab:=KInv.start W;obtain⟨z,hz⟩:∃z,z=R7 g g.length:=⟨_,rfl⟩
 have ae:z.length=g.length:=by rw[hz];exact gH g _
 rw[<-hz]at ab ⊢;refine H3 ?_;refine C2 (L2 8 _ C7 A0) A0 (I2 ?_);refine B2 (xI A0 A0) A0 (H3 ?_);refine B9 (X:=Nat) (fun i=>([(0,B8 Commit 3 F2 g),(3,.s (.one (.mut 753))),(8,.s (.one (.buf 8 Int 1 C7 (d5 z i)))),(38,.s (.one (.mut 753))),(39,B6 g.length),(40,B6 i)],[(8,.spare (d5 z i).length 1 3),(753,.arr Int 1 C7 z)])) (fun i=>i<=g.length) (fun i=>g.length-i) 0 (C41 _) (by rw[<-ae];exact (C1)) ?_;intro i V;dsimp only at V ⊢;have am:=TG z i;have L:=NT z i;refine zc 5 (fun j=>?_) fun j=>?_
 ·have G:i<g.length:=by have d:=A1 j;(try dsimp only at d);omega
  have I:=tG (l:=z) (p:=(i:Int)) B1;rw[C37]at I;refine J0 ?_;refine B2 (D9 A0 A0 A0 B1 (by (rw[ae];omega))) A0 ?_;refine B2 (M7 A0 A0 I A0) A0 ?_;refine zc 8 (fun j=>?_) fun j=>?_
  ·have d:I0 z i=0:=A1 j;rw[A6 d]at L;skip;refine H3 ?_;refine B2 (B7 (c:=C7) (ys:=[(i:Int)]) (C0 A0 A0 A0 A0 D2) A0 A0 A0) A0 (I3 ?_);refine⟨i+1,by omega,by omega,?_⟩;rw[L];exact (C1)
  ·have d:¬I0 z i=0:=A3 j;rw[A7 d]at L;refine I2 ?_;refine⟨i+1,by omega,by omega,?_⟩;rw[L];exact (C1)
 have P:i=g.length:=by have d:=A3 j;(try dsimp only at d);omega
 rw[P];refine I3 ?_;refine B9 (X:=Nat×List Int×List Int) (fun x=>([(0,B8 Commit 3 F2 g),(3,.s (.one (.mut 753))),(8,.s (.one (.buf 8 Int 1 C7 x.2.2))),(11,B6 x.1)],[(8,.spare x.2.2.length 1 3),(753,.arr Int 1 C7 x.2.1)])) (fun x=>x.1<=x.2.2.length/\KInv g x.1 0 x.2.1 x.2.2) (fun x=>g.length-x.1) (0,z,d5 z g.length) ⟨C41 _,ab⟩ (C1) ?_;rintro⟨k,ch,w⟩ ⟨hk,S⟩;dsimp only at hk S ⊢;have ak:=S.le;refine zc 8 (fun j=>?_) fun j=>?_;rotate_left
 ·have d:k=w.length:=by have d:=A3 j;(try dsimp only at d);omega
  rw[d]at S;refine I3 ?_;exact A9 (rs:=[I4 w]) M1 ⟨ch,w,rfl,S⟩
 have y:k<w.length:=by have d:=A1 j;(try dsimp only at d);omega
 have aj:=S.rng _ (C43 y);obtain⟨J,af⟩:∃J:Nat,w[k]=(J:Int):=⟨w[k].toNat,by omega⟩
 have ad:w[k]?=some (J:Int):=by rw[C36 y,af]
 have C:J<g.length:=by omega
 obtain⟨c,O⟩:∃c,c=g[J]:=⟨_,rfl⟩
 have al:g[((J:Nat):Int).toNat]?=some c:=by rw[O];simp[C]
 have H:D8 g J=c.Parents:=by rw[c9 C,O]
 have ah:=hf.pars c (by rw[O];exact C43 C);refine R3 ?_;refine B2 (C5 A0 (.buf _ _ _ _ _) A0 B1 ad) A0 (R3 ?_);refine B9 (X:=Nat×List Int×List Int) (fun x=>([(0,B8 Commit 3 F2 g),(3,.s (.one (.mut 753))),(8,.s (.one (.buf 8 Int 1 C7 x.2.2))),(11,B6 k),(65,B8 Int 1 C7 c.Parents),(66,B6 c.Parents.length),(67,B6 x.1)],[(8,.spare x.2.2.length 1 3),(753,.arr Int 1 C7 x.2.1)])) (fun x=>x.1<=c.Parents.length/\k<x.2.2.length/\x.2.2[k]?=some (J:Int)/\KInv g k x.1 x.2.1 x.2.2) (fun x=>c.Parents.length-x.1) (0,ch,w) ⟨C41 _,y,ad,S⟩ (C1) ?_;rintro⟨i,v,E⟩ ⟨V,hkl,B,F⟩;dsimp only at V hkl B F ⊢;have ai:=F.le;have D:=F.len;have M:E[k]=(J:Int):=by rw[C36 hkl]at B;exact C85 B
 refine zc 5 (fun j=>?_) fun j=>?_;rotate_left
 ·have d:i=c.Parents.length:=by have d:=A3 j;(try dsimp only at d);omega
  rw[d,<-H]at F;have hN:=F.next hkl M;refine J0 ?_;exact⟨(k+1,v,E),⟨by dsimp only;omega,hN⟩,by dsimp only;omega,(C1)⟩
 have A:i<c.Parents.length:=by have d:=A1 j;(try dsimp only at d);omega
 have R:c.Parents[i]?=some c.Parents[i]:=by simp[A]
 have Q:=(K6 W J).1 c.Parents[i] (by rw[H];exact C43 A);obtain⟨p,T⟩:∃p:Nat,c.Parents[i]=(p:Int):=⟨c.Parents[i].toNat,by omega⟩
 rw[T]at R;obtain⟨s1,s2,s3,s4⟩:=F.step W hkl M (i:=i) (p:=p) (by rw[H];exact A) (by simp only[H];exact T);have I:=tG (l:=v) (p:=(p:Int)) B1;have ac:(m9 v p)[((p:Nat):Int).toNat]?=some (I0 v p-1):=by
  unfold m9;rw[C37,D13 B1]
 have ag:(m9 v p).length=g.length:=by unfold m9;rw[C78,D]
 have Y:v.set ((p:Nat):Int).toNat (I0 v ((p:Nat):Int).toNat-1)=m9 v p:=rfl;refine zz 13 ?_;refine B2 (D9 A0 A0 A0 B1 (by (rw[D];omega))) A0 ?_;refine B2 (M7 A0 A0 I A0) A0 (B2 (aM A0 A0 (by (rw[C37];omega))) A0 ?_);refine B2 (D9 A0 A0 A0 B1 (by (rw[D];omega))) A0 ?_;refine U0 (G3 TySz.out A0 A0 (by (rw[D];omega)) A0 A0) ?_;refine G5 ?_;rw[Y];refine P1 ?_;refine B2 (D9 A0 A0 A0 B1 (by (rw[ag];omega))) A0 ?_;refine B2 (M7 A0 A0 ac A0) A0 ?_;refine zc 2 (fun j=>?_) fun j=>?_
 ·have d:I0 v p-1=0:=A1 j;rw[A6 d]at s4;skip;refine H3 ?_;refine B2 (B7 (c:=C7) (ys:=[(p:Int)]) (C0 A0 A0 A0 A0 D2) A0 A0 A0) A0 (I3 ?_);exact⟨(i+1,m9 v p,E++[(p:Int)]),⟨A,by dsimp only;rw[C40];omega,by dsimp only;rw[C68 hkl];exact B,s4⟩,by dsimp only;omega,(C1)⟩
 ·have d:¬I0 v p-1=0:=A3 j;rw[A7 d]at s4;refine I2 ?_;exact⟨(i+1,m9 v p,E),⟨A,hkl,B,s4⟩,by dsimp only;omega,(C1)⟩
abbrev HM(s:Str):Cell:=.v (.string ⟨s.toArray⟩)
def b9(l:List File):List (Str×Cell):=l.foldl (fun m f=>r9 m f.Path (HM f.Blob)) []
theorem A10(a b:Str)(c:Cell):∀d:List (Str×Cell),O5 (r9 d a c) b=if a=b then some c else O5 d b
 | []=>by
  unfold r9 O5;split
  ·rfl
  ·rfl
 | (k,x)::r=>by
  unfold r9;split
  ·rename_i e;subst e;unfold O5;split
   ·rfl
   ·rfl
  ·rename_i e;rw[O5,A10 a b c r];by_cases g:k=b
   ·subst g;rw[A6 rfl,A7 (fun h=>e h.symm)];simp[O5]
   ·rw[A7 g];by_cases f:a=b
    ·rw[A6 f,A6 f]
    ·rw[A7 f,A7 f,O5,A7 g]
theorem vB(l:List File)(i:Nat)(h:i<l.length):b9 (l.take (i+1))=r9 (b9 (l.take i)) l[i].Path (HM l[i].Blob):=by
 unfold b9;rw[C52,C36 h,C53,D09];rfl
theorem DF(p:Str):∀(l:List File) (m:List (Str×Cell)),O5 (l.foldl (fun m f=>r9 m f.Path (HM f.Blob)) m) p=((J7 l.reverse p).map HM).or (O5 m p)
 | [],m=>by simp[J7]
 | f::r,m=>by
  rw[D00,DF p r,A10,List.reverse_cons];have key:∀(l:List File),J7 (l++[f]) p=(J7 l p).or (if f.Path=p then some f.Blob else none):=by
   intro l;induction l with
   | nil=>simp[J7]
   | cons g l b =>
    rw[C92,J7,J7];split
    ·rfl
    ·exact b
  rw[key];cases J7 r.reverse p with
  | some x=>rfl
  | none=>by_cases h:f.Path=p<;>simp[h]
theorem MJ(l:List File)(p:Str):(O5 (b9 l) p).isSome=decide (p∈l.map (·.Path)):=by
 unfold b9;rw[DF];have:O5 ([]:List (Str×Cell)) p=none:=rfl;rw[this,Option.or_none,Option.isSome_map];cases h:J7 l.reverse p with
 | none =>
  have:=FB.1 h;rw[List.map_reverse,List.mem_reverse]at this;simp only[Option.isSome_none,this,decide_false]
 | some x =>
  obtain⟨f,c,b,_⟩:=eW h;have:p∈l.map (·.Path):=by rw[<-b];exact List.mem_map_of_mem (List.mem_reverse.1 c)
  simp only[Option.isSome_some,this,decide_true]
theorem A58{l m:List File}{p:Str}(i:ascend l=true)(b:∀f,f∈m↔f∈l)(_hu:∀f∈l,∀g∈l,f.Path=g.Path->f=g):J7 m p=J7 l p:=by
 cases h:J7 m p with
 | none =>
  symm
  rw[FB]at h ⊢;intro j;obtain⟨f,a,e⟩:=C71.1 j;exact h (C71.2 ⟨f,(b f).2 a,e⟩)
 | some x =>
  obtain⟨f,a,c,d⟩:=eW h;rw[<-c,eX i f ((b f).1 a),d]
theorem vC{l:List File}(b:ascend l=true)(p:Str):O5 (b9 l) p=(J7 l p).map HM:=by
 unfold b9;rw[DF];have:O5 ([]:List (Str×Cell)) p=none:=rfl;rw[this,Option.or_none]
 congr 1
 refine A58 b (fun f=>List.mem_reverse) fun f h g i e=>?_;have c:=eX b f h;have d:=eX b g i;rw[e,d]at c;cases f;cases g;simp only[File.mk.injEq];exact⟨e,(C85 c).symm⟩
theorem iV{p:Prop}(h:p:=by repeat (first | exact Z6 | refine Z7 rfl ?_ | refine eK _ ?_)):p:=h
theorem V9{p:Prop}(h:p:=by exact rets1 rfl rfl):p:=h
theorem DG(l:List File)(r:l.length<=1073741824):AL.Met prog 164 [.one (.p (.list File 2 U6 l))] [] [] [] (fun rs ob'=>rs=[.one (.mut 800)]/\ob'=[(800,.map Str cM (b9 l))]):=by
 refine AL.Met.intro Tryz.func164 F1 A0 A0 A0 (J0 ?_);refine C2 (xL 800 Str cM A0) A0 (O6 ?_);refine B9 (X:=Nat) (fun i=>([(3,.s (.one (.mut 800))),(7,B8 File 2 U6 l),(8,B6 l.length),(9,B6 i)],[(800,.map Str cM (b9 (l.take i)))])) (fun i=>i<=l.length) (fun i=>l.length-i) 0 (C41 _) (C1) ?_;intro i q;dsimp only at q ⊢;refine zc 5 (fun g=>?_) fun g=>?_
 ·have b:i<l.length:=by have c:=A1 g;(try dsimp only at c);omega
  have k:=vB l i b;obtain⟨f,j⟩:∃f,f=l[i]:=⟨_,rfl⟩
  have v:l[i]?=some f:=by rw[j];simp[b]
  rw[<-j]at k;refine I3 ?_;refine C2 (H9 5 A0) A0 (R3 ?_);refine U0 (QC (f.Path) A0 A0 A0 A0 A0 eN eO) (I2 ?_);refine⟨i+1,by omega,by omega,?_⟩;rw[k];exact (C1)
 ·have d:i=l.length:=by have c:=A3 g;(try dsimp only at c);omega
  rw[d,C48];refine I3 ?_;exact D1 V9 iV (fun _ _ h=>h) ⟨rfl,rfl⟩
theorem QN(l:List File)(r:l.length<=1073741824):AL.Met prog 164 [.one (.p (.list File 2 U6 l))] [] [] [] (fun rs ob'=>rs=[.one (.mut 801)]/\ob'=[(801,.map Str cM (b9 l))]):=by
 refine AL.Met.intro Tryz.func164 F1 A0 A0 A0 (J0 ?_);refine C2 (xL 801 Str cM A0) A0 (O6 ?_);refine B9 (X:=Nat) (fun i=>([(3,.s (.one (.mut 801))),(7,B8 File 2 U6 l),(8,B6 l.length),(9,B6 i)],[(801,.map Str cM (b9 (l.take i)))])) (fun i=>i<=l.length) (fun i=>l.length-i) 0 (C41 _) (C1) ?_;intro i q;dsimp only at q ⊢;refine zc 5 (fun g=>?_) fun g=>?_
 ·have b:i<l.length:=by have c:=A1 g;(try dsimp only at c);omega
  have k:=vB l i b;obtain⟨f,j⟩:∃f,f=l[i]:=⟨_,rfl⟩
  have v:l[i]?=some f:=by rw[j];simp[b]
  rw[<-j]at k;refine I3 ?_;refine C2 (H9 5 A0) A0 (R3 ?_);refine U0 (QC (f.Path) A0 A0 A0 A0 A0 eN eO) (I2 ?_);refine⟨i+1,by omega,by omega,?_⟩;rw[k];exact (C1)
 ·have d:i=l.length:=by have c:=A3 g;(try dsimp only at c);omega
  rw[d,C48];refine I3 ?_;exact D1 V9 iV (fun _ _ h=>h) ⟨rfl,rfl⟩
theorem J6{p:Prop}(h:p:=by repeat (first | exact Z6 | refine Z7 rfl ?_)):p:=h
theorem QO{gf:Fr}{ob:Obs}(p:Str)(k:List (Str×Cell))(P:p.length<=1073741824)(K:B5 ob 800=some (.map Str cM k))(_hc:∀O∈k,∃v,O.2=.v v)(ps:List Str)(E:∀q,(O5 k q).isSome=decide (q∈ps)) :
  AL.Met prog 185 [.one (.p (.v (.string ⟨p.toArray⟩))),.one (.mut 800)] gf ob [] (fun rs ob'=>rs=[.one (.p (.v (.bool (W6 p ps))))]/\ob'=ob):=by
 have w:∀c:UInt8,((c.toNat:Int)=47)↔c=47:=fun c=>by
  constructor
  ·intro h;exact C89.1 (by simpa using (show c.toNat=47 by omega))
  ·rintro rfl;rfl
 refine AL.Met.introH Tryz.func185 F1 rfl rfl rfl (fun G=>?_);refine x5 ?_;refine B9 (X:=Nat) (fun i=>([(0,P6 p),(1,.s (.one (.mut 800))),(9,B6 p.length),(10,B6 i)]++gf,ob)) (fun i=>i<=p.length/\∀j,j<i->(decide (p.take j∈ps)&&decide (p[j]?=some 47))=false) (fun i=>p.length-i) 0 ⟨C41 _,fun j h=>by omega⟩ (C04 lf G J6 (fun _ _ h=>h)) ?_;rintro i ⟨L,C⟩;dsimp only at L C ⊢;refine zc 5 (fun d=>?_) fun d=>?_;rotate_left
 ·have B:i=p.length:=by have A:=A3 d;(try dsimp only at A);omega
  have D:W6 p ps=false:=by
   unfold W6;rw[List.any_eq_false];intro j I;rw[C j (by rw[B];exact C62.1 I)];simp
  refine J0 ?_;exact D1 V9 iV (fun _ _ h=>h) ⟨by rw[D],rfl⟩
 have f:i<p.length:=by have A:=A1 d;(try dsimp only at A);omega
 have M:p[((i:Nat):Int).toNat]?=some p[i]:=by simp[f]
 have x:p[i]?=some p[i]:=by simp[f]
 have y:=E (p.take ((i:Nat):Int).toNat);obtain⟨r,J⟩:∃r,r=O5 k (p.take ((i:Nat):Int).toNat):=⟨_,rfl⟩
 rw[<-J,C37]at y;refine zz 14 ?_;refine B2 (oS ((p.take ((i:Nat):Int).toNat)) (r:=r) A0 K A0 eN eO (J.symm)) A0 (x5 ?_);refine D7 A0 A0 A0 A0 (fun H=>by have y:=H;(try simp at y);rw[H];exact G9 A0 A0 B1 M) ?_;refine zc 3 (fun d=>?_) fun d=>?_
 ·rw[P4,C39,decide_eq_true_eq]at d;have z:W6 p ps=true:=by
   unfold W6;rw[List.any_eq_true];exact⟨i,C62.2 f,by rw[<-y,d.1,x,(w _).1 d.2];rfl⟩
  refine I2 ?_;exact D1 V9 iV (fun _ _ h=>h) ⟨by rw[z],rfl⟩
 ·rw[P4]at d;refine I2 ?_;refine⟨i+1,⟨f,fun j I=>?_⟩,by omega,C04 lf G J6 (fun _ _ h=>h)⟩;by_cases e:j=i
  ·subst e;rw[<-y,x];cases F:r.isSome
   ·rfl
   ·rw[F,C84,decide_eq_false_iff_not]at d;have:¬p[j]=47:=fun h=>d ((w _).2 h);simp[this]
  ·exact C j B1
theorem A59(l:List File):∀b∈b9 l,∃v,b.2=.v v:=by
 have key:∀(l:List File) (m:List (Str×Cell)),(∀b∈m,∃v,b.2=.v v)->∀b∈l.foldl (fun m f=>r9 m f.Path (HM f.Blob)) m,∃v,b.2=.v v:=by
  intro l;induction l with
  | nil=>exact fun m h=>h
  | cons f r e =>
   intro m h;refine e _ ?_;clear e;induction m with
   | nil=>intro b a;change b∈r9 [] f.Path (HM f.Blob) at a;rw[r9,C42]at a;rw[a];exact⟨_,rfl⟩
   | cons x m d =>
    obtain⟨k,c⟩:=x;intro b a;change b∈r9 ((k,c)::m) f.Path (HM f.Blob) at a;rw[r9]at a;split at a
    ·rcases C50.1 a with rfl | a
     ·exact⟨_,rfl⟩
     ·exact h b (by simp[a])
    ·rcases C50.1 a with rfl | a
     ·exact h _ dV
     ·exact d (fun b g=>h b (by simp[g])) b a
 exact key l [] fun _ h=>by cases h
theorem zD:∀(l:List File) (i:Nat),i+1<l.length->(ascend (l.take (i+2))=(ascend (l.take (i+1))&&dL (l.getD i ⟨[],[]⟩).Path (l.getD (i+1) ⟨[],[]⟩).Path))
 | [],i,h=>by simp at h
 | [_],i,h=>by simp at h
 | f::g::r,0,_=>by simp[ascend]
 | f::g::r,i+1,h=>by
  have b:ascend (g::r.take (i+1))=(ascend (g::r.take i)&&dL ((g::r).getD i ⟨[],[]⟩).Path ((g::r).getD (i+1) ⟨[],[]⟩).Path):=zD (g::r) i (by simpa using h);show ascend (f::g::r.take (i+1))=(ascend (f::g::r.take i)&&dL ((g::r).getD i ⟨[],[]⟩).Path ((g::r).getD (i+1) ⟨[],[]⟩).Path)
  rw[ascend,ascend,b,Bool.and_assoc]
theorem MK(l:List File):ascend (l.take 1)=true:=by
 cases l with
 | nil=>rfl
 | cons f r=>rfl
theorem E4{p:Prop}(h:p:=by kernel_rfl):p:=h
theorem QP(l:List File)(R:l.length<=1073741824)(S:∀f∈l,f.Path.length<=1073741824):FnOk prog 161 [R5 l] (fun rs=>rs=[E1 (O8 l)]):=by
 rw[<-YI];have H:=A59 l;have G:=MJ l;refine FnOk.intro Tryz.func161 F1 A0 A0 A0 A0 (I3 ?_);refine fS (DG l R) A0 A0 A0 A0 ?_;rintro _ _ ⟨rfl,rfl⟩;refine⟨rfl,?_⟩;refine F5 ?_;refine R3 ?_;refine B9 (X:=Nat) (fun i=>([(0,B8 File 2 U6 l),(3,.s (.one (.mut 800))),(8,B8 File 2 U6 l),(9,B6 l.length),(10,B6 i)],[(800,.map Str cM (b9 l))])) (fun i=>i<=l.length/\ascend (l.take i)=true/\((l.take i).all fun f=>!W6 f.Path (l.map (·.Path)))=true) (fun i=>l.length-i) 0 ⟨C41 _,rfl,rfl⟩ (C1) ?_;rintro i ⟨Q,ha,E⟩;dsimp only at Q ha E ⊢;refine zc 5 (fun q=>?_) fun q=>?_;rotate_left
 ·have K:i=l.length:=by have v:=A3 q;(try dsimp only at v);omega
  rw[K,C48]at ha E;refine J0 ?_;exact A9 (rs:=[E1 true]) M1 (by unfold eV;rw[ha,E];rfl)
 have j:i<l.length:=by have v:=A1 q;(try dsimp only at v);omega
 obtain⟨f,I⟩:∃f,f=l[i]:=⟨_,rfl⟩
 have M:l[i]?=some f:=by rw[I];simp[j]
 have J:=S f (by rw[I];exact C43 j);obtain⟨g,c⟩:∃g,g=l.getD (i-1) ⟨[],[]⟩:=⟨_,rfl⟩
 have D:0<i->l[((i:Int)-1).toNat]?=some g:=fun w=>by
  rw[c,show ((i:Int)-1).toNat=i-1 by omega,C38,C36 B1];rfl
 have b:ascend (l.take (i+1))=if 0<i then dL g.Path f.Path else true:=by
  cases i with
  | zero=>rw[A7 B1];exact MK l
  | succ i =>
   rw[A6 B1,zD l i j,ha,C84,c];rw[show l.getD (i+1) ⟨[],[]⟩=f by rw[C38,M];rfl];rfl
 have z:((0 < i/\dL g.Path f.Path=false)\/W6 f.Path (l.map (·.Path))=true)->[E1 false]=[E1 (eV l)]:=by
  rintro (⟨w,h⟩ | h)
  ·have : ascend l=false:=by
    cases A:ascend l
    ·rfl
    ·exfalso;rw[A6 w,h]at b;have key:∀(l:List File) (k:Nat),ascend l=true->ascend (l.take k)=true:=by
      intro l;induction l with
      | nil=>intro k h;simpa using h
      | cons x r T =>
       intro k h;cases k with
       | zero=>rfl
       | succ k =>
        have F:=T k (jM h);rw[List.take_succ_cons];cases L:r.take k with
        | nil=>rfl
        | cons y t =>
         unfold ascend;rw[C39];refine⟨bV h y (C97 (by rw[L];simp)),by rw[<-L];exact F⟩
     rw[key l (i+1) A]at b;cases b
   unfold eV;rw[this];rfl
  ·have:(l.all fun f=>!W6 f.Path (l.map (·.Path)))=false:=by
    rw[List.all_eq_false];exact⟨f,by rw[I];exact C43 j,by rw[h];simp⟩
   unfold eV;rw[this,Bool.and_false]
 have B:(0<i->dL g.Path f.Path=true)->W6 f.Path (l.map (·.Path))=false->ascend (l.take (i+1))=true/\((l.take (i+1)).all fun f=>!W6 f.Path (l.map (·.Path)))=true:=by
  intro v A;refine⟨?_,?_⟩
  ·rw[b];split
   ·rename_i w;exact v w
   ·rfl
  ·rw[C52,M,C53,D10,E,C84,List.all_cons,List.all_nil,A];rfl
 refine R3 ?_;refine C2 (H9 5 A0) A0 (P1 ?_);cases d:(if decide ((0:Int)<(i:Int))=true then !Op.bytesLess g.Path f.Path else false)
 ·have v:0<i->dL g.Path f.Path=true:=fun w=>by
   rw[A6 (A4 B1),Bool.not_eq_false']at d;exact d
  refine CV 17 E4 E4 A0 (I2 ?_);refine F9 A0 A0 (fun c=>by have C:=c;(try simp at C);rw[c];exact aM A0 A0 B1) A0 A0 ?_;refine F9 A0 A0 (fun c=>by have C:=c;(try simp at C);rw[c];exact C5 A0 (.pure _ _ _ _) A0 B1 (D B1)) A0 A0 ?_;refine P1 ?_;refine F9 A0 A0 (fun c=>by rw[c];exact MB A0 A0) A0 A0 ?_;refine F5 ?_;refine xN A0 A0 d A0 (G5 ?_);refine xN A0 A0 d A0 (G5 ?_);refine xN A0 A0 d A0 (F5 ?_);refine A51 A0 A0 d (CE (QO f.Path (b9 l) J A0 H (l.map (·.Path)) G) A0 A0 A0 ?_);rintro _ _ ⟨rfl,rfl⟩;refine⟨_,rfl,?_⟩;refine F5 ?_;refine uI ?_;rw[d];refine zc 0 (fun q=>?_) fun q=>?_
  ·have A:W6 f.Path (l.map (·.Path))=true:=by simpa using q
   refine I2 ?_;exact A9 (rs:=[E1 false]) M1 (z (.inr A))
  ·have A:W6 f.Path (l.map (·.Path))=false:=by simpa using q
   obtain⟨F,O⟩:=B v A;refine I2 ?_;exact⟨i+1,⟨j,F,O⟩,by omega,(C1)⟩
 ·have w:0<i:=by
   apply C69;intro w;rw[A7 (by rw[decide_eq_true_eq];omega)]at d;cases d
  have v:dL g.Path f.Path=false:=by
   rw[A6 (A4 B1),C80]at d;exact d
  refine J0 ?_;refine F9 A0 A0 (fun c=>by have C:=c;(try simp at C);rw[c];exact aM A0 A0 B1) A0 A0 ?_;refine F9 A0 A0 (fun c=>by have C:=c;(try simp at C);rw[c];exact C5 A0 (.pure _ _ _ _) A0 B1 (D B1)) A0 A0 ?_;refine P1 ?_;refine F9 A0 A0 (fun c=>by rw[c];exact MB A0 A0) A0 A0 ?_;refine F5 ?_;refine bH A0 A0 (by rw[d];decide) A0 A0 ?_;refine bH A0 A0 (by rw[d];decide) A0 A0 ?_;refine bH A0 A0 (by rw[d];decide) A0 A0 ?_;refine bH A0 A0 (by rw[d];decide) A0 A0 ?_;refine D6 (O2 A0 (d) A0) A0 A0 ?_;refine zc 1 (fun q=>?_) fun q=>?_
  ·refine I2 ?_;exact A9 (rs:=[E1 false]) M1 (z (.inl ⟨w,v⟩))
  ·cases q
theorem made_ok(p:List Span)(m n:Int)(N:p.length<=536870912)(hb:∀s∈p,-1099511627776<=s.From/\s.From<=1099511627776 /\ -1099511627776<=s.To/\s.To<=1099511627776)
  (I:-1099511627776<=m/\m<=1099511627776 /\ -1099511627776<=n/\n<=1099511627776) :
  FnOk prog 146 [pSpans p,C8 m,C8 n] (fun M=>M=[pChanges (nF p m n)]):=by
 refine FnOk.intro Tryz.func146 F1 A0 A0 A0 A0 (J0 ?_);refine C2 (L2 7 _ changeC A0) A0 (x5 ?_);refine B9 (X:=Nat×Int×Int×List Change) (fun x=>([(0,B8 Span 2 spanC p),(1,B6 m),(2,B6 n),(7,.s (.one (.buf 7 Change 4 changeC x.2.2.2))),(8,B6 x.2.1),(9,B6 x.2.2.1),(10,B6 x.1)],[(7,.spare x.2.2.2.length 4 72)]))
  (fun x=>x.1<=p.length+1/\x.2.2.2.length<=x.1/\(-1099511627776<=x.2.1/\x.2.1<=1099511627777 /\ -1099511627776<=x.2.2.1/\x.2.2.1<=1099511627777)/\(x.1<=p.length->x.2.2.2++bN x.2.1 x.2.2.1 (p.drop x.1) m n=nF p m n)/\(x.1=p.length+1->x.2.2.2=nF p m n))
  (fun x=>p.length+1-x.1) (0,0,0,[]) (by simp[nF]) (C1) ?_
 rintro⟨k,i,j,z⟩ ⟨H,J,D,F,G⟩;dsimp only at H J D F G ⊢;refine zc 8 (fun q=>?_) fun q=>?_
 ·have w:k<=p.length:=by have:=A1 q;omega
  have B:=F w;refine R3 ?_;refine C2 (H9 11 A0) A0 (F5 ?_);obtain⟨x,C⟩:∃x,x=p.getD k ⟨m,n⟩:=⟨_,rfl⟩
  have L:-1099511627776<=x.From/\x.From<=1099511627776 /\ -1099511627776<=x.To/\x.To<=1099511627776:=by
   rw[C,C38];by_cases h:k<p.length
   ·rw[C36 h];exact hb _ (C43 h)
   ·rw[C63 B1];exact I
  have l:bN i j (p.drop k) m n=(if x.From>i\/x.To>j then [⟨i,x.From-i,j,x.To-j⟩] else [])++(if k<p.length then bN (x.From+1) (x.To+1) (p.drop (k+1)) m n else []):=by
   by_cases h:k<p.length
   ·rw[C57 h,A6 h,C,C38,C36 h];rfl
   ·rw[C64 B1,A7 h,C,C38,C63 B1];simp[bN]
  refine oM [(0,B8 Span 2 spanC p),(1,B6 m),(2,B6 n),(7,.s (.one (.buf 7 Change 4 changeC z))),(8,B6 i),(9,B6 j),(10,B6 k),(11,.s (.one (.ref 11 0)))] [(11,.box [.p (.v (.int .i64 x.From)),.p (.v (.int .i64 x.To))]),(7,.spare z.length 4 72)] ?_ ?_
  ·refine zc 7 (fun q=>?_) fun q=>?_
   ·have A:k<p.length:=by have:=A1 q;omega
    have K:p[k]?=some p[k]:=by simp[A]
    have:x=p[k]:=by rw[C,C38,K];rfl
    subst this;skip;refine I3 ?_;exact C1
   ·have A:¬k<p.length:=by have:=A3 q;omega
    have:x=⟨m,n⟩:=by rw[C,C38,C63 B1];rfl
    subst this;refine G5 ?_;exact C1
  ·obtain⟨g,d⟩:∃o,o=z++(if x.From>i\/x.To>j then [⟨i,x.From-i,j,x.To-j⟩] else []):=⟨_,rfl⟩
   have E:g.length<=k+1:=by rw[d,C40];split<;>simp<;>omega
   refine oM [(0,B8 Span 2 spanC p),(1,B6 m),(2,B6 n),(7,.s (.one (.buf 7 Change 4 changeC g))),(10,B6 k),(11,.s (.one (.ref 11 0)))] [(11,.box [.p (.v (.int .i64 x.From)),.p (.v (.int .i64 x.To))]),(7,.spare g.length 4 72)] ?_ ?_
   ·refine zc 13 (fun q=>?_) fun q=>?_
    ·have h:=A1 (or_pick.symm.trans q);rw[A6 h]at d;subst d;skip;refine zz 13 ?_;refine B2 (B7 (c:=changeC) (ys:=[⟨_,_,_,_⟩]) (C0 A0 A0 A0 A0 D2) A0 A0 A0) A0 (H3 ?_);exact C1
    ·have h:=A3 (or_pick.symm.trans q);rw[A7 h,C77]at d;subst d;refine G5 ?_;exact C1
   ·skip;refine zz 15 ?_;refine⟨(k+1,x.From+1,x.To+1,g),⟨by dsimp only;omega,E,by dsimp only;omega,?_,?_⟩,by dsimp only;omega,C1⟩
    ·intro y;dsimp only at y ⊢;rw[<-B,l,A6 (show k<p.length by omega),d];simp
    ·intro y;dsimp only at y ⊢;rw[<-B,l,A7 (show ¬k<p.length by omega),d];simp
 ·have w:k=p.length+1:=by have:=A3 q;omega
  refine I3 ?_;exact A9 M1 (by rw[G w])
theorem B46(a b:List Int)(ha:a.length<=536870912)(hb:b.length<=536870912):FnOk prog 145 [I4 a,I4 b] (fun Q=>Q=[pIntss (rD a b)]):=by
 refine FnOk.intro Tryz.func145 F1 A0 A0 A0 A0 (Z2 ?_);refine C2 (a8 5 (List Int) intsC [] A0 A0 B1 B1 (fun _=>PE) VH) A0 (O6 ?_);refine B9 (X:=Nat) (fun i=>([(0,B8 Int 1 C7 a),(1,B8 Int 1 C7 b),(5,.s (.one (.mut 5))),(6,B6 ((i:Int)-1))],[(5,.arr (List Int) 1 intsC (R8 a b i))])) (fun i=>i<=a.length+1) (fun i=>i) (a.length+1) (C45 _) ?_ ?_
 ·refine Sees.of ⟨⟨_,rfl,.same _⟩,⟨_,rfl,.same _⟩,⟨_,rfl,.same _⟩,⟨_,rfl,.eq dV⟩,trivial⟩ ⟨?_,trivial⟩;rw[<-IG];rfl
 intro i M;dsimp only at M ⊢;refine zc 6 (fun c=>?_) fun c=>?_
 ·obtain⟨i,rfl⟩:∃r,i=r+1:=⟨i-1,by have:=A1 c;omega⟩
  refine aN [(0,B8 Int 1 C7 a),(1,B8 Int 1 C7 b),(5,.s (.one (.mut 5))),(6,B6 i)] [(5,.arr (List Int) 1 intsC (R8 a b (i+1)))] (Sees.of ⟨i6 rfl,i6 rfl,i6 rfl,leE A0 (by first | (simp;done) | (simp;omega)),trivial⟩ ⟨rfl,trivial⟩) (C3 (C29 5 A0) ?_);have C:((R8 a b (i+1)).map fun x=>TC.p (intsC x 0)).length=a.length+1:=by simp[fK]
  have K:=fK a b (i+1);refine O6 ?_;refine C2 (a8 23 Int C7 0 A0 A0 B1 B1 (fun _=>PE) VH) A0 (B2 (M6 A0 A0 A0 B1 B1) A0 (U0 (gU TySz.out A0 A0 (by (rw[C];simp;omega)) A0 A0) ?_));refine R3 ?_;obtain⟨T,E⟩:∃T,T=((R8 a b (i+1)).map fun x=>TC.p (intsC x 0)).set i (.mut 23):=⟨_,rfl⟩
  have f:T[i]?=some (.mut 23):=by rw[E,D13 (by rw[C];omega)]
  have F:i+1<=a.length->T[i+1]?=some (.p (intsC (V0 a b (i+1) 0) 0)):=fun h=>by
   rw[E,List.getElem?_set_ne B1,C96,nG a b (i+1) (i+1) (C45 _) h];rfl
  refine B9 (X:=Nat) (fun j=>([(0,B8 Int 1 C7 a),(1,B8 Int 1 C7 b),(5,.s (.one (.mut 5))),(6,B6 i),(7,B6 ((j:Int)-1))],[(5,.tarr (R8 a b (i+1)).length 1 T),(23,.arr Int 1 C7 (V0 a b i j))])) (fun j=>j<=b.length+1) (fun j=>j) (b.length+1) (C45 _) ?_ ?_
  ·refine Sees.of ⟨⟨_,rfl,.same _⟩,⟨_,rfl,.same _⟩,⟨_,rfl,.same _⟩,⟨_,rfl,.same _⟩,⟨_,rfl,.eq dV⟩,trivial⟩ ⟨by rw[E];rfl,?_,trivial⟩;rw[<-NV];rfl
  intro j N;dsimp only at N ⊢;refine zc 6 (fun c=>?_) fun c=>?_
  ·obtain⟨j,rfl⟩:∃r,j=r+1:=⟨j-1,by have:=A1 c;omega⟩
   refine aN [(0,B8 Int 1 C7 a),(1,B8 Int 1 C7 b),(5,.s (.one (.mut 5))),(6,B6 i),(7,B6 j)] [(5,.tarr (R8 a b (i+1)).length 1 T),(23,.arr Int 1 C7 (V0 a b i (j+1)))] (Sees.of ⟨i6 rfl,i6 rfl,i6 rfl,i6 rfl,leE A0 (by first | (simp;done) | (simp;omega)),trivial⟩ ⟨rfl,rfl,trivial⟩) ?_;have z:=FF a b i (j+1);have d:=TI a b i j;refine LO (uI ?_);refine oM [(0,B8 Int 1 C7 a),(1,B8 Int 1 C7 b),(5,.s (.one (.mut 5))),(6,B6 i),(7,B6 j)] [(5,.tarr (R8 a b (i+1)).length 1 T),(23,.arr Int 1 C7 (V0 a b i j))] ?_ ?_
   ·refine zc 10 (fun c=>?_) fun c=>?_
    ·have v:i=a.length:=by have:=A1 c;omega
     have G:(dist (a.drop i) (b.drop j):Int)=b.length-j:=by rw[v,C64 (C45 _),dist,C61];omega
     rw[G]at d;skip;refine H3 ?_;refine B2 (M6 A0 A0 A0 B1 B1) A0 (B2 (P0 A0 A0 f) A0 (J0 ?_));refine U0 (G3 TySz.out A0 A0 (by (rw[z];simp;omega)) A0 A0) ?_;refine G5 ?_;rw[<-d];exact C1
    ·have v:i<a.length:=by have:=A3 c;omega
     refine zc 8 (fun c=>?_) fun c=>?_
     ·have w:j=b.length:=by have:=A1 c;omega
      have G:(dist (a.drop i) (b.drop j):Int)=a.length-i:=by rw[w,C64 (C45 b.length),iG,C61];omega
      rw[G]at d;skip;refine H3 ?_;refine B2 (M6 A0 A0 A0 B1 B1) A0 (B2 (P0 A0 A0 f) A0 (J0 ?_));refine U0 (G3 TySz.out A0 A0 (by (rw[z];simp;omega)) A0 A0) ?_;refine G5 ?_;rw[<-d];exact C1
     ·have w:j<b.length:=by have:=A3 c;omega
      have O:a[i]?=some a[i]:=by simp[v]
      have P:b[j]?=some b[j]:=by simp[w]
      have A:=KP a b i j v w;have B:=F v;refine zc 13 (fun c=>?_) fun c=>?_
      ·rw[A6 (A1 c)]at A;have R:=fA a b (i+1) 0 (j+1) (C41 _) w;rw[A]at d;skip;refine P1 ?_;refine D6 (P0 A0 A0 f) A0 A0 (I2 ?_);refine D6 (P0 A0 A0 B) A0 A0 (P1 ?_);refine D6 (D9 A0 A0 A0 B1 B1) A0 A0 (BZ (G3 TySz.out A0 A0 (by (rw[z];simp;omega)) A0 A0) A0 ?_);refine G5 ?_;rw[<-d];exact C1
      ·rw[A7 (A3 c)]at A;have L:=fA a b (i+1) 0 j (C41 _) B1;have H:=fA a b i (j+1) (j+1) (C45 _) B1;have I:=rB (a.drop (i+1)) (b.drop j);have J:=rB (a.drop i) (b.drop (j+1));simp only[C61]at I J;have D:(1:Int)+(if (dist (a.drop i) (b.drop (j+1)):Int)<(dist (a.drop (i+1)) (b.drop j):Int) then (dist (a.drop i) (b.drop (j+1)):Int) else (dist (a.drop (i+1)) (b.drop j):Int))=(dist (a.drop i) (b.drop j):Int):=by
        rw[A];split<;>omega
       rw[<-D]at d;skip;refine P1 ?_;refine D6 (P0 A0 A0 f) A0 A0 (I2 ?_);refine D6 (P0 A0 A0 B) A0 A0 (J0 ?_);refine D6 (P0 A0 A0 f) A0 A0 (F5 ?_);refine D6 (D9 A0 A0 A0 B1 B1) A0 A0 (D6 (M7 A0 A0 H A0) A0 A0 (D6 (n_min A0 A0) A0 A0 (D6 (Z3 A0 A0 (by (constructor<;>split<;>omega))) A0 A0 ?_)));refine D6 (D9 A0 A0 A0 B1 B1) A0 A0 (BZ (G3 TySz.out A0 A0 (by (rw[z];simp;omega)) A0 A0) A0 ?_);refine G5 ?_;rw[<-d];exact C1
   ·skip;refine I2 ?_;exact⟨j,by omega,by omega,C1⟩
  ·obtain rfl:j=0:=by have:=A3 c;omega
   refine C3 (Sees.freeze (k:=23) A0) (C3 (C30 5 (R8 a b i) A0 (by simp[fK]) (by rw[E,UX (y:=V0 a b i 0) rfl,NW])) ?_);refine J0 ?_;exact⟨i,by omega,by omega,C1⟩
 ·obtain rfl:i=0:=by have:=A3 c;omega
  refine C3 (Sees.freeze (k:=5) A0) (I3 ?_);exact A9 M1 rfl
theorem ML(a b:List Int):∀(p q:Int),∀s∈K0 p q a b,p<=s.From/\s.From<p+a.length/\q<=s.To/\s.To<q+b.length:=by
 induction a generalizing b with
 | nil=>intro p q s c;simp[K0]at c
 | cons x a d =>
  induction b with
  | nil=>intro p q s c;simp[K0]at c
  | cons y b e =>
   intro p q s c;rw[K0]at c;simp only[C46];split at c
   ·rcases C50.1 c with rfl | c
    ·simp only;omega
    ·have:=d b (p+1) (q+1) s c;omega
   ·split at c
    ·have:=d (y::b) (p+1) q s c;simp only[C46]at this;omega
    ·have:=e p (q+1) s c;simp only[C46]at this;omega
theorem walk_ok(a b:List Int)(ha:a.length<=536870911)(hb:b.length<=536870911):FnOk prog 102 [I4 a,I4 b] (fun S=>S=[pChanges (tV a b)]):=by
 refine FnOk.intro Tryz.func102 F1 A0 A0 A0 A0 (R3 ?_);refine E2 (B46 a b B1 B1) (P1 ?_);refine C2 (L2 6 _ spanC A0) A0 (R3 ?_);refine B9 (X:=Nat×Nat×List Span) (fun x=>([(0,B8 Int 1 C7 a),(1,B8 Int 1 C7 b),(5,B8 (List Int) 1 intsC (rD a b)),(6,.s (.one (.buf 6 Span 2 spanC x.2.2))),(7,B6 x.1),(8,B6 x.2.1)],[(6,.spare x.2.2.length 2 144)]))
  (fun x=>x.1<=a.length/\x.2.1<=b.length/\x.2.2.length<=x.1/\x.2.2++K0 x.1 x.2.1 (a.drop x.1) (b.drop x.2.1)=K0 0 0 a b) (fun x=>a.length+b.length-x.1-x.2.1) (0,0,[]) dV (C1) ?_
 rintro⟨i,j,q⟩ ⟨O,J,Q,t⟩;dsimp only at O J Q t ⊢;refine zc 14 (fun m=>?_) fun m=>?_
 ·have K:=A1 (or_pick.symm.trans m);refine LO (H3 ?_);have F:i<a.length->(rD a b)[i]?=some (V0 a b i 0):=fun h=>nG a b 0 i (C41 _) B1;have G:i<a.length->(rD a b)[i+1]?=some (V0 a b (i+1) 0):=fun h=>nG a b 0 (i+1) (C41 _) B1;have L:i<a.length->a[i]?=some (a.getD i 0):=fun h=>by simp[C38,h]
  have M:j<b.length->b[j]?=some (b.getD j 0):=fun h=>by simp[C38,h]
  have B:∀h:i<a.length,a.getD i 0=a[i]:=fun h=>by simp[C38,h]
  have C:∀h:j<b.length,b.getD j 0=b[j]:=fun h=>by simp[C38,h]
  refine zz 14 ?_;refine F9 A0 A0 (fun d=>by have l:=d;(try simp at l);rw[d];exact C5 A0 (.pure _ _ _ _) A0 B1 (L B1)) A0 A0 ?_;refine H3 ?_;refine F9 A0 A0 (fun d=>by have l:=d;(try simp at l);rw[d];exact C5 A0 (.pure _ _ _ _) A0 B1 (M B1)) A0 A0 ?_;refine zc 5 (fun m=>?_) fun m=>?_
  ·simp only[and_pick]at m;obtain⟨⟨v,k⟩,A⟩:=A1 m;have g:i<a.length:=by omega
   have w:j<b.length:=by omega
   rw[B g,C w]at A;rw[eZ a b i j g w,A6 A]at t;refine J0 ?_;refine B2 (B7 (c:=spanC) (ys:=[⟨_,_⟩]) (C0 A0 A0 A0 A0 D2) A0 A0 A0) A0 (V7 ?_);exact⟨(i+1,j+1,q++[⟨i,j⟩]),⟨by dsimp only;omega,by dsimp only;omega,by dsimp only;simp;omega,by dsimp only;rw[C65];exact t⟩,by dsimp only;omega,C1⟩
  ·have D:∀(E:i<a.length) (N:j<b.length),a[i]≠b[j]:=fun E N h=>by
    simp only[and_pick]at m;exact A3 m ⟨⟨by omega,by omega⟩,by rw[B E,C N];exact h⟩
   refine Z2 ?_;refine F9 A0 A0 (fun d=>by have l:=d;(try simp at l);rw[d];exact Z3 A0 A0 B1) A0 A0 ?_;refine F9 A0 A0 (fun d=>by have l:=d;(try simp at l);rw[d];exact C5 A0 (.pure _ _ _ _) A0 B1 (G B1)) A0 A0 ?_;refine F5 ?_;refine F9 A0 A0 (fun d=>by have l:=d;(try simp at l);rw[d];exact C5 A0 (.pure _ _ _ _) A0 B1 (fA a b (i+1) 0 j (C41 _) J)) A0 A0 ?_;refine G5 ?_;refine F9 A0 A0 (fun d=>by have l:=d;(try simp at l);have E:=rB (a.drop (i+1)) (b.drop j);simp only[C61]at E;rw[d];exact Z3 A0 A0 B1) A0 A0 ?_;refine F5 ?_;refine F9 A0 A0 (fun d=>by have l:=d;(try simp at l);rw[d];exact C5 A0 (.pure _ _ _ _) A0 B1 (F B1)) A0 A0 ?_;refine F5 ?_;refine F9 A0 A0 (fun d=>by have l:=d;(try simp at l);rw[d];exact C5 A0 (.pure _ _ _ _) A0 B1 (fA a b i 0 j (C41 _) J)) A0 A0 ?_;refine zc 5 (fun m=>?_) fun m=>?_
   ·rw[and_pick]at m;obtain⟨v,H⟩:=A1 m;have g:i<a.length:=by omega
    have z:q++K0 (i+1:Nat) j (a.drop (i+1)) (b.drop j)=K0 0 0 a b:=by
     by_cases k:j<b.length
     ·rw[eZ a b i j g k,A7 (D g k),A6 B1]at t;exact t
     ·rw[C64 (show b.length<=j by omega),z7]at t ⊢;exact t
    skip;refine I2 ?_;exact⟨(i+1,j,q),⟨by dsimp only;omega,by dsimp only;omega,by dsimp only;omega,z⟩,by dsimp only;omega,C1⟩
   ·rw[and_pick]at m;have H:=A3 m;have k:j<b.length:=by
     refine C69 fun h=>?_;have k:j=b.length:=by omega
     have v:i<a.length:=by omega
     apply H;refine⟨by omega,?_⟩;rw[C64 (show b.length<=j by omega),iG,iG,C61,C61];omega
    have z:q++K0 i (j+1:Nat) (a.drop i) (b.drop (j+1))=K0 0 0 a b:=by
     by_cases v:i<a.length
     ·rw[eZ a b i j v k,A7 (D v k),A7 (fun h=>H ⟨by omega,by omega⟩)]at t;exact t
     ·rw[C64 (show a.length<=i by omega),Z9]at t ⊢;exact t
    skip;refine I2 ?_;exact⟨(i,j+1,q),⟨by dsimp only;omega,by dsimp only;omega,by dsimp only;omega,z⟩,by dsimp only;omega,C1⟩
 ·have K:=A3 (or_pick.symm.trans m);have I:i=a.length:=by omega
  have P:j=b.length:=by omega
  rw[I,C64 (C45 a.length)]at t;have y:q=K0 0 0 a b:=by rw[<-t];simp[K0]
  refine R3 ?_;refine r8 (made_ok q a.length b.length B1 (fun s R=>by have:=ML a b 0 0 s (y ▸ R);omega) B1) A0 A0 A0 ?_;rintro _ rfl;refine H3 ?_;exact A9 M1 (by rw[y];rfl)
theorem u64_in{n:Int}(h:0<=n/\n<18446744073709551616):IntKind.u64.wrap n=n:=by simp[IntKind.wrap,IntKind.signed,IntKind.bits];omega
def S8(a n:Int):Int:=IntKind.u64.wrap a % n
theorem Y3(a:Int){n:Int}(h:1<=n):0<=S8 a n/\S8 a n<n:=⟨Int.emod_nonneg _ B1,Int.emod_lt_of_pos _ B1⟩
theorem gY(a n:Int)(f:1<=n)(g:n<=9223372036854775807):FnOk prog 6 [C8 a,C8 n] (fun rs=>rs=[C8 (S8 a n)]):=by
 refine FnOk.intro Tryz.func6 F1 A0 A0 A0 A0 (I2 ?_);have b:IntKind.u64.wrap n=n:=u64_in B1;refine I2 ?_;refine B2 (PJ A0 A0 (by (rw[b];omega))) A0 ?_;refine P1 ?_;refine A9 M1 ?_;have c:=VF a;have e:(IntKind.u64.wrap a).tmod n=IntKind.u64.wrap a % n:=Int.tmod_eq_emod_of_nonneg c;have h:=Y3 a f;unfold S8 at *;rw[b,e,eI ⟨by omega,by omega⟩]
def xor64(a b:Int):Int:=IntKind.u64.wrap ((BitVec.ofInt IntKind.u64.bits a ^^^ BitVec.ofInt IntKind.u64.bits b).toNat:Int)
def shr64(a n:Int):Int:=a.fdiv (2 ^ (min n.toNat IntKind.u64.bits))
def at0(k:Int):Int:=IntKind.u64.wrap (IntKind.u64.wrap (k+1)*11400714819323198485)
def at1(b:List Int)(k:Int):Int:=if 0<b.length then xor64 (at0 k) (IntKind.u64.wrap (b.getD (k.tmod b.length).toNat 0)) else at0 k
def at2(x:Int):Int:=IntKind.u64.wrap (xor64 x (shr64 x 31)*13787848793156543929)
def W5(a:List Int)(k:Int):Int:=IntKind.i64.wrap (shr64 (xor64 (at2 (at1 a k)) (shr64 (at2 (at1 a k)) 29)) 1)
theorem cP(b:List Int)(k:Int)(g:0<=k)(l:k<=1099511627776):FnOk prog 17 [I4 b,C8 k] (fun rs=>rs=[C8 (W5 b k)]):=by
 refine FnOk.intro Tryz.func17 F1 A0 A0 A0 A0 ?_;refine LU (t:=0) rfl (.pure _ _ _ _) fun f=>?_;refine Z2 ?_;refine B2 (LQ A0 A0) A0 (F5 ?_);refine oM [(0,B8 Int 1 C7 b),(1,B6 k),(5,I7 (.int .u64 (at1 b k)))] [] ?_ ?_
 ·refine zc 6 (fun d=>?_) fun d=>?_
  ·have c:0<b.length:=by have:=A1 d;omega
   have h:0<=k.tmod b.length:=Int.tmod_nonneg _ g;have j:k.tmod b.length<b.length:=Int.tmod_lt_of_pos _ B1;have m:b[(k.tmod b.length).toNat]?=some (b.getD (k.tmod b.length).toNat 0):=by
    rw[C38,C36 B1];rfl
   skip;refine zz 13 ?_;rw[at1,A6 c];exact C1
  ·have c:¬0<b.length:=by have:=A3 d;omega
   refine G5 ?_;rw[at1,A7 c];exact C1
 ·refine P1 ?_;refine B2 (PK A0 A0 B1) A0 (G5 ?_);refine B2 (LQ A0 A0) A0 (J0 ?_);refine B2 (PK A0 A0 B1) A0 (G5 ?_);refine B2 (PK A0 A0 B1) A0 (P1 ?_);exact A9 M1 rfl
def lineTab:List Str:=[[97],[98],[99],[97,98],[98,97],[],[97,97],[98,32,97],[120,43,121],[92]]
def bJ(k:Int):Str:=lineTab.getD (S8 k 10).toNat []
theorem QQ:∀s∈lineTab,s.length<=3:=by decide
theorem mP(k:Int):(bJ k).length<=3:=by
 unfold bJ;rw[C38];cases h:lineTab[(S8 k 10).toNat]? with
 | none=>simp
 | some s=>exact QQ s (C60 h)
theorem QR(k:Int):FnOk prog 30 [C8 k] (fun b=>b=[F6 (bJ k)]):=by
 refine FnOk.intro Tryz.func30 F1 A0 A0 A0 A0 (I2 ?_);have d:=Y3 k (n:=10) F1;have e:lineTab[(S8 k 10).toNat]?=some (bJ k):=by
  unfold bJ;rw[C38,C36 (show (S8 k 10).toNat<lineTab.length by simp[lineTab];omega)];rfl
 refine G5 ?_;refine B2 (B7 (c:=L8) (ys:=lineTab) (C0 A0 A0 A0 A0 (C0 A0 A0 A0 A0 (C0 A0 A0 A0 A0 (C0 A0 A0 A0 A0 (C0 A0 A0 A0 A0 (C0 A0 A0 A0 A0 (C0 A0 A0 A0 A0 (C0 A0 A0 A0 A0 (C0 A0 A0 A0 A0 (C0 A0 A0 A0 A0 D2)))))))))) A0 A0 A0) A0 (G5 ?_);refine E2 (gY k 10 F1 F1) (I2 ?_);exact A9 M1 rfl
theorem ids_ok(d:List (List Str))(x:d.flatten.length<=536870912)(D:d.length<=536870912):FnOk prog 101 [pStrss d] (fun I=>I=[pIntss (d.map (L0 (E0 d)))]):=by
 refine FnOk.intro Tryz.func101 F1 A0 A0 A0 A0 (I3 ?_);refine E2 (B44 d x) (P1 ?_);refine C2 (L2 4 _ intsC A0) A0 (I3 ?_);refine B9 (X:=Nat) (fun f=>([(0,B8 (List Str) 1 strsC d),(3,B8 Str 1 L8 (E0 d)),(4,.s (.one (.buf 4 (List Int) 1 intsC ((d.take f).map (L0 (E0 d)))))),(5,B6 f)],[(4,.spare ((d.take f).map (L0 (E0 d))).length 1 22)])) (fun f=>f<=d.length) (fun f=>d.length-f) 0 dV (C1) ?_;intro f C;dsimp only at C ⊢;refine R3 ?_;have E:((d.take f).map (L0 (E0 d))).length=f:=by simp;omega
 refine zc 0 (fun q=>?_) fun q=>?_
 ·have v:f<d.length:=by have:=A1 q;omega
  have H:d[f]?=some d[f]:=by simp[v]
  have A:=aZ d (f+1);rw[t8 d f v,C40]at A;refine I2 ?_;refine C2 (sY 16 (c:=C7) (ys:=[]) D2 A0 A0 A0 VH) A0 (R3 ?_);refine B9 (X:=Nat) (fun i=>([(0,B8 (List Str) 1 strsC d),(3,B8 Str 1 L8 (E0 d)),(4,.s (.one (.buf 4 (List Int) 1 intsC ((d.take f).map (L0 (E0 d)))))),(5,B6 f),(6,.s (.one (.buf 16 Int 1 C7 (L0 (E0 d) (d[f].take i))))),(7,B6 i)],[(4,.spare ((d.take f).map (L0 (E0 d))).length 1 22),(16,.spare (L0 (E0 d) (d[f].take i)).length 1 3)])) (fun i=>i<=d[f].length) (fun i=>d[f].length-i) 0 dV (C1) ?_;intro i F;dsimp only at F ⊢;have G:(L0 (E0 d) (d[f].take i)).length=i:=by simp[L0];omega
  refine zc 11 (fun q=>?_) fun q=>?_
  ·have w:i<d[f].length:=by have:=A1 q;omega
   have B:d[f][i]?=some d[f][i]:=by simp[w]
   have j:L0 (E0 d) (d[f].take (i+1))=L0 (E0 d) (d[f].take i)++[M5 (E0 d) d[f][i] 0]:=by
    unfold L0;rw[C52,B,C53,C90];rfl
   refine zz 13 ?_;refine uZ (QH _ _) A0 A0 A0 (B2 (B7 (c:=C7) (ys:=[_]) (C0 A0 A0 A0 A0 D2) A0 A0 A0) A0 (R3 ?_));refine⟨i+1,by omega,by omega,?_⟩;rw[j];exact C1
  ·have y:i=d[f].length:=by have:=A3 q;omega
   have j:(d.take (f+1)).map (L0 (E0 d))=(d.take f).map (L0 (E0 d))++[L0 (E0 d) (d[f].take i)]:=by
    rw[C52,H,C53,C90,y,C48];rfl
   refine P1 ?_;refine B2 (B7 (c:=intsC) (ys:=[_]) (C0 A0 A0 A0 A0 D2) A0 A0 A0) A0 (R3 ?_);refine⟨f+1,by omega,by omega,?_⟩;rw[j];exact C1
 ·have z:f=d.length:=by have:=A3 q;omega
  subst z;refine I3 ?_;exact A9 M1 (by rw[C48])
def p9(d:List Int)(b:Int)(c:Int)(m:Nat):Str:=((List.range m).map fun (i:Nat)=>bJ (S8 (W5 d (b+1+(i:Int))) c)++[10]).flatten
def mQ(e:List Int)(b n c:Int):Str :=
 let s:=p9 e b c (S8 (W5 e b) (n+1)).toNat
 if ((W5 e (b+90)).tmod 4=0/\(1:Int)<s.length)/\((s.getD (s.length-2) 0).toNat:Int)≠10 then s.take (s.length-1) else s
theorem gZ(c:List Int)(a b:Int)(m:Nat):p9 c a b (m+1)=p9 c a b m++bJ (S8 (W5 c (a+1+(m:Int))) b)++[10]:=by
 unfold p9;rw[D15,C90,D11];simp
theorem sD(c:List Int)(a b:Int)(m:Nat):(p9 c a b m).length<=4*m:=by
 induction m with
 | zero=>simp[p9]
 | succ m d=>have:=mP (S8 (W5 c (a+1+(m:Int))) b);rw[gZ];simp only[C40,C46,List.length_nil];omega
theorem blob_ok(e:List Int)(b n c:Int)(A:0<=b/\b<=1073741824)(B:0<=n/\n<=1048576)(C:1<=c/\c<=1048576) :
  FnOk prog 12 [I4 e,C8 b,C8 n,C8 c] (fun rs=>rs=[F6 (mQ e b n c)]):=by
 obtain⟨m,r⟩:∃m:Nat,S8 (W5 e b) (n+1)=m:=⟨(S8 (W5 e b) (n+1)).toNat,by have:=Y3 (W5 e b) (n:=n+1) B1;omega⟩
 have x:=Y3 (W5 e b) (n:=n+1) B1;have y:m<=1048576:=by omega
 refine FnOk.intro Tryz.func12 F1 A0 A0 A0 A0 (R3 ?_);refine E2 (cP e b B1 B1) (F5 ?_);refine uZ (gY _ (n+1) B1 B1) A0 A0 A0 (H3 ?_);rw[r];refine Z2 ?_;refine B9 (X:=Nat) (fun i=>([(0,B8 Int 1 C7 e),(1,B6 b),(2,B6 m),(3,B6 c),(9,P6 (p9 e b c i)),(10,B6 i)],[])) (fun i=>i<=m) (fun i=>m-i) 0 (C41 _) (C1) ?_;intro i u;dsimp only at u ⊢;have k:=sD e b c i;refine zc 7 (fun f=>?_) fun f=>?_
 ·have w:i<m:=by have:=A1 f;omega
  have v:=mP (S8 (W5 e (b+1+(i:Int))) c);refine O6 ?_;refine uZ (cP e _ B1 B1) A0 A0 A0 (G5 ?_);refine uZ (gY _ c B1 B1) A0 A0 A0 (uZ (QR _) A0 A0 A0 (B2 (fX A0 A0 B1) A0 (R3 ?_)));refine⟨i+1,by omega,by omega,?_⟩;rw[gZ];exact C1
 ·have l:i=m:=by have:=A3 f;omega
  subst l;obtain⟨s,q⟩:∃s,s=p9 e b c i:=⟨_,rfl⟩
  have z:(1:Int)<s.length->s[((s.length:Int)-2).toNat]?=some (s.getD (s.length-2) 0):=fun h=>by
   rw[show ((s.length:Int)-2).toNat=s.length-2 by omega,C38,C36 B1];rfl
  have g:mQ e b n c=if ((W5 e (b+90)).tmod 4=0/\(1:Int)<s.length)/\((s.getD (s.length-2) 0).toNat:Int)≠10 then s.take (s.length-1) else s:=by
   simp only[mQ,r,C37,<-q]
  rw[<-q]at k;refine H3 ?_;rw[<-q];refine P1 ?_;refine uZ (cP e _ B1 B1) A0 A0 A0 (V7 ?_);refine D7 A0 A0 A0 A0 (fun j=>by have p:=j;(try simp at p);rw[j];exact aM A0 A0 B1) ?_;refine D7 A0 A0 A0 A0 (fun j=>by have p:=j;(try simp at p);rw[j];exact G9 A0 A0 B1 (z B1)) ?_;refine zc 3 (fun f=>?_) fun f=>?_
  ·simp only[and_pick]at f;have h:=A1 f;skip;refine zz 14 ?_;exact A9 M1 (by rw[g,A6 h,show ((s.length:Int)-1).toNat=s.length-1 by omega])
  ·simp only[and_pick]at f;have h:=A3 f;refine I3 ?_;exact A9 M1 (by rw[g,A7 h])
theorem VL(d:List Int)(b n c:Int)(f:0<=n):((mQ d b n c).length:Int)<=4*n:=by
 have h:=Y3 (W5 d b) (n:=n+1) B1;have i:=sD d b c (S8 (W5 d b) (n+1)).toNat
 unfold mQ;simp only;split
 ·simp only[C59];omega
 ·omega
def aD(b:List Int)(a:Int)(i:Nat)(s:Str):List Str->Str
 | []=>s
 | x::r=>if (W5 b (a+(i:Int))).tmod 6=0 then aD b a (i+1) s r
  else if (W5 b (a+(i:Int))).tmod 6=1 then aD b a (i+1) (s++bJ (W5 b (a+40+(i:Int)))++[10]++x) r
  else aD b a (i+1) (s++x) r
def jZ(b:Str)(c:List Int)(a:Int):Str:=aD c a 0 [] (F8 b)
theorem mR(b:List Int)(a:Int):∀(l:List Str) (i:Nat) (s:Str),(aD b a i s l).length<=s.length+l.flatten.length+4*l.length
 | [],i,s=>by simp[aD]
 | x::r,i,s=>by
  have c:=mR b a r (i+1) s;have d:=mR b a r (i+1) (s++bJ (W5 b (a+40+(i:Int)))++[10]++x);have f:=mR b a r (i+1) (s++x);have j:=mP (W5 b (a+40+(i:Int)));simp only[C40,C46,List.length_nil,D03]at *;unfold aD;split
  ·omega
  ·split<;>omega
theorem xQ(s b:Str):(K1 b s).flatten=b++s:=by
 induction s generalizing b with
 | nil=>unfold K1;split<;>simp[*]
 | cons c r d=>unfold K1;split<;>simp[d]
theorem aX(s:Str):(F8 s).flatten=s:=xQ s []
theorem near_ok(c:Str)(d:List Int)(b:Int)(hb:c.length<=16777216)(C:0<=b/\b<=1073741824) :
  FnOk prog 13 [F6 c,I4 d,C8 b] (fun rs=>rs=[F6 (jZ c d b)]):=by
 have v:=pJ c;have u:=aX c;have q:(F8 c).flatten.length=c.length:=by rw[u]
 refine FnOk.intro Tryz.func13 F1 A0 A0 A0 A0 (I3 ?_);refine E2 (oW c B1) (H3 ?_);obtain⟨l,y⟩:∃l,l=F8 c:=⟨_,rfl⟩
 have w:jZ c d b=aD d b 0 [] l:=by rw[jZ,y]
 rw[<-y]at v q ⊢;refine Z2 ?_;refine B9 (X:=Nat×Str) (fun x=>([(1,B8 Int 1 C7 d),(2,B6 b),(7,B8 Str 1 L8 l),(8,P6 x.2),(9,B6 x.1)],[])) (fun x=>x.1<=l.length/\x.2.length<=(l.take x.1).flatten.length+4*x.1/\aD d b x.1 x.2 (l.drop x.1)=aD d b 0 [] l) (fun x=>l.length-x.1) (0,[]) dV (C1) ?_;rintro⟨i,s⟩ ⟨z,B,j⟩;dsimp only at z B j ⊢;have A:=aZ l i;refine zc 8 (fun k=>?_) fun k=>?_
 ·have o:i<l.length:=by have:=A1 k;omega
  have E:l[i]?=some l[i]:=by simp[o]
  have p:=aZ l (i+1);have m:=t8 l i o;rw[m,C40]at p;rw[C57 o,aD]at j;refine O6 ?_;refine uZ (cP d _ B1 B1) A0 A0 A0 ?_;refine zc 8 (fun k=>?_) fun k=>?_
  ·rw[A6 (A1 k)]at j;refine J0 ?_;exact⟨(i+1,s),⟨by dsimp only;omega,by dsimp only;rw[m,C40];omega,j⟩,by dsimp only;omega,C1⟩
  ·rw[A7 (A3 k)]at j;refine zc 5 (fun k=>?_) fun k=>?_
   ·rw[A6 (A1 k)]at j;have D:=mP (W5 d (b+40+(i:Int)));skip;refine I3 ?_;refine uZ (cP d _ B1 B1) A0 A0 A0 (uZ (QR _) A0 A0 A0 (B2 (fX A0 A0 B1) A0 (zz 17 ?_)));exact⟨(i+1,s++bJ (W5 d (b+40+(i:Int)))++[10]++l[i]),⟨by dsimp only;omega,by dsimp only;rw[m];simp only[C40,C46,List.length_nil];omega,j⟩,by dsimp only;omega,C1⟩
   ·rw[A7 (A3 k)]at j;refine I3 ?_;refine B2 (fX A0 A0 B1) A0 (I3 ?_);exact⟨(i+1,s++l[i]),⟨by dsimp only;omega,by dsimp only;rw[m,C40,C40];omega,j⟩,by dsimp only;omega,C1⟩
 ·have r:i=l.length:=by have:=A3 k;omega
  rw[r,C64 (C45 _)]at j;refine I3 ?_;exact A9 M1 (by rw[w,<-j];rfl)
theorem JE(s:Str):(ByteArray.mk s.toArray).size=s.length:=by simp[ByteArray.size]
theorem MM(s p:Str)(b:s.length<=1099511627776):FnOk prog 171 [F6 s,F6 p] (fun a=>a=[E1 (Lib.hasSuffix s p)]) :=
 C09 (xs:=[.string ⟨s.toArray⟩,.string ⟨p.toArray⟩]) ⟨_,rfl,rfl,rfl⟩ rfl fun w=>by simpa using Tryz.strings_HasSuffix ⟨s.toArray⟩ ⟨p.toArray⟩ w (by rw[JE];omega)
theorem HN(s p:Str)(b:s.length<=1099511627776):FnOk prog 89 [F6 s,F6 p] (fun a=>a=[F6 (Lib.trimSuffix s p)]) :=
 C09 (xs:=[.string ⟨s.toArray⟩,.string ⟨p.toArray⟩]) ⟨_,rfl,rfl,rfl⟩ rfl fun w=>by simpa using Tryz.strings_TrimSuffix ⟨s.toArray⟩ ⟨p.toArray⟩ w (by rw[JE];omega)
theorem MN(s:Str)(c:UInt8):FnOk prog 193 [F6 s,.one (.v (.int .u8 c.toNat))] (fun a=>a=[C8 (Lib.indexByte s c)]) :=
 C09 (xs:=[.string ⟨s.toArray⟩,.int .u8 c.toNat]) ⟨_,rfl,rfl,rfl⟩ rfl fun w=>by simpa using Tryz.strings_IndexByte ⟨s.toArray⟩ c.toNat w
theorem A60(s:Str)(a:s.length<=1099511627776):FnOk prog 122 [F6 s] (fun b=>b=[E1 (ended s)]):=by
 refine FnOk.intro Tryz.func122 F1 A0 A0 A0 A0 (I3 ?_);refine E2 (MM s [10] a) (F5 ?_);rw[wF];refine G5 ?_;exact A9 M1 rfl
theorem B47(s:Str)(a:s.length<=1099511627776):FnOk prog 46 [F6 s] (fun rs=>rs=[F6 (Y4 s)]):=by
 refine FnOk.intro Tryz.func46 F1 A0 A0 A0 A0 (I3 ?_);refine E2 (HN s [10] a) (F5 ?_);rw[II];refine G5 ?_;exact A9 M1 rfl
open Go.RowKit
theorem JF(s:Str)(c:UInt8):FnOk prog 121 [F6 s,F6 [c]] (fun a=>a=[C8 (s.count c)]) :=
 C09 (xs:=[.string ⟨s.toArray⟩,.string ⟨#[c]⟩]) ⟨_,rfl,rfl,rfl⟩ rfl fun w=>by simpa[Lib.countByte] using Tryz.strings_Count_one ⟨s.toArray⟩ c w
theorem A61(s:Str)(c:UInt8):FnOk prog 170 [F6 s,F6 [c]] (fun a=>a=[C8 (Lib.indexByte s c)]) :=
 C09 (xs:=[.string ⟨s.toArray⟩,.string ⟨#[c]⟩]) ⟨_,rfl,rfl,rfl⟩ rfl fun w=>by simpa using Tryz.strings_Index_one ⟨s.toArray⟩ c w
abbrev vD(l:List Str):Ob:=.grow 9 Str 1 L8 l
theorem PF{p:Prop}(h:p:=by (simp;omega)):p:=h
theorem MO(s:Str)(M:s.length<=536870912):AL.Met prog 123 [(F6 s).s1,(F6 [10]).s1,(C8 1).s1,(C8 (-1)).s1] [] [] [] (fun J ob'=>J=[.one (.mut 9)]/\ob'=[(9,vD (X1 s))]):=by
 have E:=y3 s [];have K:s.count 10<=s.length:=List.count_le_length;have v:([10]:Str).length=1:=rfl;obtain⟨P,k⟩:∃P,P=X1 s:=⟨_,rfl⟩
 have F:P.length=s.count 10+1:=by rw[k];exact E
 refine AL.Met.intro Tryz.func123 F1 A0 A0 A0 ?_;refine zc 10 (fun c=>?_) fun c=>?_
 ·exact absurd (A1 c) B1
 refine zc 7 (fun c=>?_) fun c=>?_
 ·exact absurd (A1 c) dV
 refine zc 7 (fun c=>?_) fun c=>?_;rotate_left
 ·exact absurd (A3 c) B1
 skip;refine H3 ?_;refine E2 (JF s 10) (zz 13 ?_);rw[show (if (s.length:Int)+1<(s.count 10:Int)+1 then (s.length:Int)+1 else (s.count 10:Int)+1)=(P.length:Int) from by split<;>omega];refine F5 ?_;refine C2 (f_makeG 9 Str L8 [] A0 A0 B1 B1 (fun _=>PE) VH) A0 (zz 14 ?_);refine B9 (X:=Nat×Str) (fun x=>([(0,P6 x.2),(1,P6 [10]),(2,B6 1),(3,B6 ((P.length:Int)-1)),(9,.s (.one (.mut 9))),(10,B6 x.1)],[(9,vD (P.take x.1++List.replicate (P.length-x.1) []))])) (fun x=>x.1+1<=P.length/\P.drop x.1=X1 x.2/\x.2.length<=s.length) (fun x=>P.length-x.1) (0,s) ⟨by dsimp only;omega,k,C45 _⟩ (C1) ?_;rintro⟨i,r⟩ ⟨G,q,I⟩;dsimp only at G q I ⊢;refine zc 7 (fun c=>?_) fun c=>?_
 ·have H:i+1<P.length:=by have:=A1 c;omega
  have A:(10:UInt8)∈r:=by
   have d:=y3 r [];have f:(P.drop i).length=r.count 10+1:=by rw[q];exact d
   rw[C61]at f;exact List.count_pos_iff.1 B1
  rcases bA 10 r with ⟨d,_⟩ | ⟨a,b,d,f,w⟩
  ·exact absurd A d
  obtain⟨y,D⟩:=YM q d f;have L:r.length=a.length+1+b.length:=by rw[d];simp;omega
  refine J0 ?_;refine E2 (A61 r 10) (R3 ?_);rw[w];refine zc 0 (fun c=>?_) fun c=>?_
  ·exact absurd (A1 c) B1
  refine F5 ?_;have p:(P.take i++List.replicate (P.length-i) ([]:Str))[((i:Nat):Int).toNat]?=some []:=by
   rw[C37,C76 b5y,List.getElem?_replicate,A6 b5y]
  refine R3 ?_;refine B2 (K9 A0 A0 A0 B1 PF) A0 (U0 (dH ((r.take ((a.length:Int)+1).toNat)) TySz.out A0 A0 p A0 A0 A0 A0 (fun _ _ _ h=>cL h) (by intro j d f;rcases j with _ | _ | _ | _ | _ | _ | _ | j<;>first | rfl | omega)) ?_);refine R3 ?_;refine B2 (mC A0 A0 B1 B1) A0 (I3 ?_);have B:r.take (((a.length:Int)+1).toNat)=a++[10]:=by rw[d,show ((a.length:Int)+1).toNat=a.length+1 by omega,show a++10::b=(a++[10])++b by simp,List.take_left' dV]
  have C:r.drop (((a.length:Int)+(([10]:Str).length:Int)).toNat)=b:=by rw[d,v,show ((a.length:Int)+((1:Nat):Int)).toNat=a.length+1 by omega,show a++10::b=(a++[10])++b by simp,List.drop_left' dV]
  refine⟨(i+1,b),⟨by dsimp only;omega,D,by dsimp only;omega⟩,by dsimp only;omega,?_⟩;rw[B,C];dsimp only;rw[<-KQ P [] _ i y];exact C1
 ·have z:i+1=P.length:=by have:=A3 c;omega
  have d:=y3 r [];have f:(P.drop i).length=r.count 10+1:=by rw[q];exact d
  rw[C61]at f;have w:(10:UInt8)∉r:=List.count_eq_zero.1 B1;have y:P[i]?=some r:=by rw[<-List.head?_drop,q];unfold X1;rw[IJ _ _ w];rfl
  refine F5 ?_;have p:(P.take i++List.replicate (P.length-i) ([]:Str))[((i:Nat):Int).toNat]?=some []:=by
   rw[C37,C76 b5y,List.getElem?_replicate,A6 b5y]
  refine P1 ?_;refine B2 (K9 A0 A0 A0 B1 PF) A0 (U0 (dH (r) TySz.out A0 A0 p A0 A0 A0 A0 (fun _ _ _ h=>cL h) (by intro j d f;rcases j with _ | _ | _ | _ | _ | _ | _ | j<;>first | rfl | omega)) ?_);refine F5 ?_;have e:(P.take i++List.replicate (P.length-i) ([]:Str)).set (i:Int).toNat r=P:=by rw[C37,KQ P [] r i y,z];simp
  rw[e];refine R3 ?_;rw[show ((i:Int)+1).toNat=P.length by omega,C48,k];exact D1 V9 iV (ObIn.spec (ob':=[(9,_)]) ⟨rfl,trivial⟩) ⟨rfl,rfl⟩
theorem DH(s:Str)(a:s.length<=536870912):AL.Met prog 81 [(F6 s).s1,(F6 [10]).s1] [] [] [] (fun b ob'=>b=[.one (.mut 9)]/\ob'=[(9,vD (X1 s))]):=by
 refine AL.Met.intro Tryz.func81 F1 A0 A0 A0 (O6 ?_);refine fS (MO s a) A0 A0 A0 A0 ?_;rintro _ _ ⟨rfl,rfl⟩;refine⟨rfl,?_⟩;refine F5 ?_;refine G5 ?_;exact D1 V9 iV (ObIn.spec (ob':=[(9,_)]) ⟨rfl,trivial⟩) ⟨rfl,rfl⟩
theorem JG(s:Str)(m:s.length<=536870912):FnOk prog 80 [F6 s] (fun j=>j=[C8 (I6 s)]):=by
 have c:=kK s;have k:s.count 10<=s.length:=List.count_le_length;refine FnOk.intro Tryz.func80 F1 A0 A0 A0 A0 (I3 ?_);refine E2 (JF s 10) (F5 ?_);refine oM [(0,P6 s),(3,B6 (F8 s).length)] [] ?_ ?_
 ·refine J0 ?_;refine D7 A0 A0 A0 A0 (fun d=>by have i:=d;(try simp at i);rw[d];exact I5 (A60 s B1) A0 A0) ?_;refine zc 3 (fun a=>?_) fun a=>?_
  ·have h:s≠[]/\ended s=false:=by
    by_cases b:s=[]
    ·simp[b]at a
    ·refine⟨b,?_⟩;simpa[b] using a
   rw[A6 h]at c;skip;refine I2 ?_;rw[c,Int.natCast_add];exact C1
  ·have h:¬(s≠[]/\ended s=false):=by
    rintro⟨b,f⟩;simp[b,f]at a
   rw[A7 h]at c;refine G5 ?_;rw[c];exact C1
 ·refine zc 11 (fun a=>?_) fun a=>?_
  ·have h:=A1 (or_pick.symm.trans a);refine I2 ?_;exact A9 M1 (by rw[I6,A6 B1])
  ·have h:=A3 (or_pick.symm.trans a);refine J0 ?_;exact A9 M1 (by rw[I6,A7 B1])
theorem b0z{p:Prop}(h:p:=by exact rets2 rfl rfl rfl):p:=h
theorem VM(s:Str)(q:s.length<=536870912):AL.Met prog 41 [(F6 s).s1] [] [] [] (fun x ob'=>x=[.one (.mut 9),(C8 (T6 s).2).s1]/\ob'=[(9,vD (T6 s).1)]):=by
 have k:F8 s=if (X1 s).getLastD []=[] then (X1 s).dropLast else X1 s:=TJ s []
 have f:(X1 s).length=s.count 10+1:=y3 s [];have v:s.count 10<=s.length:=List.count_le_length;refine AL.Met.intro Tryz.func41 F1 A0 A0 A0 (Z2 ?_);refine E2 (JG s q) ?_;refine zc 7 (fun c=>?_) fun c=>?_
 ·have h:I6 s≠0:=by simpa using c
  have b:s.length>1048576\/(F8 s).length>4096:=by
   by_cases b:s.length>1048576\/(F8 s).length>4096
   ·exact b
   ·exact absurd (by rw[I6,A7 b]) h
  refine H3 ?_;refine C2 (CD 9 _ L8 A0) A0 (H3 ?_);refine D1 b0z iV (ObIn.spec (ob':=[(9,_)]) ⟨rfl,trivial⟩) ?_;rw[T6,A6 b,I6,A6 b];exact⟨rfl,rfl⟩
 ·have h:I6 s=0:=by simpa using c
  have b:¬(s.length>1048576\/(F8 s).length>4096):=fun b=>by rw[I6,A6 b]at h;omega
  have w:(X1 s)[(X1 s).length-1]?=some ((X1 s).getLastD []):=by
   rw[<-List.getLast?_eq_getElem?,List.getLast?_eq_some_getLast (fun e=>by rw[e]at f;simp at f)];rw[List.getLastD_eq_getLast?,List.getLast?_eq_some_getLast (fun e=>by rw[e]at f;simp at f)];rfl
  have j:(((X1 s).length:Int)-1).toNat=(X1 s).length-1:=by omega
  refine P1 ?_;refine fS (DH s q) A0 A0 A0 A0 ?_;rintro _ _ ⟨rfl,rfl⟩;refine⟨rfl,?_⟩;refine F5 ?_;refine uI ?_;refine oM [(5,.s (.one (.mut 9)))] [(9,vD (F8 s))] ?_ ?_
  ·refine I3 ?_;refine B2 (eQ A0 A0 (by rw[j];exact w) A0) A0 ?_;refine zc 2 (fun c=>?_) fun c=>?_
   ·have i:=A1 c;skip;refine R3 ?_;rw[k,A6 i,List.dropLast_eq_take,<-j];exact C1
   ·have i:=A3 c;refine G5 ?_;rw[k,A7 i];exact C1
  ·refine I3 ?_;refine D1 b0z iV (ObIn.spec (ob':=[(9,_)]) ⟨rfl,trivial⟩) ?_;rw[T6,A7 b];exact⟨rfl,rfl⟩
theorem JH(s:Str)(b:s.length<=536870912):FnOk prog 41 [F6 s] (fun rs=>rs=[cG (T6 s).1,C8 (T6 s).2]) :=
 FnOk.ofMet (VM s b) fun rs ob' a=>by
  obtain⟨rfl,rfl⟩:=a;exact⟨9,Str,1,L8,(T6 s).1,_,[cG (T6 s).1,C8 (T6 s).2],rfl,rfl,rfl,rfl⟩
theorem JI(s:Str)(d:s.length<=536870912):FnOk prog 58 [F6 s] (fun c=>c=[cG (T6 s).1,C8 (T6 s).2]):=by
 refine FnOk.intro Tryz.func58 F1 A0 A0 A0 A0 (Z2 ?_);refine E2 (QG s B1) ?_;refine zc 2 (fun b=>?_) fun b=>?_
 ·have h:I6 s≠0:=by simpa using b
  have a:s.length>1048576\/(F8 s).length>4096:=by
   by_cases a:s.length>1048576\/(F8 s).length>4096
   ·exact a
   ·exact absurd (by rw[I6,A7 a]) h
  refine F5 ?_;refine B2 (E3 _ 1 L8) A0 (H3 ?_);exact A9 cN (by rw[T6,A6 a])
 ·have h:I6 s=0:=by simpa using b
  have a:¬(s.length>1048576\/(F8 s).length>4096):=fun a=>by rw[I6,A6 a]at h;omega
  refine P1 ?_;refine E2 (oW s B1) (P1 ?_);exact A9 cN (by rw[T6,A7 a])
end Go.Proofs.YtabbdaafimcjhaaGreatDoor
