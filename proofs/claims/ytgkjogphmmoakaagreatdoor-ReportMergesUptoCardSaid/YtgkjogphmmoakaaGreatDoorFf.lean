
/- Walks of the program's functions. -/
import Derived.Test.YtgkjogphmmoakaaGreatDoorFe
set_option linter.all false
namespace Go.Proofs.YtgkjogphmmoakaaGreatDoor
open Go Go.AL
set_option maxRecDepth 100000
set_option maxHeartbeats 4000000
theorem A34{s:Str}{l:List Str}(h:cE s=some l):(l.map fun t=>t.length+65).sum<=66*s.length/\∀t∈l,t.length<=s.length:=by
 unfold cE at h;split at h
 ·cases h;simp
 ·split at h
  ·have h:(B6 s).map List.dropLast=l:=Option.some.inj h;obtain⟨k,o⟩:=rA s;have q:=aW s;have b:∀L:List Str,((L.map List.dropLast).map fun t=>t.length+65).sum<=L.flatten.length+65*L.length:=by
    intro L;induction L with
    | nil=>simp
    | cons x r j =>
     simp only[C39,C67,C56,C32,C34,List.length_dropLast]at j ⊢;omega
   have hs:=b (B6 s);rw[h]at hs;have d:(l.map fun (t:Str)=>t.length+65).sum<=(B6 s).flatten.length+65*(B6 s).length:=hs;refine⟨by omega,fun t c=>?_⟩;rw[<-h]at c;obtain⟨x,i,rfl⟩:=C54.1 c;have:=(List.sublist_flatten_of_mem i).length_le;rw[List.length_dropLast];omega
  ·cases h
theorem PQ{c:UInt8}{P:List Str}{i:Nat}{r a b:Str}(h:P.drop i=O7 c r)(d:r=a++c::b)(ha:c∉a):P[i]?=some a/\P.drop (i+1)=O7 c b:=by
 have e:O7 c r=a::O7 c b:=by rw[d,rM b ha]
 rw[e]at h;refine⟨by rw[<-List.head?_drop,h];rfl,?_⟩;rw[<-List.tail_drop,h];rfl
theorem LR(s:Str)(c:UInt8)(hs:s.length<=536870912):FnOk Tryz.prog 154 [E5 s,E5 [c],D2 0,D2 (-1)] (fun L=>L=[Z7 (O7 c s)]):=by
 have F:=bH c s;have H:s.count c<=s.length:=List.count_le_length;have w:([c]:Str).length=1:=rfl;obtain⟨P,j⟩:∃P,P=O7 c s:=⟨_,rfl⟩
 have G:P.length=s.count c+1:=by rw[j];exact F
 refine FnOk.intro Tryz.func154 G6 Z Z Z Z ?_;refine zc 10 (fun d=>?_) fun d=>?_
 ·exact absurd (A0 d) B1
 refine zc 7 (fun d=>?_) fun d=>?_
 ·exact absurd (A0 d) s6
 refine zc 7 (fun d=>?_) fun d=>?_;rotate_left
 ·exact absurd (A1 d) B1
 skip;refine zz 3 ?_;refine D3 (nU s c) (zz 13 ?_);rw[show (if (s.length:Int)+1<(s.count c:Int)+1 then (s.length:Int)+1 else (s.count c:Int)+1)=(P.length:Int) from by split<;>omega];refine zz 2 ?_;refine B8 (j5 9 Str L2 [] Z Z B1 B1 (fun _=>by first | exact⟨⟨rfl,rfl⟩,trivial⟩ | exact⟨F0 _ _ _,trivial⟩ | exact⟨F0 _ _ _,⟨rfl,rfl⟩,F0 _ _ _,trivial⟩ | exact⟨⟨rfl,rfl⟩,⟨rfl,rfl⟩,trivial⟩) YR) Z ?_;refine zz 14 ?_;refine C5 (X:=Nat×Str) (fun x=>([(0,H6 x.2),(1,H6 [c]),(2,B2 0),(3,B2 ((P.length:Int)-1)),(9,.s (.one (.mut 9))),(10,B2 x.1)],[(9,.arr Str 1 L2 (P.take x.1++List.replicate (P.length-x.1) []))])) (fun x=>x.1+1<=P.length/\P.drop x.1=O7 c x.2/\x.2.length<=s.length) (fun x=>P.length-x.1) (0,s) ⟨by dsimp only;omega,j,Nat.le_refl _⟩ (Sees.of lf lo) ?_;rintro⟨i,r⟩ ⟨I,v,K⟩;dsimp only at I v K ⊢;refine zc 7 (fun d=>?_) fun d=>?_
 ·have J:i+1<P.length:=by have:=A0 d;omega
  have B:c∈r:=by
   have f:=bH c r;have q:(P.drop i).length=r.count c+1:=by rw[v];exact f
   rw[C45]at q;exact List.count_pos_iff.1 B1
  rcases V7 c r with ⟨f,_⟩ | ⟨a,b,f,q,y⟩
  ·exact absurd B f
  obtain⟨z,E⟩:=PQ v f q;have M:r.length=a.length+1+b.length:=by rw[f];simp;omega
  refine zz 6 ?_;refine D3 (vG r c) (zz 8 ?_);rw[y];refine zc 0 (fun d=>?_) fun d=>?_
  ·exact absurd (A0 d) B1
  refine zz 28 ?_;have C:r.take (((a.length:Int)+0).toNat)=a:=by rw[f,show ((a.length:Int)+0).toNat=a.length by omega,List.take_left]
  have D:r.drop (((a.length:Int)+(([c]:Str).length:Int)).toNat)=b:=by rw[f,w,show ((a.length:Int)+((1:Nat):Int)).toNat=a.length+1 by omega,show a++c::b=(a++[c])++b by simp,List.drop_left' s6]
  refine⟨(i+1,b),⟨by dsimp only;omega,E,by dsimp only;omega⟩,by dsimp only;omega,?_⟩;rw[C,D];dsimp only;rw[<-eN P [] _ i z];exact Sees.of lf lo
 ·have A:i+1=P.length:=by have:=A1 d;omega
  have f:=bH c r;have q:(P.drop i).length=r.count c+1:=by rw[v];exact f
  rw[C45]at q;have y:c∉r:=List.count_eq_zero.1 B1;have z:P[i]?=some r:=by rw[<-List.head?_drop,v,nF y];rfl
  refine zz 10 ?_;have e:(P.take i++List.replicate (P.length-i) ([]:Str)).set (i:Int).toNat r=P:=by rw[C31,eN P [] r i z,A];simp
  rw[e];refine E2 (Sees.freeze (k:=9) Z) (zz 4 ?_);refine A7 (nN Z (.pure _ _ _ _) Z B1 B1) Z (zz 3 ?_);exact A8 (F7 rfl rfl rfl) (by rw[show ((i:Int)+1).toNat=P.length by omega,C44,j])
theorem A35(s:Str)(c:UInt8)(hs:s.length<=536870912):FnOk Tryz.prog 84 [E5 s,E5 [c]] (fun a=>a=[Z7 (O7 c s)]):=by
 refine FnOk.intro Tryz.func84 G6 Z Z Z Z (zz 8 ?_);refine D3 (LR s c hs) (zz 3 ?_);exact A8 (F7 rfl rfl rfl) rfl
theorem BS(s p:Str)(hs:s.length<=1073741824):FnOk Tryz.prog 231 [E5 s,E5 p] (fun rs=>rs=[D5 (U9 s p)]):=by
 refine FnOk.intro Tryz.func231 G6 Z Z Z Z (zz 17 ?_);refine C3 Z Z Z Z (fun b=>by have c:=b;(try simp at c);rw[b];exact lI Z Z B1) ?_;refine C3 Z Z Z Z (fun b=>by have c:=b;(try simp at c);rw[b];exact KD Z Z B1 B1) ?_;refine zz 5 ?_;simp only[and_pick];refine zz 1 ?_;refine A8 (F7 Z Z Z) ?_;unfold U9
 congr 4
 congr 1
 apply propext;constructor
 ·intro h;have d:p.length<=s.length:=by have:=h.1;omega
  exact⟨by omega,by have:=h.2;rw[show s.length-p.length=((s.length:Int)-(p.length:Int)).toNat by omega];exact this⟩
 ·intro h;exact⟨by have:=h.1;omega,by have:=h.2;rw[show s.length-p.length=((s.length:Int)-(p.length:Int)).toNat by have:=h.1;omega]at this;exact this⟩
def HP(s p:Str):List PV:=if U9 s p=true then [E5 (s.take (s.length-p.length)),D5 true] else [E5 s,D5 false]
theorem BT(s p:Str)(hs:s.length<=1073741824):FnOk Tryz.prog 153 [E5 s,E5 p] (fun rs=>rs=HP s p):=by
 refine FnOk.intro Tryz.func153 G6 Z Z Z Z (zz 10 ?_);refine D3 (BS s p hs) ?_;refine zc 2 (fun b=>?_) fun b=>?_
 ·have h:U9 s p=false:=by cases h:U9 s p<;>rw[h]at b<;>simp at b ⊢
  refine zz 7 ?_;exact A8 (rs:=[E5 s,D5 false]) (S8 rfl rfl rfl rfl rfl) (by unfold HP;rw[h];rfl)
 ·have h:U9 s p=true:=by cases h:U9 s p<;>rw[h]at b<;>simp at b ⊢
  have c:p.length<=s.length:=by unfold U9 at h;exact (A0 h).1
  refine zz 14 ?_;refine A8 (rs:=[E5 (s.take (s.length-p.length)),D5 true]) (S8 rfl rfl (by rw[show ((s.length:Int)-(p.length:Int)).toNat=s.length-p.length by omega];rfl) rfl rfl) (by unfold HP;rw[A5 h])
theorem FT(s p:Str)(hs:s.length<=1073741824):FnOk Tryz.prog 83 [E5 s,E5 p] (fun b=>b=HP s p):=by
 have a:=BT s p hs;unfold HP at a ⊢;by_cases h:U9 s p=true
 ·rw[A5 h]at a ⊢;refine FnOk.intro Tryz.func83 G6 Z Z Z Z (zz 9 ?_);refine D3 (a) (zz 6 ?_);exact A8 (S8 rfl rfl rfl rfl rfl) rfl
 ·rw[A6 h]at a ⊢;refine FnOk.intro Tryz.func83 G6 Z Z Z Z (zz 9 ?_);refine D3 (a) (zz 6 ?_);exact A8 (S8 rfl rfl rfl rfl rfl) rfl
theorem xH(c:UInt8):∀n:Nat,Lib.repeatL [c] n=List.replicate n c
 | 0=>rfl
 | n+1=>by rw[Lib.repeatL,xH c n];rfl
theorem HQ(c:UInt8)(n:Nat)(f:n<=1048576):FnOk Tryz.prog 93 [E5 [c],D2 n] (fun b=>b=[E5 (List.replicate n c)]) :=
 C03 (xs:=[.string ⟨#[c]⟩,.int .i64 n]) (r:=.string ⟨(List.replicate n c).toArray⟩) ⟨_,rfl,rfl,rfl⟩ rfl fun w _=>by
  have:=Tryz.strings_Repeat ⟨#[c]⟩ n w B1 (by show 1*n<=_;omega);have e:Lib.repeatL (⟨#[c]⟩:ByteArray).data.toList n=List.replicate n c:=xH c n;rw[e]at this;exact this
abbrev PR(c:Comb):Ob:=.box (N5 c).s1.cells
theorem mH(d:List Row)(n:Nat)(P:n<=32)(M:K1 d)(O:d.length<=268435456) :
  AL.Met Tryz.prog 92 [(pRows d).s1,(D2 n).s1] [] [] [] (fun rs ob'=>rs=[.one (.mut 720)]/\ob'=[(720,.arr Int 1 E3 (F8 d n))]):=by
 have I:((n:Int)+1).toNat=n+1:=by omega
 refine AL.Met.intro Tryz.func92 G6 Z Z Z (zz 8 ?_);refine B8 (j5 720 Int E3 0 Z Z B1 B1 (fun _=>by first | exact⟨⟨rfl,rfl⟩,trivial⟩ | exact⟨F0 _ _ _,trivial⟩ | exact⟨F0 _ _ _,⟨rfl,rfl⟩,F0 _ _ _,trivial⟩ | exact⟨⟨rfl,rfl⟩,⟨rfl,rfl⟩,trivial⟩) YR) Z ?_;refine zz 2 ?_;rw[I,<-XC d n];refine zz 8 ?_;refine C5 (X:=Nat) (fun i=>([(1,B2 n),(5,.s (.one (.mut 720))),(12,C0 Row 3 rowC d),(13,B2 d.length),(14,B2 i)],[(720,.arr Int 1 E3 (bQ d n i 0))])) (fun i=>i<=d.length) (fun i=>d.length-i) 0 (Nat.zero_le _) (Sees.of lf lo) ?_;intro i K;dsimp only at K ⊢;refine zc 5 (fun w=>?_) fun w=>?_
 ·have A:i<d.length:=by have:=A0 w;omega
  have H:d[i]?=some d[i]:=by simp[A]
  have z:=M _ (C35 A);have v:=fun p=>XD d n i p A;obtain⟨r,E⟩:∃r,r=d[i]:=⟨_,rfl⟩
  rw[<-E]at H z v;have B:=fun k=>DQ (d.take i) n k;have F:(d.take i).length=i:=by rw[C41];omega
  rw[F]at B;refine zz 5 ?_;refine A7 (A9 Z (.pure _ _ _ _) Z B1 H) Z (zz 1 ?_);refine B8 (E6 7 Z) Z (zz 9 ?_);refine C5 (X:=Nat) (fun p=>([(1,B2 n),(5,.s (.one (.mut 720))),(7,.s (.one (.ref 7 0))),(12,C0 Row 3 rowC d),(13,B2 d.length),(14,B2 i),(18,B2 n),(19,B2 p)],[(7,.box (pRow r).s1.cells),(720,.arr Int 1 E3 (bQ d n i p))])) (fun p=>p<=n) (fun p=>n-p) 0 (Nat.zero_le _) (Sees.of lf lo) ?_;intro p L;dsimp only at L ⊢;have q:=A87 d n i p;have y:=A88 d n i p B1;have J:=B p;refine zc 5 (fun w=>?_) fun w=>?_
  ·have G:p<n:=by have:=A0 w;omega
   have j:=v p B1;rw[show dQ n p=(p:Int) by unfold dQ;rw[A6 B1]]at j;refine zz 12 ?_;refine D3 (OW r p z) ?_;refine zc 1 (fun w=>?_) fun w=>?_
   ·rw[A5 w]at j;skip;refine zz 3 ?_;refine A7 (E0 Z Z Z B1 (by (rw[q];omega))) Z ?_;refine A7 (M9 Z Z y Z) Z (zz 1 ?_);refine A7 (E0 Z Z Z B1 (by (rw[q];omega))) Z ?_;refine O2 (I1 TySz.out Z Z (by (rw[q];omega)) Z Z) ?_;refine zz 5 ?_;refine⟨p+1,by omega,by omega,?_⟩;rw[j];exact Sees.of lf lo
   ·rw[A6 (by rw[w];decide)]at j;refine zz 5 ?_;refine⟨p+1,by omega,by omega,?_⟩;rw[j];exact Sees.of lf lo
  ·have hpn:p=n:=by have:=A1 w;omega
   subst hpn;have j:=v p B1;have C:y3 r (dQ p p)=!r.Lost:=by unfold dQ y3;rw[A5 rfl,A5 rfl]
   rw[C,XE]at j;refine zc 7 (fun w=>?_) fun w=>?_
   ·rw[A5 w]at j;skip;refine zz 3 ?_;refine A7 (E0 Z Z Z B1 (by (rw[q];omega))) Z ?_;refine A7 (M9 Z Z y Z) Z (zz 1 ?_);refine A7 (E0 Z Z Z B1 (by (rw[q];omega))) Z ?_;refine O2 (I1 TySz.out Z Z (by (rw[q];omega)) Z Z) ?_;refine zz 5 ?_;refine⟨i+1,by omega,by omega,?_⟩;rw[j];exact Sees.of lf lo
   ·rw[A6 (by rw[w];decide)]at j;refine zz 5 ?_;refine⟨i+1,by omega,by omega,?_⟩;rw[j];exact Sees.of lf lo
 ·have D:i=d.length:=by have:=A1 w;omega
  subst D;rw[XF];refine zz 7 ?_;exact F1 (O3 rfl rfl) cQ (ObIn.spec (ob':=[(720,_)]) ⟨rfl,trivial⟩) ⟨rfl,rfl⟩
theorem VL(c:Comb)(D:1<=c.Parents/\c.Parents<=32)(E:∀h∈c.Hunks,K1 h.Rows)(K:eO c.Hunks<=268435456):FnOk Tryz.prog 88 [N5 c] (fun J=>J=[D5 (cG c.Parents.toNat c.Hunks)]):=by
 obtain⟨n,w⟩:∃n,n=c.Parents.toNat:=⟨_,rfl⟩
 rw[<-w];have I:=kT c.Hunks;refine FnOk.intro Tryz.func88 G6 Z Z Z Z (zz 2 ?_);refine B8 (P3 1 Z Z Z) Z (zz 11 ?_);refine C5 (X:=Nat) (fun k=>([(1,.s (.one (.ref 1 0))),(8,C0 CHunk 2 M3 c.Hunks),(9,B2 c.Hunks.length),(10,B2 k)],[(1,PR c)])) (fun k=>k<=c.Hunks.length/\cG n c.Hunks=cG n (c.Hunks.drop k)) (fun k=>c.Hunks.length-k) 0 ⟨Nat.zero_le _,rfl⟩ (Sees.of lf lo) ?_;rintro k ⟨C,b⟩;dsimp only at C b ⊢;refine zc 5 (fun g=>?_) fun g=>?_
 ·have i:k<c.Hunks.length:=by have:=A0 g;omega
  have z:c.Hunks[k]?=some c.Hunks[k]:=by simp[i]
  have l:=E _ (C35 i);have q:=uG (C35 i);rw[C38 i]at b;obtain⟨h,F⟩:∃x,x=c.Hunks[k]:=⟨_,rfl⟩
  rw[<-F]at z l b q;have H:=cH h.Rows;unfold uF at q;have b:cG n c.Hunks=(R0 h.Rows n&&cG n (c.Hunks.drop (k+1))):=b;refine zz 5 ?_;refine A7 (A9 Z (.pure _ _ _ _) Z B1 z) Z (zz 1 ?_);refine B8 (E6 4 Z) Z (zz 10 ?_);refine C5 (X:=Nat) (fun j=>([(1,.s (.one (.ref 1 0))),(8,C0 CHunk 2 M3 c.Hunks),(9,B2 c.Hunks.length),(10,B2 k),(15,C0 Row 3 rowC h.Rows),(16,B2 h.Rows.length),(17,B2 j)],[(1,PR c)])) (fun j=>j<=h.Rows.length/\R0 h.Rows n=R0 (h.Rows.drop j) n) (fun j=>h.Rows.length-j) 0 ⟨Nat.zero_le _,rfl⟩ (Sees.of lf lo) ?_;rintro j ⟨B,d⟩;dsimp only at B d ⊢;refine zc 5 (fun g=>?_) fun g=>?_
  ·have a:j<h.Rows.length:=by have:=A0 g;omega
   have m:h.Rows[j]?=some h.Rows[j]:=by simp[a]
   have y:=l _ (C35 a);rw[C38 a,jU]at d;obtain⟨r,G⟩:∃x,x=h.Rows[j]:=⟨_,rfl⟩
   rw[<-G]at m y d;have A:=BF r c.Parents D y;rw[<-w]at A;refine zz 5 ?_;refine A7 (A9 Z (.pure _ _ _ _) Z B1 m) Z (zz 1 ?_);refine B8 (E6 6 Z) Z (zz 7 ?_);refine D3 (A) ?_;refine zc 2 (fun g=>?_) fun g=>?_
   ·have t:U6 n r=false:=by simpa using g
    rw[t,Bool.false_and]at d;rw[d,Bool.false_and]at b;refine zz 5 ?_;exact A8 (F7 rfl rfl rfl) (by rw[b])
   ·have t:U6 n r=true:=by simpa using g
    rw[t,Bool.true_and]at d;refine zz 5 ?_;exact⟨j+1,⟨by omega,d⟩,by omega,Sees.of lf lo⟩
  ·have v:j=h.Rows.length:=by have:=A1 g;omega
   rw[v,C51 (Nat.le_refl _)]at d;have d:R0 h.Rows n=true:=d;rw[d,Bool.true_and]at b;refine zz 5 ?_;exact⟨k+1,⟨by omega,b⟩,by omega,Sees.of lf lo⟩
 ·have hkl:k=c.Hunks.length:=by have:=A1 g;omega
  rw[hkl,C51 (Nat.le_refl _)]at b;refine zz 6 ?_;exact A8 (F7 rfl rfl rfl) (by rw[b];rfl)
theorem PS(h:CHunk)(n:Nat)(d:List Int)(V:n<=32)(W:K1 h.Rows)(U:h.Rows.length<=268435456)(Y:d.length=n+1)(I:∀e∈d,0<=e) :
  FnOk Tryz.prog 162 [NC h,D2 n,L0 d] (fun rs=>rs=if p8 n d h=true then [L0 (X9 n h),D5 true] else [L0 [],D5 false]):=by
 have O:∀{Q:Prop},(p8 n d h=true->False)->(if p8 n d h=true then [L0 (X9 n h),D5 true] else [L0 [],D5 false])=[L0 [],D5 false]:=fun A=>A6 A;have F:=yI n d h;refine FnOk.intro Tryz.func162 G6 Z Z Z Z (zz 2 ?_);refine B8 (P3 3 Z Z Z) Z ?_;refine zc 19 (fun w=>?_) fun w=>?_
 ·have C:=A0 (or_pick.symm.trans w);refine zz 2 ?_;refine A7 (K7 _ 1 E3) Z (zz 3 ?_);refine A8 (rs:=[L0 [],D5 false]) (S8 Z Z Z Z Z) ?_;rw[A6];intro A;have D:=(F.1 A).1;rcases C with C | C
  ·omega
  ·exact D.2 (List.length_eq_zero_iff.1 B1)
 ·have C:=A1 (or_pick.symm.trans w);simp only[not_or,Decidable.not_not]at C;have G:h.At.length=n+1:=by omega
  have L:h.Rows≠[]:=fun e=>C.2 (by rw[e];rfl);refine K4 [(1,B2 n),(2,C0 Int 1 E3 d),(3,.s (.one (.ref 3 0)))] [(3,.box (NC h).s1.cells)] (Sees.of lf lo) (zz 6 ?_);refine wW (mH h.Rows n V W U) Z Z Z Z ?_;rintro _ _ ⟨rfl,rfl⟩;refine⟨rfl,?_⟩;refine zz 2 ?_;refine zz 9 ?_;refine C5 (X:=Nat) (fun k=>([(2,C0 Int 1 E3 d),(8,.s (.one (.mut 720))),(28,C0 Int 1 E3 h.At),(29,B2 h.At.length),(30,B2 k)],[(720,.arr Int 1 E3 (dS n h k))])) (fun k=>k<=h.At.length/\∀j,j<k->d.getD j 0<=h.At.getD j 0/\h.At.getD j 0<=4096) (fun k=>h.At.length-k) 0 ⟨Nat.zero_le _,fun j S=>by omega⟩ (by rw[RY];exact Sees.of lf lo) ?_;rintro k ⟨T,M⟩;dsimp only at T M ⊢;have g:=XH n h k;refine zc 5 (fun w=>?_) fun w=>?_
  ·have K:k<h.At.length:=by have:=A0 w;omega
   have P:=getI K;have B:=getI (l:=d) (i:=k) B1;have y:=XI n h k B1;have v:=XJ n h k;have J:0<=d.getD k 0:=I _ (C53 B);have H:=DQ h.Rows n k;obtain⟨a,ha⟩:∃a,a=h.At.getD k 0:=⟨_,rfl⟩
   obtain⟨e,z⟩:∃e,e=d.getD k 0:=⟨_,rfl⟩
   obtain⟨q,N⟩:∃q,q=N2 h.Rows n k:=⟨_,rfl⟩
   rw[<-ha]at P v;rw[<-z]at B J;rw[<-N]at y v H;refine zz 6 ?_;refine A7 (A9 Z (.pure _ _ _ _) Z B1 P) Z (zz 10 ?_);refine A7 (A9 Z (.pure _ _ _ _) Z B1 B) Z ?_;refine zc 7 (fun w=>?_) fun w=>?_
   ·have D:=A0 (or_pick.symm.trans w);refine zz 2 ?_;refine A7 (K7 _ 1 E3) Z (zz 3 ?_);refine A8 (rs:=[L0 [],D5 false]) (S8 Z Z Z Z Z) ?_;rw[A6];intro A;have E:=(F.1 A).2 k B1;rw[<-ha,<-z]at E;omega
   ·have D:=A1 (or_pick.symm.trans w);have E:e<=a/\a<=4096:=by omega
    refine zz 4 ?_;refine A7 (E0 Z Z Z B1 (by (rw[g];omega))) Z ?_;refine A7 (M9 Z Z y Z) Z (zz 2 ?_);refine A7 (E0 Z Z Z B1 (by (rw[g];omega))) Z ?_;refine O2 (I1 TySz.out Z Z (by (rw[g];omega)) Z Z) ?_;refine zz 5 ?_;refine⟨k+1,⟨by omega,fun j S=>?_⟩,by omega,?_⟩
    ·by_cases R:j=k
     ·subst R;rw[<-ha,<-z];exact E
     ·exact M j B1
    ·rw[<-v];exact Sees.of lf lo
  ·have hkl:k=n+1:=by have:=A1 w;omega
   subst hkl;rw[RZ];have A:p8 n d h=true:=F.2 ⟨⟨G,L⟩,M⟩;refine E2 (Sees.freeze (k:=720) Z) (zz 8 ?_);exact A8 (rs:=[L0 (X9 n h),D5 true]) (S8 rfl rfl rfl rfl rfl) (by rw[A5 A])
theorem smax_ok(l:List Int)(j:0<l.length):FnOk Tryz.prog 165 [L0 l] (fun v=>∃m,v=[D2 m]/\∀b,m<=b↔∀e∈l,e<=b):=by
 refine FnOk.intro Tryz.func165 G6 Z Z Z Z ?_;refine YG (t:=0) rfl (.pure _ _ _ _) fun hb=>?_;refine zc 11 (fun d=>?_) fun d=>?_
 ·exact absurd (A0 d) B1
 refine zz 4 ?_;refine A7 (A9 Z (.pure _ _ _ _) Z B1 (getI (l:=l) (i:=0) j)) Z (zz 9 ?_);refine C5 (X:=Nat×Int) (fun x=>([(0,C0 Int 1 E3 l),(3,B2 x.2),(4,B2 x.1)],[])) (fun x=>(1<=x.1/\x.1<=l.length)/\∀b,x.2<=b↔∀e∈l.take x.1,e<=b) (fun x=>l.length-x.1) (1,l.getD 0 0) ⟨⟨Nat.le_refl _,j⟩,?_⟩ (Sees.of lf lo) ?_
 ·intro b;have:l.take 1=[l.getD 0 0]:=by
   cases l with
   | nil=>cases j
   | cons x r=>rfl
  dsimp only;rw[this];simp
 rintro⟨k,m⟩ ⟨⟨g,q⟩,f⟩;dsimp only at g q f ⊢;refine zc 8 (fun d=>?_) fun d=>?_
 ·have c:k<l.length:=by have:=A0 d;omega
  have s:=getI c;refine zz 7 ?_;refine A7 (A9 Z (.pure _ _ _ _) Z B1 s) Z (zz 1 ?_);refine A7 (n_max Z Z) Z (zz 7 ?_);refine⟨(k+1,if m<l.getD k 0 then l.getD k 0 else m),⟨⟨by dsimp only;omega,by dsimp only;omega⟩,?_⟩,by dsimp only;omega,Sees.of lf lo⟩;intro b;dsimp only;have e:l.take (k+1)=l.take k++[l.getD k 0]:=by
   rw[C48 c,C33,C29 c];rfl
  have o:=f b;rw[e];constructor
  ·intro h x a;rcases C37.1 a with a | a
   ·exact o.1 B1 x a
   ·simp only[C36,C66,or_false]at a;rw[a];omega
  ·intro h;have w:=o.2 (fun x a=>h x (C37.2 (.inl a)));have y:=h (l.getD k 0) (C37.2 (.inr s6));omega
 ·have hkl:k=l.length:=by have:=A1 d;omega
  subst hkl;rw[C44]at f;refine zz 7 ?_;exact A8 (F7 rfl rfl rfl) ⟨m,rfl,f⟩
theorem B33(c:Comb)(hn:1<=c.Parents/\c.Parents<=32)(hr:∀h∈c.Hunks,K1 h.Rows)(hz:eO c.Hunks<=268435456) :
  FnOk Tryz.prog 89 [N5 c] (fun rs=>rs=[D5 (bG c.Parents.toNat (List.replicate (c.Parents.toNat+1) 0) false 0 c.Hunks)]):=by
 obtain⟨n,hN⟩:∃n,n=c.Parents.toNat:=⟨_,rfl⟩
 have U:c.Parents=(n:Int):=by omega
 rw[<-hN];have e0:(c.Parents+1).toNat=n+1:=by omega
 have ae:=kT c.Hunks;obtain⟨W,hW⟩:∃W,W=bG n (List.replicate (n+1) 0) false 0 c.Hunks:=⟨_,rfl⟩
 rw[<-hW];refine FnOk.intro Tryz.func89 G6 Z Z Z Z (k2 (B7 (B8 (P3 1 Z Z Z) Z (A7 (C1 Z Z) Z (E4 ?_)))));refine k1 (k2 (B7 (B8 (E6 3 Z) Z (E4 ?_))));refine k1 (k2 (B7 (A7 (B5 Z) Z (A7 (C2 Z Z Z) Z (A7 (y8 Z Z B1) Z (B8 (j5 720 Int E3 0 Z Z B1 B1 (fun _=>by first | exact⟨⟨rfl,rfl⟩,trivial⟩ | exact⟨F0 _ _ _,trivial⟩ | exact⟨F0 _ _ _,⟨rfl,rfl⟩,F0 _ _ _,trivial⟩ | exact⟨⟨rfl,rfl⟩,⟨rfl,rfl⟩,trivial⟩) YR) Z ?_))))));refine A7 (C1 Z Z) Z (E4 ?_);rw[e0];refine k1 (k2 (k2 (E2 (Sees.freeze (k:=720) Z) (B7 (A7 (B5 Z) Z (A7 (C2 Z Z Z) Z (A7 (y9 Z (.pure _ _ _ _)) Z (A7 (B3 Z Z) Z (E4 ?_)))))))));refine k1 (k3 (C5 (X:=Nat×List Int×Bool×Int) (fun x=>([(1,.s (.one (.ref 1 0))),(3,.s (.one (.ref 3 0))),(4,C0 Int 1 E3 x.2.1),(15,C0 CHunk 2 M3 c.Hunks),(16,B2 c.Hunks.length),(17,B2 x.1)],[(1,PR c),(3,.box [.p (.v (.bool x.2.2.1)),.p (.v (.int .u32 x.2.2.2))])])) (fun x=>x.1<=c.Hunks.length/\x.2.1.length=n+1/\(∀e∈x.2.1,0<=e)/\W=bG n x.2.1 x.2.2.1 x.2.2.2 (c.Hunks.drop x.1)) (fun x=>c.Hunks.length-x.1) (0,List.replicate (n+1) 0,false,0) ⟨Nat.zero_le _,by simp,fun e he=>by have:=(List.mem_replicate.1 he).2;omega,hW⟩ (Sees.of lf lo) ?_));rintro⟨k,g,F,E⟩ ⟨hk,L,J,w⟩;dsimp only at hk L J w ⊢;refine k2 (B7 (A7 (iD Z Z) Z (E4 ?_)));refine k1 (k2 ?_);refine zc 0 (fun d=>?_) fun d=>?_
 ·have K:k<c.Hunks.length:=by have:=A0 d;omega
  have hv:c.Hunks[k]?=some c.Hunks[k]:=by simp[K]
  have G:=C35 K;have Q:=hr _ G;have S:=uG G;rw[C38 K,bG]at w;obtain⟨h,hx⟩:∃x,x=c.Hunks[k]:=⟨_,rfl⟩
  rw[<-hx]at hv Q S w;have ac:=cH h.Rows;have ad:=rO h.Rows;unfold uF at S;have M:=PS h n g B1 Q B1 L J;rw[<-U]at M;refine k5 (k1 (k2 (k3 (k2 (B7 (A7 (A9 Z (.pure _ _ _ _) Z B1 hv) Z (A7 (aH Z Z) Z (B8 (E6 6 Z) Z (O2 (H0 TySz.out Z Z Z Z Z Z) (E4 ?_))))))))));refine k1 (k2 (B7 (A7 (C1 Z Z) Z (E4 ?_))));refine k1 (k2 (k2 ?_));cases B:p8 n g h with
  | false =>
   rw[B,A6 G6]at M;rw[B,Bool.false_and]at w;refine B7 (A7 (I0 Z Z Z) Z (A7 (B5 Z) Z (A7 (C2 Z Z Z) Z (A7 (B3 Z Z) Z (D3 (M) (A7 (B3 Z Z) Z (A7 (C9 Z Z) Z (A7 (C9 Z Z) Z (A7 (C1 Z Z) Z (A7 (C1 Z Z) Z (E4 ?_)))))))))));refine k1 (k2 (B7 (A7 (B3 Z Z) Z (A7 (S7 Z) Z (E4 ?_)))));refine k1 ?_;refine zc 0 (fun d=>?_) fun d=>?_
   ·refine k2 (B7 (A7 (C1 Z Z) Z (E4 ?_)));refine k1 (yR (cO (sK (cO (cO (sK (cO ?_)))))));exact A8 (F7 rfl rfl rfl) (by rw[w])
   ·cases d
  | true =>
   rw[B,A5 rfl]at M;rw[B,Bool.true_and]at w;have P:∀e∈X9 n h,0<=e:=by
    intro e hm;obtain⟨j,O,rfl⟩:=C54.1 hm;have O:=C40.1 O;have h1:=((yI n g h).1 B).2 j O;have T:=J _ (C53 (getI (l:=g) (i:=j) B1));have h3:=DQ h.Rows n j;omega
   refine B7 (A7 (I0 Z Z Z) Z (A7 (B5 Z) Z (A7 (C2 Z Z Z) Z (A7 (B3 Z Z) Z (D3 (M) (A7 (B3 Z Z) Z (A7 (C9 Z Z) Z (A7 (C9 Z Z) Z (A7 (C1 Z Z) Z (A7 (C1 Z Z) Z (E4 ?_)))))))))));refine k1 (k2 (B7 (A7 (B3 Z Z) Z (A7 (S7 Z) Z (E4 ?_)))));refine k1 ?_;refine zc 0 (fun d=>?_) fun d=>?_
   ·cases d
   refine k5 (k1 (k2 (B7 (A7 (B5 Z) Z (A7 (C2 Z Z Z) Z (A7 (y9 Z (.pure _ _ _ _)) Z (A7 (B3 Z Z) Z (E4 ?_))))))));refine k1 (k3 (C5 (X:=Nat×Bool×Int) (fun x=>([(1,.s (.one (.ref 1 0))),(3,.s (.one (.ref 3 0))),(4,C0 Int 1 E3 (X9 n h)),(15,C0 CHunk 2 M3 c.Hunks),(16,B2 c.Hunks.length),(17,B2 k),(32,C0 Row 3 rowC h.Rows),(33,B2 h.Rows.length),(34,B2 x.1)],[(1,PR c),(3,.box [.p (.v (.bool x.2.1)),.p (.v (.int .u32 x.2.2))])])) (fun x=>x.1<=h.Rows.length/\T7 F E h.Rows=T7 x.2.1 x.2.2 (h.Rows.drop x.1)/\bE F h.Rows=bE x.2.1 (h.Rows.drop x.1)/\bF E h.Rows=bF x.2.2 (h.Rows.drop x.1)) (fun x=>h.Rows.length-x.1) (0,F,E) ⟨Nat.zero_le _,rfl,rfl,rfl⟩ (Sees.of lf lo) ?_));rintro⟨j,A,y⟩ ⟨O,z,H,I⟩;dsimp only at O z H I ⊢;refine k2 (B7 (A7 (iD Z Z) Z (E4 ?_)));refine k1 (k2 ?_);refine zc 0 (fun d=>?_) fun d=>?_
   ·have C:j<h.Rows.length:=by have:=A0 d;omega
    have R:h.Rows[j]?=some h.Rows[j]:=by simp[C]
    have ab:=QM h.Rows _ (C35 C);rw[C38 C]at z H I;rw[T7]at z;obtain⟨r,hy⟩:∃x,x=h.Rows[j]:=⟨_,rfl⟩
    rw[<-hy]at R ab z H I;refine k5 (k1 (k2 (k3 (k2 (B7 (A7 (A9 Z (.pure _ _ _ _) Z B1 R) Z (A7 (aH Z Z) Z (B8 (E6 9 Z) Z (O2 (H0 TySz.out Z Z Z Z Z Z) (E4 ?_))))))))));refine k1 (k2 ?_);by_cases hs:K0 r.Text=true
    ·refine B7 (A7 (I0 Z Z Z) Z (D3 (jO r B1) (A7 (S7 Z) Z (A7 (B3 Z Z) Z (j4 Z Z Z (by rw[hs];rfl) ?_)))));refine A7 (I0 Z Z Z) Z (j4 Z Z Z (by rw[hs];rfl) ?_);refine NY (YO r A y B1) Z Z Z Z Z Z ?_;rintro _ _ ⟨rfl,rfl⟩;refine C3 Z Z Z Z (fun V=>by rw[V];exact S7 Z) ?_;refine A7 (H9 Z (fun h=>by first | rfl | (rw[h];rfl)) (fun h=>by first | rfl | (rw[h];rfl))) Z ?_;refine E4 ?_;refine k1 ?_;refine zc 0 (fun d=>?_) fun d=>?_
     ·have T:addOk A y r=false:=by rw[hs]at d;simpa using d
      rw[hs,T,Bool.true_and,Bool.false_and]at z;rw[z,Bool.false_and]at w;refine k2 (B7 (A7 (C1 Z Z) Z (E4 ?_)));refine k1 (yR (sK (cO (cO (sK (sK (cO (cO (sK (cO ?_))))))))));exact A8 (F7 rfl rfl rfl) (by rw[w])
     ·have T:addOk A y r=true:=by rw[hs]at d;simpa using d
      rw[hs,T,Bool.true_and,Bool.true_and]at z;refine k5 (k4 (k1 (B7 (A7 (y8 Z Z B1) Z (A7 (B3 Z Z) Z (E4 ?_))))));refine k1 ?_;exact⟨(j+1,_,_),⟨by dsimp only;omega,z,H,I⟩,by dsimp only;omega,Sees.of lf lo⟩
    ·have D:K0 r.Text=false:=by simpa using hs
     refine B7 (A7 (I0 Z Z Z) Z (D3 (jO r B1) (A7 (S7 Z) Z (A7 (B3 Z Z) Z (C3 Z Z Z Z (fun V=>by rw[V];exact I0 Z Z Z) ?_)))));refine c9 Z Z Z (by rw[D];decide) Z ?_;refine c9 Z Z Z (by rw[D];decide) Z ?_;refine A7 (H9 (q:=true) Z (fun h=>rfl) (fun h=>by rw[D]at h;cases h)) Z ?_;refine E4 ?_;rw[D,Bool.false_and,Bool.false_and]at z;rw[z,Bool.false_and]at w;refine k1 ?_;refine zc 0 (fun d=>?_) fun d=>?_
     ·refine k2 (B7 (A7 (C1 Z Z) Z (E4 ?_)));refine k1 (yR (sK (cO (cO (sK (sK (cO (cO (sK (cO ?_))))))))));exact A8 (F7 rfl rfl rfl) (by rw[w])
     ·rw[D]at d;cases d
   ·have Y:j=h.Rows.length:=by have:=A1 d;omega
    rw[Y,C51 (Nat.le_refl _)]at z H I;have z:T7 F E h.Rows=true:=z;have H:bE F h.Rows=A:=H;have I:bF E h.Rows=y:=I;rw[z,H,I,Bool.true_and]at w;refine k6 (k7 (k7 (k8 Z (k4 (k1 (B7 (A7 (y8 Z Z B1) Z (A7 (B3 Z Z) Z (E4 ?_)))))))));refine k1 ?_;exact⟨(k+1,_,_,_),⟨by dsimp only;omega,rK n h,P,w⟩,by dsimp only;omega,Sees.of lf lo⟩
 ·have hkl:k=c.Hunks.length:=by have:=A1 d;omega
  rw[hkl,C51 (Nat.le_refl _)]at w;have w:W=decide (∀e∈g,e<=4096):=w;refine k6 (k2 (B7 (A7 (B3 Z Z) Z (x7 (smax_ok g B1) Z Z Z ?_))));rintro _ ⟨m,rfl,hm⟩;refine A7 (n_leq Z Z) Z (A7 (C1 Z Z) Z (E4 ?_));refine k1 (yR ?_);exact A8 (F7 rfl rfl rfl) (by rw[w];simp only[hm 4096])
theorem vK(s:Str):FnOk Tryz.prog 87 [E5 s] (fun rs=>rs=[D5 (i7 s)]):=by
 refine FnOk.intro Tryz.func87 G6 Z Z Z Z (zz 17 ?_);refine A8 (F7 Z Z Z) ?_;rw[and_pick];unfold i7
 congr 4
 apply decide_eq_decide.2;omega
theorem HR(c:Comb)(f:c.Path.length<=16777216):FnOk Tryz.prog 36 [N5 c] (fun d=>d=[E5 (kV c)]):=by
 have g:=DW c.Path;have e:=ZT c.Parents;refine FnOk.intro Tryz.func36 G6 Z Z Z Z (zz 2 ?_);refine B8 (P3 1 Z Z Z) Z ?_;refine zc 12 (fun b=>?_) fun b=>?_
 ·have a:c.Dense=true:=b;skip;refine zz 10 ?_;refine D7 (I4 (iM c.Path B1) Z Z) Z Z (zz 4 ?_);refine D7 (I4 (Z1 c.Parents) Z Z) Z Z (zz 5 ?_);exact A8 (F7 rfl rfl rfl) (by unfold kV uD;rw[A5 a];simp[ccS,parS])
 ·have a:c.Dense=false:=b;refine zz 8 ?_;refine D7 (I4 (iM c.Path B1) Z Z) Z Z (zz 4 ?_);refine D7 (I4 (Z1 c.Parents) Z Z) Z Z (zz 5 ?_);exact A8 (F7 rfl rfl rfl) (by unfold kV uD;rw[a,A6 G6];simp[combS,parS])
theorem b4x{p:Prop}(h:p:=by simp only[C32,C34,C43];omega):p:=h
theorem BU(h:CHunk)(n:Nat)(V:n<=32)(Y:K1 h.Rows)(T:h.Rows.length<=268435456)(ha:h.At.length=n+1)(hb:∀a∈h.At,-4611686018427387904<=a/\a<=4611686018427387904) :
  FnOk Tryz.prog 37 [NC h,D2 n] (fun R=>R=[E5 (p7 n h++[10])]):=by
 have z:FnOk Tryz.prog 93 [E5 [64],D2 ((n:Int)+1)] (fun R=>R=[E5 (atS (n+1))]):=by
  have:=HQ 64 (n+1) B1
  rwa[show ((n+1:Nat):Int)=(n:Int)+1 by omega]at this
 obtain⟨A,M⟩:∃A,A=atS (n+1):=⟨_,rfl⟩
 have S:A.length=n+1:=by rw[M,cT]
 have H:p7 n h++[10]=A++Z5 n h n++([32,43]++J3 (h.At.getD n 0) (N2 h.Rows n n)++[32]++A++[10]):=by
  unfold p7;rw[nG,M];unfold nD eK;rw[A5 rfl];simp
 rw[H];rw[<-M]at z;have O:=fun k=>kU n h k;have y:=fun k=>DQ h.Rows n k;have E:∀k,k<n+1->h.At[k]?=some (h.At.getD k 0):=fun k L=>getI B1;have I:∀k,k<n+1->(F8 h.Rows n)[k]?=some (N2 h.Rows n k):=fun k L=>XG h.Rows n k L;have J:∀k,k<n+1 -> -4611686018427387904<=h.At.getD k 0/\h.At.getD k 0<=4611686018427387904:=fun k L=>hb _ (C53 (E k L));refine FnOk.intro Tryz.func37 G6 Z Z Z Z (zz 2 ?_);refine B8 (P3 2 Z Z Z) Z (zz 7 ?_);refine wW (mH h.Rows n V Y T) Z Z Z Z ?_;rintro _ _ ⟨rfl,rfl⟩;refine⟨rfl,?_⟩;refine zz 2 ?_;refine zz 1 ?_;refine E2 (Sees.freeze (k:=720) Z) (zz 3 ?_);refine D3 (z) (zz 4 ?_);refine B8 (sI 700 Z) Z (zz 2 ?_);refine E2 (C02 701 UInt8 1 rX 5 (kb:=700) (o:=1) Z Z Z) (zz 2 ?_);refine S9 (P4 (xs:=[]) (s:=A) ⟨⟨_,.inl rfl,rfl⟩,rfl⟩ (by simp only[C43];omega)) Z Z Z ?_;rintro _ _ ⟨rfl,rfl⟩;refine zz 8 ?_;refine C5 (X:=Nat) (fun p=>([(1,B2 n),(2,.s (.one (.ref 2 0))),(5,C0 Int 1 E3 (F8 h.Rows n)),(6,H6 A),(7,.s (.one (.ref 700 0))),(18,B2 n),(19,B2 p)],[(2,.box (NC h).s1.cells),(700,.tbx 80 [.ref 700 0,.buf 701 UInt8 1 rX (A++Z5 n h p)]),(701,.spare (A++Z5 n h p).length 1 5)])) (fun p=>p<=n) (fun p=>n-p) 0 (Nat.zero_le _) ?_ ?_
 ·rw[show Z5 n h 0=[] from rfl,C60];exact Sees.of lf lo
 intro p W;dsimp only at W ⊢;have ab:=O p;have d:=nG n h p;refine zc 5 (fun Q=>?_) fun Q=>?_
 ·have U:p<n:=by have:=A0 Q;omega
  have j:=E p B1;have m:=I p B1;have v:=J p B1;have D:=y p;have P:nD n h p=[32,45]++J3 (h.At.getD p 0) (N2 h.Rows n p):=by
   unfold nD eK;rw[A6 B1]
  have w:=mR (h.At.getD p 0) (N2 h.Rows n p);rw[P]at d;obtain⟨a,C⟩:∃a,a=h.At.getD p 0:=⟨_,rfl⟩
  obtain⟨q,G⟩:∃q,q=N2 h.Rows n p:=⟨_,rfl⟩
  rw[<-C]at j v w d;rw[<-G]at m D w d;have F:(A++Z5 n h p).length<=1000:=by rw[C32];omega
  obtain⟨B,K⟩:∃B,B=A++Z5 n h p:=⟨_,rfl⟩
  rw[<-K]at F ⊢;refine zz 8 ?_;refine oY 11 F6 F6 Z (zz 3 ?_);refine D7 (A9 Z (.pure _ _ _ _) Z B1 j) Z Z (zz 3 ?_);refine D7 (A9 Z (.pure _ _ _ _) Z B1 m) Z Z (zz 1 ?_);refine D7 (I4 (vF a q v B1) Z Z) Z Z (zz 2 ?_);refine lR (P4 (xs:=B) (s:=[32,45]++J3 a q) ⟨⟨_,.inr rfl,rfl⟩,rfl⟩ b4x) Z Z Z ?_;rintro _ _ ⟨rfl,rfl⟩;refine⟨_,rfl,?_⟩;refine zz 1 ?_;refine zz 4 ?_;refine⟨p+1,by omega,by omega,?_⟩;have N:A++Z5 n h (p+1)=B++([32,45]++J3 a q):=by rw[d,K,C42]
  rw[N];exact Sees.of lf lo
 ·have hpn:p=n:=by have:=A1 Q;omega
  subst hpn;have j:=E p B1;have m:=I p B1;have v:=J p B1;have D:=y p;have w:=mR (h.At.getD p 0) (N2 h.Rows p p);obtain⟨a,C⟩:∃a,a=h.At.getD p 0:=⟨_,rfl⟩
  obtain⟨q,G⟩:∃q,q=N2 h.Rows p p:=⟨_,rfl⟩
  rw[<-C]at j v w ⊢;rw[<-G]at m D w ⊢;have F:(A++Z5 p h p).length<=1000:=by rw[C32];omega
  obtain⟨B,K⟩:∃B,B=A++Z5 p h p:=⟨_,rfl⟩
  rw[<-K]at F ⊢;refine zz 2 ?_;refine oY 15 F6 F6 Z (zz 3 ?_);refine D7 (A9 Z (.pure _ _ _ _) Z B1 j) Z Z (zz 3 ?_);refine D7 (A9 Z (.pure _ _ _ _) Z B1 m) Z Z (zz 1 ?_);refine D7 (I4 (vF a q v B1) Z Z) Z Z (zz 6 ?_);refine lR (P4 (xs:=B) (s:=[32,43]++J3 a q++[32]++A++[10]) ⟨⟨_,.inr rfl,rfl⟩,rfl⟩ b4x) Z Z Z ?_;rintro _ _ ⟨rfl,rfl⟩;refine⟨_,rfl,?_⟩;refine zz 1 ?_;refine zz 2 ?_;refine nR (k:=700) (k':=701) ⟨_,rfl,rfl,rfl⟩ cR Z Z Z Z Z (.inr Z) Z (zz 3 ?_);exact A8 (F7 rfl rfl rfl) rfl
def tE(r:Row):UInt8:=if r.Lost then 45 else 43
theorem crow_ok(r:Row)(n:Nat)(D:n<=32)(v:0<=r.Marks/\r.Marks<4294967296)(E:r.Text.length<=268435456) :
  FnOk Tryz.prog 38 [pRow r,D2 n] (fun A=>A=[E5 (dX n r).flatten]):=by
 rw[DY];refine FnOk.intro Tryz.func38 G6 Z Z Z Z (zz 2 ?_);refine B8 (P3 2 Z Z Z) Z (zz 6 ?_);refine bV [(1,B2 n),(2,.s (.one (.ref 2 0))),(5,I6 (.int .u8 (tE r).toNat))] [(2,.box (pRow r).s1.cells)] ?_ ?_
 ·refine zc 5 (fun j=>?_) fun j=>?_
  ·have h:r.Lost=true:=j;skip;refine zz 3 ?_;rw[show tE r=45 by unfold tE;rw[h];rfl];exact Sees.of lf lo
  ·have h:r.Lost=false:=j;refine zz 1 ?_;rw[show tE r=43 by unfold tE;rw[h];rfl];exact Sees.of lf lo
 refine zz 8 ?_;refine B8 (A11 730 UInt8 rX Z Z B1 B1 YR) Z (zz 9 ?_);refine C5 (X:=Nat) (fun p=>([(1,B2 n),(2,.s (.one (.ref 2 0))),(5,I6 (.int .u8 (tE r).toNat)),(6,.s (.one (.buf 730 UInt8 1 rX (R8 p r)))),(17,B2 n),(18,B2 p)],[(2,.box (pRow r).s1.cells),(730,.spare (R8 p r).length 1 5)])) (fun p=>p<=n) (fun p=>n-p) 0 (Nat.zero_le _) (Sees.of lf lo) ?_;intro p z;dsimp only at z ⊢;have y:=c8 p r;have d:=SF p r;refine zc 5 (fun j=>?_) fun j=>?_
 ·have w:p<n:=by have:=A0 j;omega
  refine zz 17 ?_;have B:0<=r.Marks / 2 ^ p:=Int.ediv_nonneg v.1 (Int.pow_nonneg G6);have C:r.Marks / 2 ^ p<=r.Marks:=Int.ediv_le_self _ v.1;have m:r.Marks.fdiv (2 ^ (min (p:Int).toNat IntKind.u32.bits))=r.Marks / 2 ^ p:=ZE r.Marks p B1;have q:=QN (r.Marks / 2 ^ p) B1;refine zc 0 (fun j=>?_) fun j=>?_
  ·rw[m,q]at j;have hb:Y4 r.Marks p=true:=by unfold Y4;simpa using j
   have k:gL r p=tE r:=by unfold gL tE;rw[hb,A6 G6]
   rw[k]at d;skip;refine zz 3 ?_;refine A7 (C6 (c:=rX) (ys:=[tE r]) (D1 Z Z Z Z F2) Z Z Z) Z (zz 7 ?_);refine⟨p+1,by omega,by omega,?_⟩;rw[d];exact Sees.of lf lo
  ·rw[m,q]at j;have hb:Y4 r.Marks p=false:=by unfold Y4;simpa using j
   have k:gL r p=32:=by unfold gL;rw[A5 hb]
   rw[k]at d;skip;refine zz 2 ?_;refine A7 (C6 (c:=rX) (ys:=[32]) (D1 Z Z Z Z F2) Z Z Z) Z (zz 7 ?_);refine⟨p+1,by omega,by omega,?_⟩;rw[d];exact Sees.of lf lo
 ·have hpn:p=n:=by have:=A1 j;omega
  subst hpn;refine zz 6 ?_;refine B8 (qF TyStr.out Z Z Z B1 Z) Z (zz 7 ?_);refine D3 (nT r.Text B1) ?_;refine zc 2 (fun j=>?_) fun j=>?_
  ·have h:ended r.Text=false:=by simpa using j
   skip;refine zz 2 ?_;refine B8 (qF TyStr.out Z Z Z b1w Z) Z (zz 5 ?_);refine A7 (aJ TyStr.out Z (.buf _ _ _ _ _)) Z (zz 3 ?_);exact A8 (F7 rfl rfl rfl) (by rw[h,A6 G6];rfl)
  ·have h:ended r.Text=true:=by simpa using j
   refine zz 4 ?_;refine A7 (aJ TyStr.out Z (.buf _ _ _ _ _)) Z (zz 3 ?_);exact A8 (F7 rfl rfl rfl) (by rw[A5 h,C60])
structure CFit (c:Comb):Prop where
 par:0<=c.Parents/\c.Parents<=32
 path:c.Path.length<=4194304
 sz:eO c.Hunks<=268435456
 rows:∀h∈c.Hunks,K1 h.Rows
 ats:∀h∈c.Hunks,h.At.length=c.Parents.toNat+1/\∀a∈h.At,-4611686018427387904<=a/\a<=4611686018427387904
theorem B34(c:Comb)(W:CFit c):FnOk Tryz.prog 90 [N5 c] (fun rs=>rs=[D2 (P6 c).length]):=by
 obtain⟨h1,K,h3,U,S⟩:=W;have af:=kT c.Hunks;have G:markS.length=29:=rfl;obtain⟨n,V⟩:∃n,n=c.Parents.toNat:=⟨_,rfl⟩
 have L:c.Parents=(n:Int):=by omega
 have R:n<=32:=by omega
 have N:=fun k=>ZU c B1 k;have E:=fun k h=>SC c k h;rw[<-V]at S E;refine FnOk.intro Tryz.func90 G6 Z Z Z Z (zz 2 ?_);refine B8 (P3 1 Z Z Z) Z (zz 5 ?_);refine D3 (HR c B1) (zz 12 ?_);refine C5 (X:=Nat) (fun k=>([(1,.s (.one (.ref 1 0))),(3,B2 (SB c k).length),(12,C0 CHunk 2 M3 c.Hunks),(13,B2 c.Hunks.length),(14,B2 k)],[(1,PR c)])) (fun k=>k<=c.Hunks.length) (fun k=>c.Hunks.length-k) 0 (Nat.zero_le _) (by rw[DU];exact Sees.of lf lo) ?_;intro k hk;dsimp only at hk ⊢;have M:=N k;refine zc 5 (fun y=>?_) fun y=>?_
 ·have B:k<c.Hunks.length:=by have:=A0 y;omega
  have T:c.Hunks[k]?=some c.Hunks[k]:=by simp[B]
  have v:=C35 B;have H:=U _ v;have z:=S _ v;have J:=uG v;have w:=E k B;obtain⟨h,hx⟩:∃x,x=c.Hunks[k]:=⟨_,rfl⟩
  rw[<-hx]at T H z J w;have ad:=cH h.Rows;have ae:=rO h.Rows;unfold uF at J;have O:=BU h n R H B1 z.1 z.2;rw[<-L]at O;have ab:=wG R h;obtain⟨a,d⟩:∃a,a=(SB c k).length:=⟨_,rfl⟩
  have D:=congrArg List.length w;rw[C32,IX,C32,<-d]at D;rw[<-d]at M ⊢;obtain⟨i,F⟩:∃i,i=p7 n h++[10]:=⟨_,rfl⟩
  have Y:i.length<=926:=by rw[F,C32];simp only[C34,C43];omega
  rw[<-F]at O D;refine zz 5 ?_;refine A7 (A9 Z (.pure _ _ _ _) Z B1 T) Z (zz 1 ?_);refine B8 (E6 5 Z) Z (zz 8 ?_);refine D3 (O) (zz 12 ?_);refine C5 (X:=Nat) (fun j=>([(1,.s (.one (.ref 1 0))),(3,B2 (a+i.length+(IW n h.Rows j).length:Nat)),(12,C0 CHunk 2 M3 c.Hunks),(13,B2 c.Hunks.length),(14,B2 k),(26,C0 Row 3 rowC h.Rows),(27,B2 h.Rows.length),(28,B2 j)],[(1,PR c)])) (fun j=>j<=h.Rows.length) (fun j=>h.Rows.length-j) 0 (Nat.zero_le _) ?_ ?_
  ·have e:((a+i.length+(IW n h.Rows 0).length:Nat):Int)=(a:Int)+(i.length:Int):=by rw[SD];simp
   rw[e];exact Sees.of lf lo
  intro j hj;dsimp only at hj ⊢;have ac:=ZS R h.Rows j;refine zc 5 (fun y=>?_) fun y=>?_
  ·have q:j<h.Rows.length:=by have:=A0 y;omega
   have I:h.Rows[j]?=some h.Rows[j]:=by simp[q]
   have C:=wF (C35 q);have b:=SE n h.Rows j q;obtain⟨r,hy⟩:∃x,x=h.Rows[j]:=⟨_,rfl⟩
   rw[<-hy]at I C b;have C:r.Text.length+96<=(h.Rows.map P9).sum:=C;have A:=congrArg List.length b;have Q:=c8 n r;rw[C32,DY,C32,C32,Q]at A;refine zz 5 ?_;refine A7 (A9 Z (.pure _ _ _ _) Z B1 I) Z (zz 1 ?_);refine B8 (E6 7 Z) Z (zz 18 ?_);refine D3 (nT r.Text B1) ?_;refine zc 2 (fun y=>?_) fun y=>?_
   ·have K:ended r.Text=false:=by simpa using y
    rw[K,A6 G6,G]at A;have e:((a+i.length+(IW n h.Rows (j+1)).length:Nat):Int)=((a+i.length+(IW n h.Rows j).length:Nat):Int)+(c.Parents+(r.Text.length:Int))+29:=by omega
    skip;refine zz 9 ?_;refine⟨j+1,by omega,by omega,?_⟩;rw[e];exact Sees.of lf lo
   ·have K:ended r.Text=true:=by simpa using y
    rw[A5 K,C43]at A;have e:((a+i.length+(IW n h.Rows (j+1)).length:Nat):Int)=((a+i.length+(IW n h.Rows j).length:Nat):Int)+(c.Parents+(r.Text.length:Int)):=by omega
    refine zz 5 ?_;refine⟨j+1,by omega,by omega,?_⟩;rw[e];exact Sees.of lf lo
  ·have P:j=h.Rows.length:=by have:=A1 y;omega
   subst P;have e:a+i.length+(IW n h.Rows h.Rows.length).length=(SB c (k+1)).length:=by omega
   rw[e];refine zz 5 ?_;exact⟨k+1,by omega,by omega,Sees.of lf lo⟩
 ·have hkl:k=c.Hunks.length:=by have:=A1 y;omega
  subst hkl;rw[DV];refine zz 7 ?_;exact A8 (F7 rfl rfl rfl) rfl
theorem HS{c:Comb}(j:c.Path.length<=4194304)(o:1<=c.Parents/\c.Parents<=32)(m:eO c.Hunks<=268435456)(l:∀h∈c.Hunks,K1 h.Rows)(b:b8 c.Parents.toNat c.Hunks=true):CFit c:=by
 refine⟨by omega,j,m,l,fun h i=>?_⟩;unfold b8 at b;rw[C30]at b;obtain⟨f,a2,a3⟩:=wE c.Hunks _ (fun k d=>by rw[C33,List.getElem?_replicate_of_lt d];exact Int.le_refl _) b.1 h i;refine⟨f,fun a ha=>?_⟩;obtain⟨k,d,rfl⟩:=List.getElem_of_mem ha;have g:=a3 k B1;have n:=DQ h.Rows c.Parents.toNat k;have e:h.At.getD k 0=h.At[k]:=by rw[C33,C29 d];rfl
 rw[e]at g;omega
theorem vL(c:Comb)(g:eO c.Hunks<=268435456)(f:∀h∈c.Hunks,K1 h.Rows):FnOk Tryz.prog 34 [N5 c] (fun rs=>rs=[D2 (J7 c)]):=by
 refine FnOk.intro Tryz.func34 G6 Z Z Z Z (zz 2 ?_);refine B8 (P3 1 Z Z Z) Z (zz 8 ?_);refine D3 (vK c.Path) ?_;refine zc 3 (fun a=>?_) fun a=>?_
 ·have h:i7 c.Path=false:=by simpa using a
  refine zz 5 ?_;exact A8 (F7 rfl rfl rfl) (by unfold J7;rw[A5 h])
 have h:i7 c.Path=true:=by simpa using a
 have l:=A0 h;refine zc 12 (fun a=>?_) fun a=>?_
 ·have j:=A0 (or_pick.symm.trans a);refine zz 5 ?_;exact A8 (F7 rfl rfl rfl) (by unfold J7;rw[A6 (by rw[h];decide),A5 B1])
 have j:=A1 (or_pick.symm.trans a);have e:1<=c.Parents/\c.Parents<=32:=by omega
 refine zz 3 ?_;refine D3 (VL c e f g) ?_;refine zc 3 (fun a=>?_) fun a=>?_
 ·have b:cG c.Parents.toNat c.Hunks=false:=by simpa using a
  refine zz 5 ?_;exact A8 (F7 rfl rfl rfl) (by unfold J7;rw[A6 (by rw[h];decide),A6 B1,A5 b])
 have b:cG c.Parents.toNat c.Hunks=true:=by simpa using a
 have i:=B33 c e f g;rw[RS B1 b]at i;refine zz 3 ?_;refine D3 (i) ?_;refine zc 3 (fun a=>?_) fun a=>?_
 ·have d:b8 c.Parents.toNat c.Hunks=false:=by simpa using a
  refine zz 5 ?_;exact A8 (F7 rfl rfl rfl) (by unfold J7;rw[A6 (by rw[h];decide),A6 B1,A6 (by rw[b];decide),A5 d])
 have d:b8 c.Parents.toNat c.Hunks=true:=by simpa using a
 refine zz 3 ?_;refine D3 (B34 c (HS B1 e g f d)) ?_;refine zc 3 (fun a=>?_) fun a=>?_
 ·have k:=A0 a;refine zz 5 ?_;exact A8 (F7 rfl rfl rfl) (by unfold J7;rw[A6 (by rw[h];decide),A6 B1,A6 (by rw[b];decide),A6 (by rw[d];decide),A5 B1])
 have k:=A1 a;refine zz 6 ?_;exact A8 (F7 rfl rfl rfl) (by unfold J7;rw[A6 (by rw[h];decide),A6 B1,A6 (by rw[b];decide),A6 (by rw[d];decide),A6 B1])
theorem VM{c:Comb}(h:J7 c=0)(e:eO c.Hunks<=268435456)(d:∀h∈c.Hunks,K1 h.Rows):CFit c:=by
 obtain⟨f,g,i,j,a⟩:=kR h;have k:=A0 a;have b:b8 c.Parents.toNat c.Hunks=true:=by
  cases hb:b8 c.Parents.toNat c.Hunks with
  | true=>rfl
  | false =>
   exfalso;unfold J7 at h;rw[hb]at h;rw[A6 (by rw[a];decide),A6 B1]at h;split at h
   ·cases h
   ·cases h
 exact HS B1 B1 e d b
theorem qS(c:Comb)(hz:eO c.Hunks<=268435456)(Y:∀h∈c.Hunks,K1 h.Rows):FnOk Tryz.prog 10 [N5 c] (fun rs=>rs=if J7 c=0 then [E5 (P6 c),D2 0] else [E5 [],D2 (J7 c)]):=by
 by_cases v:J7 c=0;rotate_left
 ·rw[A6 v];refine FnOk.intro Tryz.func10 G6 Z Z Z Z (zz 2 ?_);refine B8 (P3 1 Z Z Z) Z (zz 7 ?_);refine D3 (vL c hz Y) ?_;refine zc 7 (fun y=>?_) fun y=>?_;rotate_left
  ·exact absurd (Decidable.not_not.1 (A1 y)) v
  refine zz 7 ?_;exact A8 (S8 rfl rfl rfl rfl rfl) rfl
 rw[A5 v];have K:=vL c hz Y;rw[v]at K;obtain⟨h1,h2,_,h4,h5⟩:=VM v hz Y;have ai:=kT c.Hunks;obtain⟨n,hN⟩:∃n,n=c.Parents.toNat:=⟨_,rfl⟩
 have J:c.Parents=(n:Int):=by omega
 have Q:n<=32:=by omega
 have M:=fun k=>ZU c B1 k;have L:=fun k h=>SC c k h;rw[<-hN]at h5 L;refine FnOk.intro Tryz.func10 G6 Z Z Z Z (zz 2 ?_);refine B8 (P3 1 Z Z Z) Z (zz 7 ?_);refine D3 (K) ?_;refine zc 7 (fun y=>?_) fun y=>?_
 ·cases y
 refine zz 3 ?_;refine B8 (sI 700 Z) Z (zz 2 ?_);refine E2 (C02 701 UInt8 1 rX 5 (kb:=700) (o:=1) Z Z Z) ?_;have N:=M 0;rw[DU]at N;refine zz 2 ?_;refine D3 (HR c B1) (S9 (P4 (xs:=[]) (s:=kV c) ⟨⟨_,.inl rfl,rfl⟩,rfl⟩ (by simp only[C43];omega)) Z Z Z ?_);rintro _ _ ⟨rfl,rfl⟩;refine zz 10 ?_;refine C5 (X:=Nat) (fun k=>([(1,.s (.one (.ref 1 0))),(5,.s (.one (.ref 700 0))),(19,C0 CHunk 2 M3 c.Hunks),(20,B2 c.Hunks.length),(21,B2 k)],[(1,PR c),(700,.tbx 80 [.ref 700 0,.buf 701 UInt8 1 rX (SB c k)]),(701,.spare (SB c k).length 1 5)])) (fun k=>k<=c.Hunks.length) (fun k=>c.Hunks.length-k) 0 (Nat.zero_le _) (by rw[DU];exact Sees.of lf lo) ?_;intro k hk;dsimp only at hk ⊢;have v:=M k;refine zc 5 (fun y=>?_) fun y=>?_
 ·have G:k<c.Hunks.length:=by have:=A0 y;omega
  have hv:c.Hunks[k]?=some c.Hunks[k]:=by simp[G]
  have B:=C35 G;have I:=h4 _ B;have E:=h5 _ B;have T:=uG B;have q:=L k G;obtain⟨h,hx⟩:∃x,x=c.Hunks[k]:=⟨_,rfl⟩
  rw[<-hx]at hv I E T q;have ag:=cH h.Rows;have ah:=rO h.Rows;unfold uF at T;have V:=BU h n Q I B1 E.1 E.2;rw[<-J]at V;have ad:=wG Q h;obtain⟨d,z⟩:∃d,d=SB c k:=⟨_,rfl⟩
  rw[IX,<-z]at q;rw[<-z]at v ⊢;obtain⟨D,O⟩:∃D,D=p7 n h++[10]:=⟨_,rfl⟩
  have ac:D.length<=926:=by rw[O,C32];simp only[C34,C43];omega
  rw[<-O]at V q;refine zz 5 ?_;refine A7 (A9 Z (.pure _ _ _ _) Z B1 hv) Z (zz 1 ?_);refine B8 (E6 7 Z) Z (zz 7 ?_);refine D3 (V) (S9 (P4 (xs:=d) (s:=D) ⟨⟨_,.inr rfl,rfl⟩,rfl⟩ B1) Z Z Z ?_);rintro _ _ ⟨rfl,rfl⟩;refine zz 9 ?_;refine C5 (X:=Nat) (fun j=>([(1,.s (.one (.ref 1 0))),(5,.s (.one (.ref 700 0))),(19,C0 CHunk 2 M3 c.Hunks),(20,B2 c.Hunks.length),(21,B2 k),(31,C0 Row 3 rowC h.Rows),(32,B2 h.Rows.length),(33,B2 j)],[(1,PR c),(700,.tbx 80 [.ref 700 0,.buf 701 UInt8 1 rX (d++D++IW n h.Rows j)]),(701,.spare (d++D++IW n h.Rows j).length 1 5)])) (fun j=>j<=h.Rows.length) (fun j=>h.Rows.length-j) 0 (Nat.zero_le _) ?_ ?_
  ·rw[SD,C60];exact Sees.of lf lo
  intro j hj;dsimp only at hj ⊢;have ae:=ZS Q h.Rows j;refine zc 5 (fun y=>?_) fun y=>?_
  ·have A:j<h.Rows.length:=by have:=A0 y;omega
   have S:h.Rows[j]?=some h.Rows[j]:=by simp[A]
   have C:=C35 A;have H:=wF C;have P:=I _ C;have w:=SE n h.Rows j A;obtain⟨r,hy⟩:∃x,x=h.Rows[j]:=⟨_,rfl⟩
   rw[<-hy]at S H w P;have af:=IV Q r;have R:=crow_ok r n Q P (by have H:r.Text.length+96<=(h.Rows.map P9).sum:=H;omega);rw[<-J]at R;obtain⟨U,F⟩:∃U,U=d++D++IW n h.Rows j:=⟨_,rfl⟩
   have ab:U.length<=16777216+48+268435456+926+268435456:=by rw[F,C32,C32];omega
   rw[<-F];refine zz 5 ?_;refine A7 (A9 Z (.pure _ _ _ _) Z B1 S) Z (zz 1 ?_);refine B8 (E6 9 Z) Z (zz 6 ?_);refine D3 (R) (S9 (P4 (xs:=U) (s:=(dX n r).flatten) ⟨⟨_,.inr rfl,rfl⟩,rfl⟩ B1) Z Z Z ?_);rintro _ _ ⟨rfl,rfl⟩;refine zz 5 ?_;refine⟨j+1,by omega,by omega,?_⟩;rw[w,<-C42,<-F];exact Sees.of lf lo
  ·have W:j=h.Rows.length:=by have:=A1 y;omega
   subst W;have e:d++D++IW n h.Rows h.Rows.length=SB c (k+1):=by rw[q,C42]
   rw[e];refine zz 5 ?_;exact⟨k+1,by omega,by omega,Sees.of lf lo⟩
 ·have hkl:k=c.Hunks.length:=by have:=A1 y;omega
  subst hkl;rw[DV];refine zz 3 ?_;refine nR (k:=700) (k':=701) ⟨_,rfl,rfl,rfl⟩ cR Z Z Z Z Z (.inr Z) Z (zz 4 ?_);exact A8 (S8 rfl rfl rfl rfl rfl) rfl
def rowR(s:Str)(n:Int):List PV:=match iX s n with
 | some r=>[pRow r,D5 true]
 | none=>[pRow ⟨false,0,[]⟩,D5 false]
theorem nY{s:Str}{n:Int}(h:iX s n=none):rowR s n=[pRow ⟨false,0,[]⟩,D5 false]:=by unfold rowR;rw[h]
theorem HT{s:Str}{n:Int}{r:Row}(h:iX s n=some r):rowR s n=[pRow r,D5 true]:=by unfold rowR;rw[h]
theorem pRow_ok(s:Str)(n:Int):FnOk Tryz.prog 160 [E5 s,D2 n] (fun rs=>rs=rowR s n):=by
 refine FnOk.intro Tryz.func160 G6 Z Z Z Z (zz 2 ?_);refine B8 (E6 4 Z) Z ?_;refine zc 18 (fun d=>?_) fun d=>?_
 ·simp only[or_pick]at d;have h:=A0 d;refine zz 7 ?_;exact A8 (rs:=[pRow ⟨false,0,[]⟩,D5 false]) (S0 rfl rfl rfl rfl rfl rfl rfl) (nY (rowI_no B1)).symm
 simp only[or_pick]at d;have h:=A1 d;obtain⟨N,rfl⟩:∃N:Nat,n=N:=⟨n.toNat,by omega⟩
 have z:1<=N/\N<=32:=by omega
 have F:N<=s.length:=by omega
 refine K4 [(0,H6 s),(1,B2 N),(4,.s (.one (.ref 4 0)))] [(4,.box (pRow ⟨false,0,[]⟩).s1.cells)] (Sees.of lf lo) (zz 13 ?_);refine C5 (X:=Nat) (fun p=>([(0,H6 s),(1,B2 N),(4,.s (.one (.ref 4 0))),(6,I6 (.int .u32 (I3 43 s p:Nat))),(7,I6 (.int .u32 (I3 45 s p:Nat))),(22,B2 N),(23,B2 p)],[(4,.box (pRow ⟨false,0,[]⟩).s1.cells)])) (fun p=>p<=N/\(s.take p).all iW=true) (fun p=>N-p) 0 ⟨Nat.zero_le _,rfl⟩ (Sees.of lf lo) ?_;rintro p ⟨S,Q⟩;dsimp only at S Q ⊢;have I:=zT 43 s p;have J:=zT 45 s p;refine zc 5 (fun d=>?_) fun d=>?_
 ·have K:p<N:=by have:=A0 d;omega
  have v:s[p]?=some s[p]:=by simp
  have j:=IY v 43;have g:=IY v 45;have k:=A90 v;rw[Q,Bool.true_and]at k;have D:=shl_nat p B1;have L:=or_bit I B1;have M:=or_bit J B1;have C:iW s[p]=false->(s.take N).all iW=false:=fun q=>sign_no K v q;obtain⟨c,H⟩:∃c,c=s[p]:=⟨_,rfl⟩
  rw[<-H]at v j g k C;refine zz 12 ?_;refine A7 (J9 Z Z B1 v) Z ?_;refine zc 7 (fun d=>?_) fun d=>?_
  ·have q:c=43:=by simpa only[ke43,decide_eq_true_eq] using d
   rw[A5 q]at j;rw[A6 (by rw[q];decide),Nat.add_zero (I3 45 s p)]at g;skip;refine zz 3 ?_;refine A7 (YD Z Z B1) Z (zz 7 ?_);refine⟨p+1,⟨by omega,by rw[k,q];rfl⟩,by omega,?_⟩;rw[j,g,<-L,<-D];exact Sees.of lf lo
  have A:c≠43:=by simpa only[ke43,decide_eq_false_iff_not] using d
  rw[A6 A,Nat.add_zero (I3 43 s p)]at j;refine zc 5 (fun d=>?_) fun d=>?_
  ·have q:c=45:=by simpa only[ke45,decide_eq_true_eq] using d
   rw[A5 q]at g;skip;refine zz 3 ?_;refine A7 (YD Z Z B1) Z (zz 7 ?_);refine⟨p+1,⟨by omega,by rw[k,q];rfl⟩,by omega,?_⟩;rw[j,g,<-M,<-D];exact Sees.of lf lo
  have B:c≠45:=by simpa only[ke45,decide_eq_false_iff_not] using d
  rw[A6 B,Nat.add_zero (I3 45 s p)]at g;refine zc 5 (fun d=>?_) fun d=>?_
  ·have q:c=32:=by simpa only[ke32,decide_eq_true_eq] using d
   refine zz 5 ?_;refine⟨p+1,⟨by omega,by rw[k,q];rfl⟩,by omega,?_⟩;rw[j,g];exact Sees.of lf lo
  have G:c≠32:=by simpa only[ke32,decide_eq_false_iff_not] using d
  refine zz 7 ?_;exact A8 (rs:=[pRow ⟨false,0,[]⟩,D5 false]) (S0 rfl rfl rfl rfl rfl rfl rfl) (nY (A91 (C (by unfold iW;simp[G,A,B])))).symm
 ·have P:p=N:=by have:=A1 d;omega
  subst P;refine zc 11 (fun d=>?_) fun d=>?_
  ·simp only[and_pick]at d;have R:=A0 d;refine zz 7 ?_;exact A8 (rs:=[pRow ⟨false,0,[]⟩,D5 false]) (S0 rfl rfl rfl rfl rfl rfl rfl) (nY (A92 B1)).symm
  ·simp only[and_pick]at d;have R:=A1 d;have w:¬(I3 43 s p≠0/\I3 45 s p≠0):=by omega
   have O:=bits_or z.2 w;have E:=B68 z F Q w;refine zz 16 ?_;refine A8 (rs:=[pRow ⟨decide ((I3 45 s p:Int)≠0),L1 (I3 43 s p:Nat) (I3 45 s p:Nat),s.drop p⟩,D5 true]) (S0 Z Z Z Z Z Z Z) ?_;rw[HT E,O]
   congr 3
   exact decide_eq_decide.2 B1
theorem YV{n:Nat}{rows:List Row}{sp:List Span}{hs:List CHunk}(p:n<=32)(g:K1 rows)(l:(rows.map P9).sum<=8388608)(h:bJ n rows 0 [] sp=some hs):eO hs<=268435456/\∀x∈hs,K1 x.Rows:=by
 have a:=zV P9 2081 n rows sp 0 [] hs (Int.le_refl _) h s6 s6;have b:=EA g sp 0 [] hs h (fun x c=>by cases c);have o:=cH rows;refine⟨?_,fun x c=>(b x c).2⟩;have d:eO hs=(hs.map fun h=>(2048+h.At.length)+(h.Rows.map P9).sum).sum:=rfl;have k:eO hs<=(hs.map fun h=>2081+(h.Rows.map P9).sum).sum:=by
  rw[d];clear h a d;induction hs with
  | nil=>simp
  | cons x r j =>
   have e:=(b x s6).1;have f:=j fun y i=>b y (by simp[i]);rw[C39,C67,C39,C67];omega
 have e:=a.2;simp only[C43]at e;have f:=a.1;omega
theorem B35{path:Str}{t:Table}{sp:List Span}{d:Bool}(f:K1 t.Rows)(c:(t.Rows.map P9).sum<=8388608):eO (bR path t sp d).1.Hunks<=268435456/\∀x∈(bR path t sp d).1.Hunks,K1 x.Rows:=by
 have a:eO comb0.Hunks<=268435456/\∀x∈comb0.Hunks,K1 x.Rows:=⟨by decide,fun x g=>by cases g⟩
 unfold bR;split
 ·exact a
 ·split
  ·exact a
  ·rename_i b;cases e:bJ t.Parents.toNat t.Rows 0 [] sp with
   | none=>exact a
   | some hs =>
    dsimp only;split
    ·exact a
    ·refine YV ?_ f c e;unfold J2 at b;split at b
     ·exact absurd b G6
     ·omega
theorem PT{t:Table}(h:J2 t=0):1<=t.Parents/\t.Parents<=32:=by
 unfold J2 at h;split at h
 ·cases h
 ·omega
theorem HU{s:Str}{i:Nat}(h:bO (s.drop i)=none):LH s i=[D2 0,D2 0,D2 0,D5 false]:=by unfold LH;rw[h]
theorem HV{s:Str}{i k:Nat}{a n:Int}(h:bO (s.drop i)=some (a,n,k)):LH s i=[D2 a,D2 n,D2 ((i+k:Nat):Int),D5 true]:=by unfold LH;rw[h]
theorem zL(a b:List CHunk):eO (a++b)=eO a+eO b:=by simp[eO]
theorem zM(h:CHunk):eO [h]=uF h:=by simp[eO]
theorem lastC{α:Type}{l:List α}{x:α}(h:l.getLast?=some x):l=l.dropLast++[x]:=by
 obtain⟨b,a⟩:=List.getLast?_eq_some_iff.1 h;rw[a,List.dropLast_concat]
theorem PU{hs:List CHunk}{h:CHunk}(a:hs.getLast?=some h):eO hs=eO hs.dropLast+uF h:=by
 conv=>lhs;rw[lastC a,zL,zM]
theorem A36(t:Str):(mY t).length<=t.length:=by
 unfold mY;split
 ·rw[List.length_dropLast];omega
 ·omega
theorem nZ(h:CHunk):uF h=2048+h.At.length+(h.Rows.map P9).sum:=rfl
def CInv(n:Nat)(hs:List CHunk):Prop:=∀h∈hs,h.At.length=n+1/\K1 h.Rows
theorem CInv.app{n:Nat}{hs:List CHunk}{h:CHunk}(c:CInv n hs)(b:h.At.length=n+1/\K1 h.Rows):CInv n (hs++[h]):=by
 intro x a;rcases C37.1 a with a | a
 ·exact c x a
 ·simp only[C36,C66,or_false]at a;rw[a];exact b
theorem CInv.init{n:Nat}{hs:List CHunk}(a:CInv n hs):CInv n hs.dropLast:=fun x c=>a x ((List.dropLast_sublist _).subset c)
theorem PW{n:Nat}{l:Str}{a:List Int}(h:fJ n l=some a):a.length=n+1/\2*(n+2)<=l.length:=by
 unfold fJ at h;split at h
 ·rename_i d;have i:(uE n).length=n+2:=by simp[uE,cT]
  have hs:(rN n).length=n+2:=by simp[rN,cT]
  have j:=congrArg List.length d.1;rw[C41,i]at j;have f:=d.2;unfold U9 at f;have k:=(A0 f).1;rw[hs,C45]at k;split at h
  ·rename_i b hb;split at h
   ·rename_i c;cases h;exact⟨c,by omega⟩
   ·cases h
  ·cases h
 ·cases h
def fW(l:Str):Nat:=420*(l.length+1)
theorem PX{n:Nat}(B:1<=n/\n<=32){hs d:List CHunk}{l:Str}(h:Y6 n hs l=some d)(j:CInv n hs):eO d<=eO hs+fW l/\CInv n d:=by
 unfold Y6 at h;unfold fW;split at h
 ·cases q:fJ n l with
  | none=>rw[q]at h;cases h
  | some a =>
   rw[q]at h;have h:hs++[⟨a,[]⟩]=d:=Option.some.inj h;obtain⟨y,A⟩:=PW q;rw[<-h];refine⟨?_,j.app ⟨y,fun r k=>by cases k⟩⟩;rw[zL,zM,nZ];dsimp only;rw[y,C77,C91];omega
 ·split at h
  ·cases h
  ·split at h
   ·unfold DP at h;cases f:hs.getLast? with
    | none=>rw[f]at h;cases h
    | some g =>
     rw[f]at h;dsimp only at h;have i:=j g (List.mem_of_getLast? f);cases p:g.Rows.getLast? with
     | none=>rw[p]at h;cases h
     | some r =>
      rw[p]at h;have h:hs.dropLast++[⟨g.At,g.Rows.dropLast++[⟨r.Lost,r.Marks,mY r.Text⟩]⟩]=d:=Option.some.inj h;have C:=A36 r.Text;have w:=lastC p;have o:(g.Rows.map P9).sum=(g.Rows.dropLast.map P9).sum+P9 r:=by
       conv=>lhs;rw[w,C50,C76]
       simp
      rw[<-h];refine⟨?_,j.init.app ⟨i.1,fun x c=>?_⟩⟩
      ·rw[zL,zM,nZ,PU f,nZ,o];simp only[C50,C76,C39,C77,C67,C91,P9];omega
      ·rcases C37.1 c with c | c
       ·exact i.2 x ((List.dropLast_sublist _).subset c)
       ·simp only[C36,C66,or_false]at c;rw[c];exact i.2 r (List.mem_of_getLast? p)
   ·cases k:AL.rowAt (l++[10]) n with
    | none=>rw[k]at h;cases h
    | some r =>
     rw[k]at h;dsimp only at h;unfold NE at h;cases f:hs.getLast? with
     | none=>rw[f]at h;cases h
     | some g =>
      rw[f]at h;have h:hs.dropLast++[⟨g.At,g.Rows++[r]⟩]=d:=Option.some.inj h;have i:=j g (List.mem_of_getLast? f);have v:iX (l++[10]) (n:Int)=some r:=by unfold iX;rw[A6 B1,C31];exact k
      obtain⟨_,z,t2,_⟩:=A93 v;have t3:r.Text.length<=l.length+1:=by rw[z,C45,C32];simp
      rw[<-h];refine⟨?_,j.init.app ⟨i.1,fun x c=>?_⟩⟩
      ·rw[zL,zM,nZ,PU f,nZ];simp only[C50,C76,C39,C77,C67,C91,P9];omega
      ·rcases C37.1 c with c | c
       ·exact i.2 x c
       ·simp only[C36,C66,or_false]at c;rw[c];exact t2
theorem PY{n:Nat}(c:1<=n/\n<=32):∀(d:List Str) (hs a:List CHunk),p9 n hs d=some a->CInv n hs->eO a<=eO hs+(d.map fW).sum/\CInv n a
 | [],hs,a,h,hi=>by cases h;exact⟨by simp,hi⟩
 | x::r,hs,a,h,hi=>by
  rw[p9]at h;cases b:Y6 n hs x with
  | none=>rw[b]at h;cases h
  | some g =>
   rw[b]at h;obtain⟨f,a2⟩:=PX c b hi;obtain⟨i,e⟩:=PY c r g a h a2;refine⟨?_,e⟩;rw[C39,C67];omega
theorem HW{q:Bool}{a b:Str}{d:Bool}{p:Str}{n:Int}(h:bI q a b=some (d,p,n)):1<=n/\n<=32:=by
 unfold bI at h;split at h
 ·cases h
 ·split at h
  ·split at h
   ·split at h
    ·rename_i c;cases h;omega
    ·cases h
   ·cases h
  ·cases h
theorem A37{l:List Str}{c:Comb}(h:r5 l=some c):(1<=c.Parents/\c.Parents<=32)/\eO c.Hunks<=(l.map fW).sum/\CInv c.Parents.toNat c.Hunks:=by
 unfold r5 at h;split at h
 ·rename_i a b r;split at h
  ·rename_i d p n k;have j:=HW k;split at h
   ·rename_i hs i;cases h;obtain⟨f,g⟩:=PY (n:=n.toNat) B1 r [] hs i (fun x o=>by cases o);refine⟨j,?_,g⟩;have e:eO ([]:List CHunk)=0:=rfl;rw[e]at f;simp only[C39,C67];omega
   ·cases h
  ·cases h
 ·cases h
def VN(l:List Str)(i:Nat):Nat:=((l.take i).map fW).sum
theorem A38{l:List Str}{i:Nat}(h:i<l.length):VN l (i+1)=VN l i+fW l[i]:=by
 unfold VN;rw[C48 h,C50,C76];simp only[C39,C77,C67,C91];omega
theorem YW(s:Str)(i:Nat):∃(w:Str) (e:Int) (b:Bool),xB s i=[E5 w,D2 e,D5 b]/\match p5 (s.drop i) with
  | some q=>b=true/\w=q.1/\e=((i+q.2:Nat):Int)
  | none=>b=false:=by
 cases h:p5 (s.drop i) with
 | none=>exact⟨_,_,_,VF h,rfl⟩
 | some q=>obtain⟨w,k⟩:=q;exact⟨_,_,_,VG h,rfl,rfl,rfl⟩
theorem num_ex(s:Str)(i:Nat):∃(n e:Int) (b:Bool),LG s i=[D2 n,D2 e,D5 b]/\match j8 (s.drop i) with
  | some q=>b=true/\n=(q.1:Int)/\e=((i+q.2:Nat):Int)
  | none=>b=false:=by
 cases h:j8 (s.drop i) with
 | none=>exact⟨_,_,_,nX h,rfl⟩
 | some q=>obtain⟨n,k⟩:=q;exact⟨_,_,_,nW h,rfl,rfl,rfl⟩
abbrev X3:Ob:=.box [.p (.v (.string ⟨#[]⟩)),.p (.v (.bool false)),.p (.v (.int .i64 0)),.p (.v (.slice none 0 0))]
theorem cut_ex(s p:Str):∃(c:Str) (b:Bool),FL s p=[E5 c,D5 b]/\((b=true/\s.take p.length=p/\c=s.drop p.length)\/(b=false/\s.take p.length≠p/\c=s)):=by
 unfold FL;by_cases h:s.take p.length=p
 ·rw[A5 h];exact⟨_,_,rfl,.inl ⟨rfl,h,rfl⟩⟩
 ·rw[A6 h];exact⟨_,_,rfl,.inr ⟨rfl,h,rfl⟩⟩
abbrev cpBox(w:Str)(d:Bool)(n:Int):Ob:=.box [.p (.v (.string ⟨w.toArray⟩)),.p (.v (.bool d)),.p (.v (.int .i64 n)),.p (.v (.slice none 0 0))]
theorem PZ{a b c x w:Str}{d j g f:Bool}{e n o:Int}(y:dR a=some (d,x))(v:(j=true/\b.take parS.length=parS/\c=b.drop parS.length)\/(j=false/\b.take parS.length≠parS/\c=b))
  (i:match p5 (x.drop 0) with | some q=>g=true/\w=q.1/\e=((0+q.2:Nat):Int) | none=>g=false)
  (h:match j8 (c.drop 0) with | some q=>f=true/\n=(q.1:Int)/\o=((0+q.2:Nat):Int) | none=>f=false) :
  bI true a b=if j=true/\g=true/\e=x.length/\f=true/\o=c.length/\1<=n/\n<=32 then some (d,w,n) else none:=by
 unfold bI;rw[y];dsimp only;rw[List.drop_zero]at i h;have s:parS.length=8:=rfl;rcases v with ⟨m,k,r⟩ | ⟨m,k,_⟩
 ·rw[s]at k r;rw[A5 k,<-r];cases g1:p5 x with
  | none=>rw[g1]at i;have i:g=false:=i;rw[A6 (by simp[i])]
  | some q =>
   obtain⟨w',z⟩:=q;rw[g1]at i;obtain⟨rfl,rfl,rfl⟩:=i;cases p:j8 c with
   | none=>rw[p]at h;have h:f=false:=h;rw[A6 (by simp[h])]
   | some u =>
    obtain⟨t,k2⟩:=u;rw[p]at h;obtain⟨rfl,rfl,rfl⟩:=h;dsimp only;by_cases l:(true=true->z=x.length/\k2=c.length)/\1<=t/\t<=32
    ·obtain⟨E,u⟩:=l.1 rfl;rw[A5 l,A5 ⟨m,rfl,by omega,rfl,by omega,by omega,by omega⟩]
    ·rw[A6 l,A6];rintro⟨_,_,A,_,B,C,D⟩;exact l ⟨fun _=>⟨by omega,by omega⟩,by omega,by omega⟩
 ·rw[s]at k;rw[A6 k,A6 (by simp[m])]
theorem VO{gf:Fr}(a b:Str)(ha:a.length<=4194304)(hb:b.length<=4194304) :
  AL.Met Tryz.prog 85 [.one (.ref 730 0),.one (.p (.v (.string ⟨a.toArray⟩))),.one (.p (.v (.string ⟨b.toArray⟩)))] gf [(730,X3),(2,X3)] []
   (fun rs ob'=>∃(w:Str) (d:Bool) (n:Int) (ok:Bool),rs=[UU ok]/\ob'=[(730,cpBox w d n),(2,X3)]/\match bI true a b with
    | some (d',p,m)=>ok=true/\d=d'/\w=p/\n=m
    | none=>ok=false):=by
 have j:=aU a ccS;have l:=aU a combS;have F:=aU b parS;unfold FL at j l;obtain⟨c,B,W,G⟩:=cut_ex b parS;rw[W]at F;have V:c.length<=4194304:=by
  rcases G with ⟨_,_,h⟩ | ⟨_,_,h⟩
  ·rw[h,C45];omega
  ·rw[h];exact hb
 have E:=fB c 0 (Nat.zero_le _) B1;obtain⟨n,U,C,S,L⟩:=num_ex c 0;rw[S]at E;by_cases u:a.take ccS.length=ccS
 ·rw[A5 u]at j;have K:dR a=some (true,a.drop ccS.length):=by
   have u:a.take 10=ccS:=u;unfold dR;rw[A5 u];rfl
  obtain⟨x,z⟩:∃x,x=a.drop ccS.length:=⟨_,rfl⟩
  have T:x.length<=4194304:=by rw[z,C45];omega
  rw[<-z]at j K;have y:=xC x 0 (Nat.zero_le _) B1;obtain⟨w,e,A,H,I⟩:=YW x 0;rw[H]at y;have J:=PZ K G I L;refine AL.Met.intro Tryz.func85 G6 Z Z Z (zz 7 ?_);refine D3 (j) ?_;refine zc 12 (fun k=>?_) fun k=>?_
  ·cases k
  refine zz 4 ?_;refine D3 (F) (zz 9 ?_);refine D3 (y) (zz 11 ?_);refine D3 (E) (zz 51 ?_);refine F1 (O3 rfl rfl) cQ (ObIn.spec (ob':=[(730,cpBox w _ n),(2,X3)]) ⟨rfl,rfl,trivial⟩) ⟨w,_,n,_,rfl,rfl,?_⟩;rw[J];by_cases q:B=true/\A=true/\e=x.length/\C=true/\U=c.length/\1<=n/\n<=32
  ·rw[A5 q];obtain⟨g1,M,N,O,P,Q,R⟩:=q;exact⟨by simp[g1,M,N,O,P,Q,R],rfl,rfl,rfl⟩
  ·rw[A6 q];cases B<;>cases A<;>cases C<;>first | rfl | (simp;done) | (simp at q ⊢;exact q) | (simp at q ⊢;intros;omega)
 rw[A6 u]at j;by_cases D:a.take combS.length=combS
 ·rw[A5 D]at l;have K:dR a=some (false,a.drop combS.length):=by
   have u:¬a.take 10=ccS:=u;have D:a.take 16=combS:=D;unfold dR;rw[A6 u,A5 D];rfl
  obtain⟨x,z⟩:∃x,x=a.drop combS.length:=⟨_,rfl⟩
  have T:x.length<=4194304:=by rw[z,C45];omega
  rw[<-z]at l K;have y:=xC x 0 (Nat.zero_le _) B1;obtain⟨w,e,A,H,I⟩:=YW x 0;rw[H]at y;have J:=PZ K G I L;refine AL.Met.intro Tryz.func85 G6 Z Z Z (zz 7 ?_);refine D3 (j) ?_;refine zc 12 (fun k=>?_) fun k=>?_;rotate_left
  ·cases k
  refine zz 7 ?_;refine D3 (l) ?_;refine zc 11 (fun k=>?_) fun k=>?_
  ·cases k
  refine zz 4 ?_;refine D3 (F) (zz 9 ?_);refine D3 (y) (zz 11 ?_);refine D3 (E) (zz 51 ?_);refine F1 (O3 rfl rfl) cQ (ObIn.spec (ob':=[(730,cpBox w _ n),(2,X3)]) ⟨rfl,rfl,trivial⟩) ⟨w,_,n,_,rfl,rfl,?_⟩;rw[J];by_cases q:B=true/\A=true/\e=x.length/\C=true/\U=c.length/\1<=n/\n<=32
  ·rw[A5 q];obtain⟨g1,M,N,O,P,Q,R⟩:=q;exact⟨by simp[g1,M,N,O,P,Q,R],rfl,rfl,rfl⟩
  ·rw[A6 q];cases B<;>cases A<;>cases C<;>first | rfl | (simp;done) | (simp at q ⊢;exact q) | (simp at q ⊢;intros;omega)
 rw[A6 D]at l;have J:bI true a b=none:=by
  have u:¬a.take 10=ccS:=u;have D:¬a.take 16=combS:=D;unfold bI dR;rw[A6 u,A6 D]
 rw[J];refine AL.Met.intro Tryz.func85 G6 Z Z Z (zz 7 ?_);refine D3 (j) ?_;refine zc 12 (fun k=>?_) fun k=>?_;rotate_left
 ·cases k
 refine zz 7 ?_;refine D3 (l) ?_;refine zc 11 (fun k=>?_) fun k=>?_;rotate_left
 ·cases k
 refine zz 5 ?_;exact F1 (O3 rfl rfl) cQ (fun _ _ h=>h) ⟨[],false,0,false,rfl,rfl,rfl⟩
end Go.Proofs.YtgkjogphmmoakaaGreatDoor
